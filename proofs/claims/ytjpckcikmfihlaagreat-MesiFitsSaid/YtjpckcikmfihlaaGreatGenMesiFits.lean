import Derived.Test.YtjpckcikmfihlaaGreatProg
import Derived.KernelRfl
import Derived.Test.YtjpckcikmfihlaaGreatAbsC
/- What the machine comes to on each function, printed by program; each equation is checked by the kernel. -/
set_option linter.all false
set_option linter.deprecated false
namespace Go.Proofs.YtjpckcikmfihlaaGreat.Gen
open Go Go.Proofs.YtjpckcikmfihlaaGreat.Abs
def bellowslaw09_MesiFits_id : FuncId := 5
def bellowsref01_Good_id : FuncId := 11
def bellowslaw09_wakes_id : FuncId := 12
def mesi_New_id : FuncId := 13
def mesi_System_Load_id : FuncId := 16
def mesi_System_Flush_id : FuncId := 18
def bellowslaw09_do_id : FuncId := 20
def mesi_System_Slots_id : FuncId := 21
def mesi_System_Entry_id : FuncId := 22
def bellowslaw09_sameSlots_id : FuncId := 23
def mesi_System_Drop_id : FuncId := 24
def mesi_System_Evict_id : FuncId := 25
def mesi_System_Fail_id : FuncId := 30
def mesi_System_Config_id : FuncId := 32
def bellowslaw09_Plain_id : FuncId := 33
def mesi_System_Store_id : FuncId := 34
def mesi_System_Up_id : FuncId := 35
def mesi_System_Hear_id : FuncId := 36
def mesi_System_Answer_id : FuncId := 37
def word_Good_id : FuncId := 38
def nvm_New_id : FuncId := 39
def nvm_Device_Restore_id : FuncId := 40
def nvm_Device_Fail_id : FuncId := 41
def wpq_New_id : FuncId := 42
def mesi_System_begin_id : FuncId := 43
def mesi_System_at_id : FuncId := 44
def mesi_System_line_id : FuncId := 45
def agent_Agent_Load_id : FuncId := 46
def mesi_node_ask_id : FuncId := 47
def mesi_System_Push_id : FuncId := 48
def mesi_System_Drain_id : FuncId := 49
def msg_Queue_Push_id : FuncId := 50
def mesi_System_Reach_id : FuncId := 52
def agent_Agent_Slots_id : FuncId := 53
def dir_Empty_id : FuncId := 54
def mesi_System_write_id : FuncId := 55
def agent_Agent_Evict_id : FuncId := 56
def wpq_Queue_Fail_id : FuncId := 84
def agent_Agent_Store_id : FuncId := 86
def msg_Queue_Head_id : FuncId := 87
def mesi_System_here_id : FuncId := 88
def dir_Ask_id : FuncId := 89
def msg_Queue_Pop_id : FuncId := 90
def mesi_System_sends_id : FuncId := 91
def agent_Agent_Hear_id : FuncId := 92
def dir_Answer_id : FuncId := 93
def word_between_id : FuncId := 94
def agent_New_id : FuncId := 95
def sync_atomic_Int64_Add_id : FuncId := 96
def agent_is_id : FuncId := 97
def agent_Agent_find_id : FuncId := 98
def array_Array_Touch_id : FuncId := 99
def agent_Agent_ask_id : FuncId := 100
def dir_Ready_id : FuncId := 101
def dir_Pushed_id : FuncId := 102
def wpq_Queue_Drain_id : FuncId := 103
def msg_Good_id : FuncId := 104
def agent_Agent_Reach_id : FuncId := 106
def agent_Agent_Owns_id : FuncId := 107
def array_Array_Slots_id : FuncId := 108
def wpq_Queue_Push_id : FuncId := 109
def agent_Agent_Idle_id : FuncId := 110
def agent_Agent_out_id : FuncId := 111
def nvm_Device_Write_id : FuncId := 131
def array_Array_Set_id : FuncId := 133
def msg_Queue_Len_id : FuncId := 134
def wpq_Queue_Read_id : FuncId := 135
def dir_Good_id : FuncId := 136
def dir_core_id : FuncId := 137
def msg_Asks_id : FuncId := 138
def dir_asks_id : FuncId := 139
def msg_Tells_id : FuncId := 140
def agent_turns_id : FuncId := 141
def array_Array_Drop_id : FuncId := 142
def agent_answer_id : FuncId := 143
def msg_Answers_id : FuncId := 144
def geom_Has_id : FuncId := 145
def geom_Bit_id : FuncId := 146
def dir_move_take_id : FuncId := 147
def dir_move_over_id : FuncId := 148
def dir_move_read_id : FuncId := 149
def dir_move_own_id : FuncId := 150
def array_New_id : FuncId := 151
def sync_atomic_AddInt64_id : FuncId := 152
def array_Array_Find_id : FuncId := 153
def array_Array_at_id : FuncId := 154
def array_Array_number_id : FuncId := 155
def array_Array_set_id : FuncId := 156
def array_Array_Room_id : FuncId := 157
def dir_move_tell_id : FuncId := 158
def slices_IndexFunc_wpq_entry_wpq_entry_id : FuncId := 159
def wpq_Queue_Drain_1_id : FuncId := 160
def msg_may_id : FuncId := 161
def slices_DeleteFunc_array_Slot_array_Slot_id : FuncId := 163
def slices_Clone_array_Slot_array_Slot_id : FuncId := 164
def array_empty_id : FuncId := 165
def nvm_Device_Read_id : FuncId := 166
def slices_ContainsFunc_array_Slot_array_Slot_id : FuncId := 167
def agent_Agent_Idle_1_id : FuncId := 168
def agent_rests_id : FuncId := 169
def nvm_Device_may_id : FuncId := 197
def slices_IndexFunc_array_Slot_array_Slot_id : FuncId := 198
def dir_move_getS_id : FuncId := 200
def dir_move_getM_id : FuncId := 201
def dir_move_put_id : FuncId := 202
def dir_move_clean_id : FuncId := 203
def dir_move_wipe_id : FuncId := 204
def array_Array_at_1_id : FuncId := 205
def geom_Set_id : FuncId := 206
def dir_move_wait_id : FuncId := 213
def dir_move_holders_id : FuncId := 214
def geom_Cores_id : FuncId := 218
def bellowslaw09_MesiFits_j2 (C : CT) (K : Cont) (I_l1 : ECont) (t : Env) (g : G) (n : Nat) : Prop:=
kBin .int .add (t 7) (.int .i64 1) fun v39 =>
I_l1 (puts t [(38,t 7),(39,v39),(7,v39)]) g n
def bellowslaw09_MesiFits_l1 (C : CT) (K : Cont) (I_l1 : ECont) (t : Env) (g : G) (n : Nat) : Prop:=
kLen (t 1) fun v36 =>
kBin .int .lss (t 7) v36 fun v37 =>
kSplit v37 (
kIndexAddr (t 1) (t 7) 5 fun v42 =>
kPtr v42 fun l43 o43 =>
kLdN g l43 o43 5 fun c43 =>
kNew [.int .i64 0,.int .i64 0,.int .i64 0,.int .i64 0,.int .u64 0] .exact g n fun l8 g6 n8 =>
kAgg (.agg c43.toArray) fun cg7 =>
cg7.length = 5 ∧ kStN g6 l8 0 cg7 fun g7 =>
kLd g7 l8 (0 + 1) fun v45 =>
kBin .int .lss v45 (.int .i64 0) fun v46 =>
kSplit v46 (
bellowslaw09_MesiFits_j2 C K I_l1 (puts t [(34,t 7),(35,t 1),(36,v36),(37,v37),(40,t 1),(41,t 7),(42,v42),(43,.agg c43.toArray),(8,ptr l8 0),(44,(ptr l8 (0 + 1))),(45,v45),(46,v46),(47,.bool true),(48,undef),(49,undef),(50,undef),(51,undef),(52,undef),(53,.bool true)]) g7 n8) (
kLd g7 l8 (0 + 1) fun v49 =>
kPtr (t 2) fun l50 o50 =>
kLd g7 l50 (o50 + 0) fun v51 =>
kBin .int .geq v49 v51 fun v52 =>
kSplit v52 (
bellowslaw09_MesiFits_j2 C K I_l1 (puts t [(34,t 7),(35,t 1),(36,v36),(37,v37),(40,t 1),(41,t 7),(42,v42),(43,.agg c43.toArray),(8,ptr l8 0),(44,(ptr l8 (0 + 1))),(45,v45),(46,v46),(47,.bool false),(48,(ptr l8 (0 + 1))),(49,v49),(50,(ptr l50 (o50 + 0))),(51,v51),(52,v52),(53,v52)]) g7 n8) (
kLd g7 l8 (0 + 1) fun v56 =>
C mesi_System_Slots_id [t 5,v56] g7 n8 fun v57 g8 n57 =>
kLdN g8 l8 0 5 fun c60 =>
C bellowslaw09_do_id [t 5,.agg c60.toArray] g8 n57 fun v61 g9 n61 =>
kExtract v61 0 fun v62 =>
kExtract v61 1 fun v63 =>
kExtract v61 2 fun v64 =>
kExtract v61 3 fun v65 =>
kNew [.int .i64 0,.int .i64 0,.bool false,.bool false,.int .u64 0,.int .u64 0,.int .u64 0,.int .u64 0,.int .u64 0,.int .u64 0,.int .u64 0,.int .u64 0] .exact g9 n61 fun l12 g10 n12 =>
kAgg v64 fun cg11 =>
cg11.length = 12 ∧ kStN g10 l12 0 cg11 fun g11 =>
kLd g11 l8 (0 + 0) fun v67 =>
kBin .int .eql v67 (.int .i64 4) fun v69 =>
kSplit v69 (
kBin .int .neq v65 (.int .i64 0) fun v71 =>
kSplit v71 (
kBin .int .neq v65 (.int .i64 14) fun v74 =>
kSplit v74 (
kBin .int .neq v65 (.int .i64 15) fun v78 =>
kSplit v78 (
aRet K (.bool false) g11 n12) (
bellowslaw09_MesiFits_j2 C K I_l1 (puts t [(34,t 7),(35,t 1),(36,v36),(37,v37),(40,t 1),(41,t 7),(42,v42),(43,.agg c43.toArray),(8,ptr l8 0),(44,(ptr l8 (0 + 1))),(45,v45),(46,v46),(47,.bool false),(48,(ptr l8 (0 + 1))),(49,v49),(50,(ptr l50 (o50 + 0))),(51,v51),(52,v52),(53,v52),(54,t 5),(55,(ptr l8 (0 + 1))),(56,v56),(57,v57),(9,v57),(59,t 5),(60,.agg c60.toArray),(61,v61),(58,v61),(62,v62),(63,v63),(64,v64),(65,v65),(12,ptr l12 0),(10,v62),(11,v63),(13,v65),(66,(ptr l8 (0 + 0))),(67,v67),(69,v69),(68,v69),(70,v65),(71,v71),(72,.bool true),(73,v65),(74,v74),(75,v74),(76,.bool true),(77,v65),(78,v78),(79,v78)]) g11 n12)) (
bellowslaw09_MesiFits_j2 C K I_l1 (puts t [(34,t 7),(35,t 1),(36,v36),(37,v37),(40,t 1),(41,t 7),(42,v42),(43,.agg c43.toArray),(8,ptr l8 0),(44,(ptr l8 (0 + 1))),(45,v45),(46,v46),(47,.bool false),(48,(ptr l8 (0 + 1))),(49,v49),(50,(ptr l50 (o50 + 0))),(51,v51),(52,v52),(53,v52),(54,t 5),(55,(ptr l8 (0 + 1))),(56,v56),(57,v57),(9,v57),(59,t 5),(60,.agg c60.toArray),(61,v61),(58,v61),(62,v62),(63,v63),(64,v64),(65,v65),(12,ptr l12 0),(10,v62),(11,v63),(13,v65),(66,(ptr l8 (0 + 0))),(67,v67),(69,v69),(68,v69),(70,v65),(71,v71),(72,.bool true),(73,v65),(74,v74),(75,v74),(76,.bool false),(77,undef),(78,undef),(79,.bool false)]) g11 n12)) (
bellowslaw09_MesiFits_j2 C K I_l1 (puts t [(34,t 7),(35,t 1),(36,v36),(37,v37),(40,t 1),(41,t 7),(42,v42),(43,.agg c43.toArray),(8,ptr l8 0),(44,(ptr l8 (0 + 1))),(45,v45),(46,v46),(47,.bool false),(48,(ptr l8 (0 + 1))),(49,v49),(50,(ptr l50 (o50 + 0))),(51,v51),(52,v52),(53,v52),(54,t 5),(55,(ptr l8 (0 + 1))),(56,v56),(57,v57),(9,v57),(59,t 5),(60,.agg c60.toArray),(61,v61),(58,v61),(62,v62),(63,v63),(64,v64),(65,v65),(12,ptr l12 0),(10,v62),(11,v63),(13,v65),(66,(ptr l8 (0 + 0))),(67,v67),(69,v69),(68,v69),(70,v65),(71,v71),(72,.bool false),(73,undef),(74,undef),(75,.bool false),(76,.bool false),(77,undef),(78,undef),(79,.bool false)]) g11 n12)) (
kBin .int .eql v67 (.int .i64 5) fun v81 =>
kSplit v81 (
kBin .int .neq v65 (.int .i64 0) fun v83 =>
kSplit v83 (
kBin .int .neq v65 (.int .i64 14) fun v86 =>
kSplit v86 (
aRet K (.bool false) g11 n12) (
bellowslaw09_MesiFits_j2 C K I_l1 (puts t [(34,t 7),(35,t 1),(36,v36),(37,v37),(40,t 1),(41,t 7),(42,v42),(43,.agg c43.toArray),(8,ptr l8 0),(44,(ptr l8 (0 + 1))),(45,v45),(46,v46),(47,.bool false),(48,(ptr l8 (0 + 1))),(49,v49),(50,(ptr l50 (o50 + 0))),(51,v51),(52,v52),(53,v52),(54,t 5),(55,(ptr l8 (0 + 1))),(56,v56),(57,v57),(9,v57),(59,t 5),(60,.agg c60.toArray),(61,v61),(58,v61),(62,v62),(63,v63),(64,v64),(65,v65),(12,ptr l12 0),(10,v62),(11,v63),(13,v65),(66,(ptr l8 (0 + 0))),(67,v67),(69,v69),(68,v69),(81,v81),(80,v81),(82,v65),(83,v83),(84,.bool true),(85,v65),(86,v86),(87,v86)]) g11 n12)) (
bellowslaw09_MesiFits_j2 C K I_l1 (puts t [(34,t 7),(35,t 1),(36,v36),(37,v37),(40,t 1),(41,t 7),(42,v42),(43,.agg c43.toArray),(8,ptr l8 0),(44,(ptr l8 (0 + 1))),(45,v45),(46,v46),(47,.bool false),(48,(ptr l8 (0 + 1))),(49,v49),(50,(ptr l50 (o50 + 0))),(51,v51),(52,v52),(53,v52),(54,t 5),(55,(ptr l8 (0 + 1))),(56,v56),(57,v57),(9,v57),(59,t 5),(60,.agg c60.toArray),(61,v61),(58,v61),(62,v62),(63,v63),(64,v64),(65,v65),(12,ptr l12 0),(10,v62),(11,v63),(13,v65),(66,(ptr l8 (0 + 0))),(67,v67),(69,v69),(68,v69),(81,v81),(80,v81),(82,v65),(83,v83),(84,.bool false),(85,undef),(86,undef),(87,.bool false)]) g11 n12)) (
kBin .int .eql v67 (.int .i64 6) fun v89 =>
kSplit v89 (
kBin .int .neq v65 (.int .i64 0) fun v91 =>
kSplit v91 (
kBin .int .neq v65 (.int .i64 14) fun v94 =>
kSplit v94 (
aRet K (.bool false) g11 n12) (
kBin .int .eql v65 (.int .i64 0) fun v97 =>
kSplit v97 (
kLd g11 l12 (0 + 0) fun v100 =>
kBin .int .neq v100 (.int .i64 14) fun v101 =>
kSplit v101 (
kLd g11 l8 (0 + 1) fun v107 =>
C bellowslaw09_sameSlots_id [v57,t 5,v107] g11 n12 fun v108 g12 n108 =>
kSplit v108 (
aRet K (.bool false) g12 n108) (
bellowslaw09_MesiFits_j2 C K I_l1 (puts t [(34,t 7),(35,t 1),(36,v36),(37,v37),(40,t 1),(41,t 7),(42,v42),(43,.agg c43.toArray),(8,ptr l8 0),(44,(ptr l8 (0 + 1))),(45,v45),(46,v46),(47,.bool false),(48,(ptr l8 (0 + 1))),(49,v49),(50,(ptr l50 (o50 + 0))),(51,v51),(52,v52),(53,v52),(54,t 5),(55,(ptr l8 (0 + 1))),(56,v56),(57,v57),(9,v57),(59,t 5),(60,.agg c60.toArray),(61,v61),(58,v61),(62,v62),(63,v63),(64,v64),(65,v65),(12,ptr l12 0),(10,v62),(11,v63),(13,v65),(66,(ptr l8 (0 + 0))),(67,v67),(69,v69),(68,v69),(81,v81),(80,v81),(89,v89),(88,v89),(90,v65),(91,v91),(92,.bool true),(93,v65),(94,v94),(95,v94),(96,v65),(97,v97),(98,.bool true),(99,(ptr l12 (0 + 0))),(100,v100),(101,v101),(102,v101),(103,.bool true),(104,v57),(105,t 5),(106,(ptr l8 (0 + 1))),(107,v107),(108,v108),(109,v108)]) g12 n108)) (
bellowslaw09_MesiFits_j2 C K I_l1 (puts t [(34,t 7),(35,t 1),(36,v36),(37,v37),(40,t 1),(41,t 7),(42,v42),(43,.agg c43.toArray),(8,ptr l8 0),(44,(ptr l8 (0 + 1))),(45,v45),(46,v46),(47,.bool false),(48,(ptr l8 (0 + 1))),(49,v49),(50,(ptr l50 (o50 + 0))),(51,v51),(52,v52),(53,v52),(54,t 5),(55,(ptr l8 (0 + 1))),(56,v56),(57,v57),(9,v57),(59,t 5),(60,.agg c60.toArray),(61,v61),(58,v61),(62,v62),(63,v63),(64,v64),(65,v65),(12,ptr l12 0),(10,v62),(11,v63),(13,v65),(66,(ptr l8 (0 + 0))),(67,v67),(69,v69),(68,v69),(81,v81),(80,v81),(89,v89),(88,v89),(90,v65),(91,v91),(92,.bool true),(93,v65),(94,v94),(95,v94),(96,v65),(97,v97),(98,.bool true),(99,(ptr l12 (0 + 0))),(100,v100),(101,v101),(102,v101),(103,.bool false),(104,undef),(105,undef),(106,undef),(107,undef),(108,undef),(109,.bool false)]) g11 n12)) (
bellowslaw09_MesiFits_j2 C K I_l1 (puts t [(34,t 7),(35,t 1),(36,v36),(37,v37),(40,t 1),(41,t 7),(42,v42),(43,.agg c43.toArray),(8,ptr l8 0),(44,(ptr l8 (0 + 1))),(45,v45),(46,v46),(47,.bool false),(48,(ptr l8 (0 + 1))),(49,v49),(50,(ptr l50 (o50 + 0))),(51,v51),(52,v52),(53,v52),(54,t 5),(55,(ptr l8 (0 + 1))),(56,v56),(57,v57),(9,v57),(59,t 5),(60,.agg c60.toArray),(61,v61),(58,v61),(62,v62),(63,v63),(64,v64),(65,v65),(12,ptr l12 0),(10,v62),(11,v63),(13,v65),(66,(ptr l8 (0 + 0))),(67,v67),(69,v69),(68,v69),(81,v81),(80,v81),(89,v89),(88,v89),(90,v65),(91,v91),(92,.bool true),(93,v65),(94,v94),(95,v94),(96,v65),(97,v97),(98,.bool false),(99,undef),(100,undef),(101,undef),(102,.bool false),(103,.bool false),(104,undef),(105,undef),(106,undef),(107,undef),(108,undef),(109,.bool false)]) g11 n12))) (
kBin .int .eql v65 (.int .i64 0) fun v97 =>
kSplit v97 (
kLd g11 l12 (0 + 0) fun v100 =>
kBin .int .neq v100 (.int .i64 14) fun v101 =>
kSplit v101 (
kLd g11 l8 (0 + 1) fun v107 =>
C bellowslaw09_sameSlots_id [v57,t 5,v107] g11 n12 fun v108 g13 n108 =>
kSplit v108 (
aRet K (.bool false) g13 n108) (
bellowslaw09_MesiFits_j2 C K I_l1 (puts t [(34,t 7),(35,t 1),(36,v36),(37,v37),(40,t 1),(41,t 7),(42,v42),(43,.agg c43.toArray),(8,ptr l8 0),(44,(ptr l8 (0 + 1))),(45,v45),(46,v46),(47,.bool false),(48,(ptr l8 (0 + 1))),(49,v49),(50,(ptr l50 (o50 + 0))),(51,v51),(52,v52),(53,v52),(54,t 5),(55,(ptr l8 (0 + 1))),(56,v56),(57,v57),(9,v57),(59,t 5),(60,.agg c60.toArray),(61,v61),(58,v61),(62,v62),(63,v63),(64,v64),(65,v65),(12,ptr l12 0),(10,v62),(11,v63),(13,v65),(66,(ptr l8 (0 + 0))),(67,v67),(69,v69),(68,v69),(81,v81),(80,v81),(89,v89),(88,v89),(90,v65),(91,v91),(92,.bool false),(93,undef),(94,undef),(95,.bool false),(96,v65),(97,v97),(98,.bool true),(99,(ptr l12 (0 + 0))),(100,v100),(101,v101),(102,v101),(103,.bool true),(104,v57),(105,t 5),(106,(ptr l8 (0 + 1))),(107,v107),(108,v108),(109,v108)]) g13 n108)) (
bellowslaw09_MesiFits_j2 C K I_l1 (puts t [(34,t 7),(35,t 1),(36,v36),(37,v37),(40,t 1),(41,t 7),(42,v42),(43,.agg c43.toArray),(8,ptr l8 0),(44,(ptr l8 (0 + 1))),(45,v45),(46,v46),(47,.bool false),(48,(ptr l8 (0 + 1))),(49,v49),(50,(ptr l50 (o50 + 0))),(51,v51),(52,v52),(53,v52),(54,t 5),(55,(ptr l8 (0 + 1))),(56,v56),(57,v57),(9,v57),(59,t 5),(60,.agg c60.toArray),(61,v61),(58,v61),(62,v62),(63,v63),(64,v64),(65,v65),(12,ptr l12 0),(10,v62),(11,v63),(13,v65),(66,(ptr l8 (0 + 0))),(67,v67),(69,v69),(68,v69),(81,v81),(80,v81),(89,v89),(88,v89),(90,v65),(91,v91),(92,.bool false),(93,undef),(94,undef),(95,.bool false),(96,v65),(97,v97),(98,.bool true),(99,(ptr l12 (0 + 0))),(100,v100),(101,v101),(102,v101),(103,.bool false),(104,undef),(105,undef),(106,undef),(107,undef),(108,undef),(109,.bool false)]) g11 n12)) (
bellowslaw09_MesiFits_j2 C K I_l1 (puts t [(34,t 7),(35,t 1),(36,v36),(37,v37),(40,t 1),(41,t 7),(42,v42),(43,.agg c43.toArray),(8,ptr l8 0),(44,(ptr l8 (0 + 1))),(45,v45),(46,v46),(47,.bool false),(48,(ptr l8 (0 + 1))),(49,v49),(50,(ptr l50 (o50 + 0))),(51,v51),(52,v52),(53,v52),(54,t 5),(55,(ptr l8 (0 + 1))),(56,v56),(57,v57),(9,v57),(59,t 5),(60,.agg c60.toArray),(61,v61),(58,v61),(62,v62),(63,v63),(64,v64),(65,v65),(12,ptr l12 0),(10,v62),(11,v63),(13,v65),(66,(ptr l8 (0 + 0))),(67,v67),(69,v69),(68,v69),(81,v81),(80,v81),(89,v89),(88,v89),(90,v65),(91,v91),(92,.bool false),(93,undef),(94,undef),(95,.bool false),(96,v65),(97,v97),(98,.bool false),(99,undef),(100,undef),(101,undef),(102,.bool false),(103,.bool false),(104,undef),(105,undef),(106,undef),(107,undef),(108,undef),(109,.bool false)]) g11 n12))) (
bellowslaw09_MesiFits_j2 C K I_l1 (puts t [(34,t 7),(35,t 1),(36,v36),(37,v37),(40,t 1),(41,t 7),(42,v42),(43,.agg c43.toArray),(8,ptr l8 0),(44,(ptr l8 (0 + 1))),(45,v45),(46,v46),(47,.bool false),(48,(ptr l8 (0 + 1))),(49,v49),(50,(ptr l50 (o50 + 0))),(51,v51),(52,v52),(53,v52),(54,t 5),(55,(ptr l8 (0 + 1))),(56,v56),(57,v57),(9,v57),(59,t 5),(60,.agg c60.toArray),(61,v61),(58,v61),(62,v62),(63,v63),(64,v64),(65,v65),(12,ptr l12 0),(10,v62),(11,v63),(13,v65),(66,(ptr l8 (0 + 0))),(67,v67),(69,v69),(68,v69),(81,v81),(80,v81),(89,v89),(88,v89)]) g11 n12)))))) (
C bellowslaw09_wakes_id [] g n fun v110 g14 n110 =>
aRet K v110 g14 n110)
def bellowslaw09_MesiFits (C : CT) (a0 a1 : Value) (g : G) (n : Nat) (K : Cont) : Prop:=
kAgg a0 fun c2 =>
kNew c2 .exact g n fun l2 g1 n2 =>
kLen a1 fun v15 =>
kBin .int .gtr v15 (.int .i64 400) fun v16 =>
kSplit v16 (
C bellowslaw09_wakes_id [] g1 n2 fun v22 g2 n22 =>
aRet K v22 g2 n22) (
kLdN g1 l2 0 7 fun c18 =>
C bellowsref01_Good_id [.agg c18.toArray] g1 n2 fun v19 g3 n19 =>
kUn .not v19 fun v20 =>
kSplit v20 (
C bellowslaw09_wakes_id [] g3 n19 fun v22 g4 n22 =>
aRet K v22 g4 n22) (
kLdN g3 l2 0 7 fun c24 =>
C mesi_New_id [.agg c24.toArray,.slice none 0 0] g3 n19 fun v25 g5 n25 =>
kExtract v25 0 fun v26 =>
kExtract v25 1 fun v27 =>
kBin .int .neq v27 (.int .i64 0) fun v29 =>
kSplit v29 (
aRet K (.bool false) g5 n25) (
kBin .ptr .eql v26 (.pointer none) fun v32 =>
kSplit v32 (
aRet K (.bool false) g5 n25) (
lfp (bellowslaw09_MesiFits_l1 C K) (puts (args0 [a0,a1]) [(2,ptr l2 0),(4,.bool false),(14,a1),(15,v15),(16,v16),(17,.bool false),(18,.agg c18.toArray),(19,v19),(20,v20),(21,v20),(24,.agg c24.toArray),(25,v25),(23,v25),(26,v26),(27,v27),(5,v26),(6,v27),(28,v27),(29,v29),(30,.bool false),(31,v26),(32,v32),(33,v32),(7,.int .i64 0)]) g5 n25))))
theorem bellowslaw09_MesiFits_eq (C : CT) (a0 a1 : Value) (g : G) (n : Nat) (K : Cont) : bellowslaw09_MesiFits C a0 a1 g n K = abody Tryz.prog C bellowslaw09_MesiFits_id [a0,a1] g n K := by kernel_rfl
def bellowsref01_Good (C : CT) (a0 : Value) (g : G) (n : Nat) (K : Cont) : Prop:=
kAgg a0 fun c1 =>
kNew c1 .exact g n fun l1 g1 n1 =>
kLd g1 l1 (0 + 0) fun v4 =>
kBin .int .geq v4 (.int .i64 1) fun v5 =>
kSplit v5 (
kLd g1 l1 (0 + 0) fun v8 =>
kBin .int .leq v8 (.int .i64 8) fun v9 =>
kSplit v9 (
kLd g1 l1 (0 + 1) fun v13 =>
kBin .int .geq v13 (.int .i64 2) fun v14 =>
kSplit v14 (
kLd g1 l1 (0 + 1) fun v18 =>
kBin .int .leq v18 (.int .i64 64) fun v19 =>
kSplit v19 (
kLd g1 l1 (0 + 2) fun v23 =>
kBin .int .geq v23 (.int .i64 1) fun v24 =>
kSplit v24 (
kLd g1 l1 (0 + 2) fun v28 =>
kLd g1 l1 (0 + 1) fun v30 =>
kBin .int .lss v28 v30 fun v31 =>
kSplit v31 (
kLd g1 l1 (0 + 3) fun v35 =>
kBin .int .eql v35 (.int .i64 1) fun v36 =>
kSplit v36 (
kLd g1 l1 (0 + 4) fun v55 =>
kBin .int .geq v55 (.int .i64 1) fun v56 =>
kSplit v56 (
kLd g1 l1 (0 + 4) fun v60 =>
kBin .int .leq v60 (.int .i64 8) fun v61 =>
kSplit v61 (
kLd g1 l1 (0 + 5) fun v65 =>
kBin .int .geq v65 (.int .i64 1) fun v66 =>
kSplit v66 (
kLd g1 l1 (0 + 5) fun v70 =>
kBin .int .leq v70 (.int .i64 16) fun v71 =>
kSplit v71 (
kLd g1 l1 (0 + 6) fun v75 =>
kBin .int .geq v75 (.int .i64 1) fun v76 =>
kSplit v76 (
kLd g1 l1 (0 + 6) fun v80 =>
kBin .int .leq v80 (.int .i64 16) fun v81 =>
aRet K v81 g1 n1) (
aRet K (.bool false) g1 n1)) (
aRet K (.bool false) g1 n1)) (
aRet K (.bool false) g1 n1)) (
aRet K (.bool false) g1 n1)) (
aRet K (.bool false) g1 n1)) (
kLd g1 l1 (0 + 3) fun v39 =>
kBin .int .eql v39 (.int .i64 2) fun v40 =>
kSplit v40 (
kLd g1 l1 (0 + 4) fun v55 =>
kBin .int .geq v55 (.int .i64 1) fun v56 =>
kSplit v56 (
kLd g1 l1 (0 + 4) fun v60 =>
kBin .int .leq v60 (.int .i64 8) fun v61 =>
kSplit v61 (
kLd g1 l1 (0 + 5) fun v65 =>
kBin .int .geq v65 (.int .i64 1) fun v66 =>
kSplit v66 (
kLd g1 l1 (0 + 5) fun v70 =>
kBin .int .leq v70 (.int .i64 16) fun v71 =>
kSplit v71 (
kLd g1 l1 (0 + 6) fun v75 =>
kBin .int .geq v75 (.int .i64 1) fun v76 =>
kSplit v76 (
kLd g1 l1 (0 + 6) fun v80 =>
kBin .int .leq v80 (.int .i64 16) fun v81 =>
aRet K v81 g1 n1) (
aRet K (.bool false) g1 n1)) (
aRet K (.bool false) g1 n1)) (
aRet K (.bool false) g1 n1)) (
aRet K (.bool false) g1 n1)) (
aRet K (.bool false) g1 n1)) (
kLd g1 l1 (0 + 3) fun v44 =>
kBin .int .eql v44 (.int .i64 4) fun v45 =>
kSplit v45 (
kLd g1 l1 (0 + 4) fun v55 =>
kBin .int .geq v55 (.int .i64 1) fun v56 =>
kSplit v56 (
kLd g1 l1 (0 + 4) fun v60 =>
kBin .int .leq v60 (.int .i64 8) fun v61 =>
kSplit v61 (
kLd g1 l1 (0 + 5) fun v65 =>
kBin .int .geq v65 (.int .i64 1) fun v66 =>
kSplit v66 (
kLd g1 l1 (0 + 5) fun v70 =>
kBin .int .leq v70 (.int .i64 16) fun v71 =>
kSplit v71 (
kLd g1 l1 (0 + 6) fun v75 =>
kBin .int .geq v75 (.int .i64 1) fun v76 =>
kSplit v76 (
kLd g1 l1 (0 + 6) fun v80 =>
kBin .int .leq v80 (.int .i64 16) fun v81 =>
aRet K v81 g1 n1) (
aRet K (.bool false) g1 n1)) (
aRet K (.bool false) g1 n1)) (
aRet K (.bool false) g1 n1)) (
aRet K (.bool false) g1 n1)) (
aRet K (.bool false) g1 n1)) (
kLd g1 l1 (0 + 3) fun v49 =>
kBin .int .eql v49 (.int .i64 8) fun v50 =>
kSplit v50 (
kLd g1 l1 (0 + 4) fun v55 =>
kBin .int .geq v55 (.int .i64 1) fun v56 =>
kSplit v56 (
kLd g1 l1 (0 + 4) fun v60 =>
kBin .int .leq v60 (.int .i64 8) fun v61 =>
kSplit v61 (
kLd g1 l1 (0 + 5) fun v65 =>
kBin .int .geq v65 (.int .i64 1) fun v66 =>
kSplit v66 (
kLd g1 l1 (0 + 5) fun v70 =>
kBin .int .leq v70 (.int .i64 16) fun v71 =>
kSplit v71 (
kLd g1 l1 (0 + 6) fun v75 =>
kBin .int .geq v75 (.int .i64 1) fun v76 =>
kSplit v76 (
kLd g1 l1 (0 + 6) fun v80 =>
kBin .int .leq v80 (.int .i64 16) fun v81 =>
aRet K v81 g1 n1) (
aRet K (.bool false) g1 n1)) (
aRet K (.bool false) g1 n1)) (
aRet K (.bool false) g1 n1)) (
aRet K (.bool false) g1 n1)) (
aRet K (.bool false) g1 n1)) (
aRet K (.bool false) g1 n1))))) (
aRet K (.bool false) g1 n1)) (
aRet K (.bool false) g1 n1)) (
aRet K (.bool false) g1 n1)) (
aRet K (.bool false) g1 n1)) (
aRet K (.bool false) g1 n1)) (
aRet K (.bool false) g1 n1)
theorem bellowsref01_Good_eq (C : CT) (a0 : Value) (g : G) (n : Nat) (K : Cont) : bellowsref01_Good C a0 g n K = abody Tryz.prog C bellowsref01_Good_id [a0] g n K := by kernel_rfl
def bellowslaw09_wakes (C : CT) (g : G) (n : Nat) (K : Cont) : Prop:=
C bellowslaw09_Plain_id [] g n fun v8 g1 n8 =>
C mesi_New_id [v8,.slice none 0 0] g1 n8 fun v9 g2 n9 =>
kExtract v9 0 fun v10 =>
kExtract v9 1 fun v11 =>
kBin .int .neq v11 (.int .i64 0) fun v13 =>
kSplit v13 (
aRet K (.bool false) g2 n9) (
kBin .ptr .eql v10 (.pointer none) fun v16 =>
kSplit v16 (
aRet K (.bool false) g2 n9) (
C mesi_System_Store_id [v10,.int .i64 0,.int .i64 3,.int .i64 1,.int .u64 7] g2 n9 fun v20 g3 n20 =>
kSplit v20 (
aRet K (.bool false) g3 n20) (
C mesi_System_Up_id [v10,.int .i64 0] g3 n20 fun v24 g4 n24 =>
kBin .int .neq v24 (.int .i64 0) fun v25 =>
kSplit v25 (
aRet K (.bool false) g4 n24) (
C mesi_System_Hear_id [v10,.int .i64 0] g4 n24 fun v29 g5 n29 =>
kExtract v29 0 fun v30 =>
kExtract v29 1 fun v31 =>
kNew [.int .i64 0,.int .i64 0,.bool false,.bool false,.int .u64 0,.int .u64 0,.int .u64 0,.int .u64 0,.int .u64 0,.int .u64 0,.int .u64 0,.int .u64 0] .exact g5 n29 fun l3 g6 n3 =>
kAgg v30 fun cg7 =>
cg7.length = 12 ∧ kStN g6 l3 0 cg7 fun g7 =>
kBin .int .neq v31 (.int .i64 0) fun v33 =>
kSplit v33 (
aRet K (.bool false) g7 n3) (
kLd g7 l3 (0 + 0) fun v36 =>
kBin .int .neq v36 (.int .i64 10) fun v37 =>
kSplit v37 (
aRet K (.bool false) g7 n3) (
C mesi_System_Store_id [v10,.int .i64 0,.int .i64 3,.int .i64 1,.int .u64 7] g7 n3 fun v41 g8 n41 =>
kUn .not v41 fun v42 =>
kSplit v42 (
aRet K (.bool false) g8 n41) (
C mesi_System_Load_id [v10,.int .i64 1,.int .i64 3,.int .i64 1] g8 n41 fun v45 g9 n45 =>
C mesi_System_Up_id [v10,.int .i64 1] g9 n45 fun v47 g10 n47 =>
C mesi_System_Hear_id [v10,.int .i64 0] g10 n47 fun v49 g11 n49 =>
C mesi_System_Answer_id [v10,.int .i64 0] g11 n49 fun v51 g12 n51 =>
C mesi_System_Hear_id [v10,.int .i64 1] g12 n51 fun v53 g13 n53 =>
C mesi_System_Load_id [v10,.int .i64 1,.int .i64 3,.int .i64 1] g13 n53 fun v56 g14 n56 =>
kExtract v56 0 fun v57 =>
kExtract v56 1 fun v58 =>
kSplit v58 (
kBin .int .eql v57 (.int .u64 7) fun v62 =>
kSplit v62 (
C mesi_System_Entry_id [v10,.int .i64 3] g14 n56 fun v66 g15 n66 =>
kAgg v66 fun c67 =>
kPart c67 11 none fun v67 =>
kBin .int .eql v67 (.int .u8 3) fun v68 =>
kSplit v68 (
C mesi_System_Slots_id [v10,.int .i64 0] g15 n66 fun v72 g16 n72 =>
kLen v72 fun v73 =>
kBin .int .eql v73 (.int .i64 1) fun v74 =>
kSplit v74 (
C mesi_System_Config_id [v10] g16 n72 fun v78 g17 n78 =>
kAgg v78 fun c79 =>
kPart c79 0 none fun v79 =>
kBin .int .eql v79 (.int .i64 2) fun v80 =>
aRet K v80 g17 n78) (
aRet K (.bool false) g16 n72)) (
aRet K (.bool false) g15 n66)) (
aRet K (.bool false) g14 n56)) (
aRet K (.bool false) g14 n56))))))))
theorem bellowslaw09_wakes_eq (C : CT) (g : G) (n : Nat) (K : Cont) : bellowslaw09_wakes C g n K = abody Tryz.prog C bellowslaw09_wakes_id [] g n K := by kernel_rfl
def mesi_New_j1 (C : CT) (K : Cont) (t : Env) (g : G) (n : Nat) : Prop:=
kPtr (t 2) fun l46 o46 =>
kLd g l46 (o46 + 5) fun v47 =>
C wpq_New_id [t 6,v47] g n fun v48 g6 n48 =>
kExtract v48 0 fun v49 =>
kExtract v48 1 fun v50 =>
kBin .int .neq v50 (.int .i64 0) fun v52 =>
kSplit v52 (
aRet K (.tuple #[.pointer none,v50]) g6 n48) (
kPtr (t 2) fun l54 o54 =>
kLdN g6 l54 o54 7 fun c54 =>
kFill [.int .i64 0,.int .i64 0,.int .i64 0,.int .i64 0,.int .i64 0,.int .i64 0,.int .i64 0,.slice none 0 0,.slice none 0 0,.pointer none,.int .i64 0] [(0,some 7,.agg c54.toArray),(9,none,v49)] fun c56 =>
kAgg (.agg c56.toArray) fun c57 =>
kNew c57 .exact g6 n48 fun l57 g7 n57 =>
C mesi_System_begin_id [ptr l57 0] g7 n57 fun v59 g8 n59 =>
aRet K (.tuple #[ptr l57 0,.int .i64 0]) g8 n59)
def mesi_New (C : CT) (a0 a1 : Value) (g : G) (n : Nat) (K : Cont) : Prop:=
kAgg a0 fun c2 =>
kNew c2 .exact g n fun l2 g1 n2 =>
kLdN g1 l2 0 7 fun c10 =>
C word_Good_id [.agg c10.toArray] g1 n2 fun v11 g2 n11 =>
kUn .not v11 fun v12 =>
kSplit v12 (
aRet K (.tuple #[.pointer none,.int .i64 1]) g2 n11) (
kLen a1 fun v15 =>
kBin .int .neq v15 (.int .i64 0) fun v16 =>
kSplit v16 (
kLen a1 fun v19 =>
kLd g2 l2 (0 + 1) fun v21 =>
kBin .int .neq v19 v21 fun v22 =>
kSplit v22 (
aRet K (.tuple #[.pointer none,.int .i64 1]) g2 n11) (
kLd g2 l2 (0 + 1) fun v27 =>
kLd g2 l2 (0 + 2) fun v29 =>
C nvm_New_id [v27,v29] g2 n11 fun v30 g3 n30 =>
kExtract v30 0 fun v31 =>
kExtract v30 1 fun v32 =>
kBin .int .neq v32 (.int .i64 0) fun v34 =>
kSplit v34 (
aRet K (.tuple #[.pointer none,v32]) g3 n30) (
kLen a1 fun v37 =>
kBin .int .gtr v37 (.int .i64 0) fun v38 =>
kSplit v38 (
C nvm_Device_Restore_id [v31,a1] g3 n30 fun v41 g4 n41 =>
C nvm_Device_Fail_id [v31] g4 n41 fun v43 g5 n43 =>
mesi_New_j1 C K (puts (args0 [a0,a1]) [(2,ptr l2 0),(4,.pointer none),(5,.int .i64 0),(10,.agg c10.toArray),(11,v11),(12,v12),(13,.bool false),(14,a1),(15,v15),(16,v16),(17,.bool true),(18,a1),(19,v19),(20,(ptr l2 (0 + 1))),(21,v21),(22,v22),(23,v22),(24,v22),(26,(ptr l2 (0 + 1))),(27,v27),(28,(ptr l2 (0 + 2))),(29,v29),(30,v30),(25,v30),(31,v31),(32,v32),(6,v31),(7,v32),(33,v32),(34,v34),(36,a1),(37,v37),(38,v38),(39,v31),(40,a1),(41,v41),(42,v31),(43,v43)]) g5 n43) (
mesi_New_j1 C K (puts (args0 [a0,a1]) [(2,ptr l2 0),(4,.pointer none),(5,.int .i64 0),(10,.agg c10.toArray),(11,v11),(12,v12),(13,.bool false),(14,a1),(15,v15),(16,v16),(17,.bool true),(18,a1),(19,v19),(20,(ptr l2 (0 + 1))),(21,v21),(22,v22),(23,v22),(24,v22),(26,(ptr l2 (0 + 1))),(27,v27),(28,(ptr l2 (0 + 2))),(29,v29),(30,v30),(25,v30),(31,v31),(32,v32),(6,v31),(7,v32),(33,v32),(34,v34),(36,a1),(37,v37),(38,v38)]) g3 n30)))) (
kLd g2 l2 (0 + 1) fun v27 =>
kLd g2 l2 (0 + 2) fun v29 =>
C nvm_New_id [v27,v29] g2 n11 fun v30 g9 n30 =>
kExtract v30 0 fun v31 =>
kExtract v30 1 fun v32 =>
kBin .int .neq v32 (.int .i64 0) fun v34 =>
kSplit v34 (
aRet K (.tuple #[.pointer none,v32]) g9 n30) (
kLen a1 fun v37 =>
kBin .int .gtr v37 (.int .i64 0) fun v38 =>
kSplit v38 (
C nvm_Device_Restore_id [v31,a1] g9 n30 fun v41 g10 n41 =>
C nvm_Device_Fail_id [v31] g10 n41 fun v43 g11 n43 =>
mesi_New_j1 C K (puts (args0 [a0,a1]) [(2,ptr l2 0),(4,.pointer none),(5,.int .i64 0),(10,.agg c10.toArray),(11,v11),(12,v12),(13,.bool false),(14,a1),(15,v15),(16,v16),(17,.bool false),(18,undef),(19,undef),(20,undef),(21,undef),(22,undef),(23,.bool false),(24,.bool false),(26,(ptr l2 (0 + 1))),(27,v27),(28,(ptr l2 (0 + 2))),(29,v29),(30,v30),(25,v30),(31,v31),(32,v32),(6,v31),(7,v32),(33,v32),(34,v34),(36,a1),(37,v37),(38,v38),(39,v31),(40,a1),(41,v41),(42,v31),(43,v43)]) g11 n43) (
mesi_New_j1 C K (puts (args0 [a0,a1]) [(2,ptr l2 0),(4,.pointer none),(5,.int .i64 0),(10,.agg c10.toArray),(11,v11),(12,v12),(13,.bool false),(14,a1),(15,v15),(16,v16),(17,.bool false),(18,undef),(19,undef),(20,undef),(21,undef),(22,undef),(23,.bool false),(24,.bool false),(26,(ptr l2 (0 + 1))),(27,v27),(28,(ptr l2 (0 + 2))),(29,v29),(30,v30),(25,v30),(31,v31),(32,v32),(6,v31),(7,v32),(33,v32),(34,v34),(36,a1),(37,v37),(38,v38)]) g9 n30))))
theorem mesi_New_eq (C : CT) (a0 a1 : Value) (g : G) (n : Nat) (K : Cont) : mesi_New C a0 a1 g n K = abody Tryz.prog C mesi_New_id [a0,a1] g n K := by kernel_rfl
def mesi_System_Load (C : CT) (a0 a1 a2 a3 : Value) (g : G) (n : Nat) (K : Cont) : Prop:=
C mesi_System_at_id [a0,a1] g n fun v16 g1 n16 =>
kBin .ptr .eql v16 (.pointer none) fun v18 =>
kSplit v18 (
aRet K (.tuple #[.int .u64 0,.bool false]) g1 n16) (
C mesi_System_line_id [a0,a2] g1 n16 fun v22 g2 n22 =>
kUn .not v22 fun v23 =>
kSplit v23 (
aRet K (.tuple #[.int .u64 0,.bool false]) g2 n22) (
kNil v16 fun v27 =>
kPtr v27 fun l28 o28 =>
kLd g2 l28 (o28 + 0) fun v29 =>
C agent_Agent_Load_id [v29,a2,a3] g2 n22 fun v32 g3 n32 =>
kExtract v32 0 fun v33 =>
kExtract v32 1 fun v34 =>
kExtract v32 2 fun v35 =>
C mesi_node_ask_id [v16,v35] g3 n32 fun v38 g4 n38 =>
aRet K (.tuple #[v33,v34]) g4 n38))
theorem mesi_System_Load_eq (C : CT) (a0 a1 a2 a3 : Value) (g : G) (n : Nat) (K : Cont) : mesi_System_Load C a0 a1 a2 a3 g n K = abody Tryz.prog C mesi_System_Load_id [a0,a1,a2,a3] g n K := by kernel_rfl
def mesi_System_Flush (C : CT) (a0 a1 a2 a3 : Value) (g : G) (n : Nat) (K : Cont) : Prop:=
C mesi_System_at_id [a0,a1] g n fun v12 g1 n12 =>
kBin .ptr .eql v12 (.pointer none) fun v14 =>
kSplit v14 (
aRet K (.int .i64 1) g1 n12) (
C mesi_System_line_id [a0,a2] g1 n12 fun v18 g2 n18 =>
kUn .not v18 fun v19 =>
kSplit v19 (
aRet K (.int .i64 1) g2 n18) (
kBin .int .neq a3 (.int .i64 4) fun v23 =>
kSplit v23 (
kBin .int .neq a3 (.int .i64 5) fun v26 =>
kSplit v26 (
aRet K (.int .i64 1) g2 n18) (
kNil v12 fun v30 =>
kPtr v30 fun l31 o31 =>
kFill [.int .i64 0,.int .i64 0,.bool false,.bool false,.int .u64 0,.int .u64 0,.int .u64 0,.int .u64 0,.int .u64 0,.int .u64 0,.int .u64 0,.int .u64 0] [(0,none,a3),(1,none,a2)] fun c34 =>
C msg_Queue_Push_id [(ptr l31 (o31 + 1)),.agg c34.toArray] g2 n18 fun v35 g3 n35 =>
aRet K v35 g3 n35)) (
kNil v12 fun v30 =>
kPtr v30 fun l31 o31 =>
kFill [.int .i64 0,.int .i64 0,.bool false,.bool false,.int .u64 0,.int .u64 0,.int .u64 0,.int .u64 0,.int .u64 0,.int .u64 0,.int .u64 0,.int .u64 0] [(0,none,a3),(1,none,a2)] fun c34 =>
C msg_Queue_Push_id [(ptr l31 (o31 + 1)),.agg c34.toArray] g2 n18 fun v35 g4 n35 =>
aRet K v35 g4 n35)))
theorem mesi_System_Flush_eq (C : CT) (a0 a1 a2 a3 : Value) (g : G) (n : Nat) (K : Cont) : mesi_System_Flush C a0 a1 a2 a3 g n K = abody Tryz.prog C mesi_System_Flush_id [a0,a1,a2,a3] g n K := by kernel_rfl
def bellowslaw09_do_j1 (C : CT) (K : Cont) (t : Env) (g : G) (n : Nat) : Prop:=
kFill [.int .i64 0,.int .i64 0,.bool false,.bool false,.int .u64 0,.int .u64 0,.int .u64 0,.int .u64 0,.int .u64 0,.int .u64 0,.int .u64 0,.int .u64 0] [] fun c125 =>
kPtr (t 6) fun lg28 og28 =>
kAgg (.agg c125.toArray) fun cg28 =>
cg28.length = 12 ∧ kStN g lg28 og28 cg28 fun g28 =>
kPtr (t 6) fun lr2 or2 =>
kLdN g28 lr2 or2 12 fun r2 =>
aRet K (.tuple #[.int .u64 0,.bool false,.agg r2.toArray,.int .i64 0]) g28 n
def bellowslaw09_do (C : CT) (a0 a1 : Value) (g : G) (n : Nat) (K : Cont) : Prop:=
kAgg a1 fun c3 =>
kNew c3 .exact g n fun l3 g1 n3 =>
kNew [.int .i64 0,.int .i64 0,.bool false,.bool false,.int .u64 0,.int .u64 0,.int .u64 0,.int .u64 0,.int .u64 0,.int .u64 0,.int .u64 0,.int .u64 0] .exact g1 n3 fun l6 g2 n6 =>
kLd g2 l3 (0 + 0) fun v13 =>
kBin .int .eql v13 (.int .i64 0) fun v15 =>
kSplit v15 (
kLd g2 l3 (0 + 1) fun v19 =>
kLd g2 l3 (0 + 2) fun v21 =>
kLd g2 l3 (0 + 3) fun v23 =>
C mesi_System_Load_id [a0,v19,v21,v23] g2 n6 fun v24 g3 n24 =>
kExtract v24 0 fun v25 =>
kExtract v24 1 fun v26 =>
kFill [.int .i64 0,.int .i64 0,.bool false,.bool false,.int .u64 0,.int .u64 0,.int .u64 0,.int .u64 0,.int .u64 0,.int .u64 0,.int .u64 0,.int .u64 0] [] fun c29 =>
kAgg (.agg c29.toArray) fun cg4 =>
cg4.length = 12 ∧ kStN g3 l6 0 cg4 fun g4 =>
kLdN g4 l6 0 12 fun r2 =>
aRet K (.tuple #[v25,v26,.agg r2.toArray,.int .i64 0]) g4 n24) (
kBin .int .eql v13 (.int .i64 1) fun v31 =>
kSplit v31 (
kLd g2 l3 (0 + 1) fun v34 =>
kLd g2 l3 (0 + 2) fun v36 =>
kLd g2 l3 (0 + 3) fun v38 =>
kLd g2 l3 (0 + 4) fun v40 =>
C mesi_System_Store_id [a0,v34,v36,v38,v40] g2 n6 fun v41 g5 n41 =>
kFill [.int .i64 0,.int .i64 0,.bool false,.bool false,.int .u64 0,.int .u64 0,.int .u64 0,.int .u64 0,.int .u64 0,.int .u64 0,.int .u64 0,.int .u64 0] [] fun c42 =>
kAgg (.agg c42.toArray) fun cg6 =>
cg6.length = 12 ∧ kStN g5 l6 0 cg6 fun g6 =>
kLdN g6 l6 0 12 fun r2 =>
aRet K (.tuple #[.int .u64 0,v41,.agg r2.toArray,.int .i64 0]) g6 n41) (
kBin .int .eql v13 (.int .i64 2) fun v44 =>
kSplit v44 (
kLd g2 l3 (0 + 1) fun v47 =>
kLd g2 l3 (0 + 2) fun v49 =>
C mesi_System_Reach_id [a0,v47,v49] g2 n6 fun v50 g7 n50 =>
kFill [.int .i64 0,.int .i64 0,.bool false,.bool false,.int .u64 0,.int .u64 0,.int .u64 0,.int .u64 0,.int .u64 0,.int .u64 0,.int .u64 0,.int .u64 0] [] fun c51 =>
kAgg (.agg c51.toArray) fun cg8 =>
cg8.length = 12 ∧ kStN g7 l6 0 cg8 fun g8 =>
kLdN g8 l6 0 12 fun r2 =>
aRet K (.tuple #[.int .u64 0,v50,.agg r2.toArray,.int .i64 0]) g8 n50) (
kBin .int .eql v13 (.int .i64 3) fun v53 =>
kSplit v53 (
kFill [.int .i64 0,.int .i64 0,.bool false,.bool false,.int .u64 0,.int .u64 0,.int .u64 0,.int .u64 0,.int .u64 0,.int .u64 0,.int .u64 0,.int .u64 0] [] fun c54 =>
kLd g2 l3 (0 + 1) fun v57 =>
kLd g2 l3 (0 + 2) fun v59 =>
kLd g2 l3 (0 + 4) fun v61 =>
kBin .int .rem v61 (.int .u64 2) fun v62 =>
kConv .i64 v62 fun v63 =>
kBin .int .add (.int .i64 4) v63 fun v64 =>
C mesi_System_Flush_id [a0,v57,v59,v64] g2 n6 fun v65 g9 n65 =>
kAgg (.agg c54.toArray) fun cg10 =>
cg10.length = 12 ∧ kStN g9 l6 0 cg10 fun g10 =>
kLdN g10 l6 0 12 fun r2 =>
aRet K (.tuple #[.int .u64 0,.bool false,.agg r2.toArray,v65]) g10 n65) (
kBin .int .eql v13 (.int .i64 4) fun v67 =>
kSplit v67 (
kFill [.int .i64 0,.int .i64 0,.bool false,.bool false,.int .u64 0,.int .u64 0,.int .u64 0,.int .u64 0,.int .u64 0,.int .u64 0,.int .u64 0,.int .u64 0] [] fun c68 =>
kLd g2 l3 (0 + 1) fun v71 =>
C mesi_System_Up_id [a0,v71] g2 n6 fun v72 g11 n72 =>
kAgg (.agg c68.toArray) fun cg12 =>
cg12.length = 12 ∧ kStN g11 l6 0 cg12 fun g12 =>
kLdN g12 l6 0 12 fun r2 =>
aRet K (.tuple #[.int .u64 0,.bool false,.agg r2.toArray,v72]) g12 n72) (
kBin .int .eql v13 (.int .i64 5) fun v74 =>
kSplit v74 (
kFill [.int .i64 0,.int .i64 0,.bool false,.bool false,.int .u64 0,.int .u64 0,.int .u64 0,.int .u64 0,.int .u64 0,.int .u64 0,.int .u64 0,.int .u64 0] [] fun c75 =>
kLd g2 l3 (0 + 1) fun v78 =>
C mesi_System_Answer_id [a0,v78] g2 n6 fun v79 g13 n79 =>
kAgg (.agg c75.toArray) fun cg14 =>
cg14.length = 12 ∧ kStN g13 l6 0 cg14 fun g14 =>
kLdN g14 l6 0 12 fun r2 =>
aRet K (.tuple #[.int .u64 0,.bool false,.agg r2.toArray,v79]) g14 n79) (
kBin .int .eql v13 (.int .i64 6) fun v81 =>
kSplit v81 (
kLd g2 l3 (0 + 1) fun v85 =>
C mesi_System_Hear_id [a0,v85] g2 n6 fun v86 g15 n86 =>
kExtract v86 0 fun v87 =>
kExtract v86 1 fun v88 =>
kNew [.int .i64 0,.int .i64 0,.bool false,.bool false,.int .u64 0,.int .u64 0,.int .u64 0,.int .u64 0,.int .u64 0,.int .u64 0,.int .u64 0,.int .u64 0] .exact g15 n86 fun l10 g16 n10 =>
kAgg v87 fun cg17 =>
cg17.length = 12 ∧ kStN g16 l10 0 cg17 fun g17 =>
kLdN g17 l10 0 12 fun c89 =>
kAgg (.agg c89.toArray) fun cg18 =>
cg18.length = 12 ∧ kStN g17 l6 0 cg18 fun g18 =>
kLdN g18 l6 0 12 fun r2 =>
aRet K (.tuple #[.int .u64 0,.bool false,.agg r2.toArray,v88]) g18 n10) (
kBin .int .eql v13 (.int .i64 7) fun v92 =>
kSplit v92 (
kFill [.int .i64 0,.int .i64 0,.bool false,.bool false,.int .u64 0,.int .u64 0,.int .u64 0,.int .u64 0,.int .u64 0,.int .u64 0,.int .u64 0,.int .u64 0] [] fun c93 =>
kLd g2 l3 (0 + 2) fun v96 =>
C mesi_System_Push_id [a0,v96] g2 n6 fun v97 g19 n97 =>
kAgg (.agg c93.toArray) fun cg20 =>
cg20.length = 12 ∧ kStN g19 l6 0 cg20 fun g20 =>
kLdN g20 l6 0 12 fun r2 =>
aRet K (.tuple #[.int .u64 0,.bool false,.agg r2.toArray,v97]) g20 n97) (
kBin .int .eql v13 (.int .i64 8) fun v99 =>
kSplit v99 (
kFill [.int .i64 0,.int .i64 0,.bool false,.bool false,.int .u64 0,.int .u64 0,.int .u64 0,.int .u64 0,.int .u64 0,.int .u64 0,.int .u64 0,.int .u64 0] [] fun c100 =>
kLd g2 l3 (0 + 1) fun v103 =>
kLd g2 l3 (0 + 2) fun v105 =>
C mesi_System_Evict_id [a0,v103,v105] g2 n6 fun v106 g21 n106 =>
kAgg (.agg c100.toArray) fun cg22 =>
cg22.length = 12 ∧ kStN g21 l6 0 cg22 fun g22 =>
kLdN g22 l6 0 12 fun r2 =>
aRet K (.tuple #[.int .u64 0,.bool false,.agg r2.toArray,v106]) g22 n106) (
kBin .int .eql v13 (.int .i64 9) fun v108 =>
kSplit v108 (
kFill [.int .i64 0,.int .i64 0,.bool false,.bool false,.int .u64 0,.int .u64 0,.int .u64 0,.int .u64 0,.int .u64 0,.int .u64 0,.int .u64 0,.int .u64 0] [] fun c109 =>
kLd g2 l3 (0 + 2) fun v112 =>
C mesi_System_Drop_id [a0,v112] g2 n6 fun v113 g23 n113 =>
kAgg (.agg c109.toArray) fun cg24 =>
cg24.length = 12 ∧ kStN g23 l6 0 cg24 fun g24 =>
kLdN g24 l6 0 12 fun r2 =>
aRet K (.tuple #[.int .u64 0,.bool false,.agg r2.toArray,v113]) g24 n113) (
kBin .int .eql v13 (.int .i64 10) fun v115 =>
kSplit v115 (
kFill [.int .i64 0,.int .i64 0,.bool false,.bool false,.int .u64 0,.int .u64 0,.int .u64 0,.int .u64 0,.int .u64 0,.int .u64 0,.int .u64 0,.int .u64 0] [] fun c116 =>
kLd g2 l3 (0 + 2) fun v119 =>
C mesi_System_Drain_id [a0,v119] g2 n6 fun v120 g25 n120 =>
kAgg (.agg c116.toArray) fun cg26 =>
cg26.length = 12 ∧ kStN g25 l6 0 cg26 fun g26 =>
kLdN g26 l6 0 12 fun r2 =>
aRet K (.tuple #[.int .u64 0,.bool false,.agg r2.toArray,v120]) g26 n120) (
kBin .int .eql v13 (.int .i64 11) fun v122 =>
kSplit v122 (
C mesi_System_Fail_id [a0] g2 n6 fun v124 g27 n124 =>
bellowslaw09_do_j1 C K (puts (args0 [a0,a1]) [(3,ptr l3 0),(4,.int .u64 0),(5,.bool false),(6,ptr l6 0),(7,.int .i64 0),(12,(ptr l3 (0 + 0))),(13,v13),(15,v15),(14,v15),(31,v31),(30,v31),(44,v44),(43,v44),(53,v53),(52,v53),(67,v67),(66,v67),(74,v74),(73,v74),(81,v81),(80,v81),(92,v92),(91,v92),(99,v99),(98,v99),(108,v108),(107,v108),(115,v115),(114,v115),(122,v122),(121,v122),(123,a0),(124,v124)]) g27 n124) (
bellowslaw09_do_j1 C K (puts (args0 [a0,a1]) [(3,ptr l3 0),(4,.int .u64 0),(5,.bool false),(6,ptr l6 0),(7,.int .i64 0),(12,(ptr l3 (0 + 0))),(13,v13),(15,v15),(14,v15),(31,v31),(30,v31),(44,v44),(43,v44),(53,v53),(52,v53),(67,v67),(66,v67),(74,v74),(73,v74),(81,v81),(80,v81),(92,v92),(91,v92),(99,v99),(98,v99),(108,v108),(107,v108),(115,v115),(114,v115),(122,v122),(121,v122)]) g2 n6))))))))))))
theorem bellowslaw09_do_eq (C : CT) (a0 a1 : Value) (g : G) (n : Nat) (K : Cont) : bellowslaw09_do C a0 a1 g n K = abody Tryz.prog C bellowslaw09_do_id [a0,a1] g n K := by kernel_rfl
def mesi_System_Slots (C : CT) (a0 a1 : Value) (g : G) (n : Nat) (K : Cont) : Prop:=
C mesi_System_at_id [a0,a1] g n fun v8 g1 n8 =>
kBin .ptr .eql v8 (.pointer none) fun v10 =>
kSplit v10 (
aRet K (.slice none 0 0) g1 n8) (
kNil v8 fun v12 =>
kPtr v12 fun l13 o13 =>
kLd g1 l13 (o13 + 0) fun v14 =>
C agent_Agent_Slots_id [v14] g1 n8 fun v15 g2 n15 =>
aRet K v15 g2 n15)
theorem mesi_System_Slots_eq (C : CT) (a0 a1 : Value) (g : G) (n : Nat) (K : Cont) : mesi_System_Slots C a0 a1 g n K = abody Tryz.prog C mesi_System_Slots_id [a0,a1] g n K := by kernel_rfl
def mesi_System_Entry (C : CT) (a0 a1 : Value) (g : G) (n : Nat) (K : Cont) : Prop:=
kNew [.bool false,.bool false,.int .u64 0,.int .u64 0,.int .u64 0,.int .u64 0,.int .u64 0,.int .u64 0,.int .u64 0,.int .u64 0,.int .i64 0,.int .u8 0,.int .i64 0,.int .i64 0,.int .u8 0] .exact g n fun l4 g1 n4 =>
C mesi_System_line_id [a0,a1] g1 n4 fun v7 g2 n7 =>
kUn .not v7 fun v8 =>
kSplit v8 (
C dir_Empty_id [] g2 n7 fun v9 g3 n9 =>
kAgg v9 fun cg4 =>
cg4.length = 15 ∧ kStN g3 l4 0 cg4 fun g4 =>
kLdN g4 l4 0 15 fun r0 =>
aRet K (.agg r0.toArray) g4 n9) (
kNil a0 fun v11 =>
kPtr v11 fun l12 o12 =>
kLd g2 l12 (o12 + 8) fun v13 =>
kIndexAddr v13 a1 15 fun v15 =>
kPtr v15 fun l16 o16 =>
kLdN g2 l16 o16 15 fun c16 =>
kAgg (.agg c16.toArray) fun cg5 =>
cg5.length = 15 ∧ kStN g2 l4 0 cg5 fun g5 =>
kLdN g5 l4 0 15 fun r0 =>
aRet K (.agg r0.toArray) g5 n7)
theorem mesi_System_Entry_eq (C : CT) (a0 a1 : Value) (g : G) (n : Nat) (K : Cont) : mesi_System_Entry C a0 a1 g n K = abody Tryz.prog C mesi_System_Entry_id [a0,a1] g n K := by kernel_rfl
def bellowslaw09_sameSlots_l1 (C : CT) (K : Cont) (I_l1 : ECont) (t : Env) (g : G) (n : Nat) : Prop:=
kLen (t 7) fun v19 =>
kBin .int .lss (t 8) v19 fun v20 =>
kSplit v20 (
kIndexAddr (t 0) (t 8) 11 fun v25 =>
kPtr v25 fun l26 o26 =>
kLdN g l26 o26 11 fun c26 =>
kIndexAddr (t 7) (t 8) 11 fun v29 =>
kPtr v29 fun l30 o30 =>
kLdN g l30 o30 11 fun c30 =>
kBin (.agg [.i,.i,.i,.i,.i,.i,.i,.i,.i,.i,.i]) .neq (.agg c26.toArray) (.agg c30.toArray) fun v31 =>
kSplit v31 (
aRet K (.bool false) g n) (
kBin .int .add (t 8) (.int .i64 1) fun v22 =>
I_l1 (puts t [(17,t 8),(18,t 7),(19,v19),(20,v20),(23,t 0),(24,t 8),(25,v25),(26,.agg c26.toArray),(27,t 7),(28,t 8),(29,v29),(30,.agg c30.toArray),(31,v31),(21,t 8),(22,v22),(8,v22)]) g n)) (
aRet K (.bool true) g n)
def bellowslaw09_sameSlots (C : CT) (a0 a1 a2 : Value) (g : G) (n : Nat) (K : Cont) : Prop:=
C mesi_System_Slots_id [a1,a2] g n fun v11 g1 n11 =>
kLen a0 fun v13 =>
kLen v11 fun v15 =>
kBin .int .neq v13 v15 fun v16 =>
kSplit v16 (
aRet K (.bool false) g1 n11) (
lfp (bellowslaw09_sameSlots_l1 C K) (puts (args0 [a0,a1,a2]) [(6,.bool false),(9,a1),(10,a2),(11,v11),(7,v11),(12,a0),(13,v13),(14,v11),(15,v15),(16,v16),(8,.int .i64 0)]) g1 n11)
theorem bellowslaw09_sameSlots_eq (C : CT) (a0 a1 a2 : Value) (g : G) (n : Nat) (K : Cont) : bellowslaw09_sameSlots C a0 a1 a2 g n K = abody Tryz.prog C bellowslaw09_sameSlots_id [a0,a1,a2] g n K := by kernel_rfl
def mesi_System_Drop (C : CT) (a0 a1 : Value) (g : G) (n : Nat) (K : Cont) : Prop:=
C mesi_System_line_id [a0,a1] g n fun v9 g1 n9 =>
kUn .not v9 fun v10 =>
kSplit v10 (
aRet K (.int .i64 1) g1 n9) (
kNil a0 fun v12 =>
kPtr v12 fun l13 o13 =>
kLd g1 l13 (o13 + 8) fun v14 =>
kIndexAddr v14 a1 15 fun v16 =>
kPtr v16 fun l17 o17 =>
kLdN g1 l17 o17 15 fun c17 =>
kNew [.bool false,.bool false,.int .u64 0,.int .u64 0,.int .u64 0,.int .u64 0,.int .u64 0,.int .u64 0,.int .u64 0,.int .u64 0,.int .i64 0,.int .u8 0,.int .i64 0,.int .i64 0,.int .u8 0] .exact g1 n9 fun l5 g2 n5 =>
kAgg (.agg c17.toArray) fun cg3 =>
cg3.length = 15 ∧ kStN g2 l5 0 cg3 fun g3 =>
kLd g3 l5 (0 + 0) fun v19 =>
kUn .not v19 fun v20 =>
kSplit v20 (
aRet K (.int .i64 16) g3 n5) (
kLd g3 l5 (0 + 10) fun v23 =>
kBin .int .geq v23 (.int .i64 0) fun v24 =>
kSplit v24 (
aRet K (.int .i64 16) g3 n5) (
kLd g3 l5 (0 + 11) fun v28 =>
kBin .int .neq v28 (.int .u8 0) fun v29 =>
kSplit v29 (
aRet K (.int .i64 16) g3 n5) (
kLd g3 l5 (0 + 12) fun v33 =>
kBin .int .neq v33 (.int .i64 0) fun v34 =>
kSplit v34 (
aRet K (.int .i64 16) g3 n5) (
C mesi_System_write_id [a0,a1] g3 n5 fun v38 g4 n38 =>
kBin .int .neq v38 (.int .i64 0) fun v40 =>
kSplit v40 (
aRet K v38 g4 n38) (
kNil a0 fun v43 =>
kPtr v43 fun l44 o44 =>
kLd g4 l44 (o44 + 8) fun v45 =>
C dir_Empty_id [] g4 n38 fun v47 g5 n47 =>
(kPtr (ptr l44 (o44 + 8)) fun l _ => g5 l = g4 l) ∧ kIndexAddr v45 a1 15 fun v48 =>
kPtr v48 fun lg6 og6 =>
kAgg v47 fun cg6 =>
cg6.length = 15 ∧ kStN g5 lg6 og6 cg6 fun g6 =>
aRet K (.int .i64 0) g6 n47))))))
theorem mesi_System_Drop_eq (C : CT) (a0 a1 : Value) (g : G) (n : Nat) (K : Cont) : mesi_System_Drop C a0 a1 g n K = abody Tryz.prog C mesi_System_Drop_id [a0,a1] g n K := by kernel_rfl
def mesi_System_Evict (C : CT) (a0 a1 a2 : Value) (g : G) (n : Nat) (K : Cont) : Prop:=
C mesi_System_at_id [a0,a1] g n fun v12 g1 n12 =>
kBin .ptr .eql v12 (.pointer none) fun v14 =>
kSplit v14 (
aRet K (.int .i64 1) g1 n12) (
C mesi_System_line_id [a0,a2] g1 n12 fun v18 g2 n18 =>
kUn .not v18 fun v19 =>
kSplit v19 (
aRet K (.int .i64 1) g2 n18) (
kNil v12 fun v23 =>
kPtr v23 fun l24 o24 =>
kLd g2 l24 (o24 + 0) fun v25 =>
C agent_Agent_Evict_id [v25,a2] g2 n18 fun v27 g3 n27 =>
kExtract v27 0 fun v28 =>
kExtract v27 1 fun v29 =>
C mesi_node_ask_id [v12,v28] g3 n27 fun v32 g4 n32 =>
aRet K v29 g4 n32))
theorem mesi_System_Evict_eq (C : CT) (a0 a1 a2 : Value) (g : G) (n : Nat) (K : Cont) : mesi_System_Evict C a0 a1 a2 g n K = abody Tryz.prog C mesi_System_Evict_id [a0,a1,a2] g n K := by kernel_rfl
def mesi_System_Fail (C : CT) (a0 : Value) (g : G) (n : Nat) (K : Cont) : Prop:=
kBin .ptr .neq a0 (.pointer none) fun v3 =>
kSplit v3 (
kNil a0 fun v5 =>
kPtr v5 fun l6 o6 =>
kLd g l6 (o6 + 9) fun v7 =>
C wpq_Queue_Fail_id [v7] g n fun v8 g1 n8 =>
C mesi_System_begin_id [a0] g1 n8 fun v10 g2 n10 =>
aRet K (.tuple #[]) g2 n10) (
aRet K (.tuple #[]) g n)
theorem mesi_System_Fail_eq (C : CT) (a0 : Value) (g : G) (n : Nat) (K : Cont) : mesi_System_Fail C a0 g n K = abody Tryz.prog C mesi_System_Fail_id [a0] g n K := by kernel_rfl
def mesi_System_Config (C : CT) (a0 : Value) (g : G) (n : Nat) (K : Cont) : Prop:=
kNew [.int .i64 0,.int .i64 0,.int .i64 0,.int .i64 0,.int .i64 0,.int .i64 0,.int .i64 0] .exact g n fun l2 g1 n2 =>
kBin .ptr .eql a0 (.pointer none) fun v4 =>
kSplit v4 (
kFill [.int .i64 0,.int .i64 0,.int .i64 0,.int .i64 0,.int .i64 0,.int .i64 0,.int .i64 0] [] fun c5 =>
kAgg (.agg c5.toArray) fun cg2 =>
cg2.length = 7 ∧ kStN g1 l2 0 cg2 fun g2 =>
kLdN g2 l2 0 7 fun r0 =>
aRet K (.agg r0.toArray) g2 n2) (
kNil a0 fun v7 =>
kPtr v7 fun l8 o8 =>
kLdN g1 l8 (o8 + 0) 7 fun c9 =>
kAgg (.agg c9.toArray) fun cg3 =>
cg3.length = 7 ∧ kStN g1 l2 0 cg3 fun g3 =>
kLdN g3 l2 0 7 fun r0 =>
aRet K (.agg r0.toArray) g3 n2)
theorem mesi_System_Config_eq (C : CT) (a0 : Value) (g : G) (n : Nat) (K : Cont) : mesi_System_Config C a0 g n K = abody Tryz.prog C mesi_System_Config_id [a0] g n K := by kernel_rfl
def bellowslaw09_Plain (C : CT) (g : G) (n : Nat) (K : Cont) : Prop:=
kNew [.int .i64 0,.int .i64 0,.int .i64 0,.int .i64 0,.int .i64 0,.int .i64 0,.int .i64 0] .exact g n fun l0 g1 n0 =>
kFill [.int .i64 0,.int .i64 0,.int .i64 0,.int .i64 0,.int .i64 0,.int .i64 0,.int .i64 0] [(0,none,.int .i64 2),(1,none,.int .i64 6),(2,none,.int .i64 1),(3,none,.int .i64 1),(4,none,.int .i64 2),(5,none,.int .i64 2),(6,none,.int .i64 2)] fun c1 =>
kAgg (.agg c1.toArray) fun cg2 =>
cg2.length = 7 ∧ kStN g1 l0 0 cg2 fun g2 =>
kLdN g2 l0 0 7 fun r0 =>
aRet K (.agg r0.toArray) g2 n0
theorem bellowslaw09_Plain_eq (C : CT) (g : G) (n : Nat) (K : Cont) : bellowslaw09_Plain C g n K = abody Tryz.prog C bellowslaw09_Plain_id [] g n K := by kernel_rfl
def mesi_System_Store (C : CT) (a0 a1 a2 a3 a4 : Value) (g : G) (n : Nat) (K : Cont) : Prop:=
C mesi_System_at_id [a0,a1] g n fun v16 g1 n16 =>
kBin .ptr .eql v16 (.pointer none) fun v18 =>
kSplit v18 (
aRet K (.bool false) g1 n16) (
C mesi_System_line_id [a0,a2] g1 n16 fun v22 g2 n22 =>
kUn .not v22 fun v23 =>
kSplit v23 (
aRet K (.bool false) g2 n22) (
kNil v16 fun v27 =>
kPtr v27 fun l28 o28 =>
kLd g2 l28 (o28 + 0) fun v29 =>
C agent_Agent_Store_id [v29,a2,a3,a4] g2 n22 fun v33 g3 n33 =>
kExtract v33 0 fun v34 =>
kExtract v33 1 fun v35 =>
C mesi_node_ask_id [v16,v35] g3 n33 fun v38 g4 n38 =>
aRet K v34 g4 n38))
theorem mesi_System_Store_eq (C : CT) (a0 a1 a2 a3 a4 : Value) (g : G) (n : Nat) (K : Cont) : mesi_System_Store C a0 a1 a2 a3 a4 g n K = abody Tryz.prog C mesi_System_Store_id [a0,a1,a2,a3,a4] g n K := by kernel_rfl
def mesi_System_Up (C : CT) (a0 a1 : Value) (g : G) (n : Nat) (K : Cont) : Prop:=
C mesi_System_at_id [a0,a1] g n fun v13 g1 n13 =>
kBin .ptr .eql v13 (.pointer none) fun v15 =>
kSplit v15 (
aRet K (.int .i64 1) g1 n13) (
kNil v13 fun v18 =>
kPtr v18 fun l19 o19 =>
C msg_Queue_Head_id [(ptr l19 (o19 + 1))] g1 n13 fun v20 g2 n20 =>
kExtract v20 0 fun v21 =>
kExtract v20 1 fun v22 =>
kNew [.int .i64 0,.int .i64 0,.bool false,.bool false,.int .u64 0,.int .u64 0,.int .u64 0,.int .u64 0,.int .u64 0,.int .u64 0,.int .u64 0,.int .u64 0] .exact g2 n20 fun l6 g3 n6 =>
kAgg v21 fun cg4 =>
cg4.length = 12 ∧ kStN g3 l6 0 cg4 fun g4 =>
kUn .not v22 fun v25 =>
kSplit v25 (
aRet K (.int .i64 14) g4 n6) (
kNil a0 fun v28 =>
kPtr v28 fun l29 o29 =>
kLd g4 l29 (o29 + 8) fun v30 =>
kLd g4 l6 (0 + 1) fun v32 =>
kIndexAddr v30 v32 15 fun v33 =>
kPtr v33 fun l34 o34 =>
kLd g4 l34 (o34 + 12) fun v35 =>
kBin .int .neq v35 (.int .i64 0) fun v36 =>
kSplit v36 (
aRet K (.int .i64 15) g4 n6) (
kLd g4 l6 (0 + 1) fun v39 =>
C mesi_System_here_id [a0,v39] g4 n6 fun v40 g5 n40 =>
kNil a0 fun v43 =>
kPtr v43 fun l44 o44 =>
kLd g5 l44 (o44 + 8) fun v45 =>
kLd g5 l6 (0 + 1) fun v47 =>
kIndexAddr v45 v47 15 fun v48 =>
kPtr v48 fun l49 o49 =>
kLdN g5 l49 o49 15 fun c49 =>
kLdN g5 l6 0 12 fun c51 =>
(C dir_Ask_id [.agg c49.toArray,a1,.agg c51.toArray] g5 n40 fun v52 g6 n52 =>
kExtract v52 0 fun v53 =>
kExtract v52 1 fun v54 =>
kExtract v52 2 fun v55 =>
kNew [.bool false,.bool false,.int .u64 0,.int .u64 0,.int .u64 0,.int .u64 0,.int .u64 0,.int .u64 0,.int .u64 0,.int .u64 0,.int .i64 0,.int .u8 0,.int .i64 0,.int .i64 0,.int .u8 0] .exact g6 n52 fun l8 g7 n8 =>
(kPtr (ptr l44 (o44 + 8)) fun l _ => g7 l = g6 l) ∧ (kPtr (ptr l6 (0 + 1)) fun l _ => g7 l = g6 l) ∧ (kPtr v48 fun l _ => g7 l = g6 l) ∧ (kPtr (ptr l6 0) fun l _ => g7 l = g6 l) ∧ kAgg v53 fun cg8 =>
cg8.length = 15 ∧ kStN g7 l8 0 cg8 fun g8 =>
kBin .int .neq v55 (.int .i64 0) fun v57 =>
kSplit v57 (
aRet K v55 g8 n8) (
kNil v13 fun v60 =>
kPtr v60 fun l61 o61 =>
C msg_Queue_Pop_id [(ptr l61 (o61 + 1))] g8 n8 fun v62 g9 n62 =>
kNil a0 fun v64 =>
kPtr v64 fun l65 o65 =>
kLd g9 l65 (o65 + 8) fun v66 =>
kLd g9 l6 (0 + 1) fun v68 =>
kLdN g9 l8 0 15 fun c69 =>
kIndexAddr v66 v68 15 fun v70 =>
kPtr v70 fun lg10 og10 =>
kAgg (.agg c69.toArray) fun cg10 =>
cg10.length = 15 ∧ kStN g9 lg10 og10 cg10 fun g10 =>
kLd g10 l6 (0 + 1) fun v74 =>
C mesi_System_sends_id [a0,v54,v74] g10 n62 fun v75 g11 n75 =>
aRet K (.int .i64 0) g11 n75)) ∧ (kNew [.bool false,.bool false,.int .u64 0,.int .u64 0,.int .u64 0,.int .u64 0,.int .u64 0,.int .u64 0,.int .u64 0,.int .u64 0,.int .i64 0,.int .u8 0,.int .i64 0,.int .i64 0,.int .u8 0] .exact g5 n40 fun l8 g12 n8 =>
(kPtr (ptr l44 (o44 + 8)) fun l _ => g12 l = g5 l) ∧ (kPtr (ptr l6 (0 + 1)) fun l _ => g12 l = g5 l) ∧ (kPtr v48 fun l _ => g12 l = g5 l) ∧ (kPtr (ptr l6 0) fun l _ => g12 l = g5 l) ∧ C dir_Ask_id [.agg c49.toArray,a1,.agg c51.toArray] g12 n8 fun v52 g13 n52 =>
kExtract v52 0 fun v53 =>
kExtract v52 1 fun v54 =>
kExtract v52 2 fun v55 =>
kAgg v53 fun cg14 =>
cg14.length = 15 ∧ kStN g13 l8 0 cg14 fun g14 =>
kBin .int .neq v55 (.int .i64 0) fun v57 =>
kSplit v57 (
aRet K v55 g14 n52) (
kNil v13 fun v60 =>
kPtr v60 fun l61 o61 =>
C msg_Queue_Pop_id [(ptr l61 (o61 + 1))] g14 n52 fun v62 g15 n62 =>
kNil a0 fun v64 =>
kPtr v64 fun l65 o65 =>
kLd g15 l65 (o65 + 8) fun v66 =>
kLd g15 l6 (0 + 1) fun v68 =>
kLdN g15 l8 0 15 fun c69 =>
kIndexAddr v66 v68 15 fun v70 =>
kPtr v70 fun lg16 og16 =>
kAgg (.agg c69.toArray) fun cg16 =>
cg16.length = 15 ∧ kStN g15 lg16 og16 cg16 fun g16 =>
kLd g16 l6 (0 + 1) fun v74 =>
C mesi_System_sends_id [a0,v54,v74] g16 n62 fun v75 g17 n75 =>
aRet K (.int .i64 0) g17 n75)))))
theorem mesi_System_Up_eq (C : CT) (a0 a1 : Value) (g : G) (n : Nat) (K : Cont) : mesi_System_Up C a0 a1 g n K = abody Tryz.prog C mesi_System_Up_id [a0,a1] g n K := by kernel_rfl
def mesi_System_Hear_j2 (C : CT) (K : Cont) (t : Env) (g : G) (n : Nat) : Prop:=
kPtr (t 7) fun l50 o50 =>
kLdN g l50 o50 12 fun c50 =>
kPtr (t 4) fun lg12 og12 =>
kAgg (.agg c50.toArray) fun cg12 =>
cg12.length = 12 ∧ kStN g lg12 og12 cg12 fun g12 =>
kPtr (t 4) fun lr0 or0 =>
kLdN g12 lr0 or0 12 fun r0 =>
aRet K (.tuple #[.agg r0.toArray,t 10]) g12 n
def mesi_System_Hear_l1 (C : CT) (K : Cont) (I_l1 : ECont) (t : Env) (g : G) (n : Nat) : Prop:=
kBin .int .lss (t 40) (t 39) fun v41 =>
kSplit v41 (
kIndexAddr (t 38) (t 40) 12 fun v42 =>
kPtr v42 fun l43 o43 =>
kLdN g l43 o43 12 fun c43 =>
kNew [.int .i64 0,.int .i64 0,.bool false,.bool false,.int .u64 0,.int .u64 0,.int .u64 0,.int .u64 0,.int .u64 0,.int .u64 0,.int .u64 0,.int .u64 0] .exact g n fun l12 g9 n12 =>
kAgg (.agg c43.toArray) fun cg10 =>
cg10.length = 12 ∧ kStN g9 l12 0 cg10 fun g10 =>
kNil (t 6) fun v45 =>
kPtr v45 fun l46 o46 =>
kLdN g10 l12 0 12 fun c47 =>
C msg_Queue_Push_id [(ptr l46 (o46 + 2)),.agg c47.toArray] g10 n12 fun v48 g11 n48 =>
kBin .int .add (t 40) (.int .i64 1) fun v49 =>
I_l1 (puts t [(41,v41),(42,v42),(43,.agg c43.toArray),(12,ptr l12 0),(44,t 6),(45,v45),(46,(ptr l46 (o46 + 2))),(47,.agg c47.toArray),(48,v48),(49,v49),(40,v49)]) g11 n48) (
mesi_System_Hear_j2 C K (puts t [(41,v41)]) g n)
def mesi_System_Hear (C : CT) (a0 a1 : Value) (g : G) (n : Nat) (K : Cont) : Prop:=
kNew [.int .i64 0,.int .i64 0,.bool false,.bool false,.int .u64 0,.int .u64 0,.int .u64 0,.int .u64 0,.int .u64 0,.int .u64 0,.int .u64 0,.int .u64 0] .exact g n fun l4 g1 n4 =>
C mesi_System_at_id [a0,a1] g1 n4 fun v15 g2 n15 =>
kBin .ptr .eql v15 (.pointer none) fun v17 =>
kSplit v17 (
kFill [.int .i64 0,.int .i64 0,.bool false,.bool false,.int .u64 0,.int .u64 0,.int .u64 0,.int .u64 0,.int .u64 0,.int .u64 0,.int .u64 0,.int .u64 0] [] fun c18 =>
kAgg (.agg c18.toArray) fun cg3 =>
cg3.length = 12 ∧ kStN g2 l4 0 cg3 fun g3 =>
kLdN g3 l4 0 12 fun r0 =>
aRet K (.tuple #[.agg r0.toArray,.int .i64 1]) g3 n15) (
kNil v15 fun v21 =>
kPtr v21 fun l22 o22 =>
C msg_Queue_Pop_id [(ptr l22 (o22 + 3))] g2 n15 fun v23 g4 n23 =>
kExtract v23 0 fun v24 =>
kExtract v23 1 fun v25 =>
kNew [.int .i64 0,.int .i64 0,.bool false,.bool false,.int .u64 0,.int .u64 0,.int .u64 0,.int .u64 0,.int .u64 0,.int .u64 0,.int .u64 0,.int .u64 0] .exact g4 n23 fun l7 g5 n7 =>
kAgg v24 fun cg6 =>
cg6.length = 12 ∧ kStN g5 l7 0 cg6 fun g6 =>
kUn .not v25 fun v27 =>
kSplit v27 (
kFill [.int .i64 0,.int .i64 0,.bool false,.bool false,.int .u64 0,.int .u64 0,.int .u64 0,.int .u64 0,.int .u64 0,.int .u64 0,.int .u64 0,.int .u64 0] [] fun c28 =>
kAgg (.agg c28.toArray) fun cg7 =>
cg7.length = 12 ∧ kStN g6 l4 0 cg7 fun g7 =>
kLdN g7 l4 0 12 fun r0 =>
aRet K (.tuple #[.agg r0.toArray,.int .i64 14]) g7 n7) (
kNil v15 fun v31 =>
kPtr v31 fun l32 o32 =>
kLd g6 l32 (o32 + 0) fun v33 =>
kLdN g6 l7 0 12 fun c34 =>
C agent_Agent_Hear_id [v33,.agg c34.toArray] g6 n7 fun v35 g8 n35 =>
kExtract v35 0 fun v36 =>
kExtract v35 1 fun v37 =>
kLen v36 fun v39 =>
lfp (mesi_System_Hear_l1 C K) (puts (args0 [a0,a1]) [(4,ptr l4 0),(5,.int .i64 0),(13,a0),(14,a1),(15,v15),(6,v15),(16,v15),(17,v17),(20,v15),(21,v21),(22,(ptr l22 (o22 + 3))),(23,v23),(19,v23),(24,v24),(25,v25),(7,ptr l7 0),(8,v25),(26,v25),(27,v27),(30,v15),(31,v31),(32,(ptr l32 (o32 + 0))),(33,v33),(34,.agg c34.toArray),(35,v35),(29,v35),(36,v36),(37,v37),(9,v36),(10,v37),(38,v36),(39,v39),(40,.int .i64 0)]) g8 n35))
theorem mesi_System_Hear_eq (C : CT) (a0 a1 : Value) (g : G) (n : Nat) (K : Cont) : mesi_System_Hear C a0 a1 g n K = abody Tryz.prog C mesi_System_Hear_id [a0,a1] g n K := by kernel_rfl
def mesi_System_Answer (C : CT) (a0 a1 : Value) (g : G) (n : Nat) (K : Cont) : Prop:=
C mesi_System_at_id [a0,a1] g n fun v13 g1 n13 =>
kBin .ptr .eql v13 (.pointer none) fun v15 =>
kSplit v15 (
aRet K (.int .i64 1) g1 n13) (
kNil v13 fun v18 =>
kPtr v18 fun l19 o19 =>
C msg_Queue_Pop_id [(ptr l19 (o19 + 2))] g1 n13 fun v20 g2 n20 =>
kExtract v20 0 fun v21 =>
kExtract v20 1 fun v22 =>
kNew [.int .i64 0,.int .i64 0,.bool false,.bool false,.int .u64 0,.int .u64 0,.int .u64 0,.int .u64 0,.int .u64 0,.int .u64 0,.int .u64 0,.int .u64 0] .exact g2 n20 fun l6 g3 n6 =>
kAgg v21 fun cg4 =>
cg4.length = 12 ∧ kStN g3 l6 0 cg4 fun g4 =>
kUn .not v22 fun v24 =>
kSplit v24 (
aRet K (.int .i64 14) g4 n6) (
kNil a0 fun v27 =>
kPtr v27 fun l28 o28 =>
kLd g4 l28 (o28 + 8) fun v29 =>
kLd g4 l6 (0 + 1) fun v31 =>
kIndexAddr v29 v31 15 fun v32 =>
kPtr v32 fun l33 o33 =>
kLdN g4 l33 o33 15 fun c33 =>
kLdN g4 l6 0 12 fun c35 =>
(C dir_Answer_id [.agg c33.toArray,a1,.agg c35.toArray] g4 n6 fun v36 g5 n36 =>
kExtract v36 0 fun v37 =>
kExtract v36 1 fun v38 =>
kExtract v36 2 fun v39 =>
kNew [.bool false,.bool false,.int .u64 0,.int .u64 0,.int .u64 0,.int .u64 0,.int .u64 0,.int .u64 0,.int .u64 0,.int .u64 0,.int .i64 0,.int .u8 0,.int .i64 0,.int .i64 0,.int .u8 0] .exact g5 n36 fun l8 g6 n8 =>
(kPtr (ptr l28 (o28 + 8)) fun l _ => g6 l = g5 l) ∧ (kPtr (ptr l6 (0 + 1)) fun l _ => g6 l = g5 l) ∧ (kPtr v32 fun l _ => g6 l = g5 l) ∧ (kPtr (ptr l6 0) fun l _ => g6 l = g5 l) ∧ kAgg v37 fun cg7 =>
cg7.length = 15 ∧ kStN g6 l8 0 cg7 fun g7 =>
kBin .int .neq v39 (.int .i64 0) fun v41 =>
kSplit v41 (
aRet K v39 g7 n8) (
kNil a0 fun v44 =>
kPtr v44 fun l45 o45 =>
kLd g7 l45 (o45 + 8) fun v46 =>
kLd g7 l6 (0 + 1) fun v48 =>
kLdN g7 l8 0 15 fun c49 =>
kIndexAddr v46 v48 15 fun v50 =>
kPtr v50 fun lg8 og8 =>
kAgg (.agg c49.toArray) fun cg8 =>
cg8.length = 15 ∧ kStN g7 lg8 og8 cg8 fun g8 =>
kLd g8 l6 (0 + 1) fun v54 =>
C mesi_System_sends_id [a0,v38,v54] g8 n8 fun v55 g9 n55 =>
aRet K (.int .i64 0) g9 n55)) ∧ (kNew [.bool false,.bool false,.int .u64 0,.int .u64 0,.int .u64 0,.int .u64 0,.int .u64 0,.int .u64 0,.int .u64 0,.int .u64 0,.int .i64 0,.int .u8 0,.int .i64 0,.int .i64 0,.int .u8 0] .exact g4 n6 fun l8 g10 n8 =>
(kPtr (ptr l28 (o28 + 8)) fun l _ => g10 l = g4 l) ∧ (kPtr (ptr l6 (0 + 1)) fun l _ => g10 l = g4 l) ∧ (kPtr v32 fun l _ => g10 l = g4 l) ∧ (kPtr (ptr l6 0) fun l _ => g10 l = g4 l) ∧ C dir_Answer_id [.agg c33.toArray,a1,.agg c35.toArray] g10 n8 fun v36 g11 n36 =>
kExtract v36 0 fun v37 =>
kExtract v36 1 fun v38 =>
kExtract v36 2 fun v39 =>
kAgg v37 fun cg12 =>
cg12.length = 15 ∧ kStN g11 l8 0 cg12 fun g12 =>
kBin .int .neq v39 (.int .i64 0) fun v41 =>
kSplit v41 (
aRet K v39 g12 n36) (
kNil a0 fun v44 =>
kPtr v44 fun l45 o45 =>
kLd g12 l45 (o45 + 8) fun v46 =>
kLd g12 l6 (0 + 1) fun v48 =>
kLdN g12 l8 0 15 fun c49 =>
kIndexAddr v46 v48 15 fun v50 =>
kPtr v50 fun lg13 og13 =>
kAgg (.agg c49.toArray) fun cg13 =>
cg13.length = 15 ∧ kStN g12 lg13 og13 cg13 fun g13 =>
kLd g13 l6 (0 + 1) fun v54 =>
C mesi_System_sends_id [a0,v38,v54] g13 n36 fun v55 g14 n55 =>
aRet K (.int .i64 0) g14 n55))))
theorem mesi_System_Answer_eq (C : CT) (a0 a1 : Value) (g : G) (n : Nat) (K : Cont) : mesi_System_Answer C a0 a1 g n K = abody Tryz.prog C mesi_System_Answer_id [a0,a1] g n K := by kernel_rfl
def word_Good (C : CT) (a0 : Value) (g : G) (n : Nat) (K : Cont) : Prop:=
kAgg a0 fun c1 =>
kNew c1 .exact g n fun l1 g1 n1 =>
kLd g1 l1 (0 + 3) fun v5 =>
kBin .int .eql v5 (.int .i64 1) fun v6 =>
kSplit v6 (
kLd g1 l1 (0 + 0) fun v23 =>
C word_between_id [v23,.int .i64 1,.int .i64 8] g1 n1 fun v24 g2 n24 =>
kSplit v24 (
kLd g2 l1 (0 + 1) fun v27 =>
C word_between_id [v27,.int .i64 2,.int .i64 64] g2 n24 fun v28 g3 n28 =>
kSplit v28 (
kLd g3 l1 (0 + 2) fun v32 =>
kLd g3 l1 (0 + 1) fun v34 =>
kBin .int .sub v34 (.int .i64 1) fun v35 =>
C word_between_id [v32,.int .i64 1,v35] g3 n28 fun v36 g4 n36 =>
kSplit v36 (
kLd g4 l1 (0 + 4) fun v43 =>
C word_between_id [v43,.int .i64 1,.int .i64 8] g4 n36 fun v44 g5 n44 =>
kSplit v44 (
kLd g5 l1 (0 + 5) fun v48 =>
C word_between_id [v48,.int .i64 1,.int .i64 16] g5 n44 fun v49 g6 n49 =>
kSplit v49 (
kLd g6 l1 (0 + 6) fun v53 =>
C word_between_id [v53,.int .i64 1,.int .i64 16] g6 n49 fun v54 g7 n54 =>
aRet K v54 g7 n54) (
aRet K (.bool false) g6 n49)) (
aRet K (.bool false) g5 n44)) (
aRet K (.bool false) g4 n36)) (
aRet K (.bool false) g3 n28)) (
aRet K (.bool false) g2 n24)) (
kLd g1 l1 (0 + 3) fun v9 =>
kBin .int .eql v9 (.int .i64 2) fun v10 =>
kSplit v10 (
kLd g1 l1 (0 + 0) fun v23 =>
C word_between_id [v23,.int .i64 1,.int .i64 8] g1 n1 fun v24 g8 n24 =>
kSplit v24 (
kLd g8 l1 (0 + 1) fun v27 =>
C word_between_id [v27,.int .i64 2,.int .i64 64] g8 n24 fun v28 g9 n28 =>
kSplit v28 (
kLd g9 l1 (0 + 2) fun v32 =>
kLd g9 l1 (0 + 1) fun v34 =>
kBin .int .sub v34 (.int .i64 1) fun v35 =>
C word_between_id [v32,.int .i64 1,v35] g9 n28 fun v36 g10 n36 =>
kSplit v36 (
kLd g10 l1 (0 + 4) fun v43 =>
C word_between_id [v43,.int .i64 1,.int .i64 8] g10 n36 fun v44 g11 n44 =>
kSplit v44 (
kLd g11 l1 (0 + 5) fun v48 =>
C word_between_id [v48,.int .i64 1,.int .i64 16] g11 n44 fun v49 g12 n49 =>
kSplit v49 (
kLd g12 l1 (0 + 6) fun v53 =>
C word_between_id [v53,.int .i64 1,.int .i64 16] g12 n49 fun v54 g13 n54 =>
aRet K v54 g13 n54) (
aRet K (.bool false) g12 n49)) (
aRet K (.bool false) g11 n44)) (
aRet K (.bool false) g10 n36)) (
aRet K (.bool false) g9 n28)) (
aRet K (.bool false) g8 n24)) (
kLd g1 l1 (0 + 3) fun v14 =>
kBin .int .eql v14 (.int .i64 4) fun v15 =>
kSplit v15 (
kLd g1 l1 (0 + 0) fun v23 =>
C word_between_id [v23,.int .i64 1,.int .i64 8] g1 n1 fun v24 g14 n24 =>
kSplit v24 (
kLd g14 l1 (0 + 1) fun v27 =>
C word_between_id [v27,.int .i64 2,.int .i64 64] g14 n24 fun v28 g15 n28 =>
kSplit v28 (
kLd g15 l1 (0 + 2) fun v32 =>
kLd g15 l1 (0 + 1) fun v34 =>
kBin .int .sub v34 (.int .i64 1) fun v35 =>
C word_between_id [v32,.int .i64 1,v35] g15 n28 fun v36 g16 n36 =>
kSplit v36 (
kLd g16 l1 (0 + 4) fun v43 =>
C word_between_id [v43,.int .i64 1,.int .i64 8] g16 n36 fun v44 g17 n44 =>
kSplit v44 (
kLd g17 l1 (0 + 5) fun v48 =>
C word_between_id [v48,.int .i64 1,.int .i64 16] g17 n44 fun v49 g18 n49 =>
kSplit v49 (
kLd g18 l1 (0 + 6) fun v53 =>
C word_between_id [v53,.int .i64 1,.int .i64 16] g18 n49 fun v54 g19 n54 =>
aRet K v54 g19 n54) (
aRet K (.bool false) g18 n49)) (
aRet K (.bool false) g17 n44)) (
aRet K (.bool false) g16 n36)) (
aRet K (.bool false) g15 n28)) (
aRet K (.bool false) g14 n24)) (
kLd g1 l1 (0 + 3) fun v19 =>
kBin .int .eql v19 (.int .i64 8) fun v20 =>
kLd g1 l1 (0 + 0) fun v23 =>
C word_between_id [v23,.int .i64 1,.int .i64 8] g1 n1 fun v24 g20 n24 =>
kSplit v24 (
kLd g20 l1 (0 + 1) fun v27 =>
C word_between_id [v27,.int .i64 2,.int .i64 64] g20 n24 fun v28 g21 n28 =>
kSplit v28 (
kLd g21 l1 (0 + 2) fun v32 =>
kLd g21 l1 (0 + 1) fun v34 =>
kBin .int .sub v34 (.int .i64 1) fun v35 =>
C word_between_id [v32,.int .i64 1,v35] g21 n28 fun v36 g22 n36 =>
kSplit v36 (
kSplit v20 (
kLd g22 l1 (0 + 4) fun v43 =>
C word_between_id [v43,.int .i64 1,.int .i64 8] g22 n36 fun v44 g23 n44 =>
kSplit v44 (
kLd g23 l1 (0 + 5) fun v48 =>
C word_between_id [v48,.int .i64 1,.int .i64 16] g23 n44 fun v49 g24 n49 =>
kSplit v49 (
kLd g24 l1 (0 + 6) fun v53 =>
C word_between_id [v53,.int .i64 1,.int .i64 16] g24 n49 fun v54 g25 n54 =>
aRet K v54 g25 n54) (
aRet K (.bool false) g24 n49)) (
aRet K (.bool false) g23 n44)) (
aRet K (.bool false) g22 n36)) (
aRet K (.bool false) g22 n36)) (
aRet K (.bool false) g21 n28)) (
aRet K (.bool false) g20 n24))))
theorem word_Good_eq (C : CT) (a0 : Value) (g : G) (n : Nat) (K : Cont) : word_Good C a0 g n K = abody Tryz.prog C word_Good_id [a0] g n K := by kernel_rfl
def nvm_New (C : CT) (a0 a1 : Value) (g : G) (n : Nat) (K : Cont) : Prop:=
kBin .int .lss a0 (.int .i64 2) fun v7 =>
kSplit v7 (
aRet K (.tuple #[.pointer none,.int .i64 1]) g n) (
kBin .int .gtr a0 (.int .i64 64) fun v10 =>
kSplit v10 (
aRet K (.tuple #[.pointer none,.int .i64 1]) g n) (
kBin .int .lss a1 (.int .i64 1) fun v14 =>
kSplit v14 (
aRet K (.tuple #[.pointer none,.int .i64 1]) g n) (
kBin .int .sub a0 (.int .i64 1) fun v19 =>
kBin .int .gtr a1 v19 fun v20 =>
kSplit v20 (
aRet K (.tuple #[.pointer none,.int .i64 1]) g n) (
kMake a0 a0 [.int .u64 0,.int .u64 0,.int .u64 0,.int .u64 0,.int .u64 0,.int .u64 0,.int .u64 0,.int .u64 0] 64 g n fun v23 g1 n23 =>
kFill [.slice none 0 0,.int .i64 0,.int .i64 0,.int .i64 0] [(0,none,v23),(1,none,a1)] fun c25 =>
kAgg (.agg c25.toArray) fun c26 =>
kNew c26 .exact g1 n23 fun l26 g2 n26 =>
aRet K (.tuple #[ptr l26 0,.int .i64 0]) g2 n26))))
theorem nvm_New_eq (C : CT) (a0 a1 : Value) (g : G) (n : Nat) (K : Cont) : nvm_New C a0 a1 g n K = abody Tryz.prog C nvm_New_id [a0,a1] g n K := by kernel_rfl
def nvm_Device_Restore (C : CT) (a0 a1 : Value) (g : G) (n : Nat) (K : Cont) : Prop:=
kBin .ptr .eql a0 (.pointer none) fun v6 =>
kSplit v6 (
aRet K (.int .i64 1) g n) (
kLen a1 fun v9 =>
kNil a0 fun v11 =>
kPtr v11 fun l12 o12 =>
kLd g l12 (o12 + 0) fun v13 =>
kLen v13 fun v14 =>
kBin .int .neq v9 v14 fun v15 =>
kSplit v15 (
aRet K (.int .i64 1) g n) (
kNil a0 fun v18 =>
kPtr v18 fun l19 o19 =>
kLd g l19 (o19 + 0) fun v20 =>
kCopy v20 a1 8 g fun v22 g1 =>
aRet K (.int .i64 0) g1 n))
theorem nvm_Device_Restore_eq (C : CT) (a0 a1 : Value) (g : G) (n : Nat) (K : Cont) : nvm_Device_Restore C a0 a1 g n K = abody Tryz.prog C nvm_Device_Restore_id [a0,a1] g n K := by kernel_rfl
def nvm_Device_Fail (C : CT) (a0 : Value) (g : G) (n : Nat) (K : Cont) : Prop:=
kBin .ptr .neq a0 (.pointer none) fun v3 =>
kSplit v3 (
kNil a0 fun v5 =>
kPtr v5 fun l6 o6 =>
kLd g l6 (o6 + 0) fun v7 =>
kNil a0 fun v9 =>
kPtr v9 fun l10 o10 =>
kLd g l10 (o10 + 1) fun v11 =>
kSlice v7 none (some v11) none 8 fun v12 =>
kClear v12 [.int .u64 0,.int .u64 0,.int .u64 0,.int .u64 0,.int .u64 0,.int .u64 0,.int .u64 0,.int .u64 0] g fun v_ g1 =>
aRet K (.tuple #[]) g1 n) (
aRet K (.tuple #[]) g n)
theorem nvm_Device_Fail_eq (C : CT) (a0 : Value) (g : G) (n : Nat) (K : Cont) : nvm_Device_Fail C a0 g n K = abody Tryz.prog C nvm_Device_Fail_id [a0] g n K := by kernel_rfl
def wpq_New (C : CT) (a0 a1 : Value) (g : G) (n : Nat) (K : Cont) : Prop:=
kBin .ptr .eql a0 (.pointer none) fun v7 =>
kSplit v7 (
aRet K (.tuple #[.pointer none,.int .i64 1]) g n) (
kBin .int .lss a1 (.int .i64 1) fun v10 =>
kSplit v10 (
aRet K (.tuple #[.pointer none,.int .i64 1]) g n) (
kBin .int .gtr a1 (.int .i64 16) fun v14 =>
kSplit v14 (
aRet K (.tuple #[.pointer none,.int .i64 1]) g n) (
kFill [.pointer none,.int .i64 0,.slice none 0 0] [(0,none,a0),(1,none,a1)] fun c18 =>
kAgg (.agg c18.toArray) fun c19 =>
kNew c19 .exact g n fun l19 g1 n19 =>
aRet K (.tuple #[ptr l19 0,.int .i64 0]) g1 n19)))
theorem wpq_New_eq (C : CT) (a0 a1 : Value) (g : G) (n : Nat) (K : Cont) : wpq_New C a0 a1 g n K = abody Tryz.prog C wpq_New_id [a0,a1] g n K := by kernel_rfl
def mesi_System_begin_l3 (C : CT) (K : Cont) (I_l3 : ECont) (t : Env) (g : G) (n : Nat) : Prop:=
kBin .int .lss (t 57) (t 56) fun v58 =>
kSplit v58 (
kNil (t 0) fun v61 =>
kPtr v61 fun l62 o62 =>
kLd g l62 (o62 + 8) fun v63 =>
C dir_Empty_id [] g n fun v65 g7 n65 =>
(kPtr (ptr l62 (o62 + 8)) fun l _ => g7 l = g l) ∧ kIndexAddr v63 (t 57) 15 fun v66 =>
kPtr v66 fun lg8 og8 =>
kAgg v65 fun cg8 =>
cg8.length = 15 ∧ kStN g7 lg8 og8 cg8 fun g8 =>
kBin .int .add (t 57) (.int .i64 1) fun v67 =>
I_l3 (puts t [(58,v58),(59,t 57),(3,t 57),(60,t 0),(61,v61),(62,(ptr l62 (o62 + 8))),(63,v63),(64,t 57),(65,v65),(66,v66),(67,v67),(57,v67)]) g8 n65) (
aRet K (.tuple #[]) g n)
def mesi_System_begin_j2 (C : CT) (K : Cont) (t : Env) (g : G) (n : Nat) : Prop:=
kNil (t 0) fun v45 =>
kPtr v45 fun l46 o46 =>
kLd g l46 (o46 + 0 + 1) fun v48 =>
kMake v48 v48 [.bool false,.bool false,.int .u64 0,.int .u64 0,.int .u64 0,.int .u64 0,.int .u64 0,.int .u64 0,.int .u64 0,.int .u64 0,.int .i64 0,.int .u8 0,.int .i64 0,.int .i64 0,.int .u8 0] 112 g n fun v49 g5 n49 =>
kNil (t 0) fun v50 =>
kPtr v50 fun l51 o51 =>
kSt g5 l51 (o51 + 8) v49 fun g6 =>
kNil (t 0) fun v53 =>
kPtr v53 fun l54 o54 =>
kLd g6 l54 (o54 + 8) fun v55 =>
kLen v55 fun v56 =>
lfp (mesi_System_begin_l3 C K) (puts t [(43,t 0),(44,t 0),(45,v45),(46,(ptr l46 (o46 + 0))),(47,(ptr l46 (o46 + 0 + 1))),(48,v48),(49,v49),(50,v50),(51,(ptr l51 (o51 + 8))),(52,t 0),(53,v53),(54,(ptr l54 (o54 + 8))),(55,v55),(56,v56),(57,.int .i64 0)]) g6 n49
def mesi_System_begin_l1 (C : CT) (K : Cont) (I_l1 : ECont) (t : Env) (g : G) (n : Nat) : Prop:=
kBin .int .lss (t 18) (t 17) fun v19 =>
kSplit v19 (
kNil (t 0) fun v23 =>
kPtr v23 fun l24 o24 =>
kLd g l24 (o24 + 7) fun v25 =>
kNil (t 0) fun v28 =>
kPtr v28 fun l29 o29 =>
kLd g l29 (o29 + 0 + 3) fun v31 =>
kNil (t 0) fun v33 =>
kPtr v33 fun l34 o34 =>
kLd g l34 (o34 + 0 + 4) fun v36 =>
C agent_New_id [v31,v36] g n fun v37 g3 n37 =>
(kPtr (ptr l24 (o24 + 7)) fun l _ => g3 l = g l) ∧ kExtract v37 0 fun v38 =>
kExtract v37 1 fun v39 =>
kIndexAddr v25 (t 18) 4 fun v40 =>
kPtr v40 fun l41 o41 =>
kSt g3 l41 (o41 + 0) v38 fun g4 =>
kBin .int .add (t 18) (.int .i64 1) fun v42 =>
I_l1 (puts t [(19,v19),(20,t 18),(2,t 18),(22,t 0),(23,v23),(24,(ptr l24 (o24 + 7))),(25,v25),(26,t 18),(27,t 0),(28,v28),(29,(ptr l29 (o29 + 0))),(30,(ptr l29 (o29 + 0 + 3))),(31,v31),(32,t 0),(33,v33),(34,(ptr l34 (o34 + 0))),(35,(ptr l34 (o34 + 0 + 4))),(36,v36),(37,v37),(21,v37),(38,v38),(39,v39),(40,v40),(41,(ptr l41 (o41 + 0))),(42,v42),(18,v42)]) g4 n37) (
mesi_System_begin_j2 C K (puts t [(19,v19)]) g n)
def mesi_System_begin (C : CT) (a0 : Value) (g : G) (n : Nat) (K : Cont) : Prop:=
kNil a0 fun v6 =>
kPtr v6 fun l7 o7 =>
kLd g l7 (o7 + 0 + 0) fun v9 =>
kMake v9 v9 [.pointer none,.slice none 0 0,.slice none 0 0,.slice none 0 0] 80 g n fun v10 g1 n10 =>
kNil a0 fun v11 =>
kPtr v11 fun l12 o12 =>
kSt g1 l12 (o12 + 7) v10 fun g2 =>
kNil a0 fun v14 =>
kPtr v14 fun l15 o15 =>
kLd g2 l15 (o15 + 7) fun v16 =>
kLen v16 fun v17 =>
lfp (mesi_System_begin_l1 C K) (puts (args0 [a0]) [(4,a0),(5,a0),(6,v6),(7,(ptr l7 (o7 + 0))),(8,(ptr l7 (o7 + 0 + 0))),(9,v9),(10,v10),(11,v11),(12,(ptr l12 (o12 + 7))),(13,a0),(14,v14),(15,(ptr l15 (o15 + 7))),(16,v16),(17,v17),(18,.int .i64 0)]) g2 n10
theorem mesi_System_begin_eq (C : CT) (a0 : Value) (g : G) (n : Nat) (K : Cont) : mesi_System_begin C a0 g n K = abody Tryz.prog C mesi_System_begin_id [a0] g n K := by kernel_rfl
def mesi_System_at (C : CT) (a0 a1 : Value) (g : G) (n : Nat) (K : Cont) : Prop:=
kBin .ptr .eql a0 (.pointer none) fun v6 =>
kSplit v6 (
aRet K (.pointer none) g n) (
kBin .int .lss a1 (.int .i64 0) fun v9 =>
kSplit v9 (
aRet K (.pointer none) g n) (
kNil a0 fun v14 =>
kPtr v14 fun l15 o15 =>
kLd g l15 (o15 + 7) fun v16 =>
kLen v16 fun v17 =>
kBin .int .geq a1 v17 fun v18 =>
kSplit v18 (
aRet K (.pointer none) g n) (
kNil a0 fun v21 =>
kPtr v21 fun l22 o22 =>
C sync_atomic_Int64_Add_id [(ptr l22 (o22 + 10)),.int .i64 1] g n fun v23 g1 n23 =>
kNil a0 fun v25 =>
kPtr v25 fun l26 o26 =>
kLd g1 l26 (o26 + 7) fun v27 =>
kIndexAddr v27 a1 4 fun v29 =>
aRet K v29 g1 n23)))
theorem mesi_System_at_eq (C : CT) (a0 a1 : Value) (g : G) (n : Nat) (K : Cont) : mesi_System_at C a0 a1 g n K = abody Tryz.prog C mesi_System_at_id [a0,a1] g n K := by kernel_rfl
def mesi_System_line (C : CT) (a0 a1 : Value) (g : G) (n : Nat) (K : Cont) : Prop:=
kBin .ptr .neq a0 (.pointer none) fun v6 =>
kSplit v6 (
kBin .int .geq a1 (.int .i64 0) fun v9 =>
kSplit v9 (
kNil a0 fun v14 =>
kPtr v14 fun l15 o15 =>
kLd g l15 (o15 + 8) fun v16 =>
kLen v16 fun v17 =>
kBin .int .lss a1 v17 fun v18 =>
aRet K v18 g n) (
aRet K (.bool false) g n)) (
aRet K (.bool false) g n)
theorem mesi_System_line_eq (C : CT) (a0 a1 : Value) (g : G) (n : Nat) (K : Cont) : mesi_System_line C a0 a1 g n K = abody Tryz.prog C mesi_System_line_id [a0,a1] g n K := by kernel_rfl
def agent_Agent_Load_j2 (C : CT) (K : Cont) (t : Env) (g : G) (n : Nat) : Prop:=
kFill [.int .u64 0,.int .u64 0,.int .u64 0,.int .u64 0,.int .u64 0,.int .u64 0,.int .u64 0,.int .u64 0] [] fun c40 =>
C agent_Agent_ask_id [t 0,t 1,.int .i64 4,.int .i64 1,.agg c40.toArray] g n fun v41 g6 n41 =>
aRet K (.tuple #[.int .u64 0,.bool false,v41]) g6 n41
def agent_Agent_Load_j1 (C : CT) (K : Cont) (t : Env) (g : G) (n : Nat) : Prop:=
kSplit (t 23) (
kNil (t 0) fun v29 =>
kPtr v29 fun l30 o30 =>
kLd g l30 (o30 + 0) fun v31 =>
C array_Array_Touch_id [v31,t 1] g n fun v33 g5 n33 =>
kPtr (t 9) fun l35 o35 =>
kIndexArr (ptr l35 (o35 + 2)) (t 2) 8 1 fun v36 =>
kPtr v36 fun l37 o37 =>
kLd g5 l37 o37 fun v37 =>
aRet K (.tuple #[v37,.bool true,.slice none 0 0]) g5 n33) (
agent_Agent_Load_j2 C K t g n)
def agent_Agent_Load (C : CT) (a0 a1 a2 : Value) (g : G) (n : Nat) (K : Cont) : Prop:=
kBin .ptr .eql a0 (.pointer none) fun v11 =>
kSplit v11 (
aRet K (.tuple #[.int .u64 0,.bool false,.slice none 0 0]) g n) (
C agent_is_id [a1,a2] g n fun v15 g1 n15 =>
kUn .not v15 fun v16 =>
kSplit v16 (
aRet K (.tuple #[.int .u64 0,.bool false,.slice none 0 0]) g1 n15) (
C agent_Agent_find_id [a0,a1] g1 n15 fun v20 g2 n20 =>
kNew [.int .i64 0,.int .i64 0,.int .u64 0,.int .u64 0,.int .u64 0,.int .u64 0,.int .u64 0,.int .u64 0,.int .u64 0,.int .u64 0,.int .i64 0] .exact g2 n20 fun l9 g3 n9 =>
kAgg v20 fun cg4 =>
cg4.length = 11 ∧ kStN g3 l9 0 cg4 fun g4 =>
kLd g4 l9 (0 + 0) fun v22 =>
kBin .int .eql v22 (.int .i64 1) fun v24 =>
kSplit v24 (
agent_Agent_Load_j1 C K (puts (args0 [a0,a1,a2]) [(6,.int .u64 0),(7,.bool false),(8,.slice none 0 0),(10,a0),(11,v11),(12,.bool false),(13,a1),(14,a2),(15,v15),(16,v16),(17,v16),(18,a0),(19,a1),(20,v20),(9,ptr l9 0),(21,(ptr l9 (0 + 0))),(22,v22),(24,v24),(23,v24)]) g4 n9) (
kBin .int .eql v22 (.int .i64 2) fun v25 =>
kSplit v25 (
agent_Agent_Load_j1 C K (puts (args0 [a0,a1,a2]) [(6,.int .u64 0),(7,.bool false),(8,.slice none 0 0),(10,a0),(11,v11),(12,.bool false),(13,a1),(14,a2),(15,v15),(16,v16),(17,v16),(18,a0),(19,a1),(20,v20),(9,ptr l9 0),(21,(ptr l9 (0 + 0))),(22,v22),(24,v24),(23,v24),(25,v25),(23,v25)]) g4 n9) (
kBin .int .eql v22 (.int .i64 3) fun v26 =>
kSplit v26 (
agent_Agent_Load_j1 C K (puts (args0 [a0,a1,a2]) [(6,.int .u64 0),(7,.bool false),(8,.slice none 0 0),(10,a0),(11,v11),(12,.bool false),(13,a1),(14,a2),(15,v15),(16,v16),(17,v16),(18,a0),(19,a1),(20,v20),(9,ptr l9 0),(21,(ptr l9 (0 + 0))),(22,v22),(24,v24),(23,v24),(25,v25),(23,v25),(26,v26),(23,v26)]) g4 n9) (
kBin .int .eql v22 (.int .i64 6) fun v27 =>
agent_Agent_Load_j1 C K (puts (args0 [a0,a1,a2]) [(6,.int .u64 0),(7,.bool false),(8,.slice none 0 0),(10,a0),(11,v11),(12,.bool false),(13,a1),(14,a2),(15,v15),(16,v16),(17,v16),(18,a0),(19,a1),(20,v20),(9,ptr l9 0),(21,(ptr l9 (0 + 0))),(22,v22),(24,v24),(23,v24),(25,v25),(23,v25),(26,v26),(23,v26),(27,v27),(23,v27)]) g4 n9)))))
theorem agent_Agent_Load_eq (C : CT) (a0 a1 a2 : Value) (g : G) (n : Nat) (K : Cont) : agent_Agent_Load C a0 a1 a2 g n K = abody Tryz.prog C agent_Agent_Load_id [a0,a1,a2] g n K := by kernel_rfl
def mesi_node_ask_l1 (C : CT) (K : Cont) (I_l1 : ECont) (t : Env) (g : G) (n : Nat) : Prop:=
kBin .int .lss (t 8) (t 7) fun v9 =>
kSplit v9 (
kIndexAddr (t 6) (t 8) 12 fun v10 =>
kPtr v10 fun l11 o11 =>
kLdN g l11 o11 12 fun c11 =>
kNew [.int .i64 0,.int .i64 0,.bool false,.bool false,.int .u64 0,.int .u64 0,.int .u64 0,.int .u64 0,.int .u64 0,.int .u64 0,.int .u64 0,.int .u64 0] .exact g n fun l5 g1 n5 =>
kAgg (.agg c11.toArray) fun cg2 =>
cg2.length = 12 ∧ kStN g1 l5 0 cg2 fun g2 =>
kNil (t 0) fun v13 =>
kPtr v13 fun l14 o14 =>
kLdN g2 l5 0 12 fun c15 =>
C msg_Queue_Push_id [(ptr l14 (o14 + 1)),.agg c15.toArray] g2 n5 fun v16 g3 n16 =>
kBin .int .add (t 8) (.int .i64 1) fun v17 =>
I_l1 (puts t [(9,v9),(10,v10),(11,.agg c11.toArray),(5,ptr l5 0),(12,t 0),(13,v13),(14,(ptr l14 (o14 + 1))),(15,.agg c15.toArray),(16,v16),(17,v17),(8,v17)]) g3 n16) (
aRet K (.tuple #[]) g n)
def mesi_node_ask (C : CT) (a0 a1 : Value) (g : G) (n : Nat) (K : Cont) : Prop:=
kLen a1 fun v7 =>
lfp (mesi_node_ask_l1 C K) (puts (args0 [a0,a1]) [(6,a1),(7,v7),(8,.int .i64 0)]) g n
theorem mesi_node_ask_eq (C : CT) (a0 a1 : Value) (g : G) (n : Nat) (K : Cont) : mesi_node_ask C a0 a1 g n K = abody Tryz.prog C mesi_node_ask_id [a0,a1] g n K := by kernel_rfl
def mesi_System_Push (C : CT) (a0 a1 : Value) (g : G) (n : Nat) (K : Cont) : Prop:=
C mesi_System_line_id [a0,a1] g n fun v12 g1 n12 =>
kUn .not v12 fun v13 =>
kSplit v13 (
aRet K (.int .i64 1) g1 n12) (
kNil a0 fun v16 =>
kPtr v16 fun l17 o17 =>
kLd g1 l17 (o17 + 8) fun v18 =>
kIndexAddr v18 a1 15 fun v20 =>
kPtr v20 fun l21 o21 =>
kLdN g1 l21 o21 15 fun c21 =>
C dir_Ready_id [.agg c21.toArray] g1 n12 fun v22 g2 n22 =>
kUn .not v22 fun v23 =>
kSplit v23 (
aRet K (.int .i64 16) g2 n22) (
C mesi_System_write_id [a0,a1] g2 n22 fun v26 g3 n26 =>
kBin .int .neq v26 (.int .i64 0) fun v28 =>
kSplit v28 (
aRet K v26 g3 n26) (
kNil a0 fun v32 =>
kPtr v32 fun l33 o33 =>
kLd g3 l33 (o33 + 8) fun v34 =>
kIndexAddr v34 a1 15 fun v36 =>
kPtr v36 fun l37 o37 =>
kLdN g3 l37 o37 15 fun c37 =>
C dir_Pushed_id [.agg c37.toArray] g3 n26 fun v38 g4 n38 =>
kExtract v38 0 fun v39 =>
kExtract v38 1 fun v40 =>
kExtract v38 2 fun v41 =>
kNew [.bool false,.bool false,.int .u64 0,.int .u64 0,.int .u64 0,.int .u64 0,.int .u64 0,.int .u64 0,.int .u64 0,.int .u64 0,.int .i64 0,.int .u8 0,.int .i64 0,.int .i64 0,.int .u8 0] .exact g4 n38 fun l6 g5 n6 =>
kAgg v39 fun cg6 =>
cg6.length = 15 ∧ kStN g5 l6 0 cg6 fun g6 =>
kBin .int .neq v41 (.int .i64 0) fun v43 =>
kSplit v43 (
aRet K v41 g6 n6) (
kNil a0 fun v46 =>
kPtr v46 fun l47 o47 =>
kLd g6 l47 (o47 + 8) fun v48 =>
kLdN g6 l6 0 15 fun c50 =>
kIndexAddr v48 a1 15 fun v51 =>
kPtr v51 fun lg7 og7 =>
kAgg (.agg c50.toArray) fun cg7 =>
cg7.length = 15 ∧ kStN g6 lg7 og7 cg7 fun g7 =>
C mesi_System_sends_id [a0,v40,a1] g7 n6 fun v55 g8 n55 =>
aRet K (.int .i64 0) g8 n55))))
theorem mesi_System_Push_eq (C : CT) (a0 a1 : Value) (g : G) (n : Nat) (K : Cont) : mesi_System_Push C a0 a1 g n K = abody Tryz.prog C mesi_System_Push_id [a0,a1] g n K := by kernel_rfl
def mesi_System_Drain (C : CT) (a0 a1 : Value) (g : G) (n : Nat) (K : Cont) : Prop:=
C mesi_System_line_id [a0,a1] g n fun v7 g1 n7 =>
kUn .not v7 fun v8 =>
kSplit v8 (
aRet K (.int .i64 1) g1 n7) (
kNil a0 fun v10 =>
kPtr v10 fun l11 o11 =>
kLd g1 l11 (o11 + 9) fun v12 =>
C wpq_Queue_Drain_id [v12,a1] g1 n7 fun v14 g2 n14 =>
aRet K v14 g2 n14)
theorem mesi_System_Drain_eq (C : CT) (a0 a1 : Value) (g : G) (n : Nat) (K : Cont) : mesi_System_Drain C a0 a1 g n K = abody Tryz.prog C mesi_System_Drain_id [a0,a1] g n K := by kernel_rfl
def msg_Queue_Push (C : CT) (a0 a1 : Value) (g : G) (n : Nat) (K : Cont) : Prop:=
kAgg a1 fun c3 =>
kNew c3 .exact g n fun l3 g1 n3 =>
kBin .ptr .eql a0 (.pointer none) fun v7 =>
kSplit v7 (
aRet K (.int .i64 1) g1 n3) (
kLdN g1 l3 0 12 fun c9 =>
C msg_Good_id [.agg c9.toArray] g1 n3 fun v10 g2 n10 =>
kUn .not v10 fun v11 =>
kSplit v11 (
aRet K (.int .i64 11) g2 n10) (
kNil a0 fun v14 =>
kPtr v14 fun l15 o15 =>
kLd g2 l15 (o15 + 0) fun v16 =>
kLen v16 fun v17 =>
kBin .int .geq v17 (.int .i64 1000) fun v18 =>
kSplit v18 (
aRet K (.int .i64 13) g2 n10) (
kNil a0 fun v21 =>
kPtr v21 fun l22 o22 =>
kLd g2 l22 (o22 + 0) fun v23 =>
kLdN g2 l3 0 12 fun c24 =>
kFill (reps 1 [.int .i64 0,.int .i64 0,.bool false,.bool false,.int .u64 0,.int .u64 0,.int .u64 0,.int .u64 0,.int .u64 0,.int .u64 0,.int .u64 0,.int .u64 0]) [(0,some 12,.agg c24.toArray)] fun c25 =>
kNew c25 .exact g2 n10 fun l25 g3 n25 =>
(kPtr (ptr l22 (o22 + 0)) fun l _ => g3 l = g2 l) ∧ kAppend v23 (.slice (some ⟨l25,0,none⟩) 1 1) 12 88 g3 n25 fun v26 g4 n26 =>
kNil a0 fun v27 =>
kPtr v27 fun l28 o28 =>
kSt g4 l28 (o28 + 0) v26 fun g5 =>
aRet K (.int .i64 0) g5 n26)))
theorem msg_Queue_Push_eq (C : CT) (a0 a1 : Value) (g : G) (n : Nat) (K : Cont) : msg_Queue_Push C a0 a1 g n K = abody Tryz.prog C msg_Queue_Push_id [a0,a1] g n K := by kernel_rfl
def mesi_System_Reach (C : CT) (a0 a1 a2 : Value) (g : G) (n : Nat) (K : Cont) : Prop:=
C mesi_System_at_id [a0,a1] g n fun v10 g1 n10 =>
kBin .ptr .eql v10 (.pointer none) fun v12 =>
kSplit v12 (
aRet K (.bool false) g1 n10) (
C mesi_System_line_id [a0,a2] g1 n10 fun v16 g2 n16 =>
kUn .not v16 fun v17 =>
kSplit v17 (
aRet K (.bool false) g2 n16) (
kNil v10 fun v21 =>
kPtr v21 fun l22 o22 =>
kLd g2 l22 (o22 + 0) fun v23 =>
C agent_Agent_Reach_id [v23,a2] g2 n16 fun v25 g3 n25 =>
C mesi_node_ask_id [v10,v25] g3 n25 fun v26 g4 n26 =>
kNil v10 fun v28 =>
kPtr v28 fun l29 o29 =>
kLd g4 l29 (o29 + 0) fun v30 =>
C agent_Agent_Owns_id [v30,a2] g4 n26 fun v32 g5 n32 =>
aRet K v32 g5 n32))
theorem mesi_System_Reach_eq (C : CT) (a0 a1 a2 : Value) (g : G) (n : Nat) (K : Cont) : mesi_System_Reach C a0 a1 a2 g n K = abody Tryz.prog C mesi_System_Reach_id [a0,a1,a2] g n K := by kernel_rfl
def agent_Agent_Slots (C : CT) (a0 : Value) (g : G) (n : Nat) (K : Cont) : Prop:=
kBin .ptr .eql a0 (.pointer none) fun v4 =>
kSplit v4 (
aRet K (.slice none 0 0) g n) (
kNil a0 fun v6 =>
kPtr v6 fun l7 o7 =>
kLd g l7 (o7 + 0) fun v8 =>
C array_Array_Slots_id [v8] g n fun v9 g1 n9 =>
aRet K v9 g1 n9)
theorem agent_Agent_Slots_eq (C : CT) (a0 : Value) (g : G) (n : Nat) (K : Cont) : agent_Agent_Slots C a0 g n K = abody Tryz.prog C agent_Agent_Slots_id [a0] g n K := by kernel_rfl
def mesi_System_write (C : CT) (a0 a1 : Value) (g : G) (n : Nat) (K : Cont) : Prop:=
kNil a0 fun v6 =>
kPtr v6 fun l7 o7 =>
kLd g l7 (o7 + 8) fun v8 =>
kIndexAddr v8 a1 15 fun v10 =>
kPtr v10 fun l11 o11 =>
kLd g l11 (o11 + 1) fun v12 =>
kUn .not v12 fun v13 =>
kSplit v13 (
aRet K (.int .i64 0) g n) (
kNil a0 fun v15 =>
kPtr v15 fun l16 o16 =>
kLd g l16 (o16 + 9) fun v17 =>
kNil a0 fun v20 =>
kPtr v20 fun l21 o21 =>
kLd g l21 (o21 + 8) fun v22 =>
kIndexAddr v22 a1 15 fun v24 =>
kPtr v24 fun l25 o25 =>
kLdN g l25 (o25 + 2) 8 fun c26 =>
C wpq_Queue_Push_id [v17,a1,.agg c26.toArray] g n fun v27 g1 n27 =>
aRet K v27 g1 n27)
theorem mesi_System_write_eq (C : CT) (a0 a1 : Value) (g : G) (n : Nat) (K : Cont) : mesi_System_write C a0 a1 g n K = abody Tryz.prog C mesi_System_write_id [a0,a1] g n K := by kernel_rfl
def agent_Agent_Evict (C : CT) (a0 a1 : Value) (g : G) (n : Nat) (K : Cont) : Prop:=
kBin .ptr .eql a0 (.pointer none) fun v8 =>
kSplit v8 (
aRet K (.tuple #[.slice none 0 0,.int .i64 1]) g n) (
C agent_Agent_Idle_id [a0] g n fun v10 g1 n10 =>
kUn .not v10 fun v11 =>
kSplit v11 (
aRet K (.tuple #[.slice none 0 0,.int .i64 15]) g1 n10) (
C agent_Agent_find_id [a0,a1] g1 n10 fun v14 g2 n14 =>
kNew [.int .i64 0,.int .i64 0,.int .u64 0,.int .u64 0,.int .u64 0,.int .u64 0,.int .u64 0,.int .u64 0,.int .u64 0,.int .u64 0,.int .i64 0] .exact g2 n14 fun l6 g3 n6 =>
kAgg v14 fun cg4 =>
cg4.length = 11 ∧ kStN g3 l6 0 cg4 fun g4 =>
kLd g4 l6 (0 + 0) fun v16 =>
kBin .int .eql v16 (.int .i64 0) fun v17 =>
kSplit v17 (
aRet K (.tuple #[.slice none 0 0,.int .i64 14]) g4 n6) (
kLdN g4 l6 0 11 fun c19 =>
C agent_Agent_out_id [a0,.agg c19.toArray] g4 n6 fun v20 g5 n20 =>
aRet K (.tuple #[v20,.int .i64 0]) g5 n20)))
theorem agent_Agent_Evict_eq (C : CT) (a0 a1 : Value) (g : G) (n : Nat) (K : Cont) : agent_Agent_Evict C a0 a1 g n K = abody Tryz.prog C agent_Agent_Evict_id [a0,a1] g n K := by kernel_rfl
def wpq_Queue_Fail_j2 (C : CT) (K : Cont) (t : Env) (g : G) (n : Nat) : Prop:=
kNil (t 0) fun v26 =>
kPtr v26 fun l27 o27 =>
kLd g l27 (o27 + 2) fun v28 =>
kClear v28 [.int .i64 0,.int .u64 0,.int .u64 0,.int .u64 0,.int .u64 0,.int .u64 0,.int .u64 0,.int .u64 0,.int .u64 0] g fun v_ g4 =>
kNil (t 0) fun v31 =>
kPtr v31 fun l32 o32 =>
kLd g4 l32 (o32 + 2) fun v33 =>
kSlice v33 none (some (.int .i64 0)) none 9 fun v34 =>
kNil (t 0) fun v35 =>
kPtr v35 fun l36 o36 =>
kSt g4 l36 (o36 + 2) v34 fun g5 =>
kNil (t 0) fun v38 =>
kPtr v38 fun l39 o39 =>
kLd g5 l39 (o39 + 0) fun v40 =>
C nvm_Device_Fail_id [v40] g5 n fun v41 g6 n41 =>
aRet K (.tuple #[]) g6 n41
def wpq_Queue_Fail_l1 (C : CT) (K : Cont) (I_l1 : ECont) (t : Env) (g : G) (n : Nat) : Prop:=
kBin .int .lss (t 11) (t 10) fun v12 =>
kSplit v12 (
kIndexAddr (t 9) (t 11) 9 fun v13 =>
kPtr v13 fun l14 o14 =>
kLdN g l14 o14 9 fun c14 =>
kNew [.int .i64 0,.int .u64 0,.int .u64 0,.int .u64 0,.int .u64 0,.int .u64 0,.int .u64 0,.int .u64 0,.int .u64 0] .exact g n fun l3 g1 n3 =>
kAgg (.agg c14.toArray) fun cg2 =>
cg2.length = 9 ∧ kStN g1 l3 0 cg2 fun g2 =>
kNil (t 0) fun v16 =>
kPtr v16 fun l17 o17 =>
kLd g2 l17 (o17 + 0) fun v18 =>
kLd g2 l3 (0 + 0) fun v20 =>
kLdN g2 l3 (0 + 1) 8 fun c22 =>
C nvm_Device_Write_id [v18,v20,.agg c22.toArray] g2 n3 fun v23 g3 n23 =>
kBin .int .add (t 11) (.int .i64 1) fun v24 =>
I_l1 (puts t [(12,v12),(13,v13),(14,.agg c14.toArray),(3,ptr l3 0),(15,t 0),(16,v16),(17,(ptr l17 (o17 + 0))),(18,v18),(19,(ptr l3 (0 + 0))),(20,v20),(21,(ptr l3 (0 + 1))),(22,.agg c22.toArray),(23,v23),(24,v24),(11,v24)]) g3 n23) (
wpq_Queue_Fail_j2 C K (puts t [(12,v12)]) g n)
def wpq_Queue_Fail (C : CT) (a0 : Value) (g : G) (n : Nat) (K : Cont) : Prop:=
kBin .ptr .eql a0 (.pointer none) fun v5 =>
kSplit v5 (
aRet K (.tuple #[]) g n) (
kNil a0 fun v7 =>
kPtr v7 fun l8 o8 =>
kLd g l8 (o8 + 2) fun v9 =>
kLen v9 fun v10 =>
lfp (wpq_Queue_Fail_l1 C K) (puts (args0 [a0]) [(4,a0),(5,v5),(6,a0),(7,v7),(8,(ptr l8 (o8 + 2))),(9,v9),(10,v10),(11,.int .i64 0)]) g n)
theorem wpq_Queue_Fail_eq (C : CT) (a0 : Value) (g : G) (n : Nat) (K : Cont) : wpq_Queue_Fail C a0 g n K = abody Tryz.prog C wpq_Queue_Fail_id [a0] g n K := by kernel_rfl
def agent_Agent_Store (C : CT) (a0 a1 a2 a3 : Value) (g : G) (n : Nat) (K : Cont) : Prop:=
kBin .ptr .eql a0 (.pointer none) fun v12 =>
kSplit v12 (
aRet K (.tuple #[.bool false,.slice none 0 0]) g n) (
C agent_is_id [a1,a2] g n fun v16 g1 n16 =>
kUn .not v16 fun v17 =>
kSplit v17 (
aRet K (.tuple #[.bool false,.slice none 0 0]) g1 n16) (
C agent_Agent_Owns_id [a0,a1] g1 n16 fun v21 g2 n21 =>
kUn .not v21 fun v22 =>
kSplit v22 (
C agent_Agent_Reach_id [a0,a1] g2 n21 fun v25 g3 n25 =>
aRet K (.tuple #[.bool false,v25]) g3 n25) (
C agent_Agent_find_id [a0,a1] g2 n21 fun v28 g4 n28 =>
kNew [.int .i64 0,.int .i64 0,.int .u64 0,.int .u64 0,.int .u64 0,.int .u64 0,.int .u64 0,.int .u64 0,.int .u64 0,.int .u64 0,.int .i64 0] .exact g4 n28 fun l10 g5 n10 =>
kAgg v28 fun cg6 =>
cg6.length = 11 ∧ kStN g5 l10 0 cg6 fun g6 =>
kIndexArr (ptr l10 (0 + 2)) a2 8 1 fun v32 =>
kPtr v32 fun lg7 og7 =>
kSt g6 lg7 og7 a3 fun g7 =>
kNil a0 fun v34 =>
kPtr v34 fun l35 o35 =>
kLd g7 l35 (o35 + 0) fun v36 =>
kLdN g7 l10 (0 + 2) 8 fun c39 =>
C array_Array_Set_id [v36,a1,.int .i64 3,.agg c39.toArray] g7 n10 fun v40 g8 n40 =>
aRet K (.tuple #[.bool true,.slice none 0 0]) g8 n40)))
theorem agent_Agent_Store_eq (C : CT) (a0 a1 a2 a3 : Value) (g : G) (n : Nat) (K : Cont) : agent_Agent_Store C a0 a1 a2 a3 g n K = abody Tryz.prog C agent_Agent_Store_id [a0,a1,a2,a3] g n K := by kernel_rfl
def msg_Queue_Head (C : CT) (a0 : Value) (g : G) (n : Nat) (K : Cont) : Prop:=
kNew [.int .i64 0,.int .i64 0,.bool false,.bool false,.int .u64 0,.int .u64 0,.int .u64 0,.int .u64 0,.int .u64 0,.int .u64 0,.int .u64 0,.int .u64 0] .exact g n fun l2 g1 n2 =>
C msg_Queue_Len_id [a0] g1 n2 fun v5 g2 n5 =>
kBin .int .eql v5 (.int .i64 0) fun v6 =>
kSplit v6 (
kFill [.int .i64 0,.int .i64 0,.bool false,.bool false,.int .u64 0,.int .u64 0,.int .u64 0,.int .u64 0,.int .u64 0,.int .u64 0,.int .u64 0,.int .u64 0] [] fun c7 =>
kAgg (.agg c7.toArray) fun cg3 =>
cg3.length = 12 ∧ kStN g2 l2 0 cg3 fun g3 =>
kLdN g3 l2 0 12 fun r0 =>
aRet K (.tuple #[.agg r0.toArray,.bool false]) g3 n5) (
kNil a0 fun v9 =>
kPtr v9 fun l10 o10 =>
kLd g2 l10 (o10 + 0) fun v11 =>
kIndexAddr v11 (.int .i64 0) 12 fun v12 =>
kPtr v12 fun l13 o13 =>
kLdN g2 l13 o13 12 fun c13 =>
kAgg (.agg c13.toArray) fun cg4 =>
cg4.length = 12 ∧ kStN g2 l2 0 cg4 fun g4 =>
kLdN g4 l2 0 12 fun r0 =>
aRet K (.tuple #[.agg r0.toArray,.bool true]) g4 n5)
theorem msg_Queue_Head_eq (C : CT) (a0 : Value) (g : G) (n : Nat) (K : Cont) : msg_Queue_Head C a0 g n K = abody Tryz.prog C msg_Queue_Head_id [a0] g n K := by kernel_rfl
def mesi_System_here (C : CT) (a0 a1 : Value) (g : G) (n : Nat) (K : Cont) : Prop:=
kNil a0 fun v6 =>
kPtr v6 fun l7 o7 =>
kLd g l7 (o7 + 8) fun v8 =>
kIndexAddr v8 a1 15 fun v10 =>
kNil v10 fun v12 =>
kPtr v12 fun l13 o13 =>
kLd g l13 (o13 + 0) fun v14 =>
kUn .not v14 fun v15 =>
kSplit v15 (
kNil a0 fun v19 =>
kPtr v19 fun l20 o20 =>
kLd g l20 (o20 + 9) fun v21 =>
C wpq_Queue_Read_id [v21,a1] g n fun v23 g1 n23 =>
kExtract v23 0 fun v24 =>
kExtract v23 1 fun v25 =>
kNil v10 fun v26 =>
kPtr v26 fun l27 o27 =>
kAgg v24 fun cg2 =>
cg2.length = 8 ∧ kStN g1 l27 (o27 + 2) cg2 fun g2 =>
kNil v10 fun v29 =>
kPtr v29 fun l30 o30 =>
kSt g2 l30 (o30 + 0) (.bool true) fun g3 =>
aRet K (.tuple #[]) g3 n23) (
aRet K (.tuple #[]) g n)
theorem mesi_System_here_eq (C : CT) (a0 a1 : Value) (g : G) (n : Nat) (K : Cont) : mesi_System_here C a0 a1 g n K = abody Tryz.prog C mesi_System_here_id [a0,a1] g n K := by kernel_rfl
def dir_Ask (C : CT) (a0 a1 a2 : Value) (g : G) (n : Nat) (K : Cont) : Prop:=
kAgg a0 fun c3 =>
kNew c3 .exact g n fun l3 g1 n3 =>
kAgg a2 fun c5 =>
kNew c5 .exact g1 n3 fun l5 g2 n5 =>
kNew [.bool false,.bool false,.int .u64 0,.int .u64 0,.int .u64 0,.int .u64 0,.int .u64 0,.int .u64 0,.int .u64 0,.int .u64 0,.int .i64 0,.int .u8 0,.int .i64 0,.int .i64 0,.int .u8 0] .exact g2 n5 fun l6 g3 n6 =>
kLdN g3 l3 0 15 fun c11 =>
C dir_Good_id [.agg c11.toArray] g3 n6 fun v12 g4 n12 =>
kUn .not v12 fun v13 =>
kSplit v13 (
kFill [.bool false,.bool false,.int .u64 0,.int .u64 0,.int .u64 0,.int .u64 0,.int .u64 0,.int .u64 0,.int .u64 0,.int .u64 0,.int .i64 0,.int .u8 0,.int .i64 0,.int .i64 0,.int .u8 0] [] fun c30 =>
kAgg (.agg c30.toArray) fun cg5 =>
cg5.length = 15 ∧ kStN g4 l6 0 cg5 fun g5 =>
kLdN g5 l6 0 15 fun r0 =>
aRet K (.tuple #[.agg r0.toArray,.slice none 0 0,.int .i64 1]) g5 n12) (
C dir_core_id [a1] g4 n12 fun v16 g6 n16 =>
kUn .not v16 fun v17 =>
kSplit v17 (
kFill [.bool false,.bool false,.int .u64 0,.int .u64 0,.int .u64 0,.int .u64 0,.int .u64 0,.int .u64 0,.int .u64 0,.int .u64 0,.int .i64 0,.int .u8 0,.int .i64 0,.int .i64 0,.int .u8 0] [] fun c30 =>
kAgg (.agg c30.toArray) fun cg7 =>
cg7.length = 15 ∧ kStN g6 l6 0 cg7 fun g7 =>
kLdN g7 l6 0 15 fun r0 =>
aRet K (.tuple #[.agg r0.toArray,.slice none 0 0,.int .i64 1]) g7 n16) (
kLdN g6 l5 0 12 fun c20 =>
C msg_Good_id [.agg c20.toArray] g6 n16 fun v21 g8 n21 =>
kUn .not v21 fun v22 =>
kSplit v22 (
kFill [.bool false,.bool false,.int .u64 0,.int .u64 0,.int .u64 0,.int .u64 0,.int .u64 0,.int .u64 0,.int .u64 0,.int .u64 0,.int .i64 0,.int .u8 0,.int .i64 0,.int .i64 0,.int .u8 0] [] fun c30 =>
kAgg (.agg c30.toArray) fun cg9 =>
cg9.length = 15 ∧ kStN g8 l6 0 cg9 fun g9 =>
kLdN g9 l6 0 15 fun r0 =>
aRet K (.tuple #[.agg r0.toArray,.slice none 0 0,.int .i64 1]) g9 n21) (
kLd g8 l5 (0 + 0) fun v26 =>
C msg_Asks_id [v26] g8 n21 fun v27 g10 n27 =>
kUn .not v27 fun v28 =>
kSplit v28 (
kFill [.bool false,.bool false,.int .u64 0,.int .u64 0,.int .u64 0,.int .u64 0,.int .u64 0,.int .u64 0,.int .u64 0,.int .u64 0,.int .i64 0,.int .u8 0,.int .i64 0,.int .i64 0,.int .u8 0] [] fun c30 =>
kAgg (.agg c30.toArray) fun cg11 =>
cg11.length = 15 ∧ kStN g10 l6 0 cg11 fun g11 =>
kLdN g11 l6 0 15 fun r0 =>
aRet K (.tuple #[.agg r0.toArray,.slice none 0 0,.int .i64 1]) g11 n27) (
kLd g10 l3 (0 + 12) fun v33 =>
kBin .int .neq v33 (.int .i64 0) fun v34 =>
kSplit v34 (
kFill [.bool false,.bool false,.int .u64 0,.int .u64 0,.int .u64 0,.int .u64 0,.int .u64 0,.int .u64 0,.int .u64 0,.int .u64 0,.int .i64 0,.int .u8 0,.int .i64 0,.int .i64 0,.int .u8 0] [] fun c35 =>
kAgg (.agg c35.toArray) fun cg12 =>
cg12.length = 15 ∧ kStN g10 l6 0 cg12 fun g12 =>
kLdN g12 l6 0 15 fun r0 =>
aRet K (.tuple #[.agg r0.toArray,.slice none 0 0,.int .i64 15]) g12 n27) (
kLd g10 l3 (0 + 0) fun v38 =>
kUn .not v38 fun v39 =>
kSplit v39 (
kFill [.bool false,.bool false,.int .u64 0,.int .u64 0,.int .u64 0,.int .u64 0,.int .u64 0,.int .u64 0,.int .u64 0,.int .u64 0,.int .i64 0,.int .u8 0,.int .i64 0,.int .i64 0,.int .u8 0] [] fun c40 =>
kAgg (.agg c40.toArray) fun cg13 =>
cg13.length = 15 ∧ kStN g10 l6 0 cg13 fun g13 =>
kLdN g13 l6 0 15 fun r0 =>
aRet K (.tuple #[.agg r0.toArray,.slice none 0 0,.int .i64 16]) g13 n27) (
kLdN g10 l3 0 15 fun c41 =>
kLd g10 l5 (0 + 1) fun v43 =>
kFill [.bool false,.bool false,.int .u64 0,.int .u64 0,.int .u64 0,.int .u64 0,.int .u64 0,.int .u64 0,.int .u64 0,.int .u64 0,.int .i64 0,.int .u8 0,.int .i64 0,.int .i64 0,.int .u8 0,.int .i64 0,.slice none 0 0] [(0,some 15,.agg c41.toArray),(15,none,v43)] fun c44 =>
kAgg (.agg c44.toArray) fun c45 =>
kNew c45 .exact g10 n27 fun l45 g14 n45 =>
kLd g14 l5 (0 + 0) fun v48 =>
kLdN g14 l5 0 12 fun c52 =>
C dir_asks_id [] g14 n45 fun v46 g15 n46 =>
(kPtr (ptr l5 (0 + 0)) fun l _ => g15 l = g14 l) ∧ (kPtr (ptr l5 0) fun l _ => g15 l = g14 l) ∧ kIdx v46 v48 6 1 none fun v49 =>
kCall C v49 [ptr l45 0,a1,.agg c52.toArray] g15 n46 fun v53 g16 n53 =>
kLdN g16 l45 (0 + 0) 15 fun c57 =>
kLd g16 l45 (0 + 16) fun v61 =>
kAgg (.agg c57.toArray) fun cg17 =>
cg17.length = 15 ∧ kStN g16 l6 0 cg17 fun g17 =>
(kPtr (ptr l45 (0 + 16)) fun l _ => g17 l = g16 l) ∧ kLdN g17 l6 0 15 fun r0 =>
aRet K (.tuple #[.agg r0.toArray,v61,.int .i64 0]) g17 n53))))))
theorem dir_Ask_eq (C : CT) (a0 a1 a2 : Value) (g : G) (n : Nat) (K : Cont) : dir_Ask C a0 a1 a2 g n K = abody Tryz.prog C dir_Ask_id [a0,a1,a2] g n K := by kernel_rfl
def msg_Queue_Pop_j1 (C : CT) (K : Cont) (t : Env) (g : G) (n : Nat) : Prop:=
kPtr (t 4) fun l20 o20 =>
kLdN g l20 o20 12 fun c20 =>
kPtr (t 2) fun lg6 og6 =>
kAgg (.agg c20.toArray) fun cg6 =>
cg6.length = 12 ∧ kStN g lg6 og6 cg6 fun g6 =>
kPtr (t 2) fun lr0 or0 =>
kLdN g6 lr0 or0 12 fun r0 =>
aRet K (.tuple #[.agg r0.toArray,t 5]) g6 n
def msg_Queue_Pop (C : CT) (a0 : Value) (g : G) (n : Nat) (K : Cont) : Prop:=
kNew [.int .i64 0,.int .i64 0,.bool false,.bool false,.int .u64 0,.int .u64 0,.int .u64 0,.int .u64 0,.int .u64 0,.int .u64 0,.int .u64 0,.int .u64 0] .exact g n fun l2 g1 n2 =>
C msg_Queue_Head_id [a0] g1 n2 fun v8 g2 n8 =>
kExtract v8 0 fun v9 =>
kExtract v8 1 fun v10 =>
kNew [.int .i64 0,.int .i64 0,.bool false,.bool false,.int .u64 0,.int .u64 0,.int .u64 0,.int .u64 0,.int .u64 0,.int .u64 0,.int .u64 0,.int .u64 0] .exact g2 n8 fun l4 g3 n4 =>
kAgg v9 fun cg4 =>
cg4.length = 12 ∧ kStN g3 l4 0 cg4 fun g4 =>
kSplit v10 (
kNil a0 fun v14 =>
kPtr v14 fun l15 o15 =>
kLd g4 l15 (o15 + 0) fun v16 =>
kSlice v16 (some (.int .i64 1)) none none 12 fun v17 =>
kNil a0 fun v18 =>
kPtr v18 fun l19 o19 =>
kSt g4 l19 (o19 + 0) v17 fun g5 =>
msg_Queue_Pop_j1 C K (puts (args0 [a0]) [(2,ptr l2 0),(3,.bool false),(7,a0),(8,v8),(6,v8),(9,v9),(10,v10),(4,ptr l4 0),(5,v10),(11,v10),(12,a0),(13,a0),(14,v14),(15,(ptr l15 (o15 + 0))),(16,v16),(17,v17),(18,v18),(19,(ptr l19 (o19 + 0)))]) g5 n4) (
msg_Queue_Pop_j1 C K (puts (args0 [a0]) [(2,ptr l2 0),(3,.bool false),(7,a0),(8,v8),(6,v8),(9,v9),(10,v10),(4,ptr l4 0),(5,v10),(11,v10)]) g4 n4)
theorem msg_Queue_Pop_eq (C : CT) (a0 : Value) (g : G) (n : Nat) (K : Cont) : msg_Queue_Pop C a0 g n K = abody Tryz.prog C msg_Queue_Pop_id [a0] g n K := by kernel_rfl
def mesi_System_sends_l1 (C : CT) (K : Cont) (I_l1 : ECont) (t : Env) (g : G) (n : Nat) : Prop:=
kBin .int .lss (t 11) (t 10) fun v12 =>
kSplit v12 (
kIndexAddr (t 9) (t 11) 13 fun v13 =>
kPtr v13 fun l14 o14 =>
kLdN g l14 o14 13 fun c14 =>
kNew [.int .i64 0,.int .i64 0,.int .i64 0,.bool false,.bool false,.int .u64 0,.int .u64 0,.int .u64 0,.int .u64 0,.int .u64 0,.int .u64 0,.int .u64 0,.int .u64 0] .exact g n fun l7 g1 n7 =>
kAgg (.agg c14.toArray) fun cg2 =>
cg2.length = 13 ∧ kStN g1 l7 0 cg2 fun g2 =>
kSt g2 l7 (0 + 1 + 1) (t 2) fun g3 =>
kLd g3 l7 (0 + 0) fun v20 =>
C mesi_System_at_id [t 0,v20] g3 n7 fun v21 g4 n21 =>
kBin .ptr .neq v21 (.pointer none) fun v23 =>
kSplit v23 (
kNil v21 fun v25 =>
kPtr v25 fun l26 o26 =>
kLdN g4 l7 (0 + 1) 12 fun c28 =>
C msg_Queue_Push_id [(ptr l26 (o26 + 3)),.agg c28.toArray] g4 n21 fun v29 g5 n29 =>
kBin .int .add (t 11) (.int .i64 1) fun v30 =>
I_l1 (puts t [(12,v12),(13,v13),(14,.agg c14.toArray),(7,ptr l7 0),(15,t 2),(16,(ptr l7 (0 + 1))),(17,(ptr l7 (0 + 1 + 1))),(18,t 0),(19,(ptr l7 (0 + 0))),(20,v20),(21,v21),(8,v21),(22,v21),(23,v23),(24,v21),(25,v25),(26,(ptr l26 (o26 + 3))),(27,(ptr l7 (0 + 1))),(28,.agg c28.toArray),(29,v29),(30,v30),(11,v30)]) g5 n29) (
kBin .int .add (t 11) (.int .i64 1) fun v30 =>
I_l1 (puts t [(12,v12),(13,v13),(14,.agg c14.toArray),(7,ptr l7 0),(15,t 2),(16,(ptr l7 (0 + 1))),(17,(ptr l7 (0 + 1 + 1))),(18,t 0),(19,(ptr l7 (0 + 0))),(20,v20),(21,v21),(8,v21),(22,v21),(23,v23),(30,v30),(11,v30)]) g4 n21)) (
aRet K (.tuple #[]) g n)
def mesi_System_sends (C : CT) (a0 a1 a2 : Value) (g : G) (n : Nat) (K : Cont) : Prop:=
kLen a1 fun v10 =>
lfp (mesi_System_sends_l1 C K) (puts (args0 [a0,a1,a2]) [(9,a1),(10,v10),(11,.int .i64 0)]) g n
theorem mesi_System_sends_eq (C : CT) (a0 a1 a2 : Value) (g : G) (n : Nat) (K : Cont) : mesi_System_sends C a0 a1 a2 g n K = abody Tryz.prog C mesi_System_sends_id [a0,a1,a2] g n K := by kernel_rfl
def agent_Agent_Hear_j4 (C : CT) (K : Cont) (t : Env) (g : G) (n : Nat) : Prop:=
kNil (t 0) fun v66 =>
kPtr v66 fun l67 o67 =>
kLd g l67 (o67 + 0) fun v68 =>
kPtr (t 3) fun l69 o69 =>
kLd g l69 (o69 + 1) fun v70 =>
kPtr (t 8) fun l72 o72 =>
kLdN g l72 o72 8 fun c72 =>
C array_Array_Set_id [v68,v70,t 7,.agg c72.toArray] g n fun v73 g14 n73 =>
kPtr (t 3) fun l74 o74 =>
kLdN g14 l74 o74 12 fun c74 =>
kPtr (t 6) fun l75 o75 =>
kLdN g14 l75 o75 11 fun c75 =>
C agent_answer_id [.agg c74.toArray,.agg c75.toArray,t 7] g14 n73 fun v77 g15 n77 =>
aRet K (.tuple #[v77,.int .i64 0]) g15 n77
def agent_Agent_Hear_j3 (C : CT) (K : Cont) (t : Env) (g : G) (n : Nat) : Prop:=
kSplit (t 59) (
kPtr (t 3) fun l63 o63 =>
kLdN g l63 (o63 + 4) 8 fun c64 =>
kPtr (t 8) fun lg13 og13 =>
kAgg (.agg c64.toArray) fun cg13 =>
cg13.length = 8 ∧ kStN g lg13 og13 cg13 fun g13 =>
agent_Agent_Hear_j4 C K (puts t [(63,(ptr l63 (o63 + 4))),(64,.agg c64.toArray)]) g13 n) (
agent_Agent_Hear_j4 C K t g n)
def agent_Agent_Hear_j2 (C : CT) (K : Cont) (t : Env) (g : G) (n : Nat) : Prop:=
kPtr (t 3) fun l57 o57 =>
kLd g l57 (o57 + 0) fun v58 =>
kBin .int .eql v58 (.int .i64 8) fun v60 =>
kSplit v60 (
agent_Agent_Hear_j3 C K (puts t [(57,(ptr l57 (o57 + 0))),(58,v58),(60,v60),(59,v60)]) g n) (
kBin .int .eql v58 (.int .i64 9) fun v61 =>
kSplit v61 (
agent_Agent_Hear_j3 C K (puts t [(57,(ptr l57 (o57 + 0))),(58,v58),(60,v60),(59,v60),(61,v61),(59,v61)]) g n) (
kBin .int .eql v58 (.int .i64 10) fun v62 =>
agent_Agent_Hear_j3 C K (puts t [(57,(ptr l57 (o57 + 0))),(58,v58),(60,v60),(59,v60),(61,v61),(59,v61),(62,v62),(59,v62)]) g n))
def agent_Agent_Hear_j1 (C : CT) (K : Cont) (t : Env) (g : G) (n : Nat) : Prop:=
kSplit (t 53) (
kFill [.int .u64 0,.int .u64 0,.int .u64 0,.int .u64 0,.int .u64 0,.int .u64 0,.int .u64 0,.int .u64 0] [] fun c56 =>
kPtr (t 8) fun lg12 og12 =>
kAgg (.agg c56.toArray) fun cg12 =>
cg12.length = 8 ∧ kStN g lg12 og12 cg12 fun g12 =>
agent_Agent_Hear_j2 C K (puts t [(56,.agg c56.toArray)]) g12 n) (
agent_Agent_Hear_j2 C K t g n)
def agent_Agent_Hear (C : CT) (a0 a1 : Value) (g : G) (n : Nat) (K : Cont) : Prop:=
kAgg a1 fun c3 =>
kNew c3 .exact g n fun l3 g1 n3 =>
kBin .ptr .eql a0 (.pointer none) fun v10 =>
kSplit v10 (
aRet K (.tuple #[.slice none 0 0,.int .i64 1]) g1 n3) (
kLdN g1 l3 0 12 fun c12 =>
C msg_Good_id [.agg c12.toArray] g1 n3 fun v13 g2 n13 =>
kUn .not v13 fun v14 =>
kSplit v14 (
aRet K (.tuple #[.slice none 0 0,.int .i64 1]) g2 n13) (
kLd g2 l3 (0 + 0) fun v18 =>
C msg_Tells_id [v18] g2 n13 fun v19 g3 n19 =>
kUn .not v19 fun v20 =>
kSplit v20 (
aRet K (.tuple #[.slice none 0 0,.int .i64 1]) g3 n19) (
kLd g3 l3 (0 + 1) fun v24 =>
C agent_Agent_find_id [a0,v24] g3 n19 fun v25 g4 n25 =>
kNew [.int .i64 0,.int .i64 0,.int .u64 0,.int .u64 0,.int .u64 0,.int .u64 0,.int .u64 0,.int .u64 0,.int .u64 0,.int .u64 0,.int .i64 0] .exact g4 n25 fun l6 g5 n6 =>
kAgg v25 fun cg6 =>
cg6.length = 11 ∧ kStN g5 l6 0 cg6 fun g6 =>
kLd g6 l3 (0 + 0) fun v28 =>
kLd g6 l6 (0 + 0) fun v31 =>
C agent_turns_id [] g6 n6 fun v26 g7 n26 =>
(kPtr (ptr l3 (0 + 0)) fun l _ => g7 l = g6 l) ∧ (kPtr (ptr l6 (0 + 0)) fun l _ => g7 l = g6 l) ∧ kIdx v26 v28 15 10 (some 10) fun v29 =>
kIdx v29 v31 10 1 none fun v32 =>
kLdN g7 l6 (0 + 2) 8 fun c34 =>
kNew [.int .u64 0,.int .u64 0,.int .u64 0,.int .u64 0,.int .u64 0,.int .u64 0,.int .u64 0,.int .u64 0] .exact g7 n26 fun l8 g8 n8 =>
kAgg (.agg c34.toArray) fun cg9 =>
cg9.length = 8 ∧ kStN g8 l8 0 cg9 fun g9 =>
kBin .int .eql v32 (.int .i64 (-1)) fun v37 =>
kSplit v37 (
aRet K (.tuple #[.slice none 0 0,.int .i64 16]) g9 n8) (
kBin .int .eql v32 (.int .i64 (-2)) fun v39 =>
kSplit v39 (
aRet K (.tuple #[.slice none 0 0,.int .i64 0]) g9 n8) (
kBin .int .eql v32 (.int .i64 0) fun v41 =>
kSplit v41 (
kNil a0 fun v43 =>
kPtr v43 fun l44 o44 =>
kLd g9 l44 (o44 + 0) fun v45 =>
kLd g9 l3 (0 + 1) fun v47 =>
C array_Array_Drop_id [v45,v47] g9 n8 fun v48 g10 n48 =>
kLdN g10 l3 0 12 fun c49 =>
kLdN g10 l6 0 11 fun c50 =>
C agent_answer_id [.agg c49.toArray,.agg c50.toArray,v32] g10 n48 fun v52 g11 n52 =>
aRet K (.tuple #[v52,.int .i64 0]) g11 n52) (
kBin .int .eql v32 (.int .i64 5) fun v54 =>
kSplit v54 (
agent_Agent_Hear_j1 C K (puts (args0 [a0,a1]) [(3,ptr l3 0),(4,.slice none 0 0),(5,.int .i64 0),(9,a0),(10,v10),(11,.bool false),(12,.agg c12.toArray),(13,v13),(14,v14),(15,v14),(16,.bool false),(17,(ptr l3 (0 + 0))),(18,v18),(19,v19),(20,v20),(21,v20),(22,a0),(23,(ptr l3 (0 + 1))),(24,v24),(25,v25),(6,ptr l6 0),(27,(ptr l3 (0 + 0))),(28,v28),(30,(ptr l6 (0 + 0))),(31,v31),(26,v26),(29,v29),(32,v32),(7,v32),(33,(ptr l6 (0 + 2))),(34,.agg c34.toArray),(8,ptr l8 0),(35,v32),(37,v37),(36,v37),(39,v39),(38,v39),(41,v41),(40,v41),(54,v54),(53,v54)]) g9 n8) (
kBin .int .eql v32 (.int .i64 8) fun v55 =>
agent_Agent_Hear_j1 C K (puts (args0 [a0,a1]) [(3,ptr l3 0),(4,.slice none 0 0),(5,.int .i64 0),(9,a0),(10,v10),(11,.bool false),(12,.agg c12.toArray),(13,v13),(14,v14),(15,v14),(16,.bool false),(17,(ptr l3 (0 + 0))),(18,v18),(19,v19),(20,v20),(21,v20),(22,a0),(23,(ptr l3 (0 + 1))),(24,v24),(25,v25),(6,ptr l6 0),(27,(ptr l3 (0 + 0))),(28,v28),(30,(ptr l6 (0 + 0))),(31,v31),(26,v26),(29,v29),(32,v32),(7,v32),(33,(ptr l6 (0 + 2))),(34,.agg c34.toArray),(8,ptr l8 0),(35,v32),(37,v37),(36,v37),(39,v39),(38,v39),(41,v41),(40,v41),(54,v54),(53,v54),(55,v55),(53,v55)]) g9 n8)))))))
theorem agent_Agent_Hear_eq (C : CT) (a0 a1 : Value) (g : G) (n : Nat) (K : Cont) : agent_Agent_Hear C a0 a1 g n K = abody Tryz.prog C agent_Agent_Hear_id [a0,a1] g n K := by kernel_rfl
def dir_Answer_j3 (C : CT) (K : Cont) (t : Env) (g : G) (n : Nat) : Prop:=
kNil (t 9) fun v133 =>
kPtr v133 fun l134 o134 =>
kLdN g l134 (o134 + 0) 15 fun c135 =>
kNil (t 9) fun v137 =>
kPtr v137 fun l138 o138 =>
kLd g l138 (o138 + 16) fun v139 =>
kPtr (t 6) fun lg27 og27 =>
kAgg (.agg c135.toArray) fun cg27 =>
cg27.length = 15 ∧ kStN g lg27 og27 cg27 fun g27 =>
(kPtr (ptr l138 (o138 + 16)) fun l _ => g27 l = g l) ∧ kPtr (t 6) fun lr0 or0 =>
kLdN g27 lr0 or0 15 fun r0 =>
aRet K (.tuple #[.agg r0.toArray,v139,.int .i64 0]) g27 n
def dir_Answer_j2 (C : CT) (K : Cont) (t : Env) (g : G) (n : Nat) : Prop:=
kNil (t 9) fun v99 =>
kPtr v99 fun l100 o100 =>
kLd g l100 (o100 + 0 + 14) fun v102 =>
kBin .int .neq v102 (.int .u8 0) fun v103 =>
kSplit v103 (
kNil (t 9) fun v105 =>
kPtr v105 fun l106 o106 =>
kLdN g l106 (o106 + 0) 15 fun c107 =>
kPtr (t 6) fun lg24 og24 =>
kAgg (.agg c107.toArray) fun cg24 =>
cg24.length = 15 ∧ kStN g lg24 og24 cg24 fun g24 =>
kPtr (t 6) fun lr0 or0 =>
kLdN g24 lr0 or0 15 fun r0 =>
aRet K (.tuple #[.agg r0.toArray,.slice none 0 0,.int .i64 0]) g24 n) (
kNil (t 9) fun v109 =>
kPtr v109 fun l110 o110 =>
kLd g l110 (o110 + 0 + 13) fun v112 =>
kNil (t 9) fun v114 =>
kPtr v114 fun l115 o115 =>
kLd g l115 (o115 + 0 + 12) fun v117 =>
kBin .int .eql v117 (.int .i64 1) fun v119 =>
kSplit v119 (
C dir_move_over_id [t 9] g n fun v121 g25 n121 =>
C dir_move_read_id [t 9,v112] g25 n121 fun v124 g26 n124 =>
dir_Answer_j3 C K (puts t [(98,t 9),(99,v99),(100,(ptr l100 (o100 + 0))),(101,(ptr l100 (o100 + 0 + 14))),(102,v102),(103,v103),(108,t 9),(109,v109),(110,(ptr l110 (o110 + 0))),(111,(ptr l110 (o110 + 0 + 13))),(112,v112),(10,v112),(113,t 9),(114,v114),(115,(ptr l115 (o115 + 0))),(116,(ptr l115 (o115 + 0 + 12))),(117,v117),(119,v119),(118,v119),(120,t 9),(121,v121),(122,t 9),(123,v112),(124,v124)]) g26 n124) (
kBin .int .eql v117 (.int .i64 2) fun v126 =>
kSplit v126 (
C dir_move_over_id [t 9] g n fun v128 g28 n128 =>
C dir_move_own_id [t 9,v112,.int .i64 10] g28 n128 fun v131 g29 n131 =>
dir_Answer_j3 C K (puts t [(98,t 9),(99,v99),(100,(ptr l100 (o100 + 0))),(101,(ptr l100 (o100 + 0 + 14))),(102,v102),(103,v103),(108,t 9),(109,v109),(110,(ptr l110 (o110 + 0))),(111,(ptr l110 (o110 + 0 + 13))),(112,v112),(10,v112),(113,t 9),(114,v114),(115,(ptr l115 (o115 + 0))),(116,(ptr l115 (o115 + 0 + 12))),(117,v117),(119,v119),(118,v119),(126,v126),(125,v126),(127,t 9),(128,v128),(129,t 9),(130,v112),(131,v131)]) g29 n131) (
dir_Answer_j3 C K (puts t [(98,t 9),(99,v99),(100,(ptr l100 (o100 + 0))),(101,(ptr l100 (o100 + 0 + 14))),(102,v102),(103,v103),(108,t 9),(109,v109),(110,(ptr l110 (o110 + 0))),(111,(ptr l110 (o110 + 0 + 13))),(112,v112),(10,v112),(113,t 9),(114,v114),(115,(ptr l115 (o115 + 0))),(116,(ptr l115 (o115 + 0 + 12))),(117,v117),(119,v119),(118,v119),(126,v126),(125,v126)]) g n)))
def dir_Answer_j1 (C : CT) (K : Cont) (t : Env) (g : G) (n : Nat) : Prop:=
kNil (t 9) fun v75 =>
kPtr v75 fun l76 o76 =>
kLd g l76 (o76 + 0 + 11) fun v78 =>
C geom_Bit_id [t 1] g n fun v80 g20 n80 =>
(kPtr (ptr l76 (o76 + 0 + 11)) fun l _ => g20 l = g l) ∧ kBin .int .andNot v78 v80 fun v81 =>
kNil (t 9) fun v82 =>
kPtr v82 fun l83 o83 =>
kSt g20 l83 (o83 + 0 + 11) v81 fun g21 =>
kPtr (t 5) fun l85 o85 =>
kLd g21 l85 (o85 + 3) fun v86 =>
kSplit v86 (
kNil (t 9) fun v88 =>
kPtr v88 fun l89 o89 =>
kLd g21 l89 (o89 + 0 + 11) fun v91 =>
C geom_Bit_id [t 1] g21 n80 fun v93 g22 n93 =>
(kPtr (ptr l89 (o89 + 0 + 11)) fun l _ => g22 l = g21 l) ∧ kBin .int .or v91 v93 fun v94 =>
kNil (t 9) fun v95 =>
kPtr v95 fun l96 o96 =>
kSt g22 l96 (o96 + 0 + 11) v94 fun g23 =>
dir_Answer_j2 C K (puts t [(74,t 9),(75,v75),(76,(ptr l76 (o76 + 0))),(77,(ptr l76 (o76 + 0 + 11))),(78,v78),(79,t 1),(80,v80),(81,v81),(82,v82),(83,(ptr l83 (o83 + 0))),(84,(ptr l83 (o83 + 0 + 11))),(85,(ptr l85 (o85 + 3))),(86,v86),(87,t 9),(88,v88),(89,(ptr l89 (o89 + 0))),(90,(ptr l89 (o89 + 0 + 11))),(91,v91),(92,t 1),(93,v93),(94,v94),(95,v95),(96,(ptr l96 (o96 + 0))),(97,(ptr l96 (o96 + 0 + 11)))]) g23 n93) (
dir_Answer_j2 C K (puts t [(74,t 9),(75,v75),(76,(ptr l76 (o76 + 0))),(77,(ptr l76 (o76 + 0 + 11))),(78,v78),(79,t 1),(80,v80),(81,v81),(82,v82),(83,(ptr l83 (o83 + 0))),(84,(ptr l83 (o83 + 0 + 11))),(85,(ptr l85 (o85 + 3))),(86,v86)]) g21 n80)
def dir_Answer (C : CT) (a0 a1 a2 : Value) (g : G) (n : Nat) (K : Cont) : Prop:=
kAgg a0 fun c3 =>
kNew c3 .exact g n fun l3 g1 n3 =>
kAgg a2 fun c5 =>
kNew c5 .exact g1 n3 fun l5 g2 n5 =>
kNew [.bool false,.bool false,.int .u64 0,.int .u64 0,.int .u64 0,.int .u64 0,.int .u64 0,.int .u64 0,.int .u64 0,.int .u64 0,.int .i64 0,.int .u8 0,.int .i64 0,.int .i64 0,.int .u8 0] .exact g2 n5 fun l6 g3 n6 =>
kLdN g3 l3 0 15 fun c12 =>
C dir_Good_id [.agg c12.toArray] g3 n6 fun v13 g4 n13 =>
kUn .not v13 fun v14 =>
kSplit v14 (
kFill [.bool false,.bool false,.int .u64 0,.int .u64 0,.int .u64 0,.int .u64 0,.int .u64 0,.int .u64 0,.int .u64 0,.int .u64 0,.int .i64 0,.int .u8 0,.int .i64 0,.int .i64 0,.int .u8 0] [] fun c31 =>
kAgg (.agg c31.toArray) fun cg5 =>
cg5.length = 15 ∧ kStN g4 l6 0 cg5 fun g5 =>
kLdN g5 l6 0 15 fun r0 =>
aRet K (.tuple #[.agg r0.toArray,.slice none 0 0,.int .i64 1]) g5 n13) (
C dir_core_id [a1] g4 n13 fun v17 g6 n17 =>
kUn .not v17 fun v18 =>
kSplit v18 (
kFill [.bool false,.bool false,.int .u64 0,.int .u64 0,.int .u64 0,.int .u64 0,.int .u64 0,.int .u64 0,.int .u64 0,.int .u64 0,.int .i64 0,.int .u8 0,.int .i64 0,.int .i64 0,.int .u8 0] [] fun c31 =>
kAgg (.agg c31.toArray) fun cg7 =>
cg7.length = 15 ∧ kStN g6 l6 0 cg7 fun g7 =>
kLdN g7 l6 0 15 fun r0 =>
aRet K (.tuple #[.agg r0.toArray,.slice none 0 0,.int .i64 1]) g7 n17) (
kLdN g6 l5 0 12 fun c21 =>
C msg_Good_id [.agg c21.toArray] g6 n17 fun v22 g8 n22 =>
kUn .not v22 fun v23 =>
kSplit v23 (
kFill [.bool false,.bool false,.int .u64 0,.int .u64 0,.int .u64 0,.int .u64 0,.int .u64 0,.int .u64 0,.int .u64 0,.int .u64 0,.int .i64 0,.int .u8 0,.int .i64 0,.int .i64 0,.int .u8 0] [] fun c31 =>
kAgg (.agg c31.toArray) fun cg9 =>
cg9.length = 15 ∧ kStN g8 l6 0 cg9 fun g9 =>
kLdN g9 l6 0 15 fun r0 =>
aRet K (.tuple #[.agg r0.toArray,.slice none 0 0,.int .i64 1]) g9 n22) (
kLd g8 l5 (0 + 0) fun v27 =>
C msg_Answers_id [v27] g8 n22 fun v28 g10 n28 =>
kUn .not v28 fun v29 =>
kSplit v29 (
kFill [.bool false,.bool false,.int .u64 0,.int .u64 0,.int .u64 0,.int .u64 0,.int .u64 0,.int .u64 0,.int .u64 0,.int .u64 0,.int .i64 0,.int .u8 0,.int .i64 0,.int .i64 0,.int .u8 0] [] fun c31 =>
kAgg (.agg c31.toArray) fun cg11 =>
cg11.length = 15 ∧ kStN g10 l6 0 cg11 fun g11 =>
kLdN g11 l6 0 15 fun r0 =>
aRet K (.tuple #[.agg r0.toArray,.slice none 0 0,.int .i64 1]) g11 n28) (
kLd g10 l3 (0 + 12) fun v34 =>
kBin .int .eql v34 (.int .i64 0) fun v35 =>
kSplit v35 (
kFill [.bool false,.bool false,.int .u64 0,.int .u64 0,.int .u64 0,.int .u64 0,.int .u64 0,.int .u64 0,.int .u64 0,.int .u64 0,.int .i64 0,.int .u8 0,.int .i64 0,.int .i64 0,.int .u8 0] [] fun c43 =>
kAgg (.agg c43.toArray) fun cg12 =>
cg12.length = 15 ∧ kStN g10 l6 0 cg12 fun g12 =>
kLdN g12 l6 0 15 fun r0 =>
aRet K (.tuple #[.agg r0.toArray,.slice none 0 0,.int .i64 16]) g12 n28) (
kLd g10 l3 (0 + 14) fun v38 =>
C geom_Has_id [v38,a1] g10 n28 fun v40 g13 n40 =>
kUn .not v40 fun v41 =>
kSplit v41 (
kFill [.bool false,.bool false,.int .u64 0,.int .u64 0,.int .u64 0,.int .u64 0,.int .u64 0,.int .u64 0,.int .u64 0,.int .u64 0,.int .i64 0,.int .u8 0,.int .i64 0,.int .i64 0,.int .u8 0] [] fun c43 =>
kAgg (.agg c43.toArray) fun cg14 =>
cg14.length = 15 ∧ kStN g13 l6 0 cg14 fun g14 =>
kLdN g14 l6 0 15 fun r0 =>
aRet K (.tuple #[.agg r0.toArray,.slice none 0 0,.int .i64 16]) g14 n40) (
kLdN g13 l3 0 15 fun c44 =>
kLd g13 l5 (0 + 1) fun v46 =>
kFill [.bool false,.bool false,.int .u64 0,.int .u64 0,.int .u64 0,.int .u64 0,.int .u64 0,.int .u64 0,.int .u64 0,.int .u64 0,.int .i64 0,.int .u8 0,.int .i64 0,.int .i64 0,.int .u8 0,.int .i64 0,.slice none 0 0] [(0,some 15,.agg c44.toArray),(15,none,v46)] fun c47 =>
kAgg (.agg c47.toArray) fun c48 =>
kNew c48 .exact g13 n40 fun l48 g15 n48 =>
kLd g15 l48 (0 + 0 + 14) fun v53 =>
C geom_Bit_id [a1] g15 n48 fun v55 g16 n55 =>
(kPtr (ptr l48 (0 + 0 + 14)) fun l _ => g16 l = g15 l) ∧ kBin .int .andNot v53 v55 fun v56 =>
kSt g16 l48 (0 + 0 + 14) v56 fun g17 =>
kLdN g17 l5 0 12 fun c61 =>
C dir_move_take_id [ptr l48 0,.agg c61.toArray] g17 n55 fun v62 g18 n62 =>
kLd g18 l48 (0 + 0 + 10) fun v67 =>
kBin .int .eql v67 a1 fun v69 =>
kSplit v69 (
kSt g18 l48 (0 + 0 + 10) (.int .i64 (-1)) fun g19 =>
dir_Answer_j1 C K (puts (args0 [a0,a1,a2]) [(3,ptr l3 0),(5,ptr l5 0),(6,ptr l6 0),(7,.slice none 0 0),(8,.int .i64 0),(12,.agg c12.toArray),(13,v13),(14,v14),(15,.bool false),(16,a1),(17,v17),(18,v18),(19,v18),(20,.bool false),(21,.agg c21.toArray),(22,v22),(23,v23),(24,v23),(25,.bool false),(26,(ptr l5 (0 + 0))),(27,v27),(28,v28),(29,v29),(30,v29),(11,v29),(33,(ptr l3 (0 + 12))),(34,v34),(35,v35),(36,.bool false),(37,(ptr l3 (0 + 14))),(38,v38),(39,a1),(40,v40),(41,v41),(42,v41),(32,v41),(44,.agg c44.toArray),(45,(ptr l5 (0 + 1))),(46,v46),(47,.agg c47.toArray),(48,ptr l48 0),(9,ptr l48 0),(49,ptr l48 0),(50,ptr l48 0),(51,(ptr l48 (0 + 0))),(52,(ptr l48 (0 + 0 + 14))),(53,v53),(54,a1),(55,v55),(56,v56),(57,ptr l48 0),(58,(ptr l48 (0 + 0))),(59,(ptr l48 (0 + 0 + 14))),(60,ptr l48 0),(61,.agg c61.toArray),(62,v62),(63,ptr l48 0),(64,ptr l48 0),(65,(ptr l48 (0 + 0))),(66,(ptr l48 (0 + 0 + 10))),(67,v67),(68,a1),(69,v69),(70,ptr l48 0),(71,ptr l48 0),(72,(ptr l48 (0 + 0))),(73,(ptr l48 (0 + 0 + 10)))]) g19 n62) (
dir_Answer_j1 C K (puts (args0 [a0,a1,a2]) [(3,ptr l3 0),(5,ptr l5 0),(6,ptr l6 0),(7,.slice none 0 0),(8,.int .i64 0),(12,.agg c12.toArray),(13,v13),(14,v14),(15,.bool false),(16,a1),(17,v17),(18,v18),(19,v18),(20,.bool false),(21,.agg c21.toArray),(22,v22),(23,v23),(24,v23),(25,.bool false),(26,(ptr l5 (0 + 0))),(27,v27),(28,v28),(29,v29),(30,v29),(11,v29),(33,(ptr l3 (0 + 12))),(34,v34),(35,v35),(36,.bool false),(37,(ptr l3 (0 + 14))),(38,v38),(39,a1),(40,v40),(41,v41),(42,v41),(32,v41),(44,.agg c44.toArray),(45,(ptr l5 (0 + 1))),(46,v46),(47,.agg c47.toArray),(48,ptr l48 0),(9,ptr l48 0),(49,ptr l48 0),(50,ptr l48 0),(51,(ptr l48 (0 + 0))),(52,(ptr l48 (0 + 0 + 14))),(53,v53),(54,a1),(55,v55),(56,v56),(57,ptr l48 0),(58,(ptr l48 (0 + 0))),(59,(ptr l48 (0 + 0 + 14))),(60,ptr l48 0),(61,.agg c61.toArray),(62,v62),(63,ptr l48 0),(64,ptr l48 0),(65,(ptr l48 (0 + 0))),(66,(ptr l48 (0 + 0 + 10))),(67,v67),(68,a1),(69,v69)]) g18 n62)))))))
theorem dir_Answer_eq (C : CT) (a0 a1 a2 : Value) (g : G) (n : Nat) (K : Cont) : dir_Answer C a0 a1 a2 g n K = abody Tryz.prog C dir_Answer_id [a0,a1,a2] g n K := by kernel_rfl
def word_between (C : CT) (a0 a1 a2 : Value) (g : G) (n : Nat) (K : Cont) : Prop:=
kBin .int .geq a0 a1 fun v9 =>
kSplit v9 (
kBin .int .leq a0 a2 fun v13 =>
aRet K v13 g n) (
aRet K (.bool false) g n)
theorem word_between_eq (C : CT) (a0 a1 a2 : Value) (g : G) (n : Nat) (K : Cont) : word_between C a0 a1 a2 g n K = abody Tryz.prog C word_between_id [a0,a1,a2] g n K := by kernel_rfl
def agent_New (C : CT) (a0 a1 : Value) (g : G) (n : Nat) (K : Cont) : Prop:=
C array_New_id [a0,a1] g n fun v11 g1 n11 =>
kExtract v11 0 fun v12 =>
kExtract v11 1 fun v13 =>
kBin .int .neq v13 (.int .i64 0) fun v15 =>
kSplit v15 (
aRet K (.tuple #[.pointer none,v13]) g1 n11) (
kFill [.pointer none] [(0,none,v12)] fun c18 =>
kAgg (.agg c18.toArray) fun c19 =>
kNew c19 .exact g1 n11 fun l19 g2 n19 =>
aRet K (.tuple #[ptr l19 0,.int .i64 0]) g2 n19)
theorem agent_New_eq (C : CT) (a0 a1 : Value) (g : G) (n : Nat) (K : Cont) : agent_New C a0 a1 g n K = abody Tryz.prog C agent_New_id [a0,a1] g n K := by kernel_rfl
def sync_atomic_Int64_Add (C : CT) (a0 a1 : Value) (g : G) (n : Nat) (K : Cont) : Prop:=
kNil a0 fun v6 =>
kPtr v6 fun l7 o7 =>
C sync_atomic_AddInt64_id [(ptr l7 (o7 + 0)),a1] g n fun v9 g1 n9 =>
aRet K v9 g1 n9
theorem sync_atomic_Int64_Add_eq (C : CT) (a0 a1 : Value) (g : G) (n : Nat) (K : Cont) : sync_atomic_Int64_Add C a0 a1 g n K = abody Tryz.prog C sync_atomic_Int64_Add_id [a0,a1] g n K := by kernel_rfl
def agent_is (C : CT) (a0 a1 : Value) (g : G) (n : Nat) (K : Cont) : Prop:=
kBin .int .geq a0 (.int .i64 0) fun v6 =>
kSplit v6 (
kBin .int .lss a0 (.int .i64 64) fun v9 =>
kSplit v9 (
kBin .int .geq a1 (.int .i64 0) fun v13 =>
kSplit v13 (
kBin .int .lss a1 (.int .i64 8) fun v17 =>
aRet K v17 g n) (
aRet K (.bool false) g n)) (
aRet K (.bool false) g n)) (
aRet K (.bool false) g n)
theorem agent_is_eq (C : CT) (a0 a1 : Value) (g : G) (n : Nat) (K : Cont) : agent_is C a0 a1 g n K = abody Tryz.prog C agent_is_id [a0,a1] g n K := by kernel_rfl
def agent_Agent_find (C : CT) (a0 a1 : Value) (g : G) (n : Nat) (K : Cont) : Prop:=
kNew [.int .i64 0,.int .i64 0,.int .u64 0,.int .u64 0,.int .u64 0,.int .u64 0,.int .u64 0,.int .u64 0,.int .u64 0,.int .u64 0,.int .i64 0] .exact g n fun l4 g1 n4 =>
kNil a0 fun v9 =>
kPtr v9 fun l10 o10 =>
kLd g1 l10 (o10 + 0) fun v11 =>
C array_Array_Find_id [v11,a1] g1 n4 fun v13 g2 n13 =>
kExtract v13 0 fun v14 =>
kExtract v13 1 fun v15 =>
kNew [.int .i64 0,.int .i64 0,.int .u64 0,.int .u64 0,.int .u64 0,.int .u64 0,.int .u64 0,.int .u64 0,.int .u64 0,.int .u64 0,.int .i64 0] .exact g2 n13 fun l5 g3 n5 =>
kAgg v14 fun cg4 =>
cg4.length = 11 ∧ kStN g3 l5 0 cg4 fun g4 =>
kLdN g4 l5 0 11 fun c16 =>
kAgg (.agg c16.toArray) fun cg5 =>
cg5.length = 11 ∧ kStN g4 l4 0 cg5 fun g5 =>
kLdN g5 l4 0 11 fun r0 =>
aRet K (.agg r0.toArray) g5 n5
theorem agent_Agent_find_eq (C : CT) (a0 a1 : Value) (g : G) (n : Nat) (K : Cont) : agent_Agent_find C a0 a1 g n K = abody Tryz.prog C agent_Agent_find_id [a0,a1] g n K := by kernel_rfl
def array_Array_Touch (C : CT) (a0 a1 : Value) (g : G) (n : Nat) (K : Cont) : Prop:=
C array_Array_at_id [a0,a1] g n fun v7 g1 n7 =>
kBin .int .geq v7 (.int .i64 0) fun v9 =>
kSplit v9 (
C array_Array_set_id [a0,a1] g1 n7 fun v12 g2 n12 =>
C array_Array_number_id [a0] g2 n12 fun v15 g3 n15 =>
kIndexAddr v12 v7 11 fun v16 =>
kPtr v16 fun l17 o17 =>
kSt g3 l17 (o17 + 10) v15 fun g4 =>
aRet K (.tuple #[]) g4 n15) (
aRet K (.tuple #[]) g1 n7)
theorem array_Array_Touch_eq (C : CT) (a0 a1 : Value) (g : G) (n : Nat) (K : Cont) : array_Array_Touch C a0 a1 g n K = abody Tryz.prog C array_Array_Touch_id [a0,a1] g n K := by kernel_rfl
def agent_Agent_ask_j1 (C : CT) (K : Cont) (t : Env) (g : G) (n : Nat) : Prop:=
kNil (t 0) fun v43 =>
kPtr v43 fun l44 o44 =>
kLd g l44 (o44 + 0) fun v45 =>
kPtr (t 9) fun l48 o48 =>
kLdN g l48 o48 8 fun c48 =>
C array_Array_Set_id [v45,t 1,t 2,.agg c48.toArray] g n fun v49 g6 n49 =>
kFill [.int .i64 0,.int .i64 0,.bool false,.bool false,.int .u64 0,.int .u64 0,.int .u64 0,.int .u64 0,.int .u64 0,.int .u64 0,.int .u64 0,.int .u64 0] [(0,none,t 3),(1,none,t 1)] fun c52 =>
kFill (reps 1 [.int .i64 0,.int .i64 0,.bool false,.bool false,.int .u64 0,.int .u64 0,.int .u64 0,.int .u64 0,.int .u64 0,.int .u64 0,.int .u64 0,.int .u64 0]) [(0,some 12,.agg c52.toArray)] fun c53 =>
kNew c53 .exact g6 n49 fun l53 g7 n53 =>
aRet K (.slice (some ⟨l53,0,none⟩) 1 1) g7 n53
def agent_Agent_ask (C : CT) (a0 a1 a2 a3 a4 : Value) (g : G) (n : Nat) (K : Cont) : Prop:=
kAgg a4 fun c9 =>
kNew c9 .exact g n fun l9 g1 n9 =>
C agent_Agent_Idle_id [a0] g1 n9 fun v14 g2 n14 =>
kUn .not v14 fun v15 =>
kSplit v15 (
aRet K (.slice none 0 0) g2 n14) (
kBin .int .neq a2 (.int .i64 6) fun v17 =>
kSplit v17 (
kNil a0 fun v20 =>
kPtr v20 fun l21 o21 =>
kLd g2 l21 (o21 + 0) fun v22 =>
C array_Array_Room_id [v22,a1] g2 n14 fun v24 g3 n24 =>
kExtract v24 0 fun v25 =>
kExtract v24 1 fun v26 =>
kUn .not v25 fun v29 =>
kSplit v29 (
kBin .int .lss v26 (.int .i64 0) fun v32 =>
kSplit v32 (
aRet K (.slice none 0 0) g3 n24) (
kUn .not v25 fun v36 =>
kSplit v36 (
C agent_Agent_find_id [a0,v26] g3 n24 fun v40 g4 n40 =>
C agent_Agent_out_id [a0,v40] g4 n40 fun v41 g5 n41 =>
aRet K v41 g5 n41) (
agent_Agent_ask_j1 C K (puts (args0 [a0,a1,a2,a3,a4]) [(9,ptr l9 0),(10,.slice none 0 0),(13,a0),(14,v14),(15,v15),(16,a2),(17,v17),(19,a0),(20,v20),(21,(ptr l21 (o21 + 0))),(22,v22),(23,a1),(24,v24),(18,v24),(25,v25),(26,v26),(11,v25),(12,v26),(28,v25),(29,v29),(30,.bool true),(31,v26),(32,v32),(33,v32),(27,v32),(35,v25),(36,v36),(34,v36)]) g3 n24))) (
kUn .not v25 fun v36 =>
kSplit v36 (
C agent_Agent_find_id [a0,v26] g3 n24 fun v40 g8 n40 =>
C agent_Agent_out_id [a0,v40] g8 n40 fun v41 g9 n41 =>
aRet K v41 g9 n41) (
agent_Agent_ask_j1 C K (puts (args0 [a0,a1,a2,a3,a4]) [(9,ptr l9 0),(10,.slice none 0 0),(13,a0),(14,v14),(15,v15),(16,a2),(17,v17),(19,a0),(20,v20),(21,(ptr l21 (o21 + 0))),(22,v22),(23,a1),(24,v24),(18,v24),(25,v25),(26,v26),(11,v25),(12,v26),(28,v25),(29,v29),(30,.bool false),(31,undef),(32,undef),(33,.bool false),(27,.bool false),(35,v25),(36,v36),(34,v36)]) g3 n24))) (
agent_Agent_ask_j1 C K (puts (args0 [a0,a1,a2,a3,a4]) [(9,ptr l9 0),(10,.slice none 0 0),(13,a0),(14,v14),(15,v15),(16,a2),(17,v17)]) g2 n14))
theorem agent_Agent_ask_eq (C : CT) (a0 a1 a2 a3 a4 : Value) (g : G) (n : Nat) (K : Cont) : agent_Agent_ask C a0 a1 a2 a3 a4 g n K = abody Tryz.prog C agent_Agent_ask_id [a0,a1,a2,a3,a4] g n K := by kernel_rfl
def dir_Ready (C : CT) (a0 : Value) (g : G) (n : Nat) (K : Cont) : Prop:=
kAgg a0 fun c1 =>
kNew c1 .exact g n fun l1 g1 n1 =>
kLdN g1 l1 0 15 fun c3 =>
C dir_Good_id [.agg c3.toArray] g1 n1 fun v4 g2 n4 =>
kSplit v4 (
kLd g2 l1 (0 + 12) fun v7 =>
kBin .int .eql v7 (.int .i64 4) fun v8 =>
kSplit v8 (
kLd g2 l1 (0 + 14) fun v17 =>
kBin .int .eql v17 (.int .u8 0) fun v18 =>
aRet K v18 g2 n4) (
kLd g2 l1 (0 + 12) fun v11 =>
kBin .int .eql v11 (.int .i64 5) fun v12 =>
kSplit v12 (
kLd g2 l1 (0 + 14) fun v17 =>
kBin .int .eql v17 (.int .u8 0) fun v18 =>
aRet K v18 g2 n4) (
aRet K (.bool false) g2 n4))) (
aRet K (.bool false) g2 n4)
theorem dir_Ready_eq (C : CT) (a0 : Value) (g : G) (n : Nat) (K : Cont) : dir_Ready C a0 g n K = abody Tryz.prog C dir_Ready_id [a0] g n K := by kernel_rfl
def dir_Pushed (C : CT) (a0 : Value) (g : G) (n : Nat) (K : Cont) : Prop:=
kAgg a0 fun c1 =>
kNew c1 .exact g n fun l1 g1 n1 =>
kNew [.bool false,.bool false,.int .u64 0,.int .u64 0,.int .u64 0,.int .u64 0,.int .u64 0,.int .u64 0,.int .u64 0,.int .u64 0,.int .i64 0,.int .u8 0,.int .i64 0,.int .i64 0,.int .u8 0] .exact g1 n1 fun l2 g2 n2 =>
kLdN g2 l1 0 15 fun c7 =>
C dir_Ready_id [.agg c7.toArray] g2 n2 fun v8 g3 n8 =>
kUn .not v8 fun v9 =>
kSplit v9 (
kFill [.bool false,.bool false,.int .u64 0,.int .u64 0,.int .u64 0,.int .u64 0,.int .u64 0,.int .u64 0,.int .u64 0,.int .u64 0,.int .i64 0,.int .u8 0,.int .i64 0,.int .i64 0,.int .u8 0] [] fun c10 =>
kAgg (.agg c10.toArray) fun cg4 =>
cg4.length = 15 ∧ kStN g3 l2 0 cg4 fun g4 =>
kLdN g4 l2 0 15 fun r0 =>
aRet K (.tuple #[.agg r0.toArray,.slice none 0 0,.int .i64 16]) g4 n8) (
kLdN g3 l1 0 15 fun c11 =>
kFill [.bool false,.bool false,.int .u64 0,.int .u64 0,.int .u64 0,.int .u64 0,.int .u64 0,.int .u64 0,.int .u64 0,.int .u64 0,.int .i64 0,.int .u8 0,.int .i64 0,.int .i64 0,.int .u8 0,.int .i64 0,.slice none 0 0] [(0,some 15,.agg c11.toArray)] fun c12 =>
kAgg (.agg c12.toArray) fun c13 =>
kNew c13 .exact g3 n8 fun l13 g5 n13 =>
kSt g5 l13 (0 + 0 + 1) (.bool false) fun g6 =>
kLd g6 l1 (0 + 13) fun v19 =>
C dir_move_over_id [ptr l13 0] g6 n13 fun v21 g7 n21 =>
C dir_move_tell_id [ptr l13 0,v19,.int .i64 14] g7 n21 fun v24 g8 n24 =>
kLdN g8 l13 (0 + 0) 15 fun c28 =>
kLd g8 l13 (0 + 16) fun v32 =>
kAgg (.agg c28.toArray) fun cg9 =>
cg9.length = 15 ∧ kStN g8 l2 0 cg9 fun g9 =>
(kPtr (ptr l13 (0 + 16)) fun l _ => g9 l = g8 l) ∧ kLdN g9 l2 0 15 fun r0 =>
aRet K (.tuple #[.agg r0.toArray,v32,.int .i64 0]) g9 n24)
theorem dir_Pushed_eq (C : CT) (a0 : Value) (g : G) (n : Nat) (K : Cont) : dir_Pushed C a0 g n K = abody Tryz.prog C dir_Pushed_id [a0] g n K := by kernel_rfl
def wpq_Queue_Drain_cut2 (C : CT) (K : Cont) (t : Env) (g : G) (n : Nat) : Prop:=
kNil (t 0) fun v46 =>
kPtr v46 fun l47 o47 =>
kLd g l47 (o47 + 2) fun v48 =>
kBin .int .add (t 5) (t 6) fun v51 =>
kSlice v48 (some v51) none none 9 fun v52 =>
kClear v52 [.int .i64 0,.int .u64 0,.int .u64 0,.int .u64 0,.int .u64 0,.int .u64 0,.int .u64 0,.int .u64 0,.int .u64 0] g fun v_ g5 =>
kNil (t 0) fun v55 =>
kPtr v55 fun l56 o56 =>
kLd g5 l56 (o56 + 2) fun v57 =>
kBin .int .add (t 5) (t 6) fun v60 =>
kSlice v57 none (some v60) none 9 fun v61 =>
kNil (t 0) fun v62 =>
kPtr v62 fun l63 o63 =>
kSt g5 l63 (o63 + 2) v61 fun g6 =>
aRet K (.int .i64 0) g6 n
def wpq_Queue_Drain_cut1 (C : CT) (K : Cont) (J : ECont) (t : Env) (g : G) (n : Nat) : Prop:=
kNil (t 0) fun v32 =>
kPtr v32 fun l33 o33 =>
kLd g l33 (o33 + 2) fun v34 =>
kSlice v34 (some (t 5)) none none 9 fun v36 =>
kNil (t 0) fun v38 =>
kPtr v38 fun l39 o39 =>
kLd g l39 (o39 + 2) fun v40 =>
kBin .int .add (t 5) (.int .i64 1) fun v42 =>
kSlice v40 (some v42) none none 9 fun v43 =>
kCopy v36 v43 9 g fun v44 g4 =>
J (puts t [(31,t 0),(32,v32),(33,(ptr l33 (o33 + 2))),(34,v34),(35,t 5),(36,v36),(37,t 0),(38,v38),(39,(ptr l39 (o39 + 2))),(40,v40),(41,t 5),(42,v42),(43,v43),(44,v44),(6,v44)]) g4 n
def wpq_Queue_Drain_c (C : CT) (a0 a1 : Value) (J : ECont) (g : G) (n : Nat) (K : Cont) : Prop:=
isCell a1 = true ∧ kNew [a1] .exact g n fun l3 g1 n3 =>
kBin .ptr .eql a0 (.pointer none) fun v8 =>
kSplit v8 (
aRet K (.int .i64 1) g1 n3) (
kNil a0 fun v10 =>
kPtr v10 fun l11 o11 =>
kLd g1 l11 (o11 + 2) fun v12 =>
C slices_IndexFunc_wpq_entry_wpq_entry_id [v12,(.func (.func wpq_Queue_Drain_1_id) #[] #[ptr l3 0])] g1 n3 fun v14 g2 n14 =>
kBin .int .lss v14 (.int .i64 0) fun v16 =>
kSplit v16 (
aRet K (.int .i64 14) g2 n14) (
kNil a0 fun v18 =>
kPtr v18 fun l19 o19 =>
kLd g2 l19 (o19 + 0) fun v20 =>
kLd g2 l3 0 fun v21 =>
kNil a0 fun v23 =>
kPtr v23 fun l24 o24 =>
kLd g2 l24 (o24 + 2) fun v25 =>
kIndexAddr v25 v14 9 fun v27 =>
kPtr v27 fun l28 o28 =>
kLdN g2 l28 (o28 + 1) 8 fun c29 =>
C nvm_Device_Write_id [v20,v21,.agg c29.toArray] g2 n14 fun v30 g3 n30 =>
J (puts (args0 [a0,a1]) [(3,ptr l3 0),(4,.int .i64 0),(7,a0),(8,v8),(9,a0),(10,v10),(11,(ptr l11 (o11 + 2))),(12,v12),(13,(.func (.func wpq_Queue_Drain_1_id) #[] #[ptr l3 0])),(14,v14),(5,v14),(15,v14),(16,v16),(17,a0),(18,v18),(19,(ptr l19 (o19 + 0))),(20,v20),(21,v21),(22,a0),(23,v23),(24,(ptr l24 (o24 + 2))),(25,v25),(26,v14),(27,v27),(28,(ptr l28 (o28 + 1))),(29,.agg c29.toArray),(30,v30)]) g3 n30))
def wpq_Queue_Drain (C : CT) (a0 a1 : Value) (g : G) (n : Nat) (K : Cont) : Prop := wpq_Queue_Drain_c C a0 a1 (wpq_Queue_Drain_cut1 C K (wpq_Queue_Drain_cut2 C K)) g n K
theorem wpq_Queue_Drain_cut2tail (C : CT) (t : Env) (g : G) (n : Nat) (K : Cont) : wpq_Queue_Drain_cut2 C K t g n = abodyAt Tryz.prog C [1,1,1,1,1,1] wpq_Queue_Drain_id K t g n := by kernel_rfl
theorem wpq_Queue_Drain_cut2all (C : CT) (K : Cont) : wpq_Queue_Drain_cut2 C K = abodyAt Tryz.prog C [1,1,1,1,1,1] wpq_Queue_Drain_id K := funext fun t => funext fun g => funext fun n => wpq_Queue_Drain_cut2tail C t g n K
theorem wpq_Queue_Drain_cut1tail (C : CT) (J : ECont) (t : Env) (g : G) (n : Nat) (K : Cont) : wpq_Queue_Drain_cut1 C K J t g n = abodyAtCut Tryz.prog C [1,1,1,1,1] [1] J wpq_Queue_Drain_id K t g n := by kernel_rfl
theorem wpq_Queue_Drain_cut1all (C : CT) (K : Cont) : wpq_Queue_Drain_cut1 C K (wpq_Queue_Drain_cut2 C K) = abodyAt Tryz.prog C [1,1,1,1,1] wpq_Queue_Drain_id K := by
  rw [wpq_Queue_Drain_cut2all]
  exact (funext fun t => funext fun g => funext fun n => wpq_Queue_Drain_cut1tail C _ t g n K).trans (abodyAtCut_eq Tryz.prog C [1,1,1,1,1] [1] wpq_Queue_Drain_id K)
theorem wpq_Queue_Drain_cutmain (C : CT) (a0 a1 : Value) (J : ECont) (g : G) (n : Nat) (K : Cont) : wpq_Queue_Drain_c C a0 a1 J g n K = abodyCut Tryz.prog C [1,1,1,1,1] J wpq_Queue_Drain_id [a0,a1] g n K := by kernel_rfl
theorem wpq_Queue_Drain_eq (C : CT) (a0 a1 : Value) (g : G) (n : Nat) (K : Cont) : wpq_Queue_Drain C a0 a1 g n K = abody Tryz.prog C wpq_Queue_Drain_id [a0,a1] g n K := by
  unfold wpq_Queue_Drain
  rw [wpq_Queue_Drain_cutmain,wpq_Queue_Drain_cut1all]
  exact abodyCut_eq Tryz.prog C [1,1,1,1,1] wpq_Queue_Drain_id [a0,a1] g n K
def msg_Good_j1 (C : CT) (K : Cont) (t : Env) (g : G) (n : Nat) : Prop:=
kPtr (t 1) fun l41 o41 =>
kLd g l41 (o41 + 2) fun v42 =>
kSplit v42 (
aRet K (.bool true) g n) (
kBin .int .and (t 3) (.int .i64 4) fun v45 =>
kBin .int .neq v45 (.int .i64 0) fun v46 =>
kSplit v46 (
aRet K (.bool true) g n) (
kPtr (t 1) fun l49 o49 =>
kLdN g l49 (o49 + 4) 8 fun c50 =>
kFill [.int .u64 0,.int .u64 0,.int .u64 0,.int .u64 0,.int .u64 0,.int .u64 0,.int .u64 0,.int .u64 0] [] fun c51 =>
kBin (.agg [.i,.i,.i,.i,.i,.i,.i,.i]) .eql (.agg c50.toArray) (.agg c51.toArray) fun v52 =>
aRet K v52 g n))
def msg_Good (C : CT) (a0 : Value) (g : G) (n : Nat) (K : Cont) : Prop:=
kAgg a0 fun c1 =>
kNew c1 .exact g n fun l1 g1 n1 =>
kLd g1 l1 (0 + 0) fun v5 =>
kBin .int .lss v5 (.int .i64 1) fun v6 =>
kSplit v6 (
aRet K (.bool false) g1 n1) (
kLd g1 l1 (0 + 0) fun v9 =>
kBin .int .gtr v9 (.int .i64 14) fun v10 =>
kSplit v10 (
aRet K (.bool false) g1 n1) (
kLd g1 l1 (0 + 1) fun v14 =>
kBin .int .lss v14 (.int .i64 0) fun v15 =>
kSplit v15 (
aRet K (.bool false) g1 n1) (
kLd g1 l1 (0 + 1) fun v19 =>
kBin .int .geq v19 (.int .i64 64) fun v20 =>
kSplit v20 (
aRet K (.bool false) g1 n1) (
kLd g1 l1 (0 + 0) fun v24 =>
C msg_may_id [] g1 n1 fun v22 g2 n22 =>
(kPtr (ptr l1 (0 + 0)) fun l _ => g2 l = g1 l) ∧ kIdx v22 v24 15 1 none fun v25 =>
kLd g2 l1 (0 + 2) fun v28 =>
kSplit v28 (
kBin .int .and v25 (.int .i64 1) fun v31 =>
kBin .int .eql v31 (.int .i64 0) fun v32 =>
kSplit v32 (
kSplit v32 (
aRet K (.bool false) g2 n22) (
msg_Good_j1 C K (puts (args0 [a0]) [(1,ptr l1 0),(2,.bool false),(4,(ptr l1 (0 + 0))),(5,v5),(6,v6),(7,.bool false),(8,(ptr l1 (0 + 0))),(9,v9),(10,v10),(11,v10),(12,.bool false),(13,(ptr l1 (0 + 1))),(14,v14),(15,v15),(16,v15),(17,.bool false),(18,(ptr l1 (0 + 1))),(19,v19),(20,v20),(21,v20),(23,(ptr l1 (0 + 0))),(24,v24),(22,v22),(25,v25),(3,v25),(27,(ptr l1 (0 + 2))),(28,v28),(29,.bool true),(30,v25),(31,v31),(32,v32),(33,v32),(26,v32)]) g2 n22)) (
kLd g2 l1 (0 + 3) fun v35 =>
kSplit v35 (
kBin .int .and v25 (.int .i64 2) fun v38 =>
kBin .int .eql v38 (.int .i64 0) fun v39 =>
kSplit v39 (
aRet K (.bool false) g2 n22) (
msg_Good_j1 C K (puts (args0 [a0]) [(1,ptr l1 0),(2,.bool false),(4,(ptr l1 (0 + 0))),(5,v5),(6,v6),(7,.bool false),(8,(ptr l1 (0 + 0))),(9,v9),(10,v10),(11,v10),(12,.bool false),(13,(ptr l1 (0 + 1))),(14,v14),(15,v15),(16,v15),(17,.bool false),(18,(ptr l1 (0 + 1))),(19,v19),(20,v20),(21,v20),(23,(ptr l1 (0 + 0))),(24,v24),(22,v22),(25,v25),(3,v25),(27,(ptr l1 (0 + 2))),(28,v28),(29,.bool true),(30,v25),(31,v31),(32,v32),(33,v32),(26,v32),(34,(ptr l1 (0 + 3))),(35,v35),(36,.bool true),(37,v25),(38,v38),(39,v39),(40,v39),(26,v39)]) g2 n22)) (
msg_Good_j1 C K (puts (args0 [a0]) [(1,ptr l1 0),(2,.bool false),(4,(ptr l1 (0 + 0))),(5,v5),(6,v6),(7,.bool false),(8,(ptr l1 (0 + 0))),(9,v9),(10,v10),(11,v10),(12,.bool false),(13,(ptr l1 (0 + 1))),(14,v14),(15,v15),(16,v15),(17,.bool false),(18,(ptr l1 (0 + 1))),(19,v19),(20,v20),(21,v20),(23,(ptr l1 (0 + 0))),(24,v24),(22,v22),(25,v25),(3,v25),(27,(ptr l1 (0 + 2))),(28,v28),(29,.bool true),(30,v25),(31,v31),(32,v32),(33,v32),(26,v32),(34,(ptr l1 (0 + 3))),(35,v35),(36,.bool false),(37,undef),(38,undef),(39,undef),(40,.bool false),(26,.bool false)]) g2 n22))) (
kLd g2 l1 (0 + 3) fun v35 =>
kSplit v35 (
kBin .int .and v25 (.int .i64 2) fun v38 =>
kBin .int .eql v38 (.int .i64 0) fun v39 =>
kSplit v39 (
aRet K (.bool false) g2 n22) (
msg_Good_j1 C K (puts (args0 [a0]) [(1,ptr l1 0),(2,.bool false),(4,(ptr l1 (0 + 0))),(5,v5),(6,v6),(7,.bool false),(8,(ptr l1 (0 + 0))),(9,v9),(10,v10),(11,v10),(12,.bool false),(13,(ptr l1 (0 + 1))),(14,v14),(15,v15),(16,v15),(17,.bool false),(18,(ptr l1 (0 + 1))),(19,v19),(20,v20),(21,v20),(23,(ptr l1 (0 + 0))),(24,v24),(22,v22),(25,v25),(3,v25),(27,(ptr l1 (0 + 2))),(28,v28),(29,.bool false),(30,undef),(31,undef),(32,undef),(33,.bool false),(26,.bool false),(34,(ptr l1 (0 + 3))),(35,v35),(36,.bool true),(37,v25),(38,v38),(39,v39),(40,v39),(26,v39)]) g2 n22)) (
msg_Good_j1 C K (puts (args0 [a0]) [(1,ptr l1 0),(2,.bool false),(4,(ptr l1 (0 + 0))),(5,v5),(6,v6),(7,.bool false),(8,(ptr l1 (0 + 0))),(9,v9),(10,v10),(11,v10),(12,.bool false),(13,(ptr l1 (0 + 1))),(14,v14),(15,v15),(16,v15),(17,.bool false),(18,(ptr l1 (0 + 1))),(19,v19),(20,v20),(21,v20),(23,(ptr l1 (0 + 0))),(24,v24),(22,v22),(25,v25),(3,v25),(27,(ptr l1 (0 + 2))),(28,v28),(29,.bool false),(30,undef),(31,undef),(32,undef),(33,.bool false),(26,.bool false),(34,(ptr l1 (0 + 3))),(35,v35),(36,.bool false),(37,undef),(38,undef),(39,undef),(40,.bool false),(26,.bool false)]) g2 n22))))))
theorem msg_Good_eq (C : CT) (a0 : Value) (g : G) (n : Nat) (K : Cont) : msg_Good C a0 g n K = abody Tryz.prog C msg_Good_id [a0] g n K := by kernel_rfl
def agent_Agent_Reach (C : CT) (a0 a1 : Value) (g : G) (n : Nat) (K : Cont) : Prop:=
kBin .ptr .eql a0 (.pointer none) fun v7 =>
kSplit v7 (
aRet K (.slice none 0 0) g n) (
C agent_is_id [a1,.int .i64 0] g n fun v10 g1 n10 =>
kUn .not v10 fun v11 =>
kSplit v11 (
aRet K (.slice none 0 0) g1 n10) (
C agent_Agent_Owns_id [a0,a1] g1 n10 fun v16 g2 n16 =>
kSplit v16 (
aRet K (.slice none 0 0) g2 n16) (
C agent_Agent_find_id [a0,a1] g2 n16 fun v20 g3 n20 =>
kNew [.int .i64 0,.int .i64 0,.int .u64 0,.int .u64 0,.int .u64 0,.int .u64 0,.int .u64 0,.int .u64 0,.int .u64 0,.int .u64 0,.int .i64 0] .exact g3 n20 fun l5 g4 n5 =>
kAgg v20 fun cg5 =>
cg5.length = 11 ∧ kStN g4 l5 0 cg5 fun g5 =>
kLd g5 l5 (0 + 0) fun v22 =>
kBin .int .eql v22 (.int .i64 1) fun v23 =>
kSplit v23 (
kLdN g5 l5 (0 + 2) 8 fun c27 =>
C agent_Agent_ask_id [a0,a1,.int .i64 6,.int .i64 2,.agg c27.toArray] g5 n5 fun v28 g6 n28 =>
aRet K v28 g6 n28) (
kFill [.int .u64 0,.int .u64 0,.int .u64 0,.int .u64 0,.int .u64 0,.int .u64 0,.int .u64 0,.int .u64 0] [] fun c31 =>
C agent_Agent_ask_id [a0,a1,.int .i64 5,.int .i64 2,.agg c31.toArray] g5 n5 fun v32 g7 n32 =>
aRet K v32 g7 n32))))
theorem agent_Agent_Reach_eq (C : CT) (a0 a1 : Value) (g : G) (n : Nat) (K : Cont) : agent_Agent_Reach C a0 a1 g n K = abody Tryz.prog C agent_Agent_Reach_id [a0,a1] g n K := by kernel_rfl
def agent_Agent_Owns (C : CT) (a0 a1 : Value) (g : G) (n : Nat) (K : Cont) : Prop:=
kBin .ptr .eql a0 (.pointer none) fun v7 =>
kSplit v7 (
aRet K (.bool false) g n) (
C agent_Agent_find_id [a0,a1] g n fun v10 g1 n10 =>
kNew [.int .i64 0,.int .i64 0,.int .u64 0,.int .u64 0,.int .u64 0,.int .u64 0,.int .u64 0,.int .u64 0,.int .u64 0,.int .u64 0,.int .i64 0] .exact g1 n10 fun l5 g2 n5 =>
kAgg v10 fun cg3 =>
cg3.length = 11 ∧ kStN g2 l5 0 cg3 fun g3 =>
kLd g3 l5 (0 + 0) fun v12 =>
kBin .int .eql v12 (.int .i64 2) fun v13 =>
kSplit v13 (
aRet K (.bool true) g3 n5) (
kLd g3 l5 (0 + 0) fun v16 =>
kBin .int .eql v16 (.int .i64 3) fun v17 =>
aRet K v17 g3 n5))
theorem agent_Agent_Owns_eq (C : CT) (a0 a1 : Value) (g : G) (n : Nat) (K : Cont) : agent_Agent_Owns C a0 a1 g n K = abody Tryz.prog C agent_Agent_Owns_id [a0,a1] g n K := by kernel_rfl
def array_Array_Slots (C : CT) (a0 : Value) (g : G) (n : Nat) (K : Cont) : Prop:=
kBin .ptr .eql a0 (.pointer none) fun v4 =>
kSplit v4 (
aRet K (.slice none 0 0) g n) (
kNil a0 fun v6 =>
kPtr v6 fun l7 o7 =>
kLd g l7 (o7 + 2) fun v8 =>
C slices_Clone_array_Slot_array_Slot_id [v8] g n fun v9 g1 n9 =>
C slices_DeleteFunc_array_Slot_array_Slot_id [v9,(.func (.func array_empty_id) #[] #[])] g1 n9 fun v10 g2 n10 =>
aRet K v10 g2 n10)
theorem array_Array_Slots_eq (C : CT) (a0 : Value) (g : G) (n : Nat) (K : Cont) : array_Array_Slots C a0 g n K = abody Tryz.prog C array_Array_Slots_id [a0] g n K := by kernel_rfl
def wpq_Queue_Push_cut2 (C : CT) (K : Cont) (t : Env) (g : G) (n : Nat) : Prop:=
kNil (t 0) fun v59 =>
kPtr v59 fun l60 o60 =>
kSt g l60 (o60 + 2) (t 9) fun g8 =>
aRet K (.int .i64 0) g8 n
def wpq_Queue_Push_cut1 (C : CT) (K : Cont) (J : ECont) (t : Env) (g : G) (n : Nat) : Prop:=
kNil (t 0) fun v35 =>
kPtr v35 fun l36 o36 =>
kLd g l36 (o36 + 2) fun v37 =>
kLen v37 fun v38 =>
kBin .int .add v38 (.int .i64 1) fun v39 =>
kMake v39 v39 [.int .i64 0,.int .u64 0,.int .u64 0,.int .u64 0,.int .u64 0,.int .u64 0,.int .u64 0,.int .u64 0,.int .u64 0] 72 g n fun v40 g5 n40 =>
kNil (t 0) fun v43 =>
kPtr v43 fun l44 o44 =>
kLd g5 l44 (o44 + 2) fun v45 =>
kCopy v40 v45 9 g5 fun v46 g6 =>
kNil (t 0) fun v49 =>
kPtr v49 fun l50 o50 =>
kLd g6 l50 (o50 + 2) fun v51 =>
kLen v51 fun v52 =>
kPtr (t 5) fun l54 o54 =>
kLdN g6 l54 o54 8 fun c54 =>
kFill [.int .i64 0,.int .u64 0,.int .u64 0,.int .u64 0,.int .u64 0,.int .u64 0,.int .u64 0,.int .u64 0,.int .u64 0] [(0,none,t 1),(1,some 8,.agg c54.toArray)] fun c55 =>
kIndexAddr v40 v52 9 fun v56 =>
kPtr v56 fun lg7 og7 =>
kAgg (.agg c55.toArray) fun cg7 =>
cg7.length = 9 ∧ kStN g6 lg7 og7 cg7 fun g7 =>
J (puts t [(34,t 0),(35,v35),(36,(ptr l36 (o36 + 2))),(37,v37),(38,v38),(39,v39),(40,v40),(9,v40),(41,v40),(42,t 0),(43,v43),(44,(ptr l44 (o44 + 2))),(45,v45),(46,v46),(47,v40),(48,t 0),(49,v49),(50,(ptr l50 (o50 + 2))),(51,v51),(52,v52),(53,t 1),(54,.agg c54.toArray),(55,.agg c55.toArray),(56,v56)]) g7 n40
def wpq_Queue_Push_c (C : CT) (a0 a1 a2 : Value) (J : ECont) (g : G) (n : Nat) (K : Cont) : Prop:=
kAgg a2 fun c5 =>
kNew c5 .exact g n fun l5 g1 n5 =>
kBin .ptr .eql a0 (.pointer none) fun v11 =>
kSplit v11 (
aRet K (.int .i64 1) g1 n5) (
kNil a0 fun v14 =>
kPtr v14 fun l15 o15 =>
kLd g1 l15 (o15 + 0) fun v16 =>
C nvm_Device_Read_id [v16,a1] g1 n5 fun v18 g2 n18 =>
kExtract v18 0 fun v19 =>
kExtract v18 1 fun v20 =>
kNew [.int .u64 0,.int .u64 0,.int .u64 0,.int .u64 0,.int .u64 0,.int .u64 0,.int .u64 0,.int .u64 0] .exact g2 n18 fun l7 g3 n7 =>
kAgg v19 fun cg4 =>
cg4.length = 8 ∧ kStN g3 l7 0 cg4 fun g4 =>
kBin .int .neq v20 (.int .i64 0) fun v22 =>
kSplit v22 (
aRet K v20 g4 n7) (
kNil a0 fun v25 =>
kPtr v25 fun l26 o26 =>
kLd g4 l26 (o26 + 2) fun v27 =>
kLen v27 fun v28 =>
kNil a0 fun v30 =>
kPtr v30 fun l31 o31 =>
kLd g4 l31 (o31 + 1) fun v32 =>
kBin .int .geq v28 v32 fun v33 =>
kSplit v33 (
aRet K (.int .i64 13) g4 n7) (
J (puts (args0 [a0,a1,a2]) [(5,ptr l5 0),(6,.int .i64 0),(10,a0),(11,v11),(13,a0),(14,v14),(15,(ptr l15 (o15 + 0))),(16,v16),(17,a1),(18,v18),(12,v18),(19,v19),(20,v20),(7,ptr l7 0),(8,v20),(21,v20),(22,v22),(24,a0),(25,v25),(26,(ptr l26 (o26 + 2))),(27,v27),(28,v28),(29,a0),(30,v30),(31,(ptr l31 (o31 + 1))),(32,v32),(33,v33)]) g4 n7)))
def wpq_Queue_Push (C : CT) (a0 a1 a2 : Value) (g : G) (n : Nat) (K : Cont) : Prop := wpq_Queue_Push_c C a0 a1 a2 (wpq_Queue_Push_cut1 C K (wpq_Queue_Push_cut2 C K)) g n K
theorem wpq_Queue_Push_cut2tail (C : CT) (t : Env) (g : G) (n : Nat) (K : Cont) : wpq_Queue_Push_cut2 C K t g n = abodyAt Tryz.prog C [1,1,1,1,1,1,1] wpq_Queue_Push_id K t g n := by kernel_rfl
theorem wpq_Queue_Push_cut2all (C : CT) (K : Cont) : wpq_Queue_Push_cut2 C K = abodyAt Tryz.prog C [1,1,1,1,1,1,1] wpq_Queue_Push_id K := funext fun t => funext fun g => funext fun n => wpq_Queue_Push_cut2tail C t g n K
theorem wpq_Queue_Push_cut1tail (C : CT) (J : ECont) (t : Env) (g : G) (n : Nat) (K : Cont) : wpq_Queue_Push_cut1 C K J t g n = abodyAtCut Tryz.prog C [1,1,1,1] [1,1,1] J wpq_Queue_Push_id K t g n := by kernel_rfl
theorem wpq_Queue_Push_cut1all (C : CT) (K : Cont) : wpq_Queue_Push_cut1 C K (wpq_Queue_Push_cut2 C K) = abodyAt Tryz.prog C [1,1,1,1] wpq_Queue_Push_id K := by
  rw [wpq_Queue_Push_cut2all]
  exact (funext fun t => funext fun g => funext fun n => wpq_Queue_Push_cut1tail C _ t g n K).trans (abodyAtCut_eq Tryz.prog C [1,1,1,1] [1,1,1] wpq_Queue_Push_id K)
theorem wpq_Queue_Push_cutmain (C : CT) (a0 a1 a2 : Value) (J : ECont) (g : G) (n : Nat) (K : Cont) : wpq_Queue_Push_c C a0 a1 a2 J g n K = abodyCut Tryz.prog C [1,1,1,1] J wpq_Queue_Push_id [a0,a1,a2] g n K := by kernel_rfl
theorem wpq_Queue_Push_eq (C : CT) (a0 a1 a2 : Value) (g : G) (n : Nat) (K : Cont) : wpq_Queue_Push C a0 a1 a2 g n K = abody Tryz.prog C wpq_Queue_Push_id [a0,a1,a2] g n K := by
  unfold wpq_Queue_Push
  rw [wpq_Queue_Push_cutmain,wpq_Queue_Push_cut1all]
  exact abodyCut_eq Tryz.prog C [1,1,1,1] wpq_Queue_Push_id [a0,a1,a2] g n K
def agent_Agent_Idle (C : CT) (a0 : Value) (g : G) (n : Nat) (K : Cont) : Prop:=
kBin .ptr .eql a0 (.pointer none) fun v4 =>
kSplit v4 (
aRet K (.bool true) g n) (
kNil a0 fun v7 =>
kPtr v7 fun l8 o8 =>
kLd g l8 (o8 + 0) fun v9 =>
C array_Array_Slots_id [v9] g n fun v10 g1 n10 =>
C slices_ContainsFunc_array_Slot_array_Slot_id [v10,(.func (.func agent_Agent_Idle_1_id) #[] #[])] g1 n10 fun v11 g2 n11 =>
kUn .not v11 fun v12 =>
aRet K v12 g2 n11)
theorem agent_Agent_Idle_eq (C : CT) (a0 : Value) (g : G) (n : Nat) (K : Cont) : agent_Agent_Idle C a0 g n K = abody Tryz.prog C agent_Agent_Idle_id [a0] g n K := by kernel_rfl
def agent_Agent_out_j1 (C : CT) (K : Cont) (t : Env) (g : G) (n : Nat) : Prop:=
kNil (t 0) fun v18 =>
kPtr v18 fun l19 o19 =>
kLd g l19 (o19 + 0) fun v20 =>
kPtr (t 3) fun l21 o21 =>
kLd g l21 (o21 + 1) fun v22 =>
kPtr (t 3) fun l24 o24 =>
kLdN g l24 (o24 + 2) 8 fun c25 =>
C array_Array_Set_id [v20,v22,t 6,.agg c25.toArray] g n fun v26 g6 n26 =>
kPtr (t 5) fun l27 o27 =>
kLdN g6 l27 o27 12 fun c27 =>
kFill (reps 1 [.int .i64 0,.int .i64 0,.bool false,.bool false,.int .u64 0,.int .u64 0,.int .u64 0,.int .u64 0,.int .u64 0,.int .u64 0,.int .u64 0,.int .u64 0]) [(0,some 12,.agg c27.toArray)] fun c28 =>
kNew c28 .exact g6 n26 fun l28 g7 n28 =>
aRet K (.slice (some ⟨l28,0,none⟩) 1 1) g7 n28
def agent_Agent_out (C : CT) (a0 a1 : Value) (g : G) (n : Nat) (K : Cont) : Prop:=
kAgg a1 fun c3 =>
kNew c3 .exact g n fun l3 g1 n3 =>
kLd g1 l3 (0 + 1) fun v8 =>
kFill [.int .i64 0,.int .i64 0,.bool false,.bool false,.int .u64 0,.int .u64 0,.int .u64 0,.int .u64 0,.int .u64 0,.int .u64 0,.int .u64 0,.int .u64 0] [(0,none,.int .i64 3),(1,none,v8)] fun c9 =>
kNew [.int .i64 0,.int .i64 0,.bool false,.bool false,.int .u64 0,.int .u64 0,.int .u64 0,.int .u64 0,.int .u64 0,.int .u64 0,.int .u64 0,.int .u64 0] .exact g1 n3 fun l5 g2 n5 =>
kAgg (.agg c9.toArray) fun cg3 =>
cg3.length = 12 ∧ kStN g2 l5 0 cg3 fun g3 =>
kLd g3 l3 (0 + 0) fun v11 =>
kBin .int .eql v11 (.int .i64 3) fun v12 =>
kSplit v12 (
kLdN g3 l3 (0 + 2) 8 fun c14 =>
kSt g3 l5 (0 + 2) (.bool true) fun g4 =>
(kPtr (ptr l3 (0 + 2)) fun l _ => g4 l = g3 l) ∧ kAgg (.agg c14.toArray) fun cg5 =>
cg5.length = 8 ∧ kStN g4 l5 (0 + 4) cg5 fun g5 =>
agent_Agent_out_j1 C K (puts (args0 [a0,a1]) [(3,ptr l3 0),(4,.slice none 0 0),(7,(ptr l3 (0 + 1))),(8,v8),(9,.agg c9.toArray),(5,ptr l5 0),(6,.int .i64 7),(10,(ptr l3 (0 + 0))),(11,v11),(12,v12),(13,(ptr l3 (0 + 2))),(14,.agg c14.toArray),(6,.int .i64 9),(15,(ptr l5 (0 + 2))),(16,(ptr l5 (0 + 4)))]) g5 n5) (
agent_Agent_out_j1 C K (puts (args0 [a0,a1]) [(3,ptr l3 0),(4,.slice none 0 0),(7,(ptr l3 (0 + 1))),(8,v8),(9,.agg c9.toArray),(5,ptr l5 0),(6,.int .i64 7),(10,(ptr l3 (0 + 0))),(11,v11),(12,v12)]) g3 n5)
theorem agent_Agent_out_eq (C : CT) (a0 a1 : Value) (g : G) (n : Nat) (K : Cont) : agent_Agent_out C a0 a1 g n K = abody Tryz.prog C agent_Agent_out_id [a0,a1] g n K := by kernel_rfl
def nvm_Device_Write (C : CT) (a0 a1 a2 : Value) (g : G) (n : Nat) (K : Cont) : Prop:=
kAgg a2 fun c5 =>
kNew c5 .exact g n fun l5 g1 n5 =>
C nvm_Device_may_id [a0,a1] g1 n5 fun v10 g2 n10 =>
kBin .int .neq v10 (.int .i64 0) fun v12 =>
kSplit v12 (
aRet K v10 g2 n10) (
kNil a0 fun v15 =>
kPtr v15 fun l16 o16 =>
C sync_atomic_Int64_Add_id [(ptr l16 (o16 + 3)),.int .i64 1] g2 n10 fun v17 g3 n17 =>
kNil a0 fun v19 =>
kPtr v19 fun l20 o20 =>
kLd g3 l20 (o20 + 0) fun v21 =>
kLdN g3 l5 0 8 fun c23 =>
kIndexAddr v21 a1 8 fun v24 =>
kPtr v24 fun lg4 og4 =>
kAgg (.agg c23.toArray) fun cg4 =>
cg4.length = 8 ∧ kStN g3 lg4 og4 cg4 fun g4 =>
aRet K (.int .i64 0) g4 n17)
theorem nvm_Device_Write_eq (C : CT) (a0 a1 a2 : Value) (g : G) (n : Nat) (K : Cont) : nvm_Device_Write C a0 a1 a2 g n K = abody Tryz.prog C nvm_Device_Write_id [a0,a1,a2] g n K := by kernel_rfl
def array_Array_Set_j1 (C : CT) (K : Cont) (t : Env) (g : G) (n : Nat) : Prop:=
kBin .int .lss (t 9) (.int .i64 0) fun v36 =>
kSplit v36 (
aRet K (.int .i64 13) g n) (
kPtr (t 7) fun l41 o41 =>
kLdN g l41 o41 8 fun c41 =>
C array_Array_number_id [t 0] g n fun v43 g5 n43 =>
(kPtr (t 7) fun l _ => g5 l = g l) ∧ kFill [.int .i64 0,.int .i64 0,.int .u64 0,.int .u64 0,.int .u64 0,.int .u64 0,.int .u64 0,.int .u64 0,.int .u64 0,.int .u64 0,.int .i64 0] [(0,none,t 2),(1,none,t 1),(2,some 8,.agg c41.toArray),(10,none,v43)] fun c44 =>
kIndexAddr (t 10) (t 9) 11 fun v45 =>
kPtr v45 fun lg6 og6 =>
kAgg (.agg c44.toArray) fun cg6 =>
cg6.length = 11 ∧ kStN g5 lg6 og6 cg6 fun g6 =>
aRet K (.int .i64 0) g6 n43)
def array_Array_Set (C : CT) (a0 a1 a2 a3 : Value) (g : G) (n : Nat) (K : Cont) : Prop:=
kAgg a3 fun c7 =>
kNew c7 .exact g n fun l7 g1 n7 =>
kBin .ptr .eql a0 (.pointer none) fun v12 =>
kSplit v12 (
aRet K (.int .i64 1) g1 n7) (
kBin .int .lss a1 (.int .i64 0) fun v15 =>
kSplit v15 (
aRet K (.int .i64 1) g1 n7) (
kBin .int .lss a2 (.int .i64 1) fun v19 =>
kSplit v19 (
aRet K (.int .i64 1) g1 n7) (
kBin .int .gtr a2 (.int .i64 9) fun v23 =>
kSplit v23 (
aRet K (.int .i64 1) g1 n7) (
C array_Array_at_id [a0,a1] g1 n7 fun v27 g2 n27 =>
C array_Array_set_id [a0,a1] g2 n27 fun v30 g3 n30 =>
kBin .int .lss v27 (.int .i64 0) fun v32 =>
kSplit v32 (
C slices_IndexFunc_array_Slot_array_Slot_id [v30,(.func (.func array_empty_id) #[] #[])] g3 n30 fun v34 g4 n34 =>
array_Array_Set_j1 C K (puts (args0 [a0,a1,a2,a3]) [(7,ptr l7 0),(8,.int .i64 0),(11,a0),(12,v12),(13,.bool false),(14,a1),(15,v15),(16,v15),(17,.bool false),(18,a2),(19,v19),(20,v19),(21,.bool false),(22,a2),(23,v23),(24,v23),(25,a0),(26,a1),(27,v27),(28,a0),(29,a1),(30,v30),(9,v27),(10,v30),(31,v27),(32,v32),(33,v30),(34,v34),(9,v34)]) g4 n34) (
array_Array_Set_j1 C K (puts (args0 [a0,a1,a2,a3]) [(7,ptr l7 0),(8,.int .i64 0),(11,a0),(12,v12),(13,.bool false),(14,a1),(15,v15),(16,v15),(17,.bool false),(18,a2),(19,v19),(20,v19),(21,.bool false),(22,a2),(23,v23),(24,v23),(25,a0),(26,a1),(27,v27),(28,a0),(29,a1),(30,v30),(9,v27),(10,v30),(31,v27),(32,v32)]) g3 n30)))))
theorem array_Array_Set_eq (C : CT) (a0 a1 a2 a3 : Value) (g : G) (n : Nat) (K : Cont) : array_Array_Set C a0 a1 a2 a3 g n K = abody Tryz.prog C array_Array_Set_id [a0,a1,a2,a3] g n K := by kernel_rfl
def msg_Queue_Len (C : CT) (a0 : Value) (g : G) (n : Nat) (K : Cont) : Prop:=
kBin .ptr .eql a0 (.pointer none) fun v4 =>
kSplit v4 (
aRet K (.int .i64 0) g n) (
kNil a0 fun v6 =>
kPtr v6 fun l7 o7 =>
kLd g l7 (o7 + 0) fun v8 =>
kLen v8 fun v9 =>
aRet K v9 g n)
theorem msg_Queue_Len_eq (C : CT) (a0 : Value) (g : G) (n : Nat) (K : Cont) : msg_Queue_Len C a0 g n K = abody Tryz.prog C msg_Queue_Len_id [a0] g n K := by kernel_rfl
def dir_Good_j2 (C : CT) (K : Cont) (t : Env) (g : G) (n : Nat) : Prop:=
kSplit (t 87) (
kPtr (t 1) fun l90 o90 =>
kLd g l90 (o90 + 13) fun v91 =>
C dir_core_id [v91] g n fun v92 g4 n92 =>
aRet K v92 g4 n92) (
aRet K (.bool false) g n)
def dir_Good_j1 (C : CT) (K : Cont) (t : Env) (g : G) (n : Nat) : Prop:=
kSplit (t 76) (
kPtr (t 1) fun l79 o79 =>
kLd g l79 (o79 + 13) fun v80 =>
C dir_core_id [v80] g n fun v81 g3 n81 =>
kSplit v81 (
kPtr (t 1) fun l83 o83 =>
kLd g3 l83 (o83 + 14) fun v84 =>
kBin .int .neq v84 (.int .u8 0) fun v85 =>
aRet K v85 g3 n81) (
aRet K (.bool false) g3 n81)) (
kBin .int .eql (t 65) (.int .i64 4) fun v88 =>
kSplit v88 (
dir_Good_j2 C K (puts t [(88,v88),(87,v88)]) g n) (
kBin .int .eql (t 65) (.int .i64 5) fun v89 =>
dir_Good_j2 C K (puts t [(88,v88),(87,v88),(89,v89),(87,v89)]) g n))
def dir_Good (C : CT) (a0 : Value) (g : G) (n : Nat) (K : Cont) : Prop:=
kAgg a0 fun c1 =>
kNew c1 .exact g n fun l1 g1 n1 =>
kLd g1 l1 (0 + 10) fun v5 =>
kBin .int .geq v5 (.int .i64 0) fun v6 =>
kSplit v6 (
kLd g1 l1 (0 + 10) fun v14 =>
kBin .int .lss v14 (.int .i64 (-1)) fun v15 =>
kSplit v15 (
aRet K (.bool false) g1 n1) (
kLd g1 l1 (0 + 10) fun v18 =>
kBin .int .geq v18 (.int .i64 8) fun v19 =>
kSplit v19 (
aRet K (.bool false) g1 n1) (
kLd g1 l1 (0 + 10) fun v23 =>
kBin .int .geq v23 (.int .i64 0) fun v24 =>
kSplit v24 (
kLd g1 l1 (0 + 11) fun v27 =>
kBin .int .neq v27 (.int .u8 0) fun v28 =>
kSplit v28 (
aRet K (.bool false) g1 n1) (
kLd g1 l1 (0 + 0) fun v33 =>
kUn .not v33 fun v34 =>
kSplit v34 (
kLd g1 l1 (0 + 1) fun v37 =>
kSplit v37 (
aRet K (.bool false) g1 n1) (
aRet K (.bool false) g1 n1)) (
kLd g1 l1 (0 + 14) fun v55 =>
kLd g1 l1 (0 + 11) fun v57 =>
kLd g1 l1 (0 + 10) fun v59 =>
C geom_Bit_id [v59] g1 n1 fun v60 g2 n60 =>
(kPtr (ptr l1 (0 + 14)) fun l _ => g2 l = g1 l) ∧ (kPtr (ptr l1 (0 + 11)) fun l _ => g2 l = g1 l) ∧ kBin .int .or v57 v60 fun v61 =>
kBin .int .andNot v55 v61 fun v62 =>
kBin .int .neq v62 (.int .u8 0) fun v63 =>
kSplit v63 (
aRet K (.bool false) g2 n60) (
kLd g2 l1 (0 + 12) fun v65 =>
kBin .int .eql v65 (.int .i64 0) fun v67 =>
kSplit v67 (
kLd g2 l1 (0 + 13) fun v69 =>
kBin .int .eql v69 (.int .i64 0) fun v70 =>
kSplit v70 (
kLd g2 l1 (0 + 14) fun v73 =>
kBin .int .eql v73 (.int .u8 0) fun v74 =>
aRet K v74 g2 n60) (
aRet K (.bool false) g2 n60)) (
kBin .int .eql v65 (.int .i64 1) fun v77 =>
kSplit v77 (
dir_Good_j1 C K (puts (args0 [a0]) [(1,ptr l1 0),(2,.bool false),(4,(ptr l1 (0 + 10))),(5,v5),(6,v6),(7,.bool true),(8,undef),(9,undef),(10,undef),(11,.bool true),(3,.bool true),(13,(ptr l1 (0 + 10))),(14,v14),(15,v15),(16,.bool false),(17,(ptr l1 (0 + 10))),(18,v18),(19,v19),(20,v19),(21,.bool false),(22,(ptr l1 (0 + 10))),(23,v23),(24,v24),(25,.bool true),(26,(ptr l1 (0 + 11))),(27,v27),(28,v28),(29,v28),(30,v28),(12,v28),(32,(ptr l1 (0 + 0))),(33,v33),(34,v34),(35,.bool false),(36,undef),(37,undef),(38,undef),(39,undef),(40,undef),(41,undef),(42,undef),(43,undef),(44,undef),(45,undef),(46,undef),(47,undef),(48,undef),(49,undef),(50,undef),(51,undef),(52,.bool false),(31,.bool false),(54,(ptr l1 (0 + 14))),(55,v55),(56,(ptr l1 (0 + 11))),(57,v57),(58,(ptr l1 (0 + 10))),(59,v59),(60,v60),(61,v61),(62,v62),(63,v63),(53,v63),(64,(ptr l1 (0 + 12))),(65,v65),(67,v67),(66,v67),(77,v77),(76,v77)]) g2 n60) (
kBin .int .eql v65 (.int .i64 2) fun v78 =>
dir_Good_j1 C K (puts (args0 [a0]) [(1,ptr l1 0),(2,.bool false),(4,(ptr l1 (0 + 10))),(5,v5),(6,v6),(7,.bool true),(8,undef),(9,undef),(10,undef),(11,.bool true),(3,.bool true),(13,(ptr l1 (0 + 10))),(14,v14),(15,v15),(16,.bool false),(17,(ptr l1 (0 + 10))),(18,v18),(19,v19),(20,v19),(21,.bool false),(22,(ptr l1 (0 + 10))),(23,v23),(24,v24),(25,.bool true),(26,(ptr l1 (0 + 11))),(27,v27),(28,v28),(29,v28),(30,v28),(12,v28),(32,(ptr l1 (0 + 0))),(33,v33),(34,v34),(35,.bool false),(36,undef),(37,undef),(38,undef),(39,undef),(40,undef),(41,undef),(42,undef),(43,undef),(44,undef),(45,undef),(46,undef),(47,undef),(48,undef),(49,undef),(50,undef),(51,undef),(52,.bool false),(31,.bool false),(54,(ptr l1 (0 + 14))),(55,v55),(56,(ptr l1 (0 + 11))),(57,v57),(58,(ptr l1 (0 + 10))),(59,v59),(60,v60),(61,v61),(62,v62),(63,v63),(53,v63),(64,(ptr l1 (0 + 12))),(65,v65),(67,v67),(66,v67),(77,v77),(76,v77),(78,v78),(76,v78)]) g2 n60)))))) (
kLd g1 l1 (0 + 0) fun v33 =>
kUn .not v33 fun v34 =>
kSplit v34 (
kLd g1 l1 (0 + 1) fun v37 =>
kSplit v37 (
aRet K (.bool false) g1 n1) (
aRet K (.bool false) g1 n1)) (
kLd g1 l1 (0 + 14) fun v55 =>
kLd g1 l1 (0 + 11) fun v57 =>
kLd g1 l1 (0 + 10) fun v59 =>
C geom_Bit_id [v59] g1 n1 fun v60 g5 n60 =>
(kPtr (ptr l1 (0 + 14)) fun l _ => g5 l = g1 l) ∧ (kPtr (ptr l1 (0 + 11)) fun l _ => g5 l = g1 l) ∧ kBin .int .or v57 v60 fun v61 =>
kBin .int .andNot v55 v61 fun v62 =>
kBin .int .neq v62 (.int .u8 0) fun v63 =>
kSplit v63 (
aRet K (.bool false) g5 n60) (
kLd g5 l1 (0 + 12) fun v65 =>
kBin .int .eql v65 (.int .i64 0) fun v67 =>
kSplit v67 (
kLd g5 l1 (0 + 13) fun v69 =>
kBin .int .eql v69 (.int .i64 0) fun v70 =>
kSplit v70 (
kLd g5 l1 (0 + 14) fun v73 =>
kBin .int .eql v73 (.int .u8 0) fun v74 =>
aRet K v74 g5 n60) (
aRet K (.bool false) g5 n60)) (
kBin .int .eql v65 (.int .i64 1) fun v77 =>
kSplit v77 (
dir_Good_j1 C K (puts (args0 [a0]) [(1,ptr l1 0),(2,.bool false),(4,(ptr l1 (0 + 10))),(5,v5),(6,v6),(7,.bool true),(8,undef),(9,undef),(10,undef),(11,.bool true),(3,.bool true),(13,(ptr l1 (0 + 10))),(14,v14),(15,v15),(16,.bool false),(17,(ptr l1 (0 + 10))),(18,v18),(19,v19),(20,v19),(21,.bool false),(22,(ptr l1 (0 + 10))),(23,v23),(24,v24),(25,.bool false),(26,undef),(27,undef),(28,undef),(29,.bool false),(30,.bool false),(12,.bool false),(32,(ptr l1 (0 + 0))),(33,v33),(34,v34),(35,.bool false),(36,undef),(37,undef),(38,undef),(39,undef),(40,undef),(41,undef),(42,undef),(43,undef),(44,undef),(45,undef),(46,undef),(47,undef),(48,undef),(49,undef),(50,undef),(51,undef),(52,.bool false),(31,.bool false),(54,(ptr l1 (0 + 14))),(55,v55),(56,(ptr l1 (0 + 11))),(57,v57),(58,(ptr l1 (0 + 10))),(59,v59),(60,v60),(61,v61),(62,v62),(63,v63),(53,v63),(64,(ptr l1 (0 + 12))),(65,v65),(67,v67),(66,v67),(77,v77),(76,v77)]) g5 n60) (
kBin .int .eql v65 (.int .i64 2) fun v78 =>
dir_Good_j1 C K (puts (args0 [a0]) [(1,ptr l1 0),(2,.bool false),(4,(ptr l1 (0 + 10))),(5,v5),(6,v6),(7,.bool true),(8,undef),(9,undef),(10,undef),(11,.bool true),(3,.bool true),(13,(ptr l1 (0 + 10))),(14,v14),(15,v15),(16,.bool false),(17,(ptr l1 (0 + 10))),(18,v18),(19,v19),(20,v19),(21,.bool false),(22,(ptr l1 (0 + 10))),(23,v23),(24,v24),(25,.bool false),(26,undef),(27,undef),(28,undef),(29,.bool false),(30,.bool false),(12,.bool false),(32,(ptr l1 (0 + 0))),(33,v33),(34,v34),(35,.bool false),(36,undef),(37,undef),(38,undef),(39,undef),(40,undef),(41,undef),(42,undef),(43,undef),(44,undef),(45,undef),(46,undef),(47,undef),(48,undef),(49,undef),(50,undef),(51,undef),(52,.bool false),(31,.bool false),(54,(ptr l1 (0 + 14))),(55,v55),(56,(ptr l1 (0 + 11))),(57,v57),(58,(ptr l1 (0 + 10))),(59,v59),(60,v60),(61,v61),(62,v62),(63,v63),(53,v63),(64,(ptr l1 (0 + 12))),(65,v65),(67,v67),(66,v67),(77,v77),(76,v77),(78,v78),(76,v78)]) g5 n60)))))))) (
kLd g1 l1 (0 + 11) fun v9 =>
kBin .int .neq v9 (.int .u8 0) fun v10 =>
kLd g1 l1 (0 + 10) fun v14 =>
kBin .int .lss v14 (.int .i64 (-1)) fun v15 =>
kSplit v15 (
aRet K (.bool false) g1 n1) (
kLd g1 l1 (0 + 10) fun v18 =>
kBin .int .geq v18 (.int .i64 8) fun v19 =>
kSplit v19 (
aRet K (.bool false) g1 n1) (
kLd g1 l1 (0 + 10) fun v23 =>
kBin .int .geq v23 (.int .i64 0) fun v24 =>
kSplit v24 (
kLd g1 l1 (0 + 11) fun v27 =>
kBin .int .neq v27 (.int .u8 0) fun v28 =>
kSplit v28 (
aRet K (.bool false) g1 n1) (
kLd g1 l1 (0 + 0) fun v33 =>
kUn .not v33 fun v34 =>
kSplit v34 (
kLd g1 l1 (0 + 1) fun v37 =>
kSplit v37 (
aRet K (.bool false) g1 n1) (
kSplit v10 (
aRet K (.bool false) g1 n1) (
kLd g1 l1 (0 + 12) fun v43 =>
kBin .int .neq v43 (.int .i64 0) fun v44 =>
kSplit v44 (
aRet K (.bool false) g1 n1) (
kLdN g1 l1 (0 + 2) 8 fun c48 =>
kFill [.int .u64 0,.int .u64 0,.int .u64 0,.int .u64 0,.int .u64 0,.int .u64 0,.int .u64 0,.int .u64 0] [] fun c49 =>
kBin (.agg [.i,.i,.i,.i,.i,.i,.i,.i]) .neq (.agg c48.toArray) (.agg c49.toArray) fun v50 =>
kSplit v50 (
aRet K (.bool false) g1 n1) (
kLd g1 l1 (0 + 14) fun v55 =>
kLd g1 l1 (0 + 11) fun v57 =>
kLd g1 l1 (0 + 10) fun v59 =>
C geom_Bit_id [v59] g1 n1 fun v60 g6 n60 =>
(kPtr (ptr l1 (0 + 14)) fun l _ => g6 l = g1 l) ∧ (kPtr (ptr l1 (0 + 11)) fun l _ => g6 l = g1 l) ∧ kBin .int .or v57 v60 fun v61 =>
kBin .int .andNot v55 v61 fun v62 =>
kBin .int .neq v62 (.int .u8 0) fun v63 =>
kSplit v63 (
aRet K (.bool false) g6 n60) (
kLd g6 l1 (0 + 12) fun v65 =>
kBin .int .eql v65 (.int .i64 0) fun v67 =>
kSplit v67 (
kLd g6 l1 (0 + 13) fun v69 =>
kBin .int .eql v69 (.int .i64 0) fun v70 =>
kSplit v70 (
kLd g6 l1 (0 + 14) fun v73 =>
kBin .int .eql v73 (.int .u8 0) fun v74 =>
aRet K v74 g6 n60) (
aRet K (.bool false) g6 n60)) (
kBin .int .eql v65 (.int .i64 1) fun v77 =>
kSplit v77 (
dir_Good_j1 C K (puts (args0 [a0]) [(1,ptr l1 0),(2,.bool false),(4,(ptr l1 (0 + 10))),(5,v5),(6,v6),(7,.bool false),(8,(ptr l1 (0 + 11))),(9,v9),(10,v10),(11,v10),(3,v10),(13,(ptr l1 (0 + 10))),(14,v14),(15,v15),(16,.bool false),(17,(ptr l1 (0 + 10))),(18,v18),(19,v19),(20,v19),(21,.bool false),(22,(ptr l1 (0 + 10))),(23,v23),(24,v24),(25,.bool true),(26,(ptr l1 (0 + 11))),(27,v27),(28,v28),(29,v28),(30,v28),(12,v28),(32,(ptr l1 (0 + 0))),(33,v33),(34,v34),(35,.bool true),(36,(ptr l1 (0 + 1))),(37,v37),(38,.bool false),(39,v10),(40,v10),(41,.bool false),(42,(ptr l1 (0 + 12))),(43,v43),(44,v44),(45,v44),(46,.bool false),(47,(ptr l1 (0 + 2))),(48,.agg c48.toArray),(49,.agg c49.toArray),(50,v50),(51,v50),(52,v50),(31,v50),(54,(ptr l1 (0 + 14))),(55,v55),(56,(ptr l1 (0 + 11))),(57,v57),(58,(ptr l1 (0 + 10))),(59,v59),(60,v60),(61,v61),(62,v62),(63,v63),(53,v63),(64,(ptr l1 (0 + 12))),(65,v65),(67,v67),(66,v67),(77,v77),(76,v77)]) g6 n60) (
kBin .int .eql v65 (.int .i64 2) fun v78 =>
dir_Good_j1 C K (puts (args0 [a0]) [(1,ptr l1 0),(2,.bool false),(4,(ptr l1 (0 + 10))),(5,v5),(6,v6),(7,.bool false),(8,(ptr l1 (0 + 11))),(9,v9),(10,v10),(11,v10),(3,v10),(13,(ptr l1 (0 + 10))),(14,v14),(15,v15),(16,.bool false),(17,(ptr l1 (0 + 10))),(18,v18),(19,v19),(20,v19),(21,.bool false),(22,(ptr l1 (0 + 10))),(23,v23),(24,v24),(25,.bool true),(26,(ptr l1 (0 + 11))),(27,v27),(28,v28),(29,v28),(30,v28),(12,v28),(32,(ptr l1 (0 + 0))),(33,v33),(34,v34),(35,.bool true),(36,(ptr l1 (0 + 1))),(37,v37),(38,.bool false),(39,v10),(40,v10),(41,.bool false),(42,(ptr l1 (0 + 12))),(43,v43),(44,v44),(45,v44),(46,.bool false),(47,(ptr l1 (0 + 2))),(48,.agg c48.toArray),(49,.agg c49.toArray),(50,v50),(51,v50),(52,v50),(31,v50),(54,(ptr l1 (0 + 14))),(55,v55),(56,(ptr l1 (0 + 11))),(57,v57),(58,(ptr l1 (0 + 10))),(59,v59),(60,v60),(61,v61),(62,v62),(63,v63),(53,v63),(64,(ptr l1 (0 + 12))),(65,v65),(67,v67),(66,v67),(77,v77),(76,v77),(78,v78),(76,v78)]) g6 n60)))))))) (
kLd g1 l1 (0 + 14) fun v55 =>
kLd g1 l1 (0 + 11) fun v57 =>
kLd g1 l1 (0 + 10) fun v59 =>
C geom_Bit_id [v59] g1 n1 fun v60 g7 n60 =>
(kPtr (ptr l1 (0 + 14)) fun l _ => g7 l = g1 l) ∧ (kPtr (ptr l1 (0 + 11)) fun l _ => g7 l = g1 l) ∧ kBin .int .or v57 v60 fun v61 =>
kBin .int .andNot v55 v61 fun v62 =>
kBin .int .neq v62 (.int .u8 0) fun v63 =>
kSplit v63 (
aRet K (.bool false) g7 n60) (
kLd g7 l1 (0 + 12) fun v65 =>
kBin .int .eql v65 (.int .i64 0) fun v67 =>
kSplit v67 (
kLd g7 l1 (0 + 13) fun v69 =>
kBin .int .eql v69 (.int .i64 0) fun v70 =>
kSplit v70 (
kLd g7 l1 (0 + 14) fun v73 =>
kBin .int .eql v73 (.int .u8 0) fun v74 =>
aRet K v74 g7 n60) (
aRet K (.bool false) g7 n60)) (
kBin .int .eql v65 (.int .i64 1) fun v77 =>
kSplit v77 (
dir_Good_j1 C K (puts (args0 [a0]) [(1,ptr l1 0),(2,.bool false),(4,(ptr l1 (0 + 10))),(5,v5),(6,v6),(7,.bool false),(8,(ptr l1 (0 + 11))),(9,v9),(10,v10),(11,v10),(3,v10),(13,(ptr l1 (0 + 10))),(14,v14),(15,v15),(16,.bool false),(17,(ptr l1 (0 + 10))),(18,v18),(19,v19),(20,v19),(21,.bool false),(22,(ptr l1 (0 + 10))),(23,v23),(24,v24),(25,.bool true),(26,(ptr l1 (0 + 11))),(27,v27),(28,v28),(29,v28),(30,v28),(12,v28),(32,(ptr l1 (0 + 0))),(33,v33),(34,v34),(35,.bool false),(36,undef),(37,undef),(38,undef),(39,undef),(40,undef),(41,undef),(42,undef),(43,undef),(44,undef),(45,undef),(46,undef),(47,undef),(48,undef),(49,undef),(50,undef),(51,undef),(52,.bool false),(31,.bool false),(54,(ptr l1 (0 + 14))),(55,v55),(56,(ptr l1 (0 + 11))),(57,v57),(58,(ptr l1 (0 + 10))),(59,v59),(60,v60),(61,v61),(62,v62),(63,v63),(53,v63),(64,(ptr l1 (0 + 12))),(65,v65),(67,v67),(66,v67),(77,v77),(76,v77)]) g7 n60) (
kBin .int .eql v65 (.int .i64 2) fun v78 =>
dir_Good_j1 C K (puts (args0 [a0]) [(1,ptr l1 0),(2,.bool false),(4,(ptr l1 (0 + 10))),(5,v5),(6,v6),(7,.bool false),(8,(ptr l1 (0 + 11))),(9,v9),(10,v10),(11,v10),(3,v10),(13,(ptr l1 (0 + 10))),(14,v14),(15,v15),(16,.bool false),(17,(ptr l1 (0 + 10))),(18,v18),(19,v19),(20,v19),(21,.bool false),(22,(ptr l1 (0 + 10))),(23,v23),(24,v24),(25,.bool true),(26,(ptr l1 (0 + 11))),(27,v27),(28,v28),(29,v28),(30,v28),(12,v28),(32,(ptr l1 (0 + 0))),(33,v33),(34,v34),(35,.bool false),(36,undef),(37,undef),(38,undef),(39,undef),(40,undef),(41,undef),(42,undef),(43,undef),(44,undef),(45,undef),(46,undef),(47,undef),(48,undef),(49,undef),(50,undef),(51,undef),(52,.bool false),(31,.bool false),(54,(ptr l1 (0 + 14))),(55,v55),(56,(ptr l1 (0 + 11))),(57,v57),(58,(ptr l1 (0 + 10))),(59,v59),(60,v60),(61,v61),(62,v62),(63,v63),(53,v63),(64,(ptr l1 (0 + 12))),(65,v65),(67,v67),(66,v67),(77,v77),(76,v77),(78,v78),(76,v78)]) g7 n60)))))) (
kLd g1 l1 (0 + 0) fun v33 =>
kUn .not v33 fun v34 =>
kSplit v34 (
kLd g1 l1 (0 + 1) fun v37 =>
kSplit v37 (
aRet K (.bool false) g1 n1) (
kSplit v10 (
aRet K (.bool false) g1 n1) (
kLd g1 l1 (0 + 12) fun v43 =>
kBin .int .neq v43 (.int .i64 0) fun v44 =>
kSplit v44 (
aRet K (.bool false) g1 n1) (
kLdN g1 l1 (0 + 2) 8 fun c48 =>
kFill [.int .u64 0,.int .u64 0,.int .u64 0,.int .u64 0,.int .u64 0,.int .u64 0,.int .u64 0,.int .u64 0] [] fun c49 =>
kBin (.agg [.i,.i,.i,.i,.i,.i,.i,.i]) .neq (.agg c48.toArray) (.agg c49.toArray) fun v50 =>
kSplit v50 (
aRet K (.bool false) g1 n1) (
kLd g1 l1 (0 + 14) fun v55 =>
kLd g1 l1 (0 + 11) fun v57 =>
kLd g1 l1 (0 + 10) fun v59 =>
C geom_Bit_id [v59] g1 n1 fun v60 g8 n60 =>
(kPtr (ptr l1 (0 + 14)) fun l _ => g8 l = g1 l) ∧ (kPtr (ptr l1 (0 + 11)) fun l _ => g8 l = g1 l) ∧ kBin .int .or v57 v60 fun v61 =>
kBin .int .andNot v55 v61 fun v62 =>
kBin .int .neq v62 (.int .u8 0) fun v63 =>
kSplit v63 (
aRet K (.bool false) g8 n60) (
kLd g8 l1 (0 + 12) fun v65 =>
kBin .int .eql v65 (.int .i64 0) fun v67 =>
kSplit v67 (
kLd g8 l1 (0 + 13) fun v69 =>
kBin .int .eql v69 (.int .i64 0) fun v70 =>
kSplit v70 (
kLd g8 l1 (0 + 14) fun v73 =>
kBin .int .eql v73 (.int .u8 0) fun v74 =>
aRet K v74 g8 n60) (
aRet K (.bool false) g8 n60)) (
kBin .int .eql v65 (.int .i64 1) fun v77 =>
kSplit v77 (
dir_Good_j1 C K (puts (args0 [a0]) [(1,ptr l1 0),(2,.bool false),(4,(ptr l1 (0 + 10))),(5,v5),(6,v6),(7,.bool false),(8,(ptr l1 (0 + 11))),(9,v9),(10,v10),(11,v10),(3,v10),(13,(ptr l1 (0 + 10))),(14,v14),(15,v15),(16,.bool false),(17,(ptr l1 (0 + 10))),(18,v18),(19,v19),(20,v19),(21,.bool false),(22,(ptr l1 (0 + 10))),(23,v23),(24,v24),(25,.bool false),(26,undef),(27,undef),(28,undef),(29,.bool false),(30,.bool false),(12,.bool false),(32,(ptr l1 (0 + 0))),(33,v33),(34,v34),(35,.bool true),(36,(ptr l1 (0 + 1))),(37,v37),(38,.bool false),(39,v10),(40,v10),(41,.bool false),(42,(ptr l1 (0 + 12))),(43,v43),(44,v44),(45,v44),(46,.bool false),(47,(ptr l1 (0 + 2))),(48,.agg c48.toArray),(49,.agg c49.toArray),(50,v50),(51,v50),(52,v50),(31,v50),(54,(ptr l1 (0 + 14))),(55,v55),(56,(ptr l1 (0 + 11))),(57,v57),(58,(ptr l1 (0 + 10))),(59,v59),(60,v60),(61,v61),(62,v62),(63,v63),(53,v63),(64,(ptr l1 (0 + 12))),(65,v65),(67,v67),(66,v67),(77,v77),(76,v77)]) g8 n60) (
kBin .int .eql v65 (.int .i64 2) fun v78 =>
dir_Good_j1 C K (puts (args0 [a0]) [(1,ptr l1 0),(2,.bool false),(4,(ptr l1 (0 + 10))),(5,v5),(6,v6),(7,.bool false),(8,(ptr l1 (0 + 11))),(9,v9),(10,v10),(11,v10),(3,v10),(13,(ptr l1 (0 + 10))),(14,v14),(15,v15),(16,.bool false),(17,(ptr l1 (0 + 10))),(18,v18),(19,v19),(20,v19),(21,.bool false),(22,(ptr l1 (0 + 10))),(23,v23),(24,v24),(25,.bool false),(26,undef),(27,undef),(28,undef),(29,.bool false),(30,.bool false),(12,.bool false),(32,(ptr l1 (0 + 0))),(33,v33),(34,v34),(35,.bool true),(36,(ptr l1 (0 + 1))),(37,v37),(38,.bool false),(39,v10),(40,v10),(41,.bool false),(42,(ptr l1 (0 + 12))),(43,v43),(44,v44),(45,v44),(46,.bool false),(47,(ptr l1 (0 + 2))),(48,.agg c48.toArray),(49,.agg c49.toArray),(50,v50),(51,v50),(52,v50),(31,v50),(54,(ptr l1 (0 + 14))),(55,v55),(56,(ptr l1 (0 + 11))),(57,v57),(58,(ptr l1 (0 + 10))),(59,v59),(60,v60),(61,v61),(62,v62),(63,v63),(53,v63),(64,(ptr l1 (0 + 12))),(65,v65),(67,v67),(66,v67),(77,v77),(76,v77),(78,v78),(76,v78)]) g8 n60)))))))) (
kLd g1 l1 (0 + 14) fun v55 =>
kLd g1 l1 (0 + 11) fun v57 =>
kLd g1 l1 (0 + 10) fun v59 =>
C geom_Bit_id [v59] g1 n1 fun v60 g9 n60 =>
(kPtr (ptr l1 (0 + 14)) fun l _ => g9 l = g1 l) ∧ (kPtr (ptr l1 (0 + 11)) fun l _ => g9 l = g1 l) ∧ kBin .int .or v57 v60 fun v61 =>
kBin .int .andNot v55 v61 fun v62 =>
kBin .int .neq v62 (.int .u8 0) fun v63 =>
kSplit v63 (
aRet K (.bool false) g9 n60) (
kLd g9 l1 (0 + 12) fun v65 =>
kBin .int .eql v65 (.int .i64 0) fun v67 =>
kSplit v67 (
kLd g9 l1 (0 + 13) fun v69 =>
kBin .int .eql v69 (.int .i64 0) fun v70 =>
kSplit v70 (
kLd g9 l1 (0 + 14) fun v73 =>
kBin .int .eql v73 (.int .u8 0) fun v74 =>
aRet K v74 g9 n60) (
aRet K (.bool false) g9 n60)) (
kBin .int .eql v65 (.int .i64 1) fun v77 =>
kSplit v77 (
dir_Good_j1 C K (puts (args0 [a0]) [(1,ptr l1 0),(2,.bool false),(4,(ptr l1 (0 + 10))),(5,v5),(6,v6),(7,.bool false),(8,(ptr l1 (0 + 11))),(9,v9),(10,v10),(11,v10),(3,v10),(13,(ptr l1 (0 + 10))),(14,v14),(15,v15),(16,.bool false),(17,(ptr l1 (0 + 10))),(18,v18),(19,v19),(20,v19),(21,.bool false),(22,(ptr l1 (0 + 10))),(23,v23),(24,v24),(25,.bool false),(26,undef),(27,undef),(28,undef),(29,.bool false),(30,.bool false),(12,.bool false),(32,(ptr l1 (0 + 0))),(33,v33),(34,v34),(35,.bool false),(36,undef),(37,undef),(38,undef),(39,undef),(40,undef),(41,undef),(42,undef),(43,undef),(44,undef),(45,undef),(46,undef),(47,undef),(48,undef),(49,undef),(50,undef),(51,undef),(52,.bool false),(31,.bool false),(54,(ptr l1 (0 + 14))),(55,v55),(56,(ptr l1 (0 + 11))),(57,v57),(58,(ptr l1 (0 + 10))),(59,v59),(60,v60),(61,v61),(62,v62),(63,v63),(53,v63),(64,(ptr l1 (0 + 12))),(65,v65),(67,v67),(66,v67),(77,v77),(76,v77)]) g9 n60) (
kBin .int .eql v65 (.int .i64 2) fun v78 =>
dir_Good_j1 C K (puts (args0 [a0]) [(1,ptr l1 0),(2,.bool false),(4,(ptr l1 (0 + 10))),(5,v5),(6,v6),(7,.bool false),(8,(ptr l1 (0 + 11))),(9,v9),(10,v10),(11,v10),(3,v10),(13,(ptr l1 (0 + 10))),(14,v14),(15,v15),(16,.bool false),(17,(ptr l1 (0 + 10))),(18,v18),(19,v19),(20,v19),(21,.bool false),(22,(ptr l1 (0 + 10))),(23,v23),(24,v24),(25,.bool false),(26,undef),(27,undef),(28,undef),(29,.bool false),(30,.bool false),(12,.bool false),(32,(ptr l1 (0 + 0))),(33,v33),(34,v34),(35,.bool false),(36,undef),(37,undef),(38,undef),(39,undef),(40,undef),(41,undef),(42,undef),(43,undef),(44,undef),(45,undef),(46,undef),(47,undef),(48,undef),(49,undef),(50,undef),(51,undef),(52,.bool false),(31,.bool false),(54,(ptr l1 (0 + 14))),(55,v55),(56,(ptr l1 (0 + 11))),(57,v57),(58,(ptr l1 (0 + 10))),(59,v59),(60,v60),(61,v61),(62,v62),(63,v63),(53,v63),(64,(ptr l1 (0 + 12))),(65,v65),(67,v67),(66,v67),(77,v77),(76,v77),(78,v78),(76,v78)]) g9 n60))))))))
theorem dir_Good_eq (C : CT) (a0 : Value) (g : G) (n : Nat) (K : Cont) : dir_Good C a0 g n K = abody Tryz.prog C dir_Good_id [a0] g n K := by kernel_rfl
def dir_core (C : CT) (a0 : Value) (g : G) (n : Nat) (K : Cont) : Prop:=
kBin .int .geq a0 (.int .i64 0) fun v4 =>
kSplit v4 (
kBin .int .lss a0 (.int .i64 8) fun v7 =>
aRet K v7 g n) (
aRet K (.bool false) g n)
theorem dir_core_eq (C : CT) (a0 : Value) (g : G) (n : Nat) (K : Cont) : dir_core C a0 g n K = abody Tryz.prog C dir_core_id [a0] g n K := by kernel_rfl
def msg_Asks (C : CT) (a0 : Value) (g : G) (n : Nat) (K : Cont) : Prop:=
kBin .int .geq a0 (.int .i64 1) fun v4 =>
kSplit v4 (
kBin .int .leq a0 (.int .i64 5) fun v7 =>
aRet K v7 g n) (
aRet K (.bool false) g n)
theorem msg_Asks_eq (C : CT) (a0 : Value) (g : G) (n : Nat) (K : Cont) : msg_Asks C a0 g n K = abody Tryz.prog C msg_Asks_id [a0] g n K := by kernel_rfl
def dir_asks (C : CT) (g : G) (n : Nat) (K : Cont) : Prop:=
kNew [.nilFunc,.nilFunc,.nilFunc,.nilFunc,.nilFunc,.nilFunc] .exact g n fun l0 g1 n0 =>
kFill [.nilFunc,.nilFunc,.nilFunc,.nilFunc,.nilFunc,.nilFunc] [(1,none,(.func (.func dir_move_getS_id) #[] #[])),(2,none,(.func (.func dir_move_getM_id) #[] #[])),(3,none,(.func (.func dir_move_put_id) #[] #[])),(4,none,(.func (.func dir_move_clean_id) #[] #[])),(5,none,(.func (.func dir_move_wipe_id) #[] #[]))] fun c1 =>
kAgg (.agg c1.toArray) fun cg2 =>
cg2.length = 6 ∧ kStN g1 l0 0 cg2 fun g2 =>
kLdN g2 l0 0 6 fun r0 =>
aRet K (.agg r0.toArray) g2 n0
theorem dir_asks_eq (C : CT) (g : G) (n : Nat) (K : Cont) : dir_asks C g n K = abody Tryz.prog C dir_asks_id [] g n K := by kernel_rfl
def msg_Tells (C : CT) (a0 : Value) (g : G) (n : Nat) (K : Cont) : Prop:=
kBin .int .geq a0 (.int .i64 8) fun v4 =>
kSplit v4 (
kBin .int .leq a0 (.int .i64 14) fun v7 =>
aRet K v7 g n) (
aRet K (.bool false) g n)
theorem msg_Tells_eq (C : CT) (a0 : Value) (g : G) (n : Nat) (K : Cont) : msg_Tells C a0 g n K = abody Tryz.prog C msg_Tells_id [a0] g n K := by kernel_rfl
def array_Array_Drop_j1 (C : CT) (K : Cont) (t : Env) (g : G) (n : Nat) : Prop:=
kBin .int .geq (t 5) (.int .i64 0) fun v18 =>
aRet K v18 g n
def array_Array_Drop (C : CT) (a0 a1 : Value) (g : G) (n : Nat) (K : Cont) : Prop:=
C array_Array_at_id [a0,a1] g n fun v8 g1 n8 =>
kBin .int .geq v8 (.int .i64 0) fun v10 =>
kSplit v10 (
C array_Array_set_id [a0,a1] g1 n8 fun v13 g2 n13 =>
kFill [.int .i64 0,.int .i64 0,.int .u64 0,.int .u64 0,.int .u64 0,.int .u64 0,.int .u64 0,.int .u64 0,.int .u64 0,.int .u64 0,.int .i64 0] [] fun c15 =>
kIndexAddr v13 v8 11 fun v16 =>
kPtr v16 fun lg3 og3 =>
kAgg (.agg c15.toArray) fun cg3 =>
cg3.length = 11 ∧ kStN g2 lg3 og3 cg3 fun g3 =>
array_Array_Drop_j1 C K (puts (args0 [a0,a1]) [(4,.bool false),(6,a0),(7,a1),(8,v8),(5,v8),(9,v8),(10,v10),(11,a0),(12,a1),(13,v13),(14,v8),(15,.agg c15.toArray),(16,v16)]) g3 n13) (
array_Array_Drop_j1 C K (puts (args0 [a0,a1]) [(4,.bool false),(6,a0),(7,a1),(8,v8),(5,v8),(9,v8),(10,v10)]) g1 n8)
theorem array_Array_Drop_eq (C : CT) (a0 a1 : Value) (g : G) (n : Nat) (K : Cont) : array_Array_Drop C a0 a1 g n K = abody Tryz.prog C array_Array_Drop_id [a0,a1] g n K := by kernel_rfl
def agent_answer_j2 (C : CT) (K : Cont) (t : Env) (g : G) (n : Nat) : Prop:=
kPtr (t 7) fun l34 o34 =>
kLdN g l34 o34 12 fun c34 =>
kFill (reps 1 [.int .i64 0,.int .i64 0,.bool false,.bool false,.int .u64 0,.int .u64 0,.int .u64 0,.int .u64 0,.int .u64 0,.int .u64 0,.int .u64 0,.int .u64 0]) [(0,some 12,.agg c34.toArray)] fun c35 =>
kNew c35 .exact g n fun l35 g8 n35 =>
aRet K (.slice (some ⟨l35,0,none⟩) 1 1) g8 n35
def agent_answer_j1 (C : CT) (K : Cont) (t : Env) (g : G) (n : Nat) : Prop:=
kPtr (t 4) fun l22 o22 =>
kLd g l22 (o22 + 0) fun v23 =>
kBin .int .eql v23 (.int .i64 3) fun v24 =>
kSplit v24 (
kPtr (t 4) fun l30 o30 =>
kLdN g l30 (o30 + 2) 8 fun c31 =>
kPtr (t 7) fun l32 o32 =>
kSt g l32 (o32 + 2) (.bool true) fun g6 =>
(kPtr (ptr l30 (o30 + 2)) fun l _ => g6 l = g l) ∧ kPtr (t 7) fun l33 o33 =>
kAgg (.agg c31.toArray) fun cg7 =>
cg7.length = 8 ∧ kStN g6 l33 (o33 + 4) cg7 fun g7 =>
agent_answer_j2 C K (puts t [(22,(ptr l22 (o22 + 0))),(23,v23),(24,v24),(25,.bool true),(26,undef),(27,undef),(28,undef),(29,.bool true),(30,(ptr l30 (o30 + 2))),(31,.agg c31.toArray),(32,(ptr l32 (o32 + 2))),(33,(ptr l33 (o33 + 4)))]) g7 n) (
kPtr (t 4) fun l26 o26 =>
kLd g l26 (o26 + 0) fun v27 =>
kBin .int .eql v27 (.int .i64 9) fun v28 =>
kSplit v28 (
kPtr (t 4) fun l30 o30 =>
kLdN g l30 (o30 + 2) 8 fun c31 =>
kPtr (t 7) fun l32 o32 =>
kSt g l32 (o32 + 2) (.bool true) fun g9 =>
(kPtr (ptr l30 (o30 + 2)) fun l _ => g9 l = g l) ∧ kPtr (t 7) fun l33 o33 =>
kAgg (.agg c31.toArray) fun cg10 =>
cg10.length = 8 ∧ kStN g9 l33 (o33 + 4) cg10 fun g10 =>
agent_answer_j2 C K (puts t [(22,(ptr l22 (o22 + 0))),(23,v23),(24,v24),(25,.bool false),(26,(ptr l26 (o26 + 0))),(27,v27),(28,v28),(29,v28),(30,(ptr l30 (o30 + 2))),(31,.agg c31.toArray),(32,(ptr l32 (o32 + 2))),(33,(ptr l33 (o33 + 4)))]) g10 n) (
agent_answer_j2 C K (puts t [(22,(ptr l22 (o22 + 0))),(23,v23),(24,v24),(25,.bool false),(26,(ptr l26 (o26 + 0))),(27,v27),(28,v28),(29,v28)]) g n))
def agent_answer (C : CT) (a0 a1 a2 : Value) (g : G) (n : Nat) (K : Cont) : Prop:=
kAgg a0 fun c3 =>
kNew c3 .exact g n fun l3 g1 n3 =>
kAgg a1 fun c4 =>
kNew c4 .exact g1 n3 fun l4 g2 n4 =>
kLd g2 l3 (0 + 1) fun v9 =>
kFill [.int .i64 0,.int .i64 0,.bool false,.bool false,.int .u64 0,.int .u64 0,.int .u64 0,.int .u64 0,.int .u64 0,.int .u64 0,.int .u64 0,.int .u64 0] [(1,none,v9)] fun c10 =>
kNew [.int .i64 0,.int .i64 0,.bool false,.bool false,.int .u64 0,.int .u64 0,.int .u64 0,.int .u64 0,.int .u64 0,.int .u64 0,.int .u64 0,.int .u64 0] .exact g2 n4 fun l7 g3 n7 =>
kAgg (.agg c10.toArray) fun cg4 =>
cg4.length = 12 ∧ kStN g3 l7 0 cg4 fun g4 =>
kLd g4 l3 (0 + 0) fun v12 =>
kBin .int .eql v12 (.int .i64 12) fun v14 =>
kSplit v14 (
kSt g4 l7 (0 + 0) (.int .i64 6) fun g5 =>
agent_answer_j1 C K (puts (args0 [a0,a1,a2]) [(3,ptr l3 0),(4,ptr l4 0),(6,.slice none 0 0),(8,(ptr l3 (0 + 1))),(9,v9),(10,.agg c10.toArray),(7,ptr l7 0),(11,(ptr l3 (0 + 0))),(12,v12),(14,v14),(13,v14),(15,(ptr l7 (0 + 0)))]) g5 n7) (
kBin .int .eql v12 (.int .i64 13) fun v17 =>
kSplit v17 (
kBin .int .eql a2 (.int .i64 1) fun v19 =>
kSt g4 l7 (0 + 0) (.int .i64 7) fun g11 =>
kSt g11 l7 (0 + 3) v19 fun g12 =>
agent_answer_j1 C K (puts (args0 [a0,a1,a2]) [(3,ptr l3 0),(4,ptr l4 0),(6,.slice none 0 0),(8,(ptr l3 (0 + 1))),(9,v9),(10,.agg c10.toArray),(7,ptr l7 0),(11,(ptr l3 (0 + 0))),(12,v12),(14,v14),(13,v14),(17,v17),(16,v17),(18,a2),(19,v19),(20,(ptr l7 (0 + 0))),(21,(ptr l7 (0 + 3)))]) g12 n7) (
aRet K (.slice none 0 0) g4 n7))
theorem agent_answer_eq (C : CT) (a0 a1 a2 : Value) (g : G) (n : Nat) (K : Cont) : agent_answer C a0 a1 a2 g n K = abody Tryz.prog C agent_answer_id [a0,a1,a2] g n K := by kernel_rfl
def msg_Answers (C : CT) (a0 : Value) (g : G) (n : Nat) (K : Cont) : Prop:=
kBin .int .eql a0 (.int .i64 6) fun v4 =>
kSplit v4 (
aRet K (.bool true) g n) (
kBin .int .eql a0 (.int .i64 7) fun v7 =>
aRet K v7 g n)
theorem msg_Answers_eq (C : CT) (a0 : Value) (g : G) (n : Nat) (K : Cont) : msg_Answers C a0 g n K = abody Tryz.prog C msg_Answers_id [a0] g n K := by kernel_rfl
def geom_Has (C : CT) (a0 a1 : Value) (g : G) (n : Nat) (K : Cont) : Prop:=
C geom_Bit_id [a1] g n fun v7 g1 n7 =>
kBin .int .and a0 v7 fun v8 =>
kBin .int .neq v8 (.int .u8 0) fun v9 =>
aRet K v9 g1 n7
theorem geom_Has_eq (C : CT) (a0 a1 : Value) (g : G) (n : Nat) (K : Cont) : geom_Has C a0 a1 g n K = abody Tryz.prog C geom_Has_id [a0,a1] g n K := by kernel_rfl
def geom_Bit (C : CT) (a0 : Value) (g : G) (n : Nat) (K : Cont) : Prop:=
kBin .int .lss a0 (.int .i64 0) fun v4 =>
kSplit v4 (
aRet K (.int .u8 0) g n) (
kBin .int .geq a0 (.int .i64 8) fun v7 =>
kSplit v7 (
aRet K (.int .u8 0) g n) (
kBin .int .shl (.int .u8 1) a0 fun v10 =>
aRet K v10 g n))
theorem geom_Bit_eq (C : CT) (a0 : Value) (g : G) (n : Nat) (K : Cont) : geom_Bit C a0 g n K = abody Tryz.prog C geom_Bit_id [a0] g n K := by kernel_rfl
def dir_move_take (C : CT) (a0 a1 : Value) (g : G) (n : Nat) (K : Cont) : Prop:=
kAgg a1 fun c3 =>
kNew c3 .exact g n fun l3 g1 n3 =>
kLd g1 l3 (0 + 2) fun v5 =>
kSplit v5 (
kLdN g1 l3 (0 + 4) 8 fun c9 =>
kNil a0 fun v10 =>
kPtr v10 fun l11 o11 =>
kAgg (.agg c9.toArray) fun cg2 =>
cg2.length = 8 ∧ kStN g1 l11 (o11 + 0 + 2) cg2 fun g2 =>
kNil a0 fun v13 =>
kPtr v13 fun l14 o14 =>
kSt g2 l14 (o14 + 0 + 1) (.bool true) fun g3 =>
aRet K (.tuple #[]) g3 n3) (
aRet K (.tuple #[]) g1 n3)
theorem dir_move_take_eq (C : CT) (a0 a1 : Value) (g : G) (n : Nat) (K : Cont) : dir_move_take C a0 a1 g n K = abody Tryz.prog C dir_move_take_id [a0,a1] g n K := by kernel_rfl
def dir_move_over (C : CT) (a0 : Value) (g : G) (n : Nat) (K : Cont) : Prop:=
kNil a0 fun v5 =>
kPtr v5 fun l6 o6 =>
kSt g l6 (o6 + 0 + 12) (.int .i64 0) fun g1 =>
kNil a0 fun v8 =>
kPtr v8 fun l9 o9 =>
kSt g1 l9 (o9 + 0 + 13) (.int .i64 0) fun g2 =>
kNil a0 fun v11 =>
kPtr v11 fun l12 o12 =>
kSt g2 l12 (o12 + 0 + 14) (.int .u8 0) fun g3 =>
aRet K (.tuple #[]) g3 n
theorem dir_move_over_eq (C : CT) (a0 : Value) (g : G) (n : Nat) (K : Cont) : dir_move_over C a0 g n K = abody Tryz.prog C dir_move_over_id [a0] g n K := by kernel_rfl
def dir_move_read (C : CT) (a0 a1 : Value) (g : G) (n : Nat) (K : Cont) : Prop:=
kNil a0 fun v5 =>
kPtr v5 fun l6 o6 =>
kLd g l6 (o6 + 0 + 11) fun v8 =>
C geom_Bit_id [a1] g n fun v10 g1 n10 =>
(kPtr (ptr l6 (o6 + 0 + 11)) fun l _ => g1 l = g l) ∧ kBin .int .or v8 v10 fun v11 =>
kNil a0 fun v12 =>
kPtr v12 fun l13 o13 =>
kSt g1 l13 (o13 + 0 + 11) v11 fun g2 =>
C dir_move_tell_id [a0,a1,.int .i64 8] g2 n10 fun v17 g3 n17 =>
aRet K (.tuple #[]) g3 n17
theorem dir_move_read_eq (C : CT) (a0 a1 : Value) (g : G) (n : Nat) (K : Cont) : dir_move_read C a0 a1 g n K = abody Tryz.prog C dir_move_read_id [a0,a1] g n K := by kernel_rfl
def dir_move_own (C : CT) (a0 a1 a2 : Value) (g : G) (n : Nat) (K : Cont) : Prop:=
kNil a0 fun v9 =>
kPtr v9 fun l10 o10 =>
kSt g l10 (o10 + 0 + 10) a1 fun g1 =>
kNil a0 fun v12 =>
kPtr v12 fun l13 o13 =>
kSt g1 l13 (o13 + 0 + 11) (.int .u8 0) fun g2 =>
C dir_move_tell_id [a0,a1,a2] g2 n fun v18 g3 n18 =>
aRet K (.tuple #[]) g3 n18
theorem dir_move_own_eq (C : CT) (a0 a1 a2 : Value) (g : G) (n : Nat) (K : Cont) : dir_move_own C a0 a1 a2 g n K = abody Tryz.prog C dir_move_own_id [a0,a1,a2] g n K := by kernel_rfl
def array_New (C : CT) (a0 a1 : Value) (g : G) (n : Nat) (K : Cont) : Prop:=
kBin .int .neq a0 (.int .i64 1) fun v7 =>
kSplit v7 (
kBin .int .neq a0 (.int .i64 2) fun v10 =>
kSplit v10 (
kBin .int .neq a0 (.int .i64 4) fun v14 =>
kSplit v14 (
kBin .int .neq a0 (.int .i64 8) fun v18 =>
kSplit v18 (
aRet K (.tuple #[.pointer none,.int .i64 1]) g n) (
kBin .int .lss a1 (.int .i64 1) fun v22 =>
kSplit v22 (
aRet K (.tuple #[.pointer none,.int .i64 1]) g n) (
kBin .int .gtr a1 (.int .i64 8) fun v26 =>
kSplit v26 (
aRet K (.tuple #[.pointer none,.int .i64 1]) g n) (
kBin .int .mul a0 a1 fun v32 =>
kMake v32 v32 [.int .i64 0,.int .i64 0,.int .u64 0,.int .u64 0,.int .u64 0,.int .u64 0,.int .u64 0,.int .u64 0,.int .u64 0,.int .u64 0,.int .i64 0] 88 g n fun v33 g1 n33 =>
kFill [.int .i64 0,.int .i64 0,.slice none 0 0,.int .i64 0] [(0,none,a0),(1,none,a1),(2,none,v33)] fun c34 =>
kAgg (.agg c34.toArray) fun c35 =>
kNew c35 .exact g1 n33 fun l35 g2 n35 =>
aRet K (.tuple #[ptr l35 0,.int .i64 0]) g2 n35)))) (
kBin .int .lss a1 (.int .i64 1) fun v22 =>
kSplit v22 (
aRet K (.tuple #[.pointer none,.int .i64 1]) g n) (
kBin .int .gtr a1 (.int .i64 8) fun v26 =>
kSplit v26 (
aRet K (.tuple #[.pointer none,.int .i64 1]) g n) (
kBin .int .mul a0 a1 fun v32 =>
kMake v32 v32 [.int .i64 0,.int .i64 0,.int .u64 0,.int .u64 0,.int .u64 0,.int .u64 0,.int .u64 0,.int .u64 0,.int .u64 0,.int .u64 0,.int .i64 0] 88 g n fun v33 g3 n33 =>
kFill [.int .i64 0,.int .i64 0,.slice none 0 0,.int .i64 0] [(0,none,a0),(1,none,a1),(2,none,v33)] fun c34 =>
kAgg (.agg c34.toArray) fun c35 =>
kNew c35 .exact g3 n33 fun l35 g4 n35 =>
aRet K (.tuple #[ptr l35 0,.int .i64 0]) g4 n35)))) (
kBin .int .lss a1 (.int .i64 1) fun v22 =>
kSplit v22 (
aRet K (.tuple #[.pointer none,.int .i64 1]) g n) (
kBin .int .gtr a1 (.int .i64 8) fun v26 =>
kSplit v26 (
aRet K (.tuple #[.pointer none,.int .i64 1]) g n) (
kBin .int .mul a0 a1 fun v32 =>
kMake v32 v32 [.int .i64 0,.int .i64 0,.int .u64 0,.int .u64 0,.int .u64 0,.int .u64 0,.int .u64 0,.int .u64 0,.int .u64 0,.int .u64 0,.int .i64 0] 88 g n fun v33 g5 n33 =>
kFill [.int .i64 0,.int .i64 0,.slice none 0 0,.int .i64 0] [(0,none,a0),(1,none,a1),(2,none,v33)] fun c34 =>
kAgg (.agg c34.toArray) fun c35 =>
kNew c35 .exact g5 n33 fun l35 g6 n35 =>
aRet K (.tuple #[ptr l35 0,.int .i64 0]) g6 n35)))) (
kBin .int .lss a1 (.int .i64 1) fun v22 =>
kSplit v22 (
aRet K (.tuple #[.pointer none,.int .i64 1]) g n) (
kBin .int .gtr a1 (.int .i64 8) fun v26 =>
kSplit v26 (
aRet K (.tuple #[.pointer none,.int .i64 1]) g n) (
kBin .int .mul a0 a1 fun v32 =>
kMake v32 v32 [.int .i64 0,.int .i64 0,.int .u64 0,.int .u64 0,.int .u64 0,.int .u64 0,.int .u64 0,.int .u64 0,.int .u64 0,.int .u64 0,.int .i64 0] 88 g n fun v33 g7 n33 =>
kFill [.int .i64 0,.int .i64 0,.slice none 0 0,.int .i64 0] [(0,none,a0),(1,none,a1),(2,none,v33)] fun c34 =>
kAgg (.agg c34.toArray) fun c35 =>
kNew c35 .exact g7 n33 fun l35 g8 n35 =>
aRet K (.tuple #[ptr l35 0,.int .i64 0]) g8 n35)))
theorem array_New_eq (C : CT) (a0 a1 : Value) (g : G) (n : Nat) (K : Cont) : array_New C a0 a1 g n K = abody Tryz.prog C array_New_id [a0,a1] g n K := by kernel_rfl
def array_Array_Find (C : CT) (a0 a1 : Value) (g : G) (n : Nat) (K : Cont) : Prop:=
kNew [.int .i64 0,.int .i64 0,.int .u64 0,.int .u64 0,.int .u64 0,.int .u64 0,.int .u64 0,.int .u64 0,.int .u64 0,.int .u64 0,.int .i64 0] .exact g n fun l4 g1 n4 =>
C array_Array_at_id [a0,a1] g1 n4 fun v9 g2 n9 =>
kBin .int .lss v9 (.int .i64 0) fun v11 =>
kSplit v11 (
kFill [.int .i64 0,.int .i64 0,.int .u64 0,.int .u64 0,.int .u64 0,.int .u64 0,.int .u64 0,.int .u64 0,.int .u64 0,.int .u64 0,.int .i64 0] [] fun c12 =>
kAgg (.agg c12.toArray) fun cg3 =>
cg3.length = 11 ∧ kStN g2 l4 0 cg3 fun g3 =>
kLdN g3 l4 0 11 fun r0 =>
aRet K (.tuple #[.agg r0.toArray,.bool false]) g3 n9) (
C array_Array_set_id [a0,a1] g2 n9 fun v15 g4 n15 =>
kIndexAddr v15 v9 11 fun v17 =>
kPtr v17 fun l18 o18 =>
kLdN g4 l18 o18 11 fun c18 =>
kAgg (.agg c18.toArray) fun cg5 =>
cg5.length = 11 ∧ kStN g4 l4 0 cg5 fun g5 =>
kLdN g5 l4 0 11 fun r0 =>
aRet K (.tuple #[.agg r0.toArray,.bool true]) g5 n15)
theorem array_Array_Find_eq (C : CT) (a0 a1 : Value) (g : G) (n : Nat) (K : Cont) : array_Array_Find C a0 a1 g n K = abody Tryz.prog C array_Array_Find_id [a0,a1] g n K := by kernel_rfl
def array_Array_at (C : CT) (a0 a1 : Value) (g : G) (n : Nat) (K : Cont) : Prop:=
isCell a1 = true ∧ kNew [a1] .exact g n fun l3 g1 n3 =>
kBin .ptr .eql a0 (.pointer none) fun v6 =>
kSplit v6 (
aRet K (.int .i64 (-1)) g1 n3) (
kLd g1 l3 0 fun v8 =>
kBin .int .lss v8 (.int .i64 0) fun v9 =>
kSplit v9 (
aRet K (.int .i64 (-1)) g1 n3) (
kLd g1 l3 0 fun v12 =>
C array_Array_set_id [a0,v12] g1 n3 fun v13 g2 n13 =>
C slices_IndexFunc_array_Slot_array_Slot_id [v13,(.func (.func array_Array_at_1_id) #[] #[ptr l3 0])] g2 n13 fun v15 g3 n15 =>
aRet K v15 g3 n15))
theorem array_Array_at_eq (C : CT) (a0 a1 : Value) (g : G) (n : Nat) (K : Cont) : array_Array_at C a0 a1 g n K = abody Tryz.prog C array_Array_at_id [a0,a1] g n K := by kernel_rfl
def array_Array_number (C : CT) (a0 : Value) (g : G) (n : Nat) (K : Cont) : Prop:=
kNil a0 fun v4 =>
kPtr v4 fun l5 o5 =>
kLd g l5 (o5 + 3) fun v6 =>
kBin .int .add v6 (.int .i64 1) fun v7 =>
kNil a0 fun v8 =>
kPtr v8 fun l9 o9 =>
kSt g l9 (o9 + 3) v7 fun g1 =>
kNil a0 fun v11 =>
kPtr v11 fun l12 o12 =>
kLd g1 l12 (o12 + 3) fun v13 =>
aRet K v13 g1 n
theorem array_Array_number_eq (C : CT) (a0 : Value) (g : G) (n : Nat) (K : Cont) : array_Array_number C a0 g n K = abody Tryz.prog C array_Array_number_id [a0] g n K := by kernel_rfl
def array_Array_set (C : CT) (a0 a1 : Value) (g : G) (n : Nat) (K : Cont) : Prop:=
kNil a0 fun v7 =>
kPtr v7 fun l8 o8 =>
kLd g l8 (o8 + 0) fun v9 =>
kNil a0 fun v13 =>
kPtr v13 fun l14 o14 =>
kLd g l14 (o14 + 1) fun v15 =>
C geom_Set_id [v9,a1] g n fun v11 g1 n11 =>
(kPtr (ptr l14 (o14 + 1)) fun l _ => g1 l = g l) ∧ kBin .int .mul v11 v15 fun v16 =>
kNil a0 fun v18 =>
kPtr v18 fun l19 o19 =>
kLd g1 l19 (o19 + 2) fun v20 =>
kNil a0 fun v24 =>
kPtr v24 fun l25 o25 =>
kLd g1 l25 (o25 + 1) fun v26 =>
kBin .int .add v16 v26 fun v27 =>
kNil a0 fun v30 =>
kPtr v30 fun l31 o31 =>
kLd g1 l31 (o31 + 1) fun v32 =>
kBin .int .add v16 v32 fun v33 =>
kSlice v20 (some v16) (some v27) (some v33) 11 fun v34 =>
aRet K v34 g1 n11
theorem array_Array_set_eq (C : CT) (a0 a1 : Value) (g : G) (n : Nat) (K : Cont) : array_Array_set C a0 a1 g n K = abody Tryz.prog C array_Array_set_id [a0,a1] g n K := by kernel_rfl
def array_Array_Room_j2 (C : CT) (K : Cont) (I_l1 : ECont) (t : Env) (g : G) (n : Nat) : Prop:=
kSplit (t 27) (
kBin .int .lss (t 5) (.int .i64 0) fun v32 =>
kSplit v32 (
kPtr (t 8) fun l39 o39 =>
kLd g l39 (o39 + 1) fun v40 =>
kPtr (t 8) fun l41 o41 =>
kLd g l41 (o41 + 10) fun v42 =>
kBin .int .add (t 19) (.int .i64 1) fun v43 =>
I_l1 (puts t [(31,t 5),(32,v32),(33,.bool true),(34,undef),(35,undef),(36,undef),(37,undef),(38,.bool true),(39,(ptr l39 (o39 + 1))),(40,v40),(41,(ptr l41 (o41 + 10))),(42,v42),(5,v40),(6,v42),(43,v43),(19,v43)]) g n) (
kPtr (t 8) fun l34 o34 =>
kLd g l34 (o34 + 10) fun v35 =>
kBin .int .lss v35 (t 6) fun v37 =>
kSplit v37 (
kPtr (t 8) fun l39 o39 =>
kLd g l39 (o39 + 1) fun v40 =>
kPtr (t 8) fun l41 o41 =>
kLd g l41 (o41 + 10) fun v42 =>
kBin .int .add (t 19) (.int .i64 1) fun v43 =>
I_l1 (puts t [(31,t 5),(32,v32),(33,.bool false),(34,(ptr l34 (o34 + 10))),(35,v35),(36,t 6),(37,v37),(38,v37),(39,(ptr l39 (o39 + 1))),(40,v40),(41,(ptr l41 (o41 + 10))),(42,v42),(5,v40),(6,v42),(43,v43),(19,v43)]) g n) (
kBin .int .add (t 19) (.int .i64 1) fun v43 =>
I_l1 (puts t [(31,t 5),(32,v32),(33,.bool false),(34,(ptr l34 (o34 + 10))),(35,v35),(36,t 6),(37,v37),(38,v37),(43,v43),(19,v43)]) g n))) (
kBin .int .add (t 19) (.int .i64 1) fun v43 =>
I_l1 (puts t [(43,v43),(19,v43)]) g n)
def array_Array_Room_j3 (C : CT) (K : Cont) (t : Env) (g : G) (n : Nat) : Prop:=
aRet K (.tuple #[.bool false,t 5]) g n
def array_Array_Room_l1 (C : CT) (K : Cont) (I_l1 : ECont) (t : Env) (g : G) (n : Nat) : Prop:=
kBin .int .lss (t 19) (t 18) fun v20 =>
kSplit v20 (
kIndexAddr (t 17) (t 19) 11 fun v21 =>
kPtr v21 fun l22 o22 =>
kLdN g l22 o22 11 fun c22 =>
kNew [.int .i64 0,.int .i64 0,.int .u64 0,.int .u64 0,.int .u64 0,.int .u64 0,.int .u64 0,.int .u64 0,.int .u64 0,.int .u64 0,.int .i64 0] .exact g n fun l8 g2 n8 =>
kAgg (.agg c22.toArray) fun cg3 =>
cg3.length = 11 ∧ kStN g2 l8 0 cg3 fun g3 =>
kLd g3 l8 (0 + 0) fun v24 =>
kBin .int .eql v24 (.int .i64 0) fun v26 =>
kSplit v26 (
aRet K (.tuple #[.bool true,(.int .i64 (-1))]) g3 n8) (
kBin .int .eql v24 (.int .i64 1) fun v28 =>
kSplit v28 (
array_Array_Room_j2 C K I_l1 (puts t [(20,v20),(21,v21),(22,.agg c22.toArray),(8,ptr l8 0),(23,(ptr l8 (0 + 0))),(24,v24),(26,v26),(25,v26),(28,v28),(27,v28)]) g3 n8) (
kBin .int .eql v24 (.int .i64 2) fun v29 =>
kSplit v29 (
array_Array_Room_j2 C K I_l1 (puts t [(20,v20),(21,v21),(22,.agg c22.toArray),(8,ptr l8 0),(23,(ptr l8 (0 + 0))),(24,v24),(26,v26),(25,v26),(28,v28),(27,v28),(29,v29),(27,v29)]) g3 n8) (
kBin .int .eql v24 (.int .i64 3) fun v30 =>
array_Array_Room_j2 C K I_l1 (puts t [(20,v20),(21,v21),(22,.agg c22.toArray),(8,ptr l8 0),(23,(ptr l8 (0 + 0))),(24,v24),(26,v26),(25,v26),(28,v28),(27,v28),(29,v29),(27,v29),(30,v30),(27,v30)]) g3 n8)))) (
array_Array_Room_j3 C K (puts t [(20,v20)]) g n)
def array_Array_Room (C : CT) (a0 a1 : Value) (g : G) (n : Nat) (K : Cont) : Prop:=
kBin .ptr .eql a0 (.pointer none) fun v10 =>
kSplit v10 (
aRet K (.tuple #[.bool false,(.int .i64 (-1))]) g n) (
kBin .int .lss a1 (.int .i64 0) fun v13 =>
kSplit v13 (
aRet K (.tuple #[.bool false,(.int .i64 (-1))]) g n) (
C array_Array_set_id [a0,a1] g n fun v17 g1 n17 =>
kLen v17 fun v18 =>
lfp (array_Array_Room_l1 C K) (puts (args0 [a0,a1]) [(4,.bool false),(5,.int .i64 0),(9,a0),(10,v10),(11,.bool false),(12,a1),(13,v13),(14,v13),(5,(.int .i64 (-1))),(6,.int .i64 0),(15,a0),(16,a1),(17,v17),(18,v18),(19,.int .i64 0)]) g1 n17))
theorem array_Array_Room_eq (C : CT) (a0 a1 : Value) (g : G) (n : Nat) (K : Cont) : array_Array_Room C a0 a1 g n K = abody Tryz.prog C array_Array_Room_id [a0,a1] g n K := by kernel_rfl
def dir_move_tell_j2 (C : CT) (K : Cont) (t : Env) (g : G) (n : Nat) : Prop:=
kNil (t 0) fun v26 =>
kPtr v26 fun l27 o27 =>
kLd g l27 (o27 + 16) fun v28 =>
kPtr (t 6) fun l30 o30 =>
kLdN g l30 o30 12 fun c30 =>
kFill [.int .i64 0,.int .i64 0,.int .i64 0,.bool false,.bool false,.int .u64 0,.int .u64 0,.int .u64 0,.int .u64 0,.int .u64 0,.int .u64 0,.int .u64 0,.int .u64 0] [(0,none,t 1),(1,some 12,.agg c30.toArray)] fun c31 =>
kFill (reps 1 [.int .i64 0,.int .i64 0,.int .i64 0,.bool false,.bool false,.int .u64 0,.int .u64 0,.int .u64 0,.int .u64 0,.int .u64 0,.int .u64 0,.int .u64 0,.int .u64 0]) [(0,some 13,.agg c31.toArray)] fun c32 =>
kNew c32 .exact g n fun l32 g4 n32 =>
(kPtr (ptr l27 (o27 + 16)) fun l _ => g4 l = g l) ∧ kAppend v28 (.slice (some ⟨l32,0,none⟩) 1 1) 13 96 g4 n32 fun v33 g5 n33 =>
kNil (t 0) fun v34 =>
kPtr v34 fun l35 o35 =>
kSt g5 l35 (o35 + 16) v33 fun g6 =>
aRet K (.tuple #[]) g6 n33
def dir_move_tell_j1 (C : CT) (K : Cont) (t : Env) (g : G) (n : Nat) : Prop:=
kSplit (t 14) (
kNil (t 0) fun v19 =>
kPtr v19 fun l20 o20 =>
kLdN g l20 (o20 + 0 + 2) 8 fun c22 =>
kPtr (t 6) fun l23 o23 =>
kAgg (.agg c22.toArray) fun cg3 =>
cg3.length = 8 ∧ kStN g l23 (o23 + 4) cg3 fun g3 =>
dir_move_tell_j2 C K (puts t [(18,t 0),(19,v19),(20,(ptr l20 (o20 + 0))),(21,(ptr l20 (o20 + 0 + 2))),(22,.agg c22.toArray),(23,(ptr l23 (o23 + 4)))]) g3 n) (
dir_move_tell_j2 C K t g n)
def dir_move_tell (C : CT) (a0 a1 a2 : Value) (g : G) (n : Nat) (K : Cont) : Prop:=
kNil a0 fun v9 =>
kPtr v9 fun l10 o10 =>
kLd g l10 (o10 + 15) fun v11 =>
kFill [.int .i64 0,.int .i64 0,.bool false,.bool false,.int .u64 0,.int .u64 0,.int .u64 0,.int .u64 0,.int .u64 0,.int .u64 0,.int .u64 0,.int .u64 0] [(0,none,a2),(1,none,v11)] fun c12 =>
kNew [.int .i64 0,.int .i64 0,.bool false,.bool false,.int .u64 0,.int .u64 0,.int .u64 0,.int .u64 0,.int .u64 0,.int .u64 0,.int .u64 0,.int .u64 0] .exact g n fun l6 g1 n6 =>
kAgg (.agg c12.toArray) fun cg2 =>
cg2.length = 12 ∧ kStN g1 l6 0 cg2 fun g2 =>
kBin .int .eql a2 (.int .i64 8) fun v15 =>
kSplit v15 (
dir_move_tell_j1 C K (puts (args0 [a0,a1,a2]) [(7,a2),(8,a0),(9,v9),(10,(ptr l10 (o10 + 15))),(11,v11),(12,.agg c12.toArray),(6,ptr l6 0),(13,a2),(15,v15),(14,v15)]) g2 n6) (
kBin .int .eql a2 (.int .i64 9) fun v16 =>
kSplit v16 (
dir_move_tell_j1 C K (puts (args0 [a0,a1,a2]) [(7,a2),(8,a0),(9,v9),(10,(ptr l10 (o10 + 15))),(11,v11),(12,.agg c12.toArray),(6,ptr l6 0),(13,a2),(15,v15),(14,v15),(16,v16),(14,v16)]) g2 n6) (
kBin .int .eql a2 (.int .i64 10) fun v17 =>
dir_move_tell_j1 C K (puts (args0 [a0,a1,a2]) [(7,a2),(8,a0),(9,v9),(10,(ptr l10 (o10 + 15))),(11,v11),(12,.agg c12.toArray),(6,ptr l6 0),(13,a2),(15,v15),(14,v15),(16,v16),(14,v16),(17,v17),(14,v17)]) g2 n6))
theorem dir_move_tell_eq (C : CT) (a0 a1 a2 : Value) (g : G) (n : Nat) (K : Cont) : dir_move_tell C a0 a1 a2 g n K = abody Tryz.prog C dir_move_tell_id [a0,a1,a2] g n K := by kernel_rfl
def slices_IndexFunc_wpq_entry_wpq_entry_l1 (C : CT) (K : Cont) (I_l1 : ECont) (t : Env) (g : G) (n : Nat) : Prop:=
kBin .int .lss (t 8) (t 7) fun v9 =>
kSplit v9 (
kIndexAddr (t 0) (t 8) 9 fun v14 =>
kPtr v14 fun l15 o15 =>
kLdN g l15 o15 9 fun c15 =>
kCall C (t 1) [.agg c15.toArray] g n fun v16 g1 n16 =>
kSplit v16 (
aRet K (t 8) g1 n16) (
kBin .int .add (t 8) (.int .i64 1) fun v18 =>
I_l1 (puts t [(9,v9),(10,t 8),(5,t 8),(11,t 1),(12,t 0),(13,t 8),(14,v14),(15,.agg c15.toArray),(16,v16),(18,v18),(8,v18)]) g1 n16)) (
aRet K (.int .i64 (-1)) g n)
def slices_IndexFunc_wpq_entry_wpq_entry (C : CT) (a0 a1 : Value) (g : G) (n : Nat) (K : Cont) : Prop:=
kLen a0 fun v7 =>
lfp (slices_IndexFunc_wpq_entry_wpq_entry_l1 C K) (puts (args0 [a0,a1]) [(4,.int .i64 0),(6,a0),(7,v7),(8,.int .i64 0)]) g n
theorem slices_IndexFunc_wpq_entry_wpq_entry_eq (C : CT) (a0 a1 : Value) (g : G) (n : Nat) (K : Cont) : slices_IndexFunc_wpq_entry_wpq_entry C a0 a1 g n K = abody Tryz.prog C slices_IndexFunc_wpq_entry_wpq_entry_id [a0,a1] g n K := by kernel_rfl
def wpq_Queue_Drain_1 (C : CT) (a0 a1 : Value) (g : G) (n : Nat) (K : Cont) : Prop:=
kAgg a0 fun c2 =>
kNew c2 .exact g n fun l2 g1 n2 =>
kLd g1 l2 (0 + 0) fun v5 =>
kPtr a1 fun l6 o6 =>
kLd g1 l6 o6 fun v6 =>
kBin .int .eql v5 v6 fun v7 =>
aRet K v7 g1 n2
theorem wpq_Queue_Drain_1_eq (C : CT) (a0 a1 : Value) (g : G) (n : Nat) (K : Cont) : wpq_Queue_Drain_1 C a0 a1 g n K = abody Tryz.prog C wpq_Queue_Drain_1_id [a0,a1] g n K := by kernel_rfl
def slices_DeleteFunc_array_Slot_array_Slot_j2 (C : CT) (K : Cont) (I_l1 : ECont) (t : Env) (g : G) (n : Nat) : Prop:=
kBin .int .add (t 6) (.int .i64 1) fun v21 =>
I_l1 (puts t [(20,t 6),(21,v21),(6,v21)]) g n
def slices_DeleteFunc_array_Slot_array_Slot_j3 (C : CT) (K : Cont) (t : Env) (g : G) (n : Nat) : Prop:=
kSlice (t 0) (some (t 5)) none none 11 fun v38 =>
kClear v38 [.int .i64 0,.int .i64 0,.int .u64 0,.int .u64 0,.int .u64 0,.int .u64 0,.int .u64 0,.int .u64 0,.int .u64 0,.int .u64 0,.int .i64 0] g fun v_ g6 =>
kSlice (t 0) none (some (t 5)) none 11 fun v41 =>
aRet K v41 g6 n
def slices_DeleteFunc_array_Slot_array_Slot_l1 (C : CT) (K : Cont) (I_l1 : ECont) (t : Env) (g : G) (n : Nat) : Prop:=
kLen (t 0) fun v18 =>
kBin .int .lss (t 6) v18 fun v19 =>
kSplit v19 (
kIndexAddr (t 0) (t 6) 11 fun v24 =>
kPtr v24 fun l25 o25 =>
kLdN g l25 o25 11 fun c25 =>
kNew [.int .i64 0,.int .i64 0,.int .u64 0,.int .u64 0,.int .u64 0,.int .u64 0,.int .u64 0,.int .u64 0,.int .u64 0,.int .u64 0,.int .i64 0] .exact g n fun l7 g2 n7 =>
kAgg (.agg c25.toArray) fun cg3 =>
cg3.length = 11 ∧ kStN g2 l7 0 cg3 fun g3 =>
kLdN g3 l7 0 11 fun c27 =>
kCall C (t 1) [.agg c27.toArray] g3 n7 fun v28 g4 n28 =>
kUn .not v28 fun v29 =>
kSplit v29 (
kLdN g4 l7 0 11 fun c32 =>
kIndexAddr (t 0) (t 5) 11 fun v33 =>
kPtr v33 fun lg5 og5 =>
kAgg (.agg c32.toArray) fun cg5 =>
cg5.length = 11 ∧ kStN g4 lg5 og5 cg5 fun g5 =>
kBin .int .add (t 5) (.int .i64 1) fun v35 =>
slices_DeleteFunc_array_Slot_array_Slot_j2 C K I_l1 (puts t [(16,t 6),(17,t 0),(18,v18),(19,v19),(22,t 0),(23,t 6),(24,v24),(25,.agg c25.toArray),(7,ptr l7 0),(26,t 1),(27,.agg c27.toArray),(28,v28),(29,v29),(30,t 0),(31,t 5),(32,.agg c32.toArray),(33,v33),(34,t 5),(35,v35),(5,v35)]) g5 n28) (
slices_DeleteFunc_array_Slot_array_Slot_j2 C K I_l1 (puts t [(16,t 6),(17,t 0),(18,v18),(19,v19),(22,t 0),(23,t 6),(24,v24),(25,.agg c25.toArray),(7,ptr l7 0),(26,t 1),(27,.agg c27.toArray),(28,v28),(29,v29)]) g4 n28)) (
slices_DeleteFunc_array_Slot_array_Slot_j3 C K (puts t [(16,t 6),(17,t 0),(18,v18),(19,v19)]) g n)
def slices_DeleteFunc_array_Slot_array_Slot (C : CT) (a0 a1 : Value) (g : G) (n : Nat) (K : Cont) : Prop:=
C slices_IndexFunc_array_Slot_array_Slot_id [a0,a1] g n fun v10 g1 n10 =>
kBin .int .eql v10 (.int .i64 (-1)) fun v12 =>
kSplit v12 (
aRet K a0 g1 n10) (
kBin .int .add v10 (.int .i64 1) fun v15 =>
lfp (slices_DeleteFunc_array_Slot_array_Slot_l1 C K) (puts (args0 [a0,a1]) [(4,.slice none 0 0),(8,a0),(9,a1),(10,v10),(5,v10),(11,v10),(12,v12),(14,v10),(15,v15),(6,v15)]) g1 n10)
theorem slices_DeleteFunc_array_Slot_array_Slot_eq (C : CT) (a0 a1 : Value) (g : G) (n : Nat) (K : Cont) : slices_DeleteFunc_array_Slot_array_Slot C a0 a1 g n K = abody Tryz.prog C slices_DeleteFunc_array_Slot_array_Slot_id [a0,a1] g n K := by kernel_rfl
def slices_Clone_array_Slot_array_Slot (C : CT) (a0 : Value) (g : G) (n : Nat) (K : Cont) : Prop:=
kBin .slice .eql a0 (.slice none 0 0) fun v4 =>
kSplit v4 (
aRet K (.slice none 0 0) g n) (
kFill (reps 0 [.int .i64 0,.int .i64 0,.int .u64 0,.int .u64 0,.int .u64 0,.int .u64 0,.int .u64 0,.int .u64 0,.int .u64 0,.int .u64 0,.int .i64 0]) [] fun c5 =>
kNew c5 .exact g n fun l5 g1 n5 =>
kAppend (.slice (some ⟨l5,0,none⟩) 0 0) a0 11 88 g1 n5 fun v7 g2 n7 =>
aRet K v7 g2 n7)
theorem slices_Clone_array_Slot_array_Slot_eq (C : CT) (a0 : Value) (g : G) (n : Nat) (K : Cont) : slices_Clone_array_Slot_array_Slot C a0 g n K = abody Tryz.prog C slices_Clone_array_Slot_array_Slot_id [a0] g n K := by kernel_rfl
def array_empty (C : CT) (a0 : Value) (g : G) (n : Nat) (K : Cont) : Prop:=
kAgg a0 fun c1 =>
kNew c1 .exact g n fun l1 g1 n1 =>
kLd g1 l1 (0 + 0) fun v4 =>
kBin .int .eql v4 (.int .i64 0) fun v5 =>
aRet K v5 g1 n1
theorem array_empty_eq (C : CT) (a0 : Value) (g : G) (n : Nat) (K : Cont) : array_empty C a0 g n K = abody Tryz.prog C array_empty_id [a0] g n K := by kernel_rfl
def nvm_Device_Read (C : CT) (a0 a1 : Value) (g : G) (n : Nat) (K : Cont) : Prop:=
kNew [.int .u64 0,.int .u64 0,.int .u64 0,.int .u64 0,.int .u64 0,.int .u64 0,.int .u64 0,.int .u64 0] .exact g n fun l4 g1 n4 =>
C nvm_Device_may_id [a0,a1] g1 n4 fun v9 g2 n9 =>
kBin .int .neq v9 (.int .i64 0) fun v11 =>
kSplit v11 (
kFill [.int .u64 0,.int .u64 0,.int .u64 0,.int .u64 0,.int .u64 0,.int .u64 0,.int .u64 0,.int .u64 0] [] fun c12 =>
kAgg (.agg c12.toArray) fun cg3 =>
cg3.length = 8 ∧ kStN g2 l4 0 cg3 fun g3 =>
kLdN g3 l4 0 8 fun r0 =>
aRet K (.tuple #[.agg r0.toArray,v9]) g3 n9) (
kNil a0 fun v15 =>
kPtr v15 fun l16 o16 =>
C sync_atomic_Int64_Add_id [(ptr l16 (o16 + 2)),.int .i64 1] g2 n9 fun v17 g4 n17 =>
kNil a0 fun v19 =>
kPtr v19 fun l20 o20 =>
kLd g4 l20 (o20 + 0) fun v21 =>
kIndexAddr v21 a1 8 fun v23 =>
kPtr v23 fun l24 o24 =>
kLdN g4 l24 o24 8 fun c24 =>
kAgg (.agg c24.toArray) fun cg5 =>
cg5.length = 8 ∧ kStN g4 l4 0 cg5 fun g5 =>
kLdN g5 l4 0 8 fun r0 =>
aRet K (.tuple #[.agg r0.toArray,.int .i64 0]) g5 n17)
theorem nvm_Device_Read_eq (C : CT) (a0 a1 : Value) (g : G) (n : Nat) (K : Cont) : nvm_Device_Read C a0 a1 g n K = abody Tryz.prog C nvm_Device_Read_id [a0,a1] g n K := by kernel_rfl
def slices_ContainsFunc_array_Slot_array_Slot (C : CT) (a0 a1 : Value) (g : G) (n : Nat) (K : Cont) : Prop:=
C slices_IndexFunc_array_Slot_array_Slot_id [a0,a1] g n fun v7 g1 n7 =>
kBin .int .geq v7 (.int .i64 0) fun v8 =>
aRet K v8 g1 n7
theorem slices_ContainsFunc_array_Slot_array_Slot_eq (C : CT) (a0 a1 : Value) (g : G) (n : Nat) (K : Cont) : slices_ContainsFunc_array_Slot_array_Slot C a0 a1 g n K = abody Tryz.prog C slices_ContainsFunc_array_Slot_array_Slot_id [a0,a1] g n K := by kernel_rfl
def agent_Agent_Idle_1 (C : CT) (a0 : Value) (g : G) (n : Nat) (K : Cont) : Prop:=
kAgg a0 fun c1 =>
kNew c1 .exact g n fun l1 g1 n1 =>
kLd g1 l1 (0 + 0) fun v4 =>
C agent_rests_id [v4] g1 n1 fun v5 g2 n5 =>
kUn .not v5 fun v6 =>
aRet K v6 g2 n5
theorem agent_Agent_Idle_1_eq (C : CT) (a0 : Value) (g : G) (n : Nat) (K : Cont) : agent_Agent_Idle_1 C a0 g n K = abody Tryz.prog C agent_Agent_Idle_1_id [a0] g n K := by kernel_rfl
def agent_rests (C : CT) (a0 : Value) (g : G) (n : Nat) (K : Cont) : Prop:=
kBin .int .geq a0 (.int .i64 0) fun v4 =>
kSplit v4 (
kBin .int .leq a0 (.int .i64 3) fun v7 =>
aRet K v7 g n) (
aRet K (.bool false) g n)
theorem agent_rests_eq (C : CT) (a0 : Value) (g : G) (n : Nat) (K : Cont) : agent_rests C a0 g n K = abody Tryz.prog C agent_rests_id [a0] g n K := by kernel_rfl
def nvm_Device_may (C : CT) (a0 a1 : Value) (g : G) (n : Nat) (K : Cont) : Prop:=
kBin .ptr .eql a0 (.pointer none) fun v7 =>
kSplit v7 (
aRet K (.int .i64 1) g n) (
kBin .int .lss a1 (.int .i64 0) fun v10 =>
kSplit v10 (
aRet K (.int .i64 12) g n) (
kNil a0 fun v14 =>
kPtr v14 fun l15 o15 =>
kLd g l15 (o15 + 0) fun v16 =>
kLen v16 fun v17 =>
kBin .int .geq a1 v17 fun v18 =>
kSplit v18 (
aRet K (.int .i64 12) g n) (
aRet K (.int .i64 0) g n)))
theorem nvm_Device_may_eq (C : CT) (a0 a1 : Value) (g : G) (n : Nat) (K : Cont) : nvm_Device_may C a0 a1 g n K = abody Tryz.prog C nvm_Device_may_id [a0,a1] g n K := by kernel_rfl
def slices_IndexFunc_array_Slot_array_Slot_l1 (C : CT) (K : Cont) (I_l1 : ECont) (t : Env) (g : G) (n : Nat) : Prop:=
kBin .int .lss (t 8) (t 7) fun v9 =>
kSplit v9 (
kIndexAddr (t 0) (t 8) 11 fun v14 =>
kPtr v14 fun l15 o15 =>
kLdN g l15 o15 11 fun c15 =>
kCall C (t 1) [.agg c15.toArray] g n fun v16 g1 n16 =>
kSplit v16 (
aRet K (t 8) g1 n16) (
kBin .int .add (t 8) (.int .i64 1) fun v18 =>
I_l1 (puts t [(9,v9),(10,t 8),(5,t 8),(11,t 1),(12,t 0),(13,t 8),(14,v14),(15,.agg c15.toArray),(16,v16),(18,v18),(8,v18)]) g1 n16)) (
aRet K (.int .i64 (-1)) g n)
def slices_IndexFunc_array_Slot_array_Slot (C : CT) (a0 a1 : Value) (g : G) (n : Nat) (K : Cont) : Prop:=
kLen a0 fun v7 =>
lfp (slices_IndexFunc_array_Slot_array_Slot_l1 C K) (puts (args0 [a0,a1]) [(4,.int .i64 0),(6,a0),(7,v7),(8,.int .i64 0)]) g n
theorem slices_IndexFunc_array_Slot_array_Slot_eq (C : CT) (a0 a1 : Value) (g : G) (n : Nat) (K : Cont) : slices_IndexFunc_array_Slot_array_Slot C a0 a1 g n K = abody Tryz.prog C slices_IndexFunc_array_Slot_array_Slot_id [a0,a1] g n K := by kernel_rfl
def dir_move_getS (C : CT) (a0 a1 a2 : Value) (g : G) (n : Nat) (K : Cont) : Prop:=
kAgg a2 fun c5 =>
kNew c5 .exact g n fun l5 g1 n5 =>
kNil a0 fun v8 =>
kPtr v8 fun l9 o9 =>
kLd g1 l9 (o9 + 0 + 10) fun v11 =>
kBin .int .geq v11 (.int .i64 0) fun v17 =>
kSplit v17 (
kBin .int .neq v11 a1 fun v21 =>
kSplit v21 (
C geom_Bit_id [v11] g1 n5 fun v26 g2 n26 =>
C dir_move_wait_id [a0,.int .i64 1,a1,v26,.int .i64 13] g2 n26 fun v27 g3 n27 =>
aRet K (.tuple #[]) g3 n27) (
kNil a0 fun v30 =>
kPtr v30 fun l31 o31 =>
kLd g1 l31 (o31 + 0 + 11) fun v33 =>
kBin .int .eql v33 (.int .u8 0) fun v34 =>
kSplit v34 (
C dir_move_own_id [a0,a1,.int .i64 9] g1 n5 fun v37 g4 n37 =>
aRet K (.tuple #[]) g4 n37) (
C dir_move_read_id [a0,a1] g1 n5 fun v14 g5 n14 =>
aRet K (.tuple #[]) g5 n14))) (
kNil a0 fun v30 =>
kPtr v30 fun l31 o31 =>
kLd g1 l31 (o31 + 0 + 11) fun v33 =>
kBin .int .eql v33 (.int .u8 0) fun v34 =>
kSplit v34 (
C dir_move_own_id [a0,a1,.int .i64 9] g1 n5 fun v37 g6 n37 =>
aRet K (.tuple #[]) g6 n37) (
C dir_move_read_id [a0,a1] g1 n5 fun v14 g7 n14 =>
aRet K (.tuple #[]) g7 n14))
theorem dir_move_getS_eq (C : CT) (a0 a1 a2 : Value) (g : G) (n : Nat) (K : Cont) : dir_move_getS C a0 a1 a2 g n K = abody Tryz.prog C dir_move_getS_id [a0,a1,a2] g n K := by kernel_rfl
def dir_move_getM (C : CT) (a0 a1 a2 : Value) (g : G) (n : Nat) (K : Cont) : Prop:=
kAgg a2 fun c5 =>
kNew c5 .exact g n fun l5 g1 n5 =>
C dir_move_holders_id [a0] g1 n5 fun v8 g2 n8 =>
C geom_Bit_id [a1] g2 n8 fun v10 g3 n10 =>
kBin .int .andNot v8 v10 fun v11 =>
kBin .int .eql v11 (.int .u8 0) fun v13 =>
kSplit v13 (
C dir_move_own_id [a0,a1,.int .i64 10] g3 n10 fun v16 g4 n16 =>
aRet K (.tuple #[]) g4 n16) (
C dir_move_wait_id [a0,.int .i64 2,a1,v11,.int .i64 12] g3 n10 fun v20 g5 n20 =>
aRet K (.tuple #[]) g5 n20)
theorem dir_move_getM_eq (C : CT) (a0 a1 a2 : Value) (g : G) (n : Nat) (K : Cont) : dir_move_getM C a0 a1 a2 g n K = abody Tryz.prog C dir_move_getM_id [a0,a1,a2] g n K := by kernel_rfl
def dir_move_put_j1 (C : CT) (K : Cont) (t : Env) (g : G) (n : Nat) : Prop:=
C dir_move_tell_id [t 0,t 1,.int .i64 11] g n fun v33 g4 n33 =>
aRet K (.tuple #[]) g4 n33
def dir_move_put (C : CT) (a0 a1 a2 : Value) (g : G) (n : Nat) (K : Cont) : Prop:=
kAgg a2 fun c5 =>
kNew c5 .exact g n fun l5 g1 n5 =>
kNil a0 fun v7 =>
kPtr v7 fun l8 o8 =>
kLd g1 l8 (o8 + 0 + 10) fun v10 =>
kBin .int .eql v10 a1 fun v12 =>
kSplit v12 (
kNil a0 fun v14 =>
kPtr v14 fun l15 o15 =>
kSt g1 l15 (o15 + 0 + 10) (.int .i64 (-1)) fun g2 =>
kLdN g2 l5 0 12 fun c18 =>
C dir_move_take_id [a0,.agg c18.toArray] g2 n5 fun v19 g3 n19 =>
dir_move_put_j1 C K (puts (args0 [a0,a1,a2]) [(5,ptr l5 0),(6,a0),(7,v7),(8,(ptr l8 (o8 + 0))),(9,(ptr l8 (o8 + 0 + 10))),(10,v10),(11,a1),(12,v12),(13,a0),(14,v14),(15,(ptr l15 (o15 + 0))),(16,(ptr l15 (o15 + 0 + 10))),(17,a0),(18,.agg c18.toArray),(19,v19)]) g3 n19) (
kNil a0 fun v21 =>
kPtr v21 fun l22 o22 =>
kLd g1 l22 (o22 + 0 + 11) fun v24 =>
C geom_Bit_id [a1] g1 n5 fun v26 g5 n26 =>
(kPtr (ptr l22 (o22 + 0 + 11)) fun l _ => g5 l = g1 l) ∧ kBin .int .andNot v24 v26 fun v27 =>
kNil a0 fun v28 =>
kPtr v28 fun l29 o29 =>
kSt g5 l29 (o29 + 0 + 11) v27 fun g6 =>
dir_move_put_j1 C K (puts (args0 [a0,a1,a2]) [(5,ptr l5 0),(6,a0),(7,v7),(8,(ptr l8 (o8 + 0))),(9,(ptr l8 (o8 + 0 + 10))),(10,v10),(11,a1),(12,v12),(20,a0),(21,v21),(22,(ptr l22 (o22 + 0))),(23,(ptr l22 (o22 + 0 + 11))),(24,v24),(25,a1),(26,v26),(27,v27),(28,v28),(29,(ptr l29 (o29 + 0))),(30,(ptr l29 (o29 + 0 + 11)))]) g6 n26)
theorem dir_move_put_eq (C : CT) (a0 a1 a2 : Value) (g : G) (n : Nat) (K : Cont) : dir_move_put C a0 a1 a2 g n K = abody Tryz.prog C dir_move_put_id [a0,a1,a2] g n K := by kernel_rfl
def dir_move_clean (C : CT) (a0 a1 a2 : Value) (g : G) (n : Nat) (K : Cont) : Prop:=
kAgg a2 fun c5 =>
kNew c5 .exact g n fun l5 g1 n5 =>
kNil a0 fun v9 =>
kPtr v9 fun l10 o10 =>
kLd g1 l10 (o10 + 0 + 10) fun v12 =>
C geom_Bit_id [v12] g1 n5 fun v13 g2 n13 =>
C dir_move_wait_id [a0,.int .i64 4,a1,v13,.int .i64 13] g2 n13 fun v14 g3 n14 =>
aRet K (.tuple #[]) g3 n14
theorem dir_move_clean_eq (C : CT) (a0 a1 a2 : Value) (g : G) (n : Nat) (K : Cont) : dir_move_clean C a0 a1 a2 g n K = abody Tryz.prog C dir_move_clean_id [a0,a1,a2] g n K := by kernel_rfl
def dir_move_wipe (C : CT) (a0 a1 a2 : Value) (g : G) (n : Nat) (K : Cont) : Prop:=
kAgg a2 fun c5 =>
kNew c5 .exact g n fun l5 g1 n5 =>
C dir_move_holders_id [a0] g1 n5 fun v9 g2 n9 =>
C dir_move_wait_id [a0,.int .i64 5,a1,v9,.int .i64 12] g2 n9 fun v10 g3 n10 =>
aRet K (.tuple #[]) g3 n10
theorem dir_move_wipe_eq (C : CT) (a0 a1 a2 : Value) (g : G) (n : Nat) (K : Cont) : dir_move_wipe C a0 a1 a2 g n K = abody Tryz.prog C dir_move_wipe_id [a0,a1,a2] g n K := by kernel_rfl
def array_Array_at_1 (C : CT) (a0 a1 : Value) (g : G) (n : Nat) (K : Cont) : Prop:=
kAgg a0 fun c2 =>
kNew c2 .exact g n fun l2 g1 n2 =>
kLd g1 l2 (0 + 0) fun v5 =>
kBin .int .neq v5 (.int .i64 0) fun v6 =>
kSplit v6 (
kLd g1 l2 (0 + 1) fun v9 =>
kPtr a1 fun l10 o10 =>
kLd g1 l10 o10 fun v10 =>
kBin .int .eql v9 v10 fun v11 =>
aRet K v11 g1 n2) (
aRet K (.bool false) g1 n2)
theorem array_Array_at_1_eq (C : CT) (a0 a1 : Value) (g : G) (n : Nat) (K : Cont) : array_Array_at_1 C a0 a1 g n K = abody Tryz.prog C array_Array_at_1_id [a0,a1] g n K := by kernel_rfl
def geom_Set_j1 (C : CT) (K : Cont) (t : Env) (g : G) (n : Nat) : Prop:=
kSplit (t 8) (
kBin .int .rem (t 1) (t 0) fun v15 =>
aRet K v15 g n) (
aRet K (.int .i64 0) g n)
def geom_Set (C : CT) (a0 a1 : Value) (g : G) (n : Nat) (K : Cont) : Prop:=
kBin .int .lss a1 (.int .i64 0) fun v6 =>
kSplit v6 (
aRet K (.int .i64 0) g n) (
kBin .int .eql a0 (.int .i64 1) fun v9 =>
kSplit v9 (
geom_Set_j1 C K (puts (args0 [a0,a1]) [(4,.int .i64 0),(5,a1),(6,v6),(7,a0),(9,v9),(8,v9)]) g n) (
kBin .int .eql a0 (.int .i64 2) fun v10 =>
kSplit v10 (
geom_Set_j1 C K (puts (args0 [a0,a1]) [(4,.int .i64 0),(5,a1),(6,v6),(7,a0),(9,v9),(8,v9),(10,v10),(8,v10)]) g n) (
kBin .int .eql a0 (.int .i64 4) fun v11 =>
kSplit v11 (
geom_Set_j1 C K (puts (args0 [a0,a1]) [(4,.int .i64 0),(5,a1),(6,v6),(7,a0),(9,v9),(8,v9),(10,v10),(8,v10),(11,v11),(8,v11)]) g n) (
kBin .int .eql a0 (.int .i64 8) fun v12 =>
geom_Set_j1 C K (puts (args0 [a0,a1]) [(4,.int .i64 0),(5,a1),(6,v6),(7,a0),(9,v9),(8,v9),(10,v10),(8,v10),(11,v11),(8,v11),(12,v12),(8,v12)]) g n))))
theorem geom_Set_eq (C : CT) (a0 a1 : Value) (g : G) (n : Nat) (K : Cont) : geom_Set C a0 a1 g n K = abody Tryz.prog C geom_Set_id [a0,a1] g n K := by kernel_rfl
def dir_move_wait_l1 (C : CT) (K : Cont) (I_l1 : ECont) (t : Env) (g : G) (n : Nat) : Prop:=
kBin .int .lss (t 30) (t 29) fun v31 =>
kSplit v31 (
kIndexAddr (t 28) (t 30) 1 fun v32 =>
kPtr v32 fun l33 o33 =>
kLd g l33 o33 fun v33 =>
C dir_move_tell_id [t 0,v33,t 4] g n fun v37 g5 n37 =>
kBin .int .add (t 30) (.int .i64 1) fun v38 =>
I_l1 (puts t [(31,v31),(32,v32),(33,v33),(11,v33),(34,t 0),(35,v33),(36,t 4),(37,v37),(38,v38),(30,v38)]) g5 n37) (
aRet K (.tuple #[]) g n)
def dir_move_wait (C : CT) (a0 a1 a2 a3 a4 : Value) (g : G) (n : Nat) (K : Cont) : Prop:=
kNil a0 fun v18 =>
kPtr v18 fun l19 o19 =>
kSt g l19 (o19 + 0 + 12) a1 fun g1 =>
kNil a0 fun v21 =>
kPtr v21 fun l22 o22 =>
kSt g1 l22 (o22 + 0 + 13) a2 fun g2 =>
kNil a0 fun v24 =>
kPtr v24 fun l25 o25 =>
kSt g2 l25 (o25 + 0 + 14) a3 fun g3 =>
C geom_Cores_id [a3] g3 n fun v28 g4 n28 =>
kLen v28 fun v29 =>
lfp (dir_move_wait_l1 C K) (puts (args0 [a0,a1,a2,a3,a4]) [(12,a0),(13,a0),(14,a0),(15,a1),(16,a2),(17,a3),(18,v18),(19,(ptr l19 (o19 + 0))),(20,(ptr l19 (o19 + 0 + 12))),(21,v21),(22,(ptr l22 (o22 + 0))),(23,(ptr l22 (o22 + 0 + 13))),(24,v24),(25,(ptr l25 (o25 + 0))),(26,(ptr l25 (o25 + 0 + 14))),(27,a3),(28,v28),(29,v29),(30,.int .i64 0)]) g4 n28
theorem dir_move_wait_eq (C : CT) (a0 a1 a2 a3 a4 : Value) (g : G) (n : Nat) (K : Cont) : dir_move_wait C a0 a1 a2 a3 a4 g n K = abody Tryz.prog C dir_move_wait_id [a0,a1,a2,a3,a4] g n K := by kernel_rfl
def dir_move_holders (C : CT) (a0 : Value) (g : G) (n : Nat) (K : Cont) : Prop:=
kNil a0 fun v4 =>
kPtr v4 fun l5 o5 =>
kLd g l5 (o5 + 0 + 11) fun v7 =>
kNil a0 fun v9 =>
kPtr v9 fun l10 o10 =>
kLd g l10 (o10 + 0 + 10) fun v12 =>
C geom_Bit_id [v12] g n fun v13 g1 n13 =>
(kPtr (ptr l5 (o5 + 0 + 11)) fun l _ => g1 l = g l) ∧ kBin .int .or v7 v13 fun v14 =>
aRet K v14 g1 n13
theorem dir_move_holders_eq (C : CT) (a0 : Value) (g : G) (n : Nat) (K : Cont) : dir_move_holders C a0 g n K = abody Tryz.prog C dir_move_holders_id [a0] g n K := by kernel_rfl
def geom_Cores_l1 (C : CT) (K : Cont) (I_l1 : ECont) (t : Env) (g : G) (n : Nat) : Prop:=
kBin .int .lss (t 5) (.int .i64 8) fun v6 =>
kSplit v6 (
C geom_Has_id [t 0,t 5] g n fun v10 g1 n10 =>
kSplit v10 (
kFill (reps 1 [.int .i64 0]) [(0,none,t 5)] fun c13 =>
kNew c13 .exact g1 n10 fun l13 g2 n13 =>
kAppend (t 3) (.slice (some ⟨l13,0,none⟩) 1 1) 1 8 g2 n13 fun v14 g3 n14 =>
kBin .int .add (t 5) (.int .i64 1) fun v15 =>
I_l1 (puts t [(6,v6),(7,t 5),(4,t 5),(8,t 0),(9,t 5),(10,v10),(11,t 3),(12,t 5),(13,(.slice (some ⟨l13,0,none⟩) 1 1)),(14,v14),(3,v14),(15,v15),(5,v15)]) g3 n14) (
kBin .int .add (t 5) (.int .i64 1) fun v15 =>
I_l1 (puts t [(6,v6),(7,t 5),(4,t 5),(8,t 0),(9,t 5),(10,v10),(15,v15),(5,v15)]) g1 n10)) (
aRet K (t 3) g n)
def geom_Cores (C : CT) (a0 : Value) (g : G) (n : Nat) (K : Cont) : Prop:=
lfp (geom_Cores_l1 C K) (puts (args0 [a0]) [(2,.slice none 0 0),(3,.slice none 0 0),(5,.int .i64 0)]) g n
theorem geom_Cores_eq (C : CT) (a0 : Value) (g : G) (n : Nat) (K : Cont) : geom_Cores C a0 g n K = abody Tryz.prog C geom_Cores_id [a0] g n K := by kernel_rfl
end Go.Proofs.YtjpckcikmfihlaaGreat.Gen
