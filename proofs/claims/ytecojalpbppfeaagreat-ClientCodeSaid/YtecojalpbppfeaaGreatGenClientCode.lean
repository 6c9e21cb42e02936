import Derived.Test.YtecojalpbppfeaaGreatProg
import Derived.KernelRfl
import Derived.Test.YtecojalpbppfeaaGreatAbsC
/- What the machine comes to on each function, printed by program; each equation is checked by the kernel. -/
set_option linter.all false
set_option linter.deprecated false
namespace Go.Proofs.YtecojalpbppfeaaGreat.Gen
open Go Go.Proofs.YtecojalpbppfeaaGreat.Abs

def bellowslaw25_ClientCode_id : FuncId := 4
def undo_Begin_id : FuncId := 7
def bellowsref24_Begin_id : FuncId := 8
def undo_Note_id : FuncId := 9
def bellowsref24_Note_id : FuncId := 10
def undo_Commit_id : FuncId := 11
def bellowsref24_Commit_id : FuncId := 12
def undo_Back_id : FuncId := 13
def bellowsref24_Back_id : FuncId := 14
def emit_Builder_Mark_id : FuncId := 15
def bellowsref21_Builder_Mark_id : FuncId := 16
def emit_Builder_Here_id : FuncId := 17
def bellowsref21_Builder_Here_id : FuncId := 18
def emit_Builder_Done_id : FuncId := 20
def bellowsref21_Builder_Done_id : FuncId := 21
def bellowskeep_Words_id : FuncId := 24
def bellowslaw25_Fair_id : FuncId := 25
def bellowslaw25_wakes_id : FuncId := 26
def client_Code_id : FuncId := 27
def bellowslaw25_Copied_id : FuncId := 28
def bellowsref25_Code_id : FuncId := 29
def client_Good_id : FuncId := 30
def bellowsref25_Good_id : FuncId := 31
def bellowslaw22_Plain_id : FuncId := 32
def emit_Builder_Add_id : FuncId := 33
def undo_li_id : FuncId := 34
def bellowsref21_Builder_Add_id : FuncId := 35
def bellowsref24_li_id : FuncId := 36
def layout_Good_id : FuncId := 37
def layout_Words_id : FuncId := 38
def layout_Room_id : FuncId := 39
def emit_Builder_Jump_id : FuncId := 40
def undo_entry_id : FuncId := 41
def layout_Word_id : FuncId := 42
def undo_st_id : FuncId := 43
def undo_ld_id : FuncId := 44
def undo_clwb_id : FuncId := 45
def undo_fence_id : FuncId := 46
def undo_three_id : FuncId := 47
def layout_Count_id : FuncId := 48
def bellowsref22_Words_id : FuncId := 49
def bellowsref22_Room_id : FuncId := 50
def bellowsref21_Builder_Jump_id : FuncId := 51
def bellowsref24_op_id : FuncId := 52
def bellowsref24_entry_id : FuncId := 53
def bellowsref22_Word_id : FuncId := 54
def bellowsref24_mem_id : FuncId := 55
def bellowsref24_count_id : FuncId := 56
def slices_Sort_uint64_uint64_id : FuncId := 57
def undo_nought_id : FuncId := 58
def bellowsref22_Good_id : FuncId := 59
def emit_Builder_is_id : FuncId := 60
def slices_Clone_api_Ins_api_Ins_id : FuncId := 61
def isa_Encode_id : FuncId := 62
def bellowsref10_Encode_id : FuncId := 63
def bellowsref22_Count_id : FuncId := 64
def client_writer_tx_id : FuncId := 65
def bellowsref25_whole_id : FuncId := 66
def client_good_id : FuncId := 67
def bellowsref23_Li_id : FuncId := 68
def layout_of_id : FuncId := 69
def layout_Entry_id : FuncId := 70
def word_Addr_id : FuncId := 71
def bellowsref22_Entry_id : FuncId := 72
def bellowsref01_Addr_id : FuncId := 73
def bellowsref22_First_id : FuncId := 74
def slices_pdqsortOrdered_uint64_id : FuncId := 75
def math_bits_Len_id : FuncId := 76
def bellowsref01_Good_id : FuncId := 77
def isa_Good_id : FuncId := 78
def bellowsref10_Good_id : FuncId := 79
def lock_Take_id : FuncId := 80
def layout_Lock_id : FuncId := 81
def client_writer_li_id : FuncId := 82
def client_writer_jump_id : FuncId := 83
def client_does_id : FuncId := 84
def lock_Give_id : FuncId := 85
def client_writer_tell_id : FuncId := 86
def bellowsref23_Take_id : FuncId := 87
def bellowsref25_one_id : FuncId := 88
def bellowsref25_li_id : FuncId := 89
def bellowsref23_Give_id : FuncId := 90
def bellowsref25_tell_id : FuncId := 91
def sync_Once_Do_id : FuncId := 92
def layout_of_1_id : FuncId := 93
def layout_plan_reckon_id : FuncId := 94
def word_is_id : FuncId := 95
def slices_insertionSortOrdered_uint64_id : FuncId := 96
def slices_heapSortOrdered_uint64_id : FuncId := 97
def slices_breakPatternsOrdered_uint64_id : FuncId := 98
def slices_choosePivotOrdered_uint64_id : FuncId := 99
def slices_reverseRangeOrdered_uint64_id : FuncId := 100
def slices_partialInsertionSortOrdered_uint64_id : FuncId := 101
def cmp_Less_uint64_id : FuncId := 102
def slices_partitionEqualOrdered_uint64_id : FuncId := 103
def slices_partitionOrdered_uint64_id : FuncId := 104
def math_bits_Len64_id : FuncId := 106
def isa_Has_id : FuncId := 107
def isa_is_id : FuncId := 108
def isa_register_id : FuncId := 109
def strings_Contains_id : FuncId := 110
def isa_jumps_id : FuncId := 111
def bellowsref10_has_id : FuncId := 112
def bellowsref10_reg_id : FuncId := 113
def lock_li_id : FuncId := 114
def client_writer_read_id : FuncId := 115
def client_writer_write_id : FuncId := 116
def client_writer_add_id : FuncId := 117
def client_writer_take_id : FuncId := 118
def bellowsref25_load_id : FuncId := 119
def bellowsref25_store_id : FuncId := 120
def sync_atomic_Bool_Load_id : FuncId := 121
def sync_Once_doSlow_id : FuncId := 122
def word_Good_id : FuncId := 123
def slices_siftDownOrdered_uint64_id : FuncId := 124
def slices_nextPowerOfTwo_id : FuncId := 125
def slices_xorshift_Next_id : FuncId := 126
def slices_medianAdjacentOrdered_uint64_id : FuncId := 127
def slices_medianOrdered_uint64_id : FuncId := 128
def cmp_isNaN_uint64_id : FuncId := 129
def isa_table_fill_id : FuncId := 130
def strings_Index_id : FuncId := 131
def bellowsref10_Has_id : FuncId := 132
def client_writer_at_id : FuncId := 133
def client_writer_ld_id : FuncId := 134
def client_writer_note_id : FuncId := 135
def client_writer_st_id : FuncId := 136
def sync_atomic_LoadUint32_id : FuncId := 137
def word_between_id : FuncId := 141
def slices_order2Ordered_uint64_id : FuncId := 142
def internal_stringslite_Index_id : FuncId := 143
def internal_stringslite_IndexByte_id : FuncId := 148
def internal_bytealg_IndexByteString_id : FuncId := 160

/- bellows/bellowslaw25.ClientCode -/
def bellowslaw25_ClientCode_j2 (C : CT) (K : Cont) (t : Env) (g : G) (n : Nat) : Prop :=
C bellowskeep_Words_id [(t 5), (t 7)] g n fun v46 g9 n46 =>
kSplit v46 (
kBin .int .eql (t 6) (t 8) fun v50 =>
kSplit v50 (
C bellowslaw25_wakes_id [] g9 n46 fun v53 g10 n53 =>
aRet K v53 g10 n53) (
aRet K (.bool false) g9 n46)) (
aRet K (.bool false) g9 n46)

def bellowslaw25_ClientCode_l1 (C : CT) (K : Cont) (I_l1 : ECont) (t : Env) (g : G) (n : Nat) : Prop :=
kLen (t 1) fun v29 =>
kBin .int .lss (t 9) v29 fun v30 =>
kSplit v30 (
kIndexAddr (t 1) (t 9) 2 fun v35 =>
kPtr v35 fun l36 o36 =>
kLdN g l36 o36 2 fun c36 =>
kIndexAddr (t 1) (t 9) 2 fun v40 =>
kPtr v40 fun l41 o41 =>
kLdN g l41 o41 2 fun c41 =>
C client_Good_id [(.agg c36.toArray)] g n fun v37 g7 n37 =>
(kPtr v40 fun l _ => g7 l = g l) ∧ C bellowsref25_Good_id [(.agg c41.toArray)] g7 n37 fun v42 g8 n42 =>
kBin .bool .neq v37 v42 fun v43 =>
kSplit v43 (
aRet K (.bool false) g8 n42) (
kBin .int .add (t 9) (.int .i64 1) fun v32 =>
I_l1 (puts t [(27, (t 9)), (28, (t 1)), (29, v29), (30, v30), (33, (t 1)), (34, (t 9)), (35, v35), (36, (.agg c36.toArray)), (38, (t 1)), (39, (t 9)), (40, v40), (41, (.agg c41.toArray)), (37, v37), (42, v42), (43, v43), (31, (t 9)), (32, v32), (9, v32)]) g8 n42)) (
bellowslaw25_ClientCode_j2 C K (puts t [(27, (t 9)), (28, (t 1)), (29, v29), (30, v30)]) g n)

def bellowslaw25_ClientCode (C : CT) (a0 a1 : Value) (g : G) (n : Nat) (K : Cont) : Prop :=
kAgg a0 fun c2 =>
kNew c2 .exact g n fun l2 g1 n2 =>
C bellowslaw25_Fair_id [a1] g1 n2 fun v11 g2 n11 =>
kUn .not v11 fun v12 =>
kSplit v12 (
C bellowslaw25_wakes_id [] g2 n11 fun v13 g3 n13 =>
aRet K v13 g3 n13) (
kLdN g2 l2 0 9 fun c15 =>
C bellowslaw25_Copied_id [a1] g2 n11 fun v17 g4 n17 =>
(kPtr (ptr l2 0) fun l _ => g4 l = g2 l) ∧ C client_Code_id [(.agg c15.toArray), v17] g4 n17 fun v18 g5 n18 =>
kExtract v18 0 fun v19 =>
kExtract v18 1 fun v20 =>
kLdN g5 l2 0 9 fun c22 =>
C bellowsref25_Code_id [(.agg c22.toArray), a1] g5 n18 fun v24 g6 n24 =>
kExtract v24 0 fun v25 =>
kExtract v24 1 fun v26 =>
lfp (bellowslaw25_ClientCode_l1 C K) (puts (args0 [a0, a1]) [(2, (ptr l2 0)), (4, (.bool false)), (10, a1), (11, v11), (12, v12), (15, (.agg c15.toArray)), (16, a1), (17, v17), (18, v18), (14, v18), (19, v19), (20, v20), (5, v19), (6, v20), (22, (.agg c22.toArray)), (23, a1), (24, v24), (21, v24), (25, v25), (26, v26), (7, v25), (8, v26), (9, (.int .i64 0))]) g6 n24)

theorem bellowslaw25_ClientCode_eq (C : CT) (a0 a1 : Value) (g : G) (n : Nat) (K : Cont) : bellowslaw25_ClientCode C a0 a1 g n K = abody Tryz.prog C bellowslaw25_ClientCode_id [a0, a1] g n K := by kernel_rfl

/- bellows/undo.Begin -/
def undo_Begin (C : CT) (a0 : Value) (g : G) (n : Nat) (K : Cont) : Prop :=
C undo_li_id [(.int .i64 7), (.int .u64 0)] g n fun v3 g1 n3 =>
kFill (reps 1 [(.int .i64 0), (.int .i64 0), (.int .i64 0), (.int .i64 0), (.int .i64 0)]) [(0, (some 5), v3)] fun c4 =>
kNew c4 .exact g1 n3 fun l4 g2 n4 =>
C emit_Builder_Add_id [a0, (.slice (some ⟨l4, 0, none⟩) 1 1)] g2 n4 fun v5 g3 n5 =>
aRet K (.tuple #[]) g3 n5

theorem undo_Begin_eq (C : CT) (a0 : Value) (g : G) (n : Nat) (K : Cont) : undo_Begin C a0 g n K = abody Tryz.prog C undo_Begin_id [a0] g n K := by kernel_rfl

/- bellows/bellowsref24.Begin -/
def bellowsref24_Begin (C : CT) (a0 : Value) (g : G) (n : Nat) (K : Cont) : Prop :=
C bellowsref24_li_id [(.int .i64 7), (.int .u64 0)] g n fun v3 g1 n3 =>
kFill (reps 1 [(.int .i64 0), (.int .i64 0), (.int .i64 0), (.int .i64 0), (.int .i64 0)]) [(0, (some 5), v3)] fun c4 =>
kNew c4 .exact g1 n3 fun l4 g2 n4 =>
C bellowsref21_Builder_Add_id [a0, (.slice (some ⟨l4, 0, none⟩) 1 1)] g2 n4 fun v5 g3 n5 =>
aRet K (.tuple #[]) g3 n5

theorem bellowsref24_Begin_eq (C : CT) (a0 : Value) (g : G) (n : Nat) (K : Cont) : bellowsref24_Begin C a0 g n K = abody Tryz.prog C bellowsref24_Begin_id [a0] g n K := by kernel_rfl

/- bellows/undo.Note -/
def undo_Note (C : CT) (a0 a1 a2 a3 : Value) (g : G) (n : Nat) (K : Cont) : Prop :=
kAgg a1 fun c5 =>
kNew c5 .exact g n fun l5 g1 n5 =>
kBin .ptr .eql a0 (.pointer none) fun v9 =>
kSplit v9 (
aRet K (.tuple #[]) g1 n5) (
kLdN g1 l5 0 9 fun c11 =>
C layout_Good_id [(.agg c11.toArray)] g1 n5 fun v12 g2 n12 =>
kUn .not v12 fun v13 =>
kSplit v13 (
aRet K (.tuple #[]) g2 n12) (
kBin .int .lss a2 (.int .i64 0) fun v17 =>
kSplit v17 (
aRet K (.tuple #[]) g2 n12) (
kLdN g2 l5 0 9 fun c21 =>
C layout_Words_id [(.agg c21.toArray)] g2 n12 fun v22 g3 n22 =>
kBin .int .geq a2 v22 fun v23 =>
kSplit v23 (
aRet K (.tuple #[]) g3 n22) (
kLdN g3 l5 0 9 fun c26 =>
C layout_Room_id [(.agg c26.toArray)] g3 n22 fun v27 g4 n27 =>
kConv .u64 v27 fun v28 =>
C undo_li_id [(.int .i64 0), v28] g4 n27 fun v29 g5 n29 =>
kFill (reps 1 [(.int .i64 0), (.int .i64 0), (.int .i64 0), (.int .i64 0), (.int .i64 0)]) [(0, (some 5), v29)] fun c30 =>
kNew c30 .exact g5 n29 fun l30 g6 n30 =>
C emit_Builder_Add_id [a0, (.slice (some ⟨l30, 0, none⟩) 1 1)] g6 n30 fun v31 g7 n31 =>
kFill [(.int .i64 0), (.int .i64 0), (.int .i64 0), (.int .i64 0), (.int .i64 0)] [(0, none, (.int .i64 18)), (1, none, (.int .i64 7)), (2, none, (.int .i64 0))] fun c33 =>
C emit_Builder_Jump_id [a0, (.agg c33.toArray), a3] g7 n31 fun v35 g8 n35 =>
kLdN g8 l5 0 9 fun c37 =>
C undo_entry_id [(.agg c37.toArray)] g8 n35 fun v38 g9 n38 =>
C emit_Builder_Add_id [a0, v38] g9 n38 fun v39 g10 n39 =>
kLdN g10 l5 0 9 fun c41 =>
C layout_Word_id [(.agg c41.toArray), a2] g10 n39 fun v43 g11 n43 =>
C undo_li_id [(.int .i64 1), v43] g11 n43 fun v44 g12 n44 =>
C undo_st_id [(.int .i64 1), (.int .i64 6), (.int .i64 0)] g12 n44 fun v45 g13 n45 =>
C undo_ld_id [(.int .i64 4), (.int .i64 1), (.int .i64 0)] g13 n45 fun v46 g14 n46 =>
C undo_st_id [(.int .i64 4), (.int .i64 6), (.int .i64 8)] g14 n46 fun v47 g15 n47 =>
C undo_clwb_id [(.int .i64 6)] g15 n47 fun v48 g16 n48 =>
C undo_fence_id [] g16 n48 fun v49 g17 n49 =>
kFill (reps 6 [(.int .i64 0), (.int .i64 0), (.int .i64 0), (.int .i64 0), (.int .i64 0)]) [(0, (some 5), v44), (5, (some 5), v45), (10, (some 5), v46), (15, (some 5), v47), (20, (some 5), v48), (25, (some 5), v49)] fun c50 =>
kNew c50 .exact g17 n49 fun l50 g18 n50 =>
C emit_Builder_Add_id [a0, (.slice (some ⟨l50, 0, none⟩) 6 6)] g18 n50 fun v51 g19 n51 =>
kLdN g19 l5 0 9 fun c55 =>
C undo_li_id [(.int .i64 0), (.int .u64 1)] g19 n51 fun v53 g20 n53 =>
(kPtr (ptr l5 0) fun l _ => g20 l = g19 l) ∧ C undo_three_id [(.int .i64 2), (.int .i64 7), (.int .i64 7), (.int .i64 0)] g20 n53 fun v54 g21 n54 =>
(kPtr (ptr l5 0) fun l _ => g21 l = g20 l) ∧ C layout_Count_id [(.agg c55.toArray)] g21 n54 fun v56 g22 n56 =>
C undo_li_id [(.int .i64 6), v56] g22 n56 fun v57 g23 n57 =>
C undo_st_id [(.int .i64 7), (.int .i64 6), (.int .i64 0)] g23 n57 fun v58 g24 n58 =>
C undo_clwb_id [(.int .i64 6)] g24 n58 fun v59 g25 n59 =>
C undo_fence_id [] g25 n59 fun v60 g26 n60 =>
kFill (reps 6 [(.int .i64 0), (.int .i64 0), (.int .i64 0), (.int .i64 0), (.int .i64 0)]) [(0, (some 5), v53), (5, (some 5), v54), (10, (some 5), v57), (15, (some 5), v58), (20, (some 5), v59), (25, (some 5), v60)] fun c61 =>
kNew c61 .exact g26 n60 fun l61 g27 n61 =>
C emit_Builder_Add_id [a0, (.slice (some ⟨l61, 0, none⟩) 6 6)] g27 n61 fun v62 g28 n62 =>
aRet K (.tuple #[]) g28 n62))))

theorem undo_Note_eq (C : CT) (a0 a1 a2 a3 : Value) (g : G) (n : Nat) (K : Cont) : undo_Note C a0 a1 a2 a3 g n K = abody Tryz.prog C undo_Note_id [a0, a1, a2, a3] g n K := by kernel_rfl

/- bellows/bellowsref24.Note -/
def bellowsref24_Note (C : CT) (a0 a1 a2 a3 : Value) (g : G) (n : Nat) (K : Cont) : Prop :=
kAgg a1 fun c5 =>
kNew c5 .exact g n fun l5 g1 n5 =>
kBin .int .lss a2 (.int .i64 0) fun v9 =>
kSplit v9 (
aRet K (.tuple #[]) g1 n5) (
kLdN g1 l5 0 9 fun c12 =>
C bellowsref22_Words_id [(.agg c12.toArray)] g1 n5 fun v13 g2 n13 =>
kBin .int .geq a2 v13 fun v14 =>
kSplit v14 (
aRet K (.tuple #[]) g2 n13) (
kLdN g2 l5 0 9 fun c17 =>
C bellowsref22_Room_id [(.agg c17.toArray)] g2 n13 fun v18 g3 n18 =>
kConv .u64 v18 fun v19 =>
C bellowsref24_li_id [(.int .i64 0), v19] g3 n18 fun v20 g4 n20 =>
kFill (reps 1 [(.int .i64 0), (.int .i64 0), (.int .i64 0), (.int .i64 0), (.int .i64 0)]) [(0, (some 5), v20)] fun c21 =>
kNew c21 .exact g4 n20 fun l21 g5 n21 =>
C bellowsref21_Builder_Add_id [a0, (.slice (some ⟨l21, 0, none⟩) 1 1)] g5 n21 fun v22 g6 n22 =>
C bellowsref24_op_id [(.int .i64 18), (.int .i64 7), (.int .i64 0), (.int .i64 0)] g6 n22 fun v24 g7 n24 =>
C bellowsref21_Builder_Jump_id [a0, v24, a3] g7 n24 fun v26 g8 n26 =>
kLdN g8 l5 0 9 fun c28 =>
C bellowsref24_entry_id [a0, (.agg c28.toArray)] g8 n26 fun v29 g9 n29 =>
kLdN g9 l5 0 9 fun c31 =>
C bellowsref22_Word_id [(.agg c31.toArray), a2] g9 n29 fun v33 g10 n33 =>
C bellowsref24_li_id [(.int .i64 1), v33] g10 n33 fun v34 g11 n34 =>
C bellowsref24_mem_id [(.int .i64 9), (.int .i64 1), (.int .i64 6), (.int .i64 0)] g11 n34 fun v35 g12 n35 =>
C bellowsref24_mem_id [(.int .i64 8), (.int .i64 4), (.int .i64 1), (.int .i64 0)] g12 n35 fun v36 g13 n36 =>
C bellowsref24_mem_id [(.int .i64 9), (.int .i64 4), (.int .i64 6), (.int .i64 8)] g13 n36 fun v37 g14 n37 =>
C bellowsref24_mem_id [(.int .i64 12), (.int .i64 0), (.int .i64 6), (.int .i64 0)] g14 n37 fun v38 g15 n38 =>
C bellowsref24_op_id [(.int .i64 15), (.int .i64 0), (.int .i64 0), (.int .i64 0)] g15 n38 fun v39 g16 n39 =>
kFill (reps 6 [(.int .i64 0), (.int .i64 0), (.int .i64 0), (.int .i64 0), (.int .i64 0)]) [(0, (some 5), v34), (5, (some 5), v35), (10, (some 5), v36), (15, (some 5), v37), (20, (some 5), v38), (25, (some 5), v39)] fun c40 =>
kNew c40 .exact g16 n39 fun l40 g17 n40 =>
C bellowsref21_Builder_Add_id [a0, (.slice (some ⟨l40, 0, none⟩) 6 6)] g17 n40 fun v41 g18 n41 =>
C bellowsref24_li_id [(.int .i64 0), (.int .u64 1)] g18 n41 fun v43 g19 n43 =>
C bellowsref24_op_id [(.int .i64 2), (.int .i64 7), (.int .i64 7), (.int .i64 0)] g19 n43 fun v44 g20 n44 =>
kFill (reps 2 [(.int .i64 0), (.int .i64 0), (.int .i64 0), (.int .i64 0), (.int .i64 0)]) [(0, (some 5), v43), (5, (some 5), v44)] fun c45 =>
kNew c45 .exact g20 n44 fun l45 g21 n45 =>
C bellowsref21_Builder_Add_id [a0, (.slice (some ⟨l45, 0, none⟩) 2 2)] g21 n45 fun v46 g22 n46 =>
kLdN g22 l5 0 9 fun c48 =>
C bellowsref24_count_id [a0, (.agg c48.toArray), (.int .i64 7), (.bool false)] g22 n46 fun v49 g23 n49 =>
aRet K (.tuple #[]) g23 n49))

theorem bellowsref24_Note_eq (C : CT) (a0 a1 a2 a3 : Value) (g : G) (n : Nat) (K : Cont) : bellowsref24_Note C a0 a1 a2 a3 g n K = abody Tryz.prog C bellowsref24_Note_id [a0, a1, a2, a3] g n K := by kernel_rfl

/- bellows/undo.Commit -/
def undo_Commit_j6 (C : CT) (K : Cont) (t : Env) (g : G) (n : Nat) : Prop :=
kPtr (t 4) fun l70 o70 =>
kLdN g l70 o70 9 fun c70 =>
C undo_nought_id [(.agg c70.toArray)] g n fun v71 g16 n71 =>
C emit_Builder_Add_id [(t 0), v71] g16 n71 fun v72 g17 n72 =>
aRet K (.tuple #[]) g17 n72

def undo_Commit_l5 (C : CT) (K : Cont) (I_l5 : ECont) (t : Env) (g : G) (n : Nat) : Prop :=
kBin .int .lss (t 58) (t 57) fun v59 =>
kSplit v59 (
kIndexAddr (t 56) (t 58) 1 fun v60 =>
kPtr v60 fun l61 o61 =>
kLd g l61 o61 fun v61 =>
C undo_li_id [(.int .i64 1), v61] g n fun v64 g12 n64 =>
C undo_clwb_id [(.int .i64 1)] g12 n64 fun v65 g13 n65 =>
kFill (reps 2 [(.int .i64 0), (.int .i64 0), (.int .i64 0), (.int .i64 0), (.int .i64 0)]) [(0, (some 5), v64), (5, (some 5), v65)] fun c66 =>
kNew c66 .exact g13 n65 fun l66 g14 n66 =>
C emit_Builder_Add_id [(t 0), (.slice (some ⟨l66, 0, none⟩) 2 2)] g14 n66 fun v67 g15 n67 =>
kBin .int .add (t 58) (.int .i64 1) fun v68 =>
I_l5 (puts t [(59, v59), (60, v60), (61, v61), (12, v61), (62, (t 0)), (63, v61), (64, v64), (65, v65), (66, (.slice (some ⟨l66, 0, none⟩) 2 2)), (67, v67), (68, v68), (58, v68)]) g15 n67) (
undo_Commit_j6 C K (puts t [(59, v59)]) g n)

def undo_Commit_j4 (C : CT) (K : Cont) (t : Env) (g : G) (n : Nat) : Prop :=
C slices_Sort_uint64_uint64_id [(t 9)] g n fun v55 g11 n55 =>
kLen (t 9) fun v57 =>
lfp (undo_Commit_l5 C K) (puts t [(54, (t 9)), (55, v55), (56, (t 9)), (57, v57), (58, (.int .i64 0))]) g11 n55

def undo_Commit_l3 (C : CT) (K : Cont) (I_l3 : ECont) (t : Env) (g : G) (n : Nat) : Prop :=
kNext (t 45) g fun v46 g8 =>
kExtract v46 0 fun v47 =>
kSplit v47 (
kEntry (t 45) g8 fun v48 =>
kExtract v48 0 fun v49 =>
kFill (reps 1 [(.int .u64 0)]) [(0, none, v49)] fun c52 =>
kNew c52 .exact g8 n fun l52 g9 n52 =>
kAppend (t 9) (.slice (some ⟨l52, 0, none⟩) 1 1) 1 8 g9 n52 fun v53 g10 n53 =>
I_l3 (puts t [(46, v46), (47, v47), (48, v48), (49, v49), (10, v49), (50, (t 9)), (51, v49), (52, (.slice (some ⟨l52, 0, none⟩) 1 1)), (53, v53), (9, v53)]) g10 n53) (
undo_Commit_j4 C K (puts t [(46, v46), (47, v47)]) g8 n)

def undo_Commit_j2 (C : CT) (K : Cont) (t : Env) (g : G) (n : Nat) : Prop :=
kRange (t 6) g n fun l45 g7 n45 =>
lfp (undo_Commit_l3 C K) (puts t [(9, (.slice none 0 0)), (44, (t 6)), (45, (ptr l45 0))]) g7 n45

def undo_Commit_l1 (C : CT) (K : Cont) (I_l1 : ECont) (t : Env) (g : G) (n : Nat) : Prop :=
kBin .int .lss (t 23) (t 22) fun v24 =>
kSplit v24 (
kIndexAddr (t 21) (t 23) 1 fun v25 =>
kPtr v25 fun l26 o26 =>
kLd g l26 o26 fun v26 =>
kBin .int .geq v26 (.int .i64 0) fun v28 =>
kSplit v28 (
kPtr (t 4) fun l31 o31 =>
kLdN g l31 o31 9 fun c31 =>
C layout_Words_id [(.agg c31.toArray)] g n fun v32 g4 n32 =>
kBin .int .lss v26 v32 fun v33 =>
kSplit v33 (
kPtr (t 4) fun l36 o36 =>
kLdN g4 l36 o36 9 fun c36 =>
C layout_Word_id [(.agg c36.toArray), v26] g4 n32 fun v38 g5 n38 =>
kBin .int .quo v38 (.int .u64 64) fun v39 =>
kBin .int .mul v39 (.int .u64 64) fun v40 =>
kLookup .u64 (t 6) v40 (.int .i64 0) false g5 fun v41 =>
kBin .int .add v41 (.int .i64 1) fun v42 =>
kMapSet .u64 (t 6) v40 v42 g5 fun g6 =>
kBin .int .add (t 23) (.int .i64 1) fun v43 =>
I_l1 (puts t [(24, v24), (25, v25), (26, v26), (8, v26), (27, v26), (28, v28), (29, (.bool true)), (30, v26), (31, (.agg c31.toArray)), (32, v32), (33, v33), (34, v33), (35, (t 6)), (36, (.agg c36.toArray)), (37, v26), (38, v38), (39, v39), (40, v40), (41, v41), (42, v42), (43, v43), (23, v43)]) g6 n38) (
kBin .int .add (t 23) (.int .i64 1) fun v43 =>
I_l1 (puts t [(24, v24), (25, v25), (26, v26), (8, v26), (27, v26), (28, v28), (29, (.bool true)), (30, v26), (31, (.agg c31.toArray)), (32, v32), (33, v33), (34, v33), (43, v43), (23, v43)]) g4 n32)) (
kBin .int .add (t 23) (.int .i64 1) fun v43 =>
I_l1 (puts t [(24, v24), (25, v25), (26, v26), (8, v26), (27, v26), (28, v28), (29, (.bool false)), (30, undef), (31, undef), (32, undef), (33, undef), (34, (.bool false)), (43, v43), (23, v43)]) g n)) (
undo_Commit_j2 C K (puts t [(24, v24)]) g n)

def undo_Commit (C : CT) (a0 a1 a2 : Value) (g : G) (n : Nat) (K : Cont) : Prop :=
kAgg a1 fun c4 =>
kNew c4 .exact g n fun l4 g1 n4 =>
kBin .ptr .eql a0 (.pointer none) fun v14 =>
kSplit v14 (
aRet K (.tuple #[]) g1 n4) (
kLdN g1 l4 0 9 fun c16 =>
C layout_Good_id [(.agg c16.toArray)] g1 n4 fun v17 g2 n17 =>
kUn .not v17 fun v18 =>
kSplit v18 (
aRet K (.tuple #[]) g2 n17) (
kNewB (.map []) g2 n17 fun l20 g3 n20 =>
kLen a2 fun v22 =>
lfp (undo_Commit_l1 C K) (puts (args0 [a0, a1, a2]) [(4, (ptr l4 0)), (13, a0), (14, v14), (15, (.bool false)), (16, (.agg c16.toArray)), (17, v17), (18, v18), (19, v18), (20, (.map (some l20))), (6, (.map (some l20))), (21, a2), (22, v22), (23, (.int .i64 0))]) g3 n20))

theorem undo_Commit_eq (C : CT) (a0 a1 a2 : Value) (g : G) (n : Nat) (K : Cont) : undo_Commit C a0 a1 a2 g n K = abody Tryz.prog C undo_Commit_id [a0, a1, a2] g n K := by kernel_rfl

/- bellows/bellowsref24.Commit -/
def bellowsref24_Commit_j4 (C : CT) (K : Cont) (I_l1 : ECont) (t : Env) (g : G) (n : Nat) : Prop :=
kBin .int .add (t 6) (.int .i64 1) fun v17 =>
I_l1 (puts t [(16, (t 6)), (17, v17), (6, v17)]) g n

def bellowsref24_Commit_j3 (C : CT) (K : Cont) (I_l1 : ECont) (t : Env) (g : G) (n : Nat) : Prop :=
kSplit (t 7) (
kPtr (t 4) fun l46 o46 =>
kLdN g l46 o46 9 fun c46 =>
kBin .int .mul (.int .i64 8) (t 6) fun v48 =>
C bellowsref22_Word_id [(.agg c46.toArray), v48] g n fun v49 g3 n49 =>
C bellowsref24_li_id [(.int .i64 1), v49] g3 n49 fun v50 g4 n50 =>
C bellowsref24_mem_id [(.int .i64 12), (.int .i64 0), (.int .i64 1), (.int .i64 0)] g4 n50 fun v51 g5 n51 =>
kFill (reps 2 [(.int .i64 0), (.int .i64 0), (.int .i64 0), (.int .i64 0), (.int .i64 0)]) [(0, (some 5), v50), (5, (some 5), v51)] fun c52 =>
kNew c52 .exact g5 n51 fun l52 g6 n52 =>
C bellowsref21_Builder_Add_id [(t 0), (.slice (some ⟨l52, 0, none⟩) 2 2)] g6 n52 fun v53 g7 n53 =>
bellowsref24_Commit_j4 C K I_l1 (puts t [(44, (t 7)), (45, (t 0)), (46, (.agg c46.toArray)), (47, (t 6)), (48, v48), (49, v49), (50, v50), (51, v51), (52, (.slice (some ⟨l52, 0, none⟩) 2 2)), (53, v53)]) g7 n53) (
bellowsref24_Commit_j4 C K I_l1 (puts t [(44, (t 7))]) g n)

def bellowsref24_Commit_l2 (C : CT) (K : Cont) (I_l1 : ECont) (I_l2 : ECont) (t : Env) (g : G) (n : Nat) : Prop :=
kLen (t 2) fun v20 =>
kBin .int .lss (t 8) v20 fun v21 =>
kSplit v21 (
kSplit (t 7) (
kBin .int .add (t 8) (.int .i64 1) fun v23 =>
I_l2 (puts t [(18, (t 8)), (19, (t 2)), (20, v20), (21, v21), (24, (t 7)), (25, (.bool true)), (26, undef), (27, undef), (28, undef), (29, undef), (30, undef), (31, undef), (32, undef), (33, undef), (34, undef), (35, undef), (36, undef), (37, undef), (38, undef), (39, undef), (40, undef), (41, undef), (42, undef), (43, (.bool true)), (7, (.bool true)), (22, (t 8)), (23, v23), (8, v23)]) g n) (
kIndexAddr (t 2) (t 8) 1 fun v28 =>
kPtr v28 fun l29 o29 =>
kLd g l29 o29 fun v29 =>
kBin .int .mul (.int .i64 8) (t 6) fun v31 =>
kBin .int .geq v29 v31 fun v32 =>
kSplit v32 (
kIndexAddr (t 2) (t 8) 1 fun v36 =>
kPtr v36 fun l37 o37 =>
kLd g l37 o37 fun v37 =>
kBin .int .mul (.int .i64 8) (t 6) fun v39 =>
kBin .int .add v39 (.int .i64 8) fun v40 =>
kBin .int .lss v37 v40 fun v41 =>
kBin .int .add (t 8) (.int .i64 1) fun v23 =>
I_l2 (puts t [(18, (t 8)), (19, (t 2)), (20, v20), (21, v21), (24, (t 7)), (25, (.bool false)), (26, (t 2)), (27, (t 8)), (28, v28), (29, v29), (30, (t 6)), (31, v31), (32, v32), (33, (.bool true)), (34, (t 2)), (35, (t 8)), (36, v36), (37, v37), (38, (t 6)), (39, v39), (40, v40), (41, v41), (42, v41), (43, v41), (7, v41), (22, (t 8)), (23, v23), (8, v23)]) g n) (
kBin .int .add (t 8) (.int .i64 1) fun v23 =>
I_l2 (puts t [(18, (t 8)), (19, (t 2)), (20, v20), (21, v21), (24, (t 7)), (25, (.bool false)), (26, (t 2)), (27, (t 8)), (28, v28), (29, v29), (30, (t 6)), (31, v31), (32, v32), (33, (.bool false)), (34, undef), (35, undef), (36, undef), (37, undef), (38, undef), (39, undef), (40, undef), (41, undef), (42, (.bool false)), (43, (.bool false)), (7, (.bool false)), (22, (t 8)), (23, v23), (8, v23)]) g n))) (
bellowsref24_Commit_j3 C K I_l1 (puts t [(18, (t 8)), (19, (t 2)), (20, v20), (21, v21)]) g n)

def bellowsref24_Commit_j5 (C : CT) (K : Cont) (t : Env) (g : G) (n : Nat) : Prop :=
C bellowsref24_op_id [(.int .i64 15), (.int .i64 0), (.int .i64 0), (.int .i64 0)] g n fun v55 g8 n55 =>
kFill (reps 1 [(.int .i64 0), (.int .i64 0), (.int .i64 0), (.int .i64 0), (.int .i64 0)]) [(0, (some 5), v55)] fun c56 =>
kNew c56 .exact g8 n55 fun l56 g9 n56 =>
C bellowsref21_Builder_Add_id [(t 0), (.slice (some ⟨l56, 0, none⟩) 1 1)] g9 n56 fun v57 g10 n57 =>
kPtr (t 4) fun l59 o59 =>
kLdN g10 l59 o59 9 fun c59 =>
C bellowsref24_count_id [(t 0), (.agg c59.toArray), (.int .i64 0), (.bool true)] g10 n57 fun v60 g11 n60 =>
aRet K (.tuple #[]) g11 n60

def bellowsref24_Commit_l1 (C : CT) (K : Cont) (I_l1 : ECont) (t : Env) (g : G) (n : Nat) : Prop :=
kPtr (t 4) fun l13 o13 =>
kLd g l13 (o13 + 8) fun v14 =>
kBin .int .lss (t 6) v14 fun v15 =>
kSplit v15 (
lfp (bellowsref24_Commit_l2 C K I_l1) (puts t [(12, (t 6)), (13, (ptr l13 (o13 + 8))), (14, v14), (15, v15), (7, (.bool false)), (8, (.int .i64 0))]) g n) (
bellowsref24_Commit_j5 C K (puts t [(12, (t 6)), (13, (ptr l13 (o13 + 8))), (14, v14), (15, v15)]) g n)

def bellowsref24_Commit (C : CT) (a0 a1 a2 : Value) (g : G) (n : Nat) (K : Cont) : Prop :=
kAgg a1 fun c4 =>
kNew c4 .exact g n fun l4 g1 n4 =>
kLdN g1 l4 0 9 fun c9 =>
C bellowsref22_Good_id [(.agg c9.toArray)] g1 n4 fun v10 g2 n10 =>
kUn .not v10 fun v11 =>
kSplit v11 (
aRet K (.tuple #[]) g2 n10) (
lfp (bellowsref24_Commit_l1 C K) (puts (args0 [a0, a1, a2]) [(4, (ptr l4 0)), (9, (.agg c9.toArray)), (10, v10), (11, v11), (6, (.int .i64 0))]) g2 n10)

theorem bellowsref24_Commit_eq (C : CT) (a0 a1 a2 : Value) (g : G) (n : Nat) (K : Cont) : bellowsref24_Commit C a0 a1 a2 g n K = abody Tryz.prog C bellowsref24_Commit_id [a0, a1, a2] g n K := by kernel_rfl

/- bellows/undo.Back -/
def undo_Back (C : CT) (a0 a1 : Value) (g : G) (n : Nat) (K : Cont) : Prop :=
kAgg a1 fun c3 =>
kNew c3 .exact g n fun l3 g1 n3 =>
kBin .ptr .eql a0 (.pointer none) fun v7 =>
kSplit v7 (
aRet K (.tuple #[]) g1 n3) (
kLdN g1 l3 0 9 fun c9 =>
C layout_Good_id [(.agg c9.toArray)] g1 n3 fun v10 g2 n10 =>
kUn .not v10 fun v11 =>
kSplit v11 (
aRet K (.tuple #[]) g2 n10) (
C emit_Builder_Mark_id [a0] g2 n10 fun v14 g3 n14 =>
C emit_Builder_Mark_id [a0] g3 n14 fun v16 g4 n16 =>
C emit_Builder_Here_id [a0, v14] g4 n16 fun v19 g5 n19 =>
C undo_li_id [(.int .i64 0), (.int .u64 0)] g5 n19 fun v21 g6 n21 =>
kFill (reps 1 [(.int .i64 0), (.int .i64 0), (.int .i64 0), (.int .i64 0), (.int .i64 0)]) [(0, (some 5), v21)] fun c22 =>
kNew c22 .exact g6 n21 fun l22 g7 n22 =>
C emit_Builder_Add_id [a0, (.slice (some ⟨l22, 0, none⟩) 1 1)] g7 n22 fun v23 g8 n23 =>
kFill [(.int .i64 0), (.int .i64 0), (.int .i64 0), (.int .i64 0), (.int .i64 0)] [(0, none, (.int .i64 18)), (1, none, (.int .i64 7)), (2, none, (.int .i64 0))] fun c25 =>
C emit_Builder_Jump_id [a0, (.agg c25.toArray), v16] g8 n23 fun v27 g9 n27 =>
C undo_li_id [(.int .i64 0), (.int .u64 1)] g9 n27 fun v29 g10 n29 =>
C undo_three_id [(.int .i64 3), (.int .i64 7), (.int .i64 7), (.int .i64 0)] g10 n29 fun v30 g11 n30 =>
kFill (reps 2 [(.int .i64 0), (.int .i64 0), (.int .i64 0), (.int .i64 0), (.int .i64 0)]) [(0, (some 5), v29), (5, (some 5), v30)] fun c31 =>
kNew c31 .exact g11 n30 fun l31 g12 n31 =>
C emit_Builder_Add_id [a0, (.slice (some ⟨l31, 0, none⟩) 2 2)] g12 n31 fun v32 g13 n32 =>
kLdN g13 l3 0 9 fun c34 =>
C undo_entry_id [(.agg c34.toArray)] g13 n32 fun v35 g14 n35 =>
C emit_Builder_Add_id [a0, v35] g14 n35 fun v36 g15 n36 =>
C undo_ld_id [(.int .i64 1), (.int .i64 6), (.int .i64 0)] g15 n36 fun v38 g16 n38 =>
C undo_ld_id [(.int .i64 4), (.int .i64 6), (.int .i64 8)] g16 n38 fun v39 g17 n39 =>
C undo_st_id [(.int .i64 4), (.int .i64 1), (.int .i64 0)] g17 n39 fun v40 g18 n40 =>
C undo_clwb_id [(.int .i64 1)] g18 n40 fun v41 g19 n41 =>
kFill (reps 4 [(.int .i64 0), (.int .i64 0), (.int .i64 0), (.int .i64 0), (.int .i64 0)]) [(0, (some 5), v38), (5, (some 5), v39), (10, (some 5), v40), (15, (some 5), v41)] fun c42 =>
kNew c42 .exact g19 n41 fun l42 g20 n42 =>
C emit_Builder_Add_id [a0, (.slice (some ⟨l42, 0, none⟩) 4 4)] g20 n42 fun v43 g21 n43 =>
kFill [(.int .i64 0), (.int .i64 0), (.int .i64 0), (.int .i64 0), (.int .i64 0)] [(0, none, (.int .i64 17))] fun c45 =>
C emit_Builder_Jump_id [a0, (.agg c45.toArray), v14] g21 n43 fun v47 g22 n47 =>
C emit_Builder_Here_id [a0, v16] g22 n47 fun v50 g23 n50 =>
kLdN g23 l3 0 9 fun c52 =>
C undo_nought_id [(.agg c52.toArray)] g23 n50 fun v53 g24 n53 =>
C emit_Builder_Add_id [a0, v53] g24 n53 fun v54 g25 n54 =>
aRet K (.tuple #[]) g25 n54))

theorem undo_Back_eq (C : CT) (a0 a1 : Value) (g : G) (n : Nat) (K : Cont) : undo_Back C a0 a1 g n K = abody Tryz.prog C undo_Back_id [a0, a1] g n K := by kernel_rfl

/- bellows/bellowsref24.Back -/
def bellowsref24_Back (C : CT) (a0 a1 : Value) (g : G) (n : Nat) (K : Cont) : Prop :=
kAgg a1 fun c3 =>
kNew c3 .exact g n fun l3 g1 n3 =>
kLdN g1 l3 0 9 fun c6 =>
C bellowsref22_Good_id [(.agg c6.toArray)] g1 n3 fun v7 g2 n7 =>
kUn .not v7 fun v8 =>
kSplit v8 (
aRet K (.tuple #[]) g2 n7) (
C bellowsref21_Builder_Mark_id [a0] g2 n7 fun v10 g3 n10 =>
C bellowsref21_Builder_Mark_id [a0] g3 n10 fun v12 g4 n12 =>
C bellowsref21_Builder_Here_id [a0, v10] g4 n12 fun v15 g5 n15 =>
C bellowsref24_li_id [(.int .i64 0), (.int .u64 0)] g5 n15 fun v17 g6 n17 =>
kFill (reps 1 [(.int .i64 0), (.int .i64 0), (.int .i64 0), (.int .i64 0), (.int .i64 0)]) [(0, (some 5), v17)] fun c18 =>
kNew c18 .exact g6 n17 fun l18 g7 n18 =>
C bellowsref21_Builder_Add_id [a0, (.slice (some ⟨l18, 0, none⟩) 1 1)] g7 n18 fun v19 g8 n19 =>
C bellowsref24_op_id [(.int .i64 18), (.int .i64 7), (.int .i64 0), (.int .i64 0)] g8 n19 fun v21 g9 n21 =>
C bellowsref21_Builder_Jump_id [a0, v21, v12] g9 n21 fun v23 g10 n23 =>
C bellowsref24_li_id [(.int .i64 0), (.int .u64 1)] g10 n23 fun v25 g11 n25 =>
C bellowsref24_op_id [(.int .i64 3), (.int .i64 7), (.int .i64 7), (.int .i64 0)] g11 n25 fun v26 g12 n26 =>
kFill (reps 2 [(.int .i64 0), (.int .i64 0), (.int .i64 0), (.int .i64 0), (.int .i64 0)]) [(0, (some 5), v25), (5, (some 5), v26)] fun c27 =>
kNew c27 .exact g12 n26 fun l27 g13 n27 =>
C bellowsref21_Builder_Add_id [a0, (.slice (some ⟨l27, 0, none⟩) 2 2)] g13 n27 fun v28 g14 n28 =>
kLdN g14 l3 0 9 fun c30 =>
C bellowsref24_entry_id [a0, (.agg c30.toArray)] g14 n28 fun v31 g15 n31 =>
C bellowsref24_mem_id [(.int .i64 8), (.int .i64 1), (.int .i64 6), (.int .i64 0)] g15 n31 fun v33 g16 n33 =>
C bellowsref24_mem_id [(.int .i64 8), (.int .i64 4), (.int .i64 6), (.int .i64 8)] g16 n33 fun v34 g17 n34 =>
C bellowsref24_mem_id [(.int .i64 9), (.int .i64 4), (.int .i64 1), (.int .i64 0)] g17 n34 fun v35 g18 n35 =>
C bellowsref24_mem_id [(.int .i64 12), (.int .i64 0), (.int .i64 1), (.int .i64 0)] g18 n35 fun v36 g19 n36 =>
kFill (reps 4 [(.int .i64 0), (.int .i64 0), (.int .i64 0), (.int .i64 0), (.int .i64 0)]) [(0, (some 5), v33), (5, (some 5), v34), (10, (some 5), v35), (15, (some 5), v36)] fun c37 =>
kNew c37 .exact g19 n36 fun l37 g20 n37 =>
C bellowsref21_Builder_Add_id [a0, (.slice (some ⟨l37, 0, none⟩) 4 4)] g20 n37 fun v38 g21 n38 =>
kFill [(.int .i64 0), (.int .i64 0), (.int .i64 0), (.int .i64 0), (.int .i64 0)] [(0, none, (.int .i64 17))] fun c40 =>
C bellowsref21_Builder_Jump_id [a0, (.agg c40.toArray), v10] g21 n38 fun v42 g22 n42 =>
C bellowsref21_Builder_Here_id [a0, v12] g22 n42 fun v45 g23 n45 =>
C bellowsref24_op_id [(.int .i64 15), (.int .i64 0), (.int .i64 0), (.int .i64 0)] g23 n45 fun v47 g24 n47 =>
kFill (reps 1 [(.int .i64 0), (.int .i64 0), (.int .i64 0), (.int .i64 0), (.int .i64 0)]) [(0, (some 5), v47)] fun c48 =>
kNew c48 .exact g24 n47 fun l48 g25 n48 =>
C bellowsref21_Builder_Add_id [a0, (.slice (some ⟨l48, 0, none⟩) 1 1)] g25 n48 fun v49 g26 n49 =>
kLdN g26 l3 0 9 fun c51 =>
C bellowsref24_count_id [a0, (.agg c51.toArray), (.int .i64 0), (.bool true)] g26 n49 fun v52 g27 n52 =>
aRet K (.tuple #[]) g27 n52)

theorem bellowsref24_Back_eq (C : CT) (a0 a1 : Value) (g : G) (n : Nat) (K : Cont) : bellowsref24_Back C a0 a1 g n K = abody Tryz.prog C bellowsref24_Back_id [a0, a1] g n K := by kernel_rfl

/- (*bellows/emit.Builder).Mark -/
def emit_Builder_Mark (C : CT) (a0 : Value) (g : G) (n : Nat) (K : Cont) : Prop :=
kBin .ptr .eql a0 (.pointer none) fun v4 =>
kSplit v4 (
aRet K (.int .i64 (-1)) g n) (
kNil a0 fun v7 =>
kPtr v7 fun l8 o8 =>
kLd g l8 (o8 + 1) fun v9 =>
kFill (reps 1 [(.int .i64 0)]) [(0, none, (.int .i64 (-1)))] fun c10 =>
kNew c10 .exact g n fun l10 g1 n10 =>
kAppend v9 (.slice (some ⟨l10, 0, none⟩) 1 1) 1 8 g1 n10 fun v11 g2 n11 =>
kNil a0 fun v12 =>
kPtr v12 fun l13 o13 =>
kSt g2 l13 (o13 + 1) v11 fun g3 =>
kNil a0 fun v15 =>
kPtr v15 fun l16 o16 =>
kLd g3 l16 (o16 + 1) fun v17 =>
kLen v17 fun v18 =>
kBin .int .sub v18 (.int .i64 1) fun v19 =>
aRet K v19 g3 n11)

theorem emit_Builder_Mark_eq (C : CT) (a0 : Value) (g : G) (n : Nat) (K : Cont) : emit_Builder_Mark C a0 g n K = abody Tryz.prog C emit_Builder_Mark_id [a0] g n K := by kernel_rfl

/- (*bellows/bellowsref21.Builder).Mark -/
def bellowsref21_Builder_Mark (C : CT) (a0 : Value) (g : G) (n : Nat) (K : Cont) : Prop :=
kNil a0 fun v5 =>
kPtr v5 fun l6 o6 =>
kLd g l6 (o6 + 1) fun v7 =>
kFill (reps 1 [(.int .i64 0)]) [(0, none, (.int .i64 (-1)))] fun c8 =>
kNew c8 .exact g n fun l8 g1 n8 =>
kAppend v7 (.slice (some ⟨l8, 0, none⟩) 1 1) 1 8 g1 n8 fun v9 g2 n9 =>
kNil a0 fun v10 =>
kPtr v10 fun l11 o11 =>
kSt g2 l11 (o11 + 1) v9 fun g3 =>
kNil a0 fun v13 =>
kPtr v13 fun l14 o14 =>
kLd g3 l14 (o14 + 1) fun v15 =>
kLen v15 fun v16 =>
kBin .int .sub v16 (.int .i64 1) fun v17 =>
aRet K v17 g3 n9

theorem bellowsref21_Builder_Mark_eq (C : CT) (a0 : Value) (g : G) (n : Nat) (K : Cont) : bellowsref21_Builder_Mark C a0 g n K = abody Tryz.prog C bellowsref21_Builder_Mark_id [a0] g n K := by kernel_rfl

/- (*bellows/emit.Builder).Here -/
def emit_Builder_Here (C : CT) (a0 a1 : Value) (g : G) (n : Nat) (K : Cont) : Prop :=
kBin .ptr .eql a0 (.pointer none) fun v17 =>
kSplit v17 (
aRet K (.tuple #[]) g n) (
C emit_Builder_is_id [a0, a1] g n fun v21 g1 n21 =>
kUn .not v21 fun v22 =>
kSplit v22 (
kNil a0 fun v34 =>
kPtr v34 fun l35 o35 =>
kSt g1 l35 (o35 + 3) (.bool true) fun g2 =>
aRet K (.tuple #[]) g2 n21) (
kNil a0 fun v25 =>
kPtr v25 fun l26 o26 =>
kLd g1 l26 (o26 + 1) fun v27 =>
kIndexAddr v27 a1 1 fun v29 =>
kPtr v29 fun l30 o30 =>
kLd g1 l30 o30 fun v30 =>
kBin .int .geq v30 (.int .i64 0) fun v31 =>
kSplit v31 (
kNil a0 fun v34 =>
kPtr v34 fun l35 o35 =>
kSt g1 l35 (o35 + 3) (.bool true) fun g3 =>
aRet K (.tuple #[]) g3 n21) (
kNil a0 fun v5 =>
kPtr v5 fun l6 o6 =>
kLd g1 l6 (o6 + 1) fun v7 =>
kNil a0 fun v10 =>
kPtr v10 fun l11 o11 =>
kLd g1 l11 (o11 + 0) fun v12 =>
kLen v12 fun v13 =>
kIndexAddr v7 a1 1 fun v14 =>
kPtr v14 fun lg4 og4 =>
kSt g1 lg4 og4 v13 fun g4 =>
aRet K (.tuple #[]) g4 n21)))

theorem emit_Builder_Here_eq (C : CT) (a0 a1 : Value) (g : G) (n : Nat) (K : Cont) : emit_Builder_Here C a0 a1 g n K = abody Tryz.prog C emit_Builder_Here_id [a0, a1] g n K := by kernel_rfl

/- (*bellows/bellowsref21.Builder).Here -/
def bellowsref21_Builder_Here (C : CT) (a0 a1 : Value) (g : G) (n : Nat) (K : Cont) : Prop :=
kBin .int .lss a1 (.int .i64 0) fun v5 =>
kSplit v5 (
kNil a0 fun v26 =>
kPtr v26 fun l27 o27 =>
kSt g l27 (o27 + 2) (.bool true) fun g1 =>
aRet K (.tuple #[]) g1 n) (
kNil a0 fun v9 =>
kPtr v9 fun l10 o10 =>
kLd g l10 (o10 + 1) fun v11 =>
kLen v11 fun v12 =>
kBin .int .geq a1 v12 fun v13 =>
kSplit v13 (
kNil a0 fun v26 =>
kPtr v26 fun l27 o27 =>
kSt g l27 (o27 + 2) (.bool true) fun g2 =>
aRet K (.tuple #[]) g2 n) (
kNil a0 fun v17 =>
kPtr v17 fun l18 o18 =>
kLd g l18 (o18 + 1) fun v19 =>
kIndexAddr v19 a1 1 fun v21 =>
kPtr v21 fun l22 o22 =>
kLd g l22 o22 fun v22 =>
kBin .int .geq v22 (.int .i64 0) fun v23 =>
kSplit v23 (
kNil a0 fun v26 =>
kPtr v26 fun l27 o27 =>
kSt g l27 (o27 + 2) (.bool true) fun g3 =>
aRet K (.tuple #[]) g3 n) (
kNil a0 fun v29 =>
kPtr v29 fun l30 o30 =>
kLd g l30 (o30 + 1) fun v31 =>
kNil a0 fun v34 =>
kPtr v34 fun l35 o35 =>
kLd g l35 (o35 + 0) fun v36 =>
kLen v36 fun v37 =>
kIndexAddr v31 a1 1 fun v38 =>
kPtr v38 fun lg4 og4 =>
kSt g lg4 og4 v37 fun g4 =>
aRet K (.tuple #[]) g4 n)))

theorem bellowsref21_Builder_Here_eq (C : CT) (a0 a1 : Value) (g : G) (n : Nat) (K : Cont) : bellowsref21_Builder_Here C a0 a1 g n K = abody Tryz.prog C bellowsref21_Builder_Here_id [a0, a1] g n K := by kernel_rfl

/- (*bellows/emit.Builder).Done -/
def emit_Builder_Done_j4 (C : CT) (K : Cont) (t : Env) (g : G) (n : Nat) : Prop :=
kLen (t 7) fun v77 =>
kBin .int .gtr v77 (.int .i64 4096) fun v78 =>
kSplit v78 (
aRet K (.tuple #[(.slice none 0 0), (.int .i64 3)]) g n) (
aRet K (.tuple #[(t 7), (.int .i64 0)]) g n)

def emit_Builder_Done_l3 (C : CT) (K : Cont) (I_l3 : ECont) (t : Env) (g : G) (n : Nat) : Prop :=
kBin .int .lss (t 59) (t 58) fun v60 =>
kSplit v60 (
kIndexAddr (t 57) (t 59) 5 fun v61 =>
kPtr v61 fun l62 o62 =>
kLdN g l62 o62 5 fun c62 =>
kNew [(.int .i64 0), (.int .i64 0), (.int .i64 0), (.int .i64 0), (.int .i64 0)] .exact g n fun l9 g5 n9 =>
kAgg (.agg c62.toArray) fun cg6 =>
cg6.length = 5 ∧ kStN g5 l9 0 cg6 fun g6 =>
kLdN g6 l9 0 5 fun c64 =>
C isa_Encode_id [(.agg c64.toArray)] g6 n9 fun v65 g7 n65 =>
kExtract v65 0 fun v66 =>
kExtract v65 1 fun v67 =>
kBin .int .neq v67 (.int .i64 0) fun v69 =>
kSplit v69 (
aRet K (.tuple #[(.slice none 0 0), v67]) g7 n65) (
kFill (reps 1 [(.int .u64 0)]) [(0, none, v66)] fun c73 =>
kNew c73 .exact g7 n65 fun l73 g8 n73 =>
kAppend (t 7) (.slice (some ⟨l73, 0, none⟩) 1 1) 1 8 g8 n73 fun v74 g9 n74 =>
kBin .int .add (t 59) (.int .i64 1) fun v75 =>
I_l3 (puts t [(60, v60), (61, v61), (62, (.agg c62.toArray)), (9, (ptr l9 0)), (64, (.agg c64.toArray)), (65, v65), (63, v65), (66, v66), (67, v67), (10, v66), (11, v67), (68, v67), (69, v69), (71, (t 7)), (72, v66), (73, (.slice (some ⟨l73, 0, none⟩) 1 1)), (74, v74), (7, v74), (75, v75), (59, v75)]) g9 n74)) (
emit_Builder_Done_j4 C K (puts t [(60, v60)]) g n)

def emit_Builder_Done_j2 (C : CT) (K : Cont) (t : Env) (g : G) (n : Nat) : Prop :=
kLen (t 4) fun v58 =>
lfp (emit_Builder_Done_l3 C K) (puts t [(7, (.slice none 0 0)), (57, (t 4)), (58, v58), (59, (.int .i64 0))]) g n

def emit_Builder_Done_l1 (C : CT) (K : Cont) (I_l1 : ECont) (t : Env) (g : G) (n : Nat) : Prop :=
kBin .int .lss (t 30) (t 29) fun v31 =>
kSplit v31 (
kIndexAddr (t 28) (t 30) 2 fun v32 =>
kPtr v32 fun l33 o33 =>
kLdN g l33 o33 2 fun c33 =>
kNew [(.int .i64 0), (.int .i64 0)] .exact g n fun l6 g2 n6 =>
kAgg (.agg c33.toArray) fun cg3 =>
cg3.length = 2 ∧ kStN g2 l6 0 cg3 fun g3 =>
kNil (t 0) fun v35 =>
kPtr v35 fun l36 o36 =>
kLd g3 l36 (o36 + 1) fun v37 =>
kLd g3 l6 (0 + 1) fun v39 =>
kIndexAddr v37 v39 1 fun v40 =>
kPtr v40 fun l41 o41 =>
kLd g3 l41 o41 fun v41 =>
kBin .int .lss v41 (.int .i64 0) fun v42 =>
kSplit v42 (
aRet K (.tuple #[(.slice none 0 0), (.int .i64 20)]) g3 n6) (
kLd g3 l6 (0 + 0) fun v45 =>
kNil (t 0) fun v47 =>
kPtr v47 fun l48 o48 =>
kLd g3 l48 (o48 + 1) fun v49 =>
kLd g3 l6 (0 + 1) fun v51 =>
kIndexAddr v49 v51 1 fun v52 =>
kPtr v52 fun l53 o53 =>
kLd g3 l53 o53 fun v53 =>
kIndexAddr (t 4) v45 5 fun v54 =>
kPtr v54 fun l55 o55 =>
kSt g3 l55 (o55 + 4) v53 fun g4 =>
kBin .int .add (t 30) (.int .i64 1) fun v56 =>
I_l1 (puts t [(31, v31), (32, v32), (33, (.agg c33.toArray)), (6, (ptr l6 0)), (34, (t 0)), (35, v35), (36, (ptr l36 (o36 + 1))), (37, v37), (38, (ptr l6 (0 + 1))), (39, v39), (40, v40), (41, v41), (42, v42), (43, (t 4)), (44, (ptr l6 (0 + 0))), (45, v45), (46, (t 0)), (47, v47), (48, (ptr l48 (o48 + 1))), (49, v49), (50, (ptr l6 (0 + 1))), (51, v51), (52, v52), (53, v53), (54, v54), (55, (ptr l55 (o55 + 4))), (56, v56), (30, v56)]) g4 n6)) (
emit_Builder_Done_j2 C K (puts t [(31, v31)]) g n)

def emit_Builder_Done (C : CT) (a0 : Value) (g : G) (n : Nat) (K : Cont) : Prop :=
kBin .ptr .eql a0 (.pointer none) fun v13 =>
kSplit v13 (
aRet K (.tuple #[(.slice none 0 0), (.int .i64 1)]) g n) (
kNil a0 fun v16 =>
kPtr v16 fun l17 o17 =>
kLd g l17 (o17 + 3) fun v18 =>
kSplit v18 (
aRet K (.tuple #[(.slice none 0 0), (.int .i64 1)]) g n) (
kNil a0 fun v21 =>
kPtr v21 fun l22 o22 =>
kLd g l22 (o22 + 0) fun v23 =>
C slices_Clone_api_Ins_api_Ins_id [v23] g n fun v24 g1 n24 =>
kNil a0 fun v26 =>
kPtr v26 fun l27 o27 =>
kLd g1 l27 (o27 + 2) fun v28 =>
kLen v28 fun v29 =>
lfp (emit_Builder_Done_l1 C K) (puts (args0 [a0]) [(2, (.slice none 0 0)), (3, (.int .i64 0)), (12, a0), (13, v13), (14, (.bool false)), (15, a0), (16, v16), (17, (ptr l17 (o17 + 3))), (18, v18), (19, v18), (20, a0), (21, v21), (22, (ptr l22 (o22 + 0))), (23, v23), (24, v24), (4, v24), (25, a0), (26, v26), (27, (ptr l27 (o27 + 2))), (28, v28), (29, v29), (30, (.int .i64 0))]) g1 n24))

theorem emit_Builder_Done_eq (C : CT) (a0 : Value) (g : G) (n : Nat) (K : Cont) : emit_Builder_Done C a0 g n K = abody Tryz.prog C emit_Builder_Done_id [a0] g n K := by kernel_rfl

/- (*bellows/bellowsref21.Builder).Done -/
def bellowsref21_Builder_Done_j5 (C : CT) (K : Cont) (I_l3 : ECont) (t : Env) (g : G) (n : Nat) : Prop :=
kBin .int .add (t 6) (.int .i64 1) fun v57 =>
I_l3 (puts t [(56, (t 6)), (57, v57), (6, v57)]) g n

def bellowsref21_Builder_Done_j4 (C : CT) (K : Cont) (I_l3 : ECont) (t : Env) (g : G) (n : Nat) : Prop :=
kPtr (t 7) fun l91 o91 =>
kLdN g l91 o91 5 fun c91 =>
C bellowsref10_Encode_id [(.agg c91.toArray)] g n fun v92 g4 n92 =>
kExtract v92 0 fun v93 =>
kExtract v92 1 fun v94 =>
kBin .int .neq v94 (.int .i64 0) fun v96 =>
kSplit v96 (
aRet K (.tuple #[(.slice none 0 0), (.int .i64 11)]) g4 n92) (
kFill (reps 1 [(.int .u64 0)]) [(0, none, v93)] fun c99 =>
kNew c99 .exact g4 n92 fun l99 g5 n99 =>
kAppend (t 5) (.slice (some ⟨l99, 0, none⟩) 1 1) 1 8 g5 n99 fun v100 g6 n100 =>
bellowsref21_Builder_Done_j5 C K I_l3 (puts t [(91, (.agg c91.toArray)), (92, v92), (90, v92), (93, v93), (94, v94), (8, v93), (9, v94), (95, v94), (96, v96), (97, (t 5)), (98, v93), (99, (.slice (some ⟨l99, 0, none⟩) 1 1)), (100, v100), (5, v100)]) g6 n100)

def bellowsref21_Builder_Done_j6 (C : CT) (K : Cont) (t : Env) (g : G) (n : Nat) : Prop :=
kLen (t 5) fun v102 =>
kBin .int .gtr v102 (.int .i64 4096) fun v103 =>
kSplit v103 (
aRet K (.tuple #[(.slice none 0 0), (.int .i64 3)]) g n) (
aRet K (.tuple #[(t 5), (.int .i64 0)]) g n)

def bellowsref21_Builder_Done_l3 (C : CT) (K : Cont) (I_l3 : ECont) (t : Env) (g : G) (n : Nat) : Prop :=
kNil (t 0) fun v51 =>
kPtr v51 fun l52 o52 =>
kLd g l52 (o52 + 0) fun v53 =>
kLen v53 fun v54 =>
kBin .int .lss (t 6) v54 fun v55 =>
kSplit v55 (
kNil (t 0) fun v59 =>
kPtr v59 fun l60 o60 =>
kLd g l60 (o60 + 0) fun v61 =>
kIndexAddr v61 (t 6) 6 fun v63 =>
kPtr v63 fun l64 o64 =>
kLdN g l64 (o64 + 0) 5 fun c65 =>
kNew [(.int .i64 0), (.int .i64 0), (.int .i64 0), (.int .i64 0), (.int .i64 0)] .exact g n fun l7 g1 n7 =>
kAgg (.agg c65.toArray) fun cg2 =>
cg2.length = 5 ∧ kStN g1 l7 0 cg2 fun g2 =>
kNil (t 0) fun v67 =>
kPtr v67 fun l68 o68 =>
kLd g2 l68 (o68 + 0) fun v69 =>
kIndexAddr v69 (t 6) 6 fun v71 =>
kPtr v71 fun l72 o72 =>
kLd g2 l72 (o72 + 5) fun v73 =>
kBin .int .geq v73 (.int .i64 0) fun v74 =>
kSplit v74 (
kNil (t 0) fun v76 =>
kPtr v76 fun l77 o77 =>
kLd g2 l77 (o77 + 1) fun v78 =>
kNil (t 0) fun v80 =>
kPtr v80 fun l81 o81 =>
kLd g2 l81 (o81 + 0) fun v82 =>
kIndexAddr v82 (t 6) 6 fun v84 =>
kPtr v84 fun l85 o85 =>
kLd g2 l85 (o85 + 5) fun v86 =>
kIndexAddr v78 v86 1 fun v87 =>
kPtr v87 fun l88 o88 =>
kLd g2 l88 o88 fun v88 =>
kSt g2 l7 (0 + 4) v88 fun g3 =>
bellowsref21_Builder_Done_j4 C K I_l3 (puts t [(49, (t 6)), (50, (t 0)), (51, v51), (52, (ptr l52 (o52 + 0))), (53, v53), (54, v54), (55, v55), (58, (t 0)), (59, v59), (60, (ptr l60 (o60 + 0))), (61, v61), (62, (t 6)), (63, v63), (64, (ptr l64 (o64 + 0))), (65, (.agg c65.toArray)), (7, (ptr l7 0)), (66, (t 0)), (67, v67), (68, (ptr l68 (o68 + 0))), (69, v69), (70, (t 6)), (71, v71), (72, (ptr l72 (o72 + 5))), (73, v73), (74, v74), (75, (t 0)), (76, v76), (77, (ptr l77 (o77 + 1))), (78, v78), (79, (t 0)), (80, v80), (81, (ptr l81 (o81 + 0))), (82, v82), (83, (t 6)), (84, v84), (85, (ptr l85 (o85 + 5))), (86, v86), (87, v87), (88, v88), (89, (ptr l7 (0 + 4)))]) g3 n7) (
bellowsref21_Builder_Done_j4 C K I_l3 (puts t [(49, (t 6)), (50, (t 0)), (51, v51), (52, (ptr l52 (o52 + 0))), (53, v53), (54, v54), (55, v55), (58, (t 0)), (59, v59), (60, (ptr l60 (o60 + 0))), (61, v61), (62, (t 6)), (63, v63), (64, (ptr l64 (o64 + 0))), (65, (.agg c65.toArray)), (7, (ptr l7 0)), (66, (t 0)), (67, v67), (68, (ptr l68 (o68 + 0))), (69, v69), (70, (t 6)), (71, v71), (72, (ptr l72 (o72 + 5))), (73, v73), (74, v74)]) g2 n7)) (
bellowsref21_Builder_Done_j6 C K (puts t [(49, (t 6)), (50, (t 0)), (51, v51), (52, (ptr l52 (o52 + 0))), (53, v53), (54, v54), (55, v55)]) g n)

def bellowsref21_Builder_Done_j2 (C : CT) (K : Cont) (t : Env) (g : G) (n : Nat) : Prop :=
lfp (bellowsref21_Builder_Done_l3 C K) (puts t [(5, (.slice none 0 0)), (6, (.int .i64 0))]) g n

def bellowsref21_Builder_Done_l1 (C : CT) (K : Cont) (I_l1 : ECont) (t : Env) (g : G) (n : Nat) : Prop :=
kNil (t 0) fun v16 =>
kPtr v16 fun l17 o17 =>
kLd g l17 (o17 + 0) fun v18 =>
kLen v18 fun v19 =>
kBin .int .lss (t 4) v19 fun v20 =>
kSplit v20 (
kNil (t 0) fun v24 =>
kPtr v24 fun l25 o25 =>
kLd g l25 (o25 + 0) fun v26 =>
kIndexAddr v26 (t 4) 6 fun v28 =>
kPtr v28 fun l29 o29 =>
kLd g l29 (o29 + 5) fun v30 =>
kBin .int .geq v30 (.int .i64 0) fun v31 =>
kSplit v31 (
kNil (t 0) fun v34 =>
kPtr v34 fun l35 o35 =>
kLd g l35 (o35 + 1) fun v36 =>
kNil (t 0) fun v38 =>
kPtr v38 fun l39 o39 =>
kLd g l39 (o39 + 0) fun v40 =>
kIndexAddr v40 (t 4) 6 fun v42 =>
kPtr v42 fun l43 o43 =>
kLd g l43 (o43 + 5) fun v44 =>
kIndexAddr v36 v44 1 fun v45 =>
kPtr v45 fun l46 o46 =>
kLd g l46 o46 fun v46 =>
kBin .int .lss v46 (.int .i64 0) fun v47 =>
kSplit v47 (
aRet K (.tuple #[(.slice none 0 0), (.int .i64 20)]) g n) (
kBin .int .add (t 4) (.int .i64 1) fun v22 =>
I_l1 (puts t [(14, (t 4)), (15, (t 0)), (16, v16), (17, (ptr l17 (o17 + 0))), (18, v18), (19, v19), (20, v20), (23, (t 0)), (24, v24), (25, (ptr l25 (o25 + 0))), (26, v26), (27, (t 4)), (28, v28), (29, (ptr l29 (o29 + 5))), (30, v30), (31, v31), (32, (.bool true)), (33, (t 0)), (34, v34), (35, (ptr l35 (o35 + 1))), (36, v36), (37, (t 0)), (38, v38), (39, (ptr l39 (o39 + 0))), (40, v40), (41, (t 4)), (42, v42), (43, (ptr l43 (o43 + 5))), (44, v44), (45, v45), (46, v46), (47, v47), (48, v47), (21, (t 4)), (22, v22), (4, v22)]) g n)) (
kBin .int .add (t 4) (.int .i64 1) fun v22 =>
I_l1 (puts t [(14, (t 4)), (15, (t 0)), (16, v16), (17, (ptr l17 (o17 + 0))), (18, v18), (19, v19), (20, v20), (23, (t 0)), (24, v24), (25, (ptr l25 (o25 + 0))), (26, v26), (27, (t 4)), (28, v28), (29, (ptr l29 (o29 + 5))), (30, v30), (31, v31), (32, (.bool false)), (33, undef), (34, undef), (35, undef), (36, undef), (37, undef), (38, undef), (39, undef), (40, undef), (41, undef), (42, undef), (43, undef), (44, undef), (45, undef), (46, undef), (47, undef), (48, (.bool false)), (21, (t 4)), (22, v22), (4, v22)]) g n)) (
bellowsref21_Builder_Done_j2 C K (puts t [(14, (t 4)), (15, (t 0)), (16, v16), (17, (ptr l17 (o17 + 0))), (18, v18), (19, v19), (20, v20)]) g n)

def bellowsref21_Builder_Done (C : CT) (a0 : Value) (g : G) (n : Nat) (K : Cont) : Prop :=
kNil a0 fun v11 =>
kPtr v11 fun l12 o12 =>
kLd g l12 (o12 + 2) fun v13 =>
kSplit v13 (
aRet K (.tuple #[(.slice none 0 0), (.int .i64 1)]) g n) (
lfp (bellowsref21_Builder_Done_l1 C K) (puts (args0 [a0]) [(2, (.slice none 0 0)), (3, (.int .i64 0)), (10, a0), (11, v11), (12, (ptr l12 (o12 + 2))), (13, v13), (4, (.int .i64 0))]) g n)

theorem bellowsref21_Builder_Done_eq (C : CT) (a0 : Value) (g : G) (n : Nat) (K : Cont) : bellowsref21_Builder_Done C a0 g n K = abody Tryz.prog C bellowsref21_Builder_Done_id [a0] g n K := by kernel_rfl

/- bellows/bellowskeep.Words -/
def bellowskeep_Words_l1 (C : CT) (K : Cont) (I_l1 : ECont) (t : Env) (g : G) (n : Nat) : Prop :=
kLen (t 0) fun v13 =>
kBin .int .lss (t 5) v13 fun v14 =>
kSplit v14 (
kIndexAddr (t 0) (t 5) 1 fun v19 =>
kPtr v19 fun l20 o20 =>
kLd g l20 o20 fun v20 =>
kIndexAddr (t 1) (t 5) 1 fun v23 =>
kPtr v23 fun l24 o24 =>
kLd g l24 o24 fun v24 =>
kBin .int .neq v20 v24 fun v25 =>
kSplit v25 (
aRet K (.bool false) g n) (
kBin .int .add (t 5) (.int .i64 1) fun v16 =>
I_l1 (puts t [(11, (t 5)), (12, (t 0)), (13, v13), (14, v14), (17, (t 0)), (18, (t 5)), (19, v19), (20, v20), (21, (t 1)), (22, (t 5)), (23, v23), (24, v24), (25, v25), (15, (t 5)), (16, v16), (5, v16)]) g n)) (
aRet K (.bool true) g n)

def bellowskeep_Words (C : CT) (a0 a1 : Value) (g : G) (n : Nat) (K : Cont) : Prop :=
kLen a0 fun v7 =>
kLen a1 fun v9 =>
kBin .int .neq v7 v9 fun v10 =>
kSplit v10 (
aRet K (.bool false) g n) (
lfp (bellowskeep_Words_l1 C K) (puts (args0 [a0, a1]) [(4, (.bool false)), (6, a0), (7, v7), (8, a1), (9, v9), (10, v10), (5, (.int .i64 0))]) g n)

theorem bellowskeep_Words_eq (C : CT) (a0 a1 : Value) (g : G) (n : Nat) (K : Cont) : bellowskeep_Words C a0 a1 g n K = abody Tryz.prog C bellowskeep_Words_id [a0, a1] g n K := by kernel_rfl

/- bellows/bellowslaw25.Fair -/
def bellowslaw25_Fair_j2 (C : CT) (K : Cont) (t : Env) (g : G) (n : Nat) : Prop :=
kLen (t 0) fun v18 =>
kBin .int .leq v18 (.int .i64 12) fun v19 =>
aRet K v19 g n

def bellowslaw25_Fair_l1 (C : CT) (K : Cont) (I_l1 : ECont) (t : Env) (g : G) (n : Nat) : Prop :=
kLen (t 0) fun v6 =>
kBin .int .lss (t 3) v6 fun v7 =>
kSplit v7 (
kIndexAddr (t 0) (t 3) 2 fun v12 =>
kPtr v12 fun l13 o13 =>
kLd g l13 (o13 + 0) fun v14 =>
kLen v14 fun v15 =>
kBin .int .gtr v15 (.int .i64 30) fun v16 =>
kSplit v16 (
aRet K (.bool false) g n) (
kBin .int .add (t 3) (.int .i64 1) fun v9 =>
I_l1 (puts t [(4, (t 3)), (5, (t 0)), (6, v6), (7, v7), (10, (t 0)), (11, (t 3)), (12, v12), (13, (ptr l13 (o13 + 0))), (14, v14), (15, v15), (16, v16), (8, (t 3)), (9, v9), (3, v9)]) g n)) (
bellowslaw25_Fair_j2 C K (puts t [(4, (t 3)), (5, (t 0)), (6, v6), (7, v7)]) g n)

def bellowslaw25_Fair (C : CT) (a0 : Value) (g : G) (n : Nat) (K : Cont) : Prop :=
lfp (bellowslaw25_Fair_l1 C K) (puts (args0 [a0]) [(2, (.bool false)), (3, (.int .i64 0))]) g n

theorem bellowslaw25_Fair_eq (C : CT) (a0 : Value) (g : G) (n : Nat) (K : Cont) : bellowslaw25_Fair C a0 g n K = abody Tryz.prog C bellowslaw25_Fair_id [a0] g n K := by kernel_rfl

/- bellows/bellowslaw25.wakes -/
def bellowslaw25_wakes (C : CT) (g : G) (n : Nat) (K : Cont) : Prop :=
kFill [(.int .i64 0), (.int .i64 0), (.int .u64 0)] [(0, none, (.int .i64 1)), (1, none, (.int .i64 3))] fun c6 =>
kFill (reps 1 [(.int .i64 0), (.int .i64 0), (.int .u64 0)]) [(0, (some 3), (.agg c6.toArray))] fun c7 =>
kNew c7 .exact g n fun l7 g1 n7 =>
kFill [(.slice none 0 0), (.bool false)] [(0, none, (.slice (some ⟨l7, 0, none⟩) 1 1))] fun c8 =>
kNew [(.slice none 0 0), (.bool false)] .exact g1 n7 fun l1 g2 n1 =>
kAgg (.agg c8.toArray) fun cg3 =>
cg3.length = 2 ∧ kStN g2 l1 0 cg3 fun g3 =>
kLdN g3 l1 0 2 fun c11 =>
(C bellowslaw22_Plain_id [] g3 n1 fun v10 g4 n10 =>
(kPtr (ptr l1 0) fun l _ => g4 l = g3 l) ∧ kFill (reps 1 [(.slice none 0 0), (.bool false)]) [(0, (some 2), (.agg c11.toArray))] fun c12 =>
kNew c12 .exact g4 n10 fun l12 g5 n12 =>
C client_Code_id [v10, (.slice (some ⟨l12, 0, none⟩) 1 1)] g5 n12 fun v13 g6 n13 =>
kExtract v13 0 fun v14 =>
kExtract v13 1 fun v15 =>
C bellowslaw22_Plain_id [] g6 n13 fun v17 g7 n17 =>
kFill [(.int .i64 0), (.int .i64 0), (.int .u64 0)] [(0, none, (.int .i64 9))] fun c18 =>
kFill (reps 1 [(.int .i64 0), (.int .i64 0), (.int .u64 0)]) [(0, (some 3), (.agg c18.toArray))] fun c19 =>
kNew c19 .exact g7 n17 fun l19 g8 n19 =>
kFill [(.slice none 0 0), (.bool false)] [(0, none, (.slice (some ⟨l19, 0, none⟩) 1 1))] fun c20 =>
kFill (reps 1 [(.slice none 0 0), (.bool false)]) [(0, (some 2), (.agg c20.toArray))] fun c21 =>
kNew c21 .exact g8 n19 fun l21 g9 n21 =>
C client_Code_id [v17, (.slice (some ⟨l21, 0, none⟩) 1 1)] g9 n21 fun v22 g10 n22 =>
kExtract v22 0 fun v23 =>
kExtract v22 1 fun v24 =>
kBin .int .eql v15 (.int .i64 0) fun v26 =>
kSplit v26 (
kLen v14 fun v29 =>
kBin .int .eql v29 (.int .i64 43) fun v30 =>
kSplit v30 (
kBin .int .eql v24 (.int .i64 11) fun v34 =>
kSplit v34 (
kLdN g10 l1 0 2 fun c37 =>
C client_Good_id [(.agg c37.toArray)] g10 n22 fun v38 g11 n38 =>
aRet K v38 g11 n38) (
aRet K (.bool false) g10 n22)) (
aRet K (.bool false) g10 n22)) (
aRet K (.bool false) g10 n22)) ∧ (kFill (reps 1 [(.slice none 0 0), (.bool false)]) [(0, (some 2), (.agg c11.toArray))] fun c12 =>
kNew c12 .exact g3 n1 fun l12 g12 n12 =>
C bellowslaw22_Plain_id [] g12 n12 fun v10 g13 n10 =>
(kPtr (ptr l1 0) fun l _ => g13 l = g12 l) ∧ C client_Code_id [v10, (.slice (some ⟨l12, 0, none⟩) 1 1)] g13 n10 fun v13 g14 n13 =>
kExtract v13 0 fun v14 =>
kExtract v13 1 fun v15 =>
C bellowslaw22_Plain_id [] g14 n13 fun v17 g15 n17 =>
kFill [(.int .i64 0), (.int .i64 0), (.int .u64 0)] [(0, none, (.int .i64 9))] fun c18 =>
kFill (reps 1 [(.int .i64 0), (.int .i64 0), (.int .u64 0)]) [(0, (some 3), (.agg c18.toArray))] fun c19 =>
kNew c19 .exact g15 n17 fun l19 g16 n19 =>
kFill [(.slice none 0 0), (.bool false)] [(0, none, (.slice (some ⟨l19, 0, none⟩) 1 1))] fun c20 =>
kFill (reps 1 [(.slice none 0 0), (.bool false)]) [(0, (some 2), (.agg c20.toArray))] fun c21 =>
kNew c21 .exact g16 n19 fun l21 g17 n21 =>
C client_Code_id [v17, (.slice (some ⟨l21, 0, none⟩) 1 1)] g17 n21 fun v22 g18 n22 =>
kExtract v22 0 fun v23 =>
kExtract v22 1 fun v24 =>
kBin .int .eql v15 (.int .i64 0) fun v26 =>
kSplit v26 (
kLen v14 fun v29 =>
kBin .int .eql v29 (.int .i64 43) fun v30 =>
kSplit v30 (
kBin .int .eql v24 (.int .i64 11) fun v34 =>
kSplit v34 (
kLdN g18 l1 0 2 fun c37 =>
C client_Good_id [(.agg c37.toArray)] g18 n22 fun v38 g19 n38 =>
aRet K v38 g19 n38) (
aRet K (.bool false) g18 n22)) (
aRet K (.bool false) g18 n22)) (
aRet K (.bool false) g18 n22))

theorem bellowslaw25_wakes_eq (C : CT) (g : G) (n : Nat) (K : Cont) : bellowslaw25_wakes C g n K = abody Tryz.prog C bellowslaw25_wakes_id [] g n K := by kernel_rfl

/- bellows/client.Code -/
def client_Code_j4 (C : CT) (K : Cont) (t : Env) (g : G) (n : Nat) : Prop :=
kNil (t 8) fun v43 =>
kPtr v43 fun l44 o44 =>
kLd g l44 (o44 + 0) fun v45 =>
kFill [(.int .i64 0), (.int .i64 0), (.int .i64 0), (.int .i64 0), (.int .i64 0)] [(0, none, (.int .i64 22))] fun c46 =>
kFill (reps 1 [(.int .i64 0), (.int .i64 0), (.int .i64 0), (.int .i64 0), (.int .i64 0)]) [(0, (some 5), (.agg c46.toArray))] fun c47 =>
kNew c47 .exact g n fun l47 g11 n47 =>
C emit_Builder_Add_id [v45, (.slice (some ⟨l47, 0, none⟩) 1 1)] g11 n47 fun v48 g12 n48 =>
kNil (t 8) fun v50 =>
kPtr v50 fun l51 o51 =>
kLd g12 l51 (o51 + 0) fun v52 =>
C emit_Builder_Done_id [v52] g12 n48 fun v53 g13 n53 =>
kExtract v53 0 fun v54 =>
kExtract v53 1 fun v55 =>
aRet K (.tuple #[v54, v55]) g13 n53

def client_Code_l3 (C : CT) (K : Cont) (I_l3 : ECont) (t : Env) (g : G) (n : Nat) : Prop :=
kBin .int .lss (t 34) (t 33) fun v35 =>
kSplit v35 (
kIndexAddr (t 32) (t 34) 2 fun v36 =>
kPtr v36 fun l37 o37 =>
kLdN g l37 o37 2 fun c37 =>
kNew [(.slice none 0 0), (.bool false)] .exact g n fun l10 g8 n10 =>
kAgg (.agg c37.toArray) fun cg9 =>
cg9.length = 2 ∧ kStN g8 l10 0 cg9 fun g9 =>
kLdN g9 l10 0 2 fun c39 =>
C client_writer_tx_id [(t 8), (.agg c39.toArray)] g9 n10 fun v40 g10 n40 =>
kBin .int .add (t 34) (.int .i64 1) fun v41 =>
I_l3 (puts t [(35, v35), (36, v36), (37, (.agg c37.toArray)), (10, (ptr l10 0)), (38, (t 8)), (39, (.agg c39.toArray)), (40, v40), (41, v41), (34, v41)]) g10 n40) (
client_Code_j4 C K (puts t [(35, v35)]) g n)

def client_Code_j2 (C : CT) (K : Cont) (t : Env) (g : G) (n : Nat) : Prop :=
kLen (t 1) fun v25 =>
kBin .int .gtr v25 (.int .i64 8) fun v26 =>
kSplit v26 (
aRet K (.tuple #[(.slice none 0 0), (.int .i64 3)]) g n) (
kFill [(.slice none 0 0), (.slice none 0 0), (.slice none 0 0), (.bool false)] [] fun c27 =>
kAgg (.agg c27.toArray) fun c28 =>
kNew c28 .exact g n fun l28 g6 n28 =>
kPtr (t 2) fun l29 o29 =>
kLdN g6 l29 o29 9 fun c29 =>
kFill [(.pointer none), (.int .i64 0), (.int .i64 0), (.int .i64 0), (.int .i64 0), (.int .i64 0), (.int .i64 0), (.int .i64 0), (.int .i64 0), (.int .i64 0), (.int .i64 0), (.int .i64 0), (.int .i64 0)] [(0, none, (ptr l28 0)), (1, (some 9), (.agg c29.toArray))] fun c30 =>
kAgg (.agg c30.toArray) fun c31 =>
kNew c31 .exact g6 n28 fun l31 g7 n31 =>
kLen (t 1) fun v33 =>
lfp (client_Code_l3 C K) (puts t [(24, (t 1)), (25, v25), (26, v26), (27, (.agg c27.toArray)), (28, (ptr l28 0)), (29, (.agg c29.toArray)), (30, (.agg c30.toArray)), (31, (ptr l31 0)), (8, (ptr l31 0)), (32, (t 1)), (33, v33), (34, (.int .i64 0))]) g7 n31)

def client_Code_l1 (C : CT) (K : Cont) (I_l1 : ECont) (t : Env) (g : G) (n : Nat) : Prop :=
kBin .int .lss (t 16) (t 15) fun v17 =>
kSplit v17 (
kIndexAddr (t 14) (t 16) 2 fun v18 =>
kPtr v18 fun l19 o19 =>
kLdN g l19 o19 2 fun c19 =>
kNew [(.slice none 0 0), (.bool false)] .exact g n fun l7 g3 n7 =>
kAgg (.agg c19.toArray) fun cg4 =>
cg4.length = 2 ∧ kStN g3 l7 0 cg4 fun g4 =>
kLdN g4 l7 0 2 fun c20 =>
C client_Good_id [(.agg c20.toArray)] g4 n7 fun v21 g5 n21 =>
kUn .not v21 fun v22 =>
kSplit v22 (
aRet K (.tuple #[(.slice none 0 0), (.int .i64 11)]) g5 n21) (
kBin .int .add (t 16) (.int .i64 1) fun v23 =>
I_l1 (puts t [(17, v17), (18, v18), (19, (.agg c19.toArray)), (7, (ptr l7 0)), (20, (.agg c20.toArray)), (21, v21), (22, v22), (23, v23), (16, v23)]) g5 n21)) (
client_Code_j2 C K (puts t [(17, v17)]) g n)

def client_Code (C : CT) (a0 a1 : Value) (g : G) (n : Nat) (K : Cont) : Prop :=
kAgg a0 fun c2 =>
kNew c2 .exact g n fun l2 g1 n2 =>
kLdN g1 l2 0 9 fun c11 =>
C layout_Good_id [(.agg c11.toArray)] g1 n2 fun v12 g2 n12 =>
kUn .not v12 fun v13 =>
kSplit v13 (
aRet K (.tuple #[(.slice none 0 0), (.int .i64 1)]) g2 n12) (
kLen a1 fun v15 =>
lfp (client_Code_l1 C K) (puts (args0 [a0, a1]) [(2, (ptr l2 0)), (4, (.slice none 0 0)), (5, (.int .i64 0)), (11, (.agg c11.toArray)), (12, v12), (13, v13), (14, a1), (15, v15), (16, (.int .i64 0))]) g2 n12)

theorem client_Code_eq (C : CT) (a0 a1 : Value) (g : G) (n : Nat) (K : Cont) : client_Code C a0 a1 g n K = abody Tryz.prog C client_Code_id [a0, a1] g n K := by kernel_rfl

/- bellows/bellowslaw25.Copied -/
def bellowslaw25_Copied_l1 (C : CT) (K : Cont) (I_l1 : ECont) (t : Env) (g : G) (n : Nat) : Prop :=
kLen (t 0) fun v7 =>
kBin .int .lss (t 4) v7 fun v8 =>
kSplit v8 (
kIndexAddr (t 0) (t 4) 2 fun v15 =>
kPtr v15 fun l16 o16 =>
kLd g l16 (o16 + 0) fun v17 =>
kIndexAddr (t 0) (t 4) 2 fun v21 =>
kPtr v21 fun l22 o22 =>
kLd g l22 (o22 + 1) fun v23 =>
kFill (reps 0 [(.int .i64 0), (.int .i64 0), (.int .u64 0)]) [] fun c12 =>
kNew c12 .exact g n fun l12 g1 n12 =>
(kPtr (ptr l16 (o16 + 0)) fun l _ => g1 l = g l) ∧ (kPtr (ptr l22 (o22 + 1)) fun l _ => g1 l = g l) ∧ kAppend (.slice (some ⟨l12, 0, none⟩) 0 0) v17 3 24 g1 n12 fun v18 g2 n18 =>
(kPtr (ptr l22 (o22 + 1)) fun l _ => g2 l = g1 l) ∧ kFill [(.slice none 0 0), (.bool false)] [(0, none, v18), (1, none, v23)] fun c24 =>
kFill (reps 1 [(.slice none 0 0), (.bool false)]) [(0, (some 2), (.agg c24.toArray))] fun c25 =>
kNew c25 .exact g2 n18 fun l25 g3 n25 =>
kAppend (t 3) (.slice (some ⟨l25, 0, none⟩) 1 1) 2 32 g3 n25 fun v26 g4 n26 =>
kBin .int .add (t 4) (.int .i64 1) fun v10 =>
I_l1 (puts t [(5, (t 4)), (6, (t 0)), (7, v7), (8, v8), (11, (t 3)), (13, (t 0)), (14, (t 4)), (15, v15), (16, (ptr l16 (o16 + 0))), (17, v17), (19, (t 0)), (20, (t 4)), (21, v21), (22, (ptr l22 (o22 + 1))), (23, v23), (12, (.slice (some ⟨l12, 0, none⟩) 0 0)), (18, v18), (24, (.agg c24.toArray)), (25, (.slice (some ⟨l25, 0, none⟩) 1 1)), (26, v26), (3, v26), (9, (t 4)), (10, v10), (4, v10)]) g4 n26) (
aRet K (t 3) g n)

def bellowslaw25_Copied (C : CT) (a0 : Value) (g : G) (n : Nat) (K : Cont) : Prop :=
lfp (bellowslaw25_Copied_l1 C K) (puts (args0 [a0]) [(2, (.slice none 0 0)), (3, (.slice none 0 0)), (4, (.int .i64 0))]) g n

theorem bellowslaw25_Copied_eq (C : CT) (a0 : Value) (g : G) (n : Nat) (K : Cont) : bellowslaw25_Copied C a0 g n K = abody Tryz.prog C bellowslaw25_Copied_id [a0] g n K := by kernel_rfl

/- bellows/bellowsref25.Code -/
def bellowsref25_Code_j4 (C : CT) (K : Cont) (t : Env) (g : G) (n : Nat) : Prop :=
kFill [(.int .i64 0), (.int .i64 0), (.int .i64 0), (.int .i64 0), (.int .i64 0)] [(0, none, (.int .i64 22))] fun c45 =>
kFill (reps 1 [(.int .i64 0), (.int .i64 0), (.int .i64 0), (.int .i64 0), (.int .i64 0)]) [(0, (some 5), (.agg c45.toArray))] fun c46 =>
kNew c46 .exact g n fun l46 g6 n46 =>
C bellowsref21_Builder_Add_id [(t 7), (.slice (some ⟨l46, 0, none⟩) 1 1)] g6 n46 fun v47 g7 n47 =>
C bellowsref21_Builder_Done_id [(t 7)] g7 n47 fun v50 g8 n50 =>
kExtract v50 0 fun v51 =>
kExtract v50 1 fun v52 =>
kBin .int .neq v52 (.int .i64 0) fun v54 =>
kSplit v54 (
aRet K (.tuple #[(.slice none 0 0), (.int .i64 3)]) g8 n50) (
aRet K (.tuple #[v51, (.int .i64 0)]) g8 n50)

def bellowsref25_Code_l3 (C : CT) (K : Cont) (I_l3 : ECont) (t : Env) (g : G) (n : Nat) : Prop :=
kLen (t 1) fun v33 =>
kBin .int .lss (t 8) v33 fun v34 =>
kSplit v34 (
kPtr (t 2) fun l38 o38 =>
kLdN g l38 o38 9 fun c38 =>
kIndexAddr (t 1) (t 8) 2 fun v41 =>
kPtr v41 fun l42 o42 =>
kLdN g l42 o42 2 fun c42 =>
C bellowsref25_whole_id [(t 7), (.agg c38.toArray), (.agg c42.toArray)] g n fun v43 g5 n43 =>
kBin .int .add (t 8) (.int .i64 1) fun v36 =>
I_l3 (puts t [(31, (t 8)), (32, (t 1)), (33, v33), (34, v34), (37, (t 7)), (38, (.agg c38.toArray)), (39, (t 1)), (40, (t 8)), (41, v41), (42, (.agg c42.toArray)), (43, v43), (35, (t 8)), (36, v36), (8, v36)]) g5 n43) (
bellowsref25_Code_j4 C K (puts t [(31, (t 8)), (32, (t 1)), (33, v33), (34, v34)]) g n)

def bellowsref25_Code_j2 (C : CT) (K : Cont) (t : Env) (g : G) (n : Nat) : Prop :=
kLen (t 1) fun v27 =>
kBin .int .gtr v27 (.int .i64 8) fun v28 =>
kSplit v28 (
aRet K (.tuple #[(.slice none 0 0), (.int .i64 3)]) g n) (
kFill [(.slice none 0 0), (.slice none 0 0), (.bool false)] [] fun c29 =>
kAgg (.agg c29.toArray) fun c30 =>
kNew c30 .exact g n fun l30 g4 n30 =>
lfp (bellowsref25_Code_l3 C K) (puts t [(26, (t 1)), (27, v27), (28, v28), (29, (.agg c29.toArray)), (30, (ptr l30 0)), (7, (ptr l30 0)), (8, (.int .i64 0))]) g4 n30)

def bellowsref25_Code_l1 (C : CT) (K : Cont) (I_l1 : ECont) (t : Env) (g : G) (n : Nat) : Prop :=
kLen (t 1) fun v16 =>
kBin .int .lss (t 6) v16 fun v17 =>
kSplit v17 (
kIndexAddr (t 1) (t 6) 2 fun v22 =>
kPtr v22 fun l23 o23 =>
kLdN g l23 o23 2 fun c23 =>
C bellowsref25_Good_id [(.agg c23.toArray)] g n fun v24 g3 n24 =>
kUn .not v24 fun v25 =>
kSplit v25 (
aRet K (.tuple #[(.slice none 0 0), (.int .i64 11)]) g3 n24) (
kBin .int .add (t 6) (.int .i64 1) fun v19 =>
I_l1 (puts t [(14, (t 6)), (15, (t 1)), (16, v16), (17, v17), (20, (t 1)), (21, (t 6)), (22, v22), (23, (.agg c23.toArray)), (24, v24), (25, v25), (18, (t 6)), (19, v19), (6, v19)]) g3 n24)) (
bellowsref25_Code_j2 C K (puts t [(14, (t 6)), (15, (t 1)), (16, v16), (17, v17)]) g n)

def bellowsref25_Code (C : CT) (a0 a1 : Value) (g : G) (n : Nat) (K : Cont) : Prop :=
kAgg a0 fun c2 =>
kNew c2 .exact g n fun l2 g1 n2 =>
kLdN g1 l2 0 9 fun c11 =>
C bellowsref22_Good_id [(.agg c11.toArray)] g1 n2 fun v12 g2 n12 =>
kUn .not v12 fun v13 =>
kSplit v13 (
aRet K (.tuple #[(.slice none 0 0), (.int .i64 1)]) g2 n12) (
lfp (bellowsref25_Code_l1 C K) (puts (args0 [a0, a1]) [(2, (ptr l2 0)), (4, (.slice none 0 0)), (5, (.int .i64 0)), (11, (.agg c11.toArray)), (12, v12), (13, v13), (6, (.int .i64 0))]) g2 n12)

theorem bellowsref25_Code_eq (C : CT) (a0 a1 : Value) (g : G) (n : Nat) (K : Cont) : bellowsref25_Code C a0 a1 g n K = abody Tryz.prog C bellowsref25_Code_id [a0, a1] g n K := by kernel_rfl

/- bellows/client.Good -/
def client_Good_j2 (C : CT) (K : Cont) (t : Env) (g : G) (n : Nat) : Prop :=
kPtr (t 1) fun l16 o16 =>
kLd g l16 (o16 + 0) fun v17 =>
kLen v17 fun v18 =>
kBin .int .leq v18 (.int .i64 16) fun v19 =>
aRet K v19 g n

def client_Good_l1 (C : CT) (K : Cont) (I_l1 : ECont) (t : Env) (g : G) (n : Nat) : Prop :=
kBin .int .lss (t 8) (t 7) fun v9 =>
kSplit v9 (
kIndexAddr (t 6) (t 8) 3 fun v10 =>
kPtr v10 fun l11 o11 =>
kLdN g l11 o11 3 fun c11 =>
kNew [(.int .i64 0), (.int .i64 0), (.int .u64 0)] .exact g n fun l4 g2 n4 =>
kAgg (.agg c11.toArray) fun cg3 =>
cg3.length = 3 ∧ kStN g2 l4 0 cg3 fun g3 =>
kLdN g3 l4 0 3 fun c12 =>
C client_good_id [(.agg c12.toArray)] g3 n4 fun v13 g4 n13 =>
kUn .not v13 fun v14 =>
kSplit v14 (
aRet K (.bool false) g4 n13) (
kBin .int .add (t 8) (.int .i64 1) fun v15 =>
I_l1 (puts t [(9, v9), (10, v10), (11, (.agg c11.toArray)), (4, (ptr l4 0)), (12, (.agg c12.toArray)), (13, v13), (14, v14), (15, v15), (8, v15)]) g4 n13)) (
client_Good_j2 C K (puts t [(9, v9)]) g n)

def client_Good (C : CT) (a0 : Value) (g : G) (n : Nat) (K : Cont) : Prop :=
kAgg a0 fun c1 =>
kNew c1 .exact g n fun l1 g1 n1 =>
kLd g1 l1 (0 + 0) fun v6 =>
kLen v6 fun v7 =>
lfp (client_Good_l1 C K) (puts (args0 [a0]) [(1, (ptr l1 0)), (2, (.bool false)), (5, (ptr l1 (0 + 0))), (6, v6), (7, v7), (8, (.int .i64 0))]) g1 n1

theorem client_Good_eq (C : CT) (a0 : Value) (g : G) (n : Nat) (K : Cont) : client_Good C a0 g n K = abody Tryz.prog C client_Good_id [a0] g n K := by kernel_rfl

/- bellows/bellowsref25.Good -/
def bellowsref25_Good_l1 (C : CT) (K : Cont) (I_l1 : ECont) (t : Env) (g : G) (n : Nat) : Prop :=
kPtr (t 1) fun l10 o10 =>
kLd g l10 (o10 + 0) fun v11 =>
kLen v11 fun v12 =>
kBin .int .lss (t 3) v12 fun v13 =>
kSplit v13 (
kPtr (t 1) fun l16 o16 =>
kLd g l16 (o16 + 0) fun v17 =>
kIndexAddr v17 (t 3) 3 fun v19 =>
kPtr v19 fun l20 o20 =>
kLdN g l20 o20 3 fun c20 =>
kNew [(.int .i64 0), (.int .i64 0), (.int .u64 0)] .exact g n fun l4 g2 n4 =>
kAgg (.agg c20.toArray) fun cg3 =>
cg3.length = 3 ∧ kStN g2 l4 0 cg3 fun g3 =>
kLd g3 l4 (0 + 0) fun v22 =>
kBin .int .lss v22 (.int .i64 1) fun v23 =>
kSplit v23 (
aRet K (.bool false) g3 n4) (
kLd g3 l4 (0 + 0) fun v26 =>
kBin .int .gtr v26 (.int .i64 4) fun v27 =>
kSplit v27 (
aRet K (.bool false) g3 n4) (
kLd g3 l4 (0 + 2) fun v31 =>
kBin .int .geq v31 (.int .u64 2147483648) fun v32 =>
kSplit v32 (
aRet K (.bool false) g3 n4) (
kLd g3 l4 (0 + 0) fun v36 =>
kBin .int .eql v36 (.int .i64 1) fun v37 =>
kSplit v37 (
kLd g3 l4 (0 + 2) fun v40 =>
kBin .int .neq v40 (.int .u64 0) fun v41 =>
kSplit v41 (
aRet K (.bool false) g3 n4) (
kLd g3 l4 (0 + 0) fun v46 =>
kBin .int .eql v46 (.int .i64 4) fun v47 =>
kSplit v47 (
kLd g3 l4 (0 + 2) fun v50 =>
kBin .int .eql v50 (.int .u64 0) fun v51 =>
kSplit v51 (
aRet K (.bool false) g3 n4) (
kBin .int .add (t 3) (.int .i64 1) fun v15 =>
I_l1 (puts t [(9, (t 3)), (10, (ptr l10 (o10 + 0))), (11, v11), (12, v12), (13, v13), (16, (ptr l16 (o16 + 0))), (17, v17), (18, (t 3)), (19, v19), (20, (.agg c20.toArray)), (4, (ptr l4 0)), (21, (ptr l4 (0 + 0))), (22, v22), (23, v23), (24, (.bool false)), (25, (ptr l4 (0 + 0))), (26, v26), (27, v27), (28, v27), (29, (.bool false)), (30, (ptr l4 (0 + 2))), (31, v31), (32, v32), (33, v32), (34, (.bool false)), (35, (ptr l4 (0 + 0))), (36, v36), (37, v37), (38, (.bool true)), (39, (ptr l4 (0 + 2))), (40, v40), (41, v41), (42, v41), (43, v41), (44, (.bool false)), (45, (ptr l4 (0 + 0))), (46, v46), (47, v47), (48, (.bool true)), (49, (ptr l4 (0 + 2))), (50, v50), (51, v51), (52, v51), (53, v51), (14, (t 3)), (15, v15), (3, v15)]) g3 n4)) (
kBin .int .add (t 3) (.int .i64 1) fun v15 =>
I_l1 (puts t [(9, (t 3)), (10, (ptr l10 (o10 + 0))), (11, v11), (12, v12), (13, v13), (16, (ptr l16 (o16 + 0))), (17, v17), (18, (t 3)), (19, v19), (20, (.agg c20.toArray)), (4, (ptr l4 0)), (21, (ptr l4 (0 + 0))), (22, v22), (23, v23), (24, (.bool false)), (25, (ptr l4 (0 + 0))), (26, v26), (27, v27), (28, v27), (29, (.bool false)), (30, (ptr l4 (0 + 2))), (31, v31), (32, v32), (33, v32), (34, (.bool false)), (35, (ptr l4 (0 + 0))), (36, v36), (37, v37), (38, (.bool true)), (39, (ptr l4 (0 + 2))), (40, v40), (41, v41), (42, v41), (43, v41), (44, (.bool false)), (45, (ptr l4 (0 + 0))), (46, v46), (47, v47), (48, (.bool false)), (49, undef), (50, undef), (51, undef), (52, (.bool false)), (53, (.bool false)), (14, (t 3)), (15, v15), (3, v15)]) g3 n4))) (
kLd g3 l4 (0 + 0) fun v46 =>
kBin .int .eql v46 (.int .i64 4) fun v47 =>
kSplit v47 (
kLd g3 l4 (0 + 2) fun v50 =>
kBin .int .eql v50 (.int .u64 0) fun v51 =>
kSplit v51 (
aRet K (.bool false) g3 n4) (
kBin .int .add (t 3) (.int .i64 1) fun v15 =>
I_l1 (puts t [(9, (t 3)), (10, (ptr l10 (o10 + 0))), (11, v11), (12, v12), (13, v13), (16, (ptr l16 (o16 + 0))), (17, v17), (18, (t 3)), (19, v19), (20, (.agg c20.toArray)), (4, (ptr l4 0)), (21, (ptr l4 (0 + 0))), (22, v22), (23, v23), (24, (.bool false)), (25, (ptr l4 (0 + 0))), (26, v26), (27, v27), (28, v27), (29, (.bool false)), (30, (ptr l4 (0 + 2))), (31, v31), (32, v32), (33, v32), (34, (.bool false)), (35, (ptr l4 (0 + 0))), (36, v36), (37, v37), (38, (.bool false)), (39, undef), (40, undef), (41, undef), (42, (.bool false)), (43, (.bool false)), (44, (.bool false)), (45, (ptr l4 (0 + 0))), (46, v46), (47, v47), (48, (.bool true)), (49, (ptr l4 (0 + 2))), (50, v50), (51, v51), (52, v51), (53, v51), (14, (t 3)), (15, v15), (3, v15)]) g3 n4)) (
kBin .int .add (t 3) (.int .i64 1) fun v15 =>
I_l1 (puts t [(9, (t 3)), (10, (ptr l10 (o10 + 0))), (11, v11), (12, v12), (13, v13), (16, (ptr l16 (o16 + 0))), (17, v17), (18, (t 3)), (19, v19), (20, (.agg c20.toArray)), (4, (ptr l4 0)), (21, (ptr l4 (0 + 0))), (22, v22), (23, v23), (24, (.bool false)), (25, (ptr l4 (0 + 0))), (26, v26), (27, v27), (28, v27), (29, (.bool false)), (30, (ptr l4 (0 + 2))), (31, v31), (32, v32), (33, v32), (34, (.bool false)), (35, (ptr l4 (0 + 0))), (36, v36), (37, v37), (38, (.bool false)), (39, undef), (40, undef), (41, undef), (42, (.bool false)), (43, (.bool false)), (44, (.bool false)), (45, (ptr l4 (0 + 0))), (46, v46), (47, v47), (48, (.bool false)), (49, undef), (50, undef), (51, undef), (52, (.bool false)), (53, (.bool false)), (14, (t 3)), (15, v15), (3, v15)]) g3 n4)))))) (
aRet K (.bool true) g n)

def bellowsref25_Good (C : CT) (a0 : Value) (g : G) (n : Nat) (K : Cont) : Prop :=
kAgg a0 fun c1 =>
kNew c1 .exact g n fun l1 g1 n1 =>
kLd g1 l1 (0 + 0) fun v6 =>
kLen v6 fun v7 =>
kBin .int .gtr v7 (.int .i64 16) fun v8 =>
kSplit v8 (
aRet K (.bool false) g1 n1) (
lfp (bellowsref25_Good_l1 C K) (puts (args0 [a0]) [(1, (ptr l1 0)), (2, (.bool false)), (5, (ptr l1 (0 + 0))), (6, v6), (7, v7), (8, v8), (3, (.int .i64 0))]) g1 n1)

theorem bellowsref25_Good_eq (C : CT) (a0 : Value) (g : G) (n : Nat) (K : Cont) : bellowsref25_Good C a0 g n K = abody Tryz.prog C bellowsref25_Good_id [a0] g n K := by kernel_rfl

/- bellows/bellowslaw22.Plain -/
def bellowslaw22_Plain (C : CT) (g : G) (n : Nat) (K : Cont) : Prop :=
kNew [(.int .i64 0), (.int .i64 0), (.int .i64 0), (.int .i64 0), (.int .i64 0), (.int .i64 0), (.int .i64 0), (.int .i64 0), (.int .i64 0)] .exact g n fun l0 g1 n0 =>
kFill [(.int .i64 0), (.int .i64 0), (.int .i64 0), (.int .i64 0), (.int .i64 0), (.int .i64 0), (.int .i64 0)] [(0, none, (.int .i64 2)), (1, none, (.int .i64 5)), (2, none, (.int .i64 1)), (3, none, (.int .i64 1)), (4, none, (.int .i64 2)), (5, none, (.int .i64 2)), (6, none, (.int .i64 2))] fun c1 =>
kFill [(.int .i64 0), (.int .i64 0), (.int .i64 0), (.int .i64 0), (.int .i64 0), (.int .i64 0), (.int .i64 0), (.int .i64 0), (.int .i64 0)] [(0, (some 7), (.agg c1.toArray)), (7, none, (.int .i64 2)), (8, none, (.int .i64 1))] fun c2 =>
kAgg (.agg c2.toArray) fun cg2 =>
cg2.length = 9 ∧ kStN g1 l0 0 cg2 fun g2 =>
kLdN g2 l0 0 9 fun r0 =>
aRet K (.agg r0.toArray) g2 n0

theorem bellowslaw22_Plain_eq (C : CT) (g : G) (n : Nat) (K : Cont) : bellowslaw22_Plain C g n K = abody Tryz.prog C bellowslaw22_Plain_id [] g n K := by kernel_rfl

/- (*bellows/emit.Builder).Add -/
def emit_Builder_Add (C : CT) (a0 a1 : Value) (g : G) (n : Nat) (K : Cont) : Prop :=
kBin .ptr .neq a0 (.pointer none) fun v5 =>
kSplit v5 (
kNil a0 fun v8 =>
kPtr v8 fun l9 o9 =>
kLd g l9 (o9 + 0) fun v10 =>
kAppend v10 a1 5 40 g n fun v12 g1 n12 =>
kNil a0 fun v13 =>
kPtr v13 fun l14 o14 =>
kSt g1 l14 (o14 + 0) v12 fun g2 =>
aRet K (.tuple #[]) g2 n12) (
aRet K (.tuple #[]) g n)

theorem emit_Builder_Add_eq (C : CT) (a0 a1 : Value) (g : G) (n : Nat) (K : Cont) : emit_Builder_Add C a0 a1 g n K = abody Tryz.prog C emit_Builder_Add_id [a0, a1] g n K := by kernel_rfl

/- bellows/undo.li -/
def undo_li (C : CT) (a0 a1 : Value) (g : G) (n : Nat) (K : Cont) : Prop :=
kNew [(.int .i64 0), (.int .i64 0), (.int .i64 0), (.int .i64 0), (.int .i64 0)] .exact g n fun l4 g1 n4 =>
kConv .i64 a1 fun v7 =>
kFill [(.int .i64 0), (.int .i64 0), (.int .i64 0), (.int .i64 0), (.int .i64 0)] [(0, none, (.int .i64 1)), (1, none, a0), (4, none, v7)] fun c8 =>
kAgg (.agg c8.toArray) fun cg2 =>
cg2.length = 5 ∧ kStN g1 l4 0 cg2 fun g2 =>
kLdN g2 l4 0 5 fun r0 =>
aRet K (.agg r0.toArray) g2 n4

theorem undo_li_eq (C : CT) (a0 a1 : Value) (g : G) (n : Nat) (K : Cont) : undo_li C a0 a1 g n K = abody Tryz.prog C undo_li_id [a0, a1] g n K := by kernel_rfl

/- (*bellows/bellowsref21.Builder).Add -/
def bellowsref21_Builder_Add_l1 (C : CT) (K : Cont) (I_l1 : ECont) (t : Env) (g : G) (n : Nat) : Prop :=
kLen (t 1) fun v7 =>
kBin .int .lss (t 4) v7 fun v8 =>
kSplit v8 (
kNil (t 0) fun v13 =>
kPtr v13 fun l14 o14 =>
kLd g l14 (o14 + 0) fun v15 =>
kIndexAddr (t 1) (t 4) 5 fun v18 =>
kPtr v18 fun l19 o19 =>
kLdN g l19 o19 5 fun c19 =>
kFill [(.int .i64 0), (.int .i64 0), (.int .i64 0), (.int .i64 0), (.int .i64 0), (.int .i64 0)] [(0, (some 5), (.agg c19.toArray)), (5, none, (.int .i64 (-1)))] fun c20 =>
kFill (reps 1 [(.int .i64 0), (.int .i64 0), (.int .i64 0), (.int .i64 0), (.int .i64 0), (.int .i64 0)]) [(0, (some 6), (.agg c20.toArray))] fun c21 =>
kNew c21 .exact g n fun l21 g1 n21 =>
(kPtr (ptr l14 (o14 + 0)) fun l _ => g1 l = g l) ∧ kAppend v15 (.slice (some ⟨l21, 0, none⟩) 1 1) 6 48 g1 n21 fun v22 g2 n22 =>
kNil (t 0) fun v23 =>
kPtr v23 fun l24 o24 =>
kSt g2 l24 (o24 + 0) v22 fun g3 =>
kBin .int .add (t 4) (.int .i64 1) fun v10 =>
I_l1 (puts t [(5, (t 4)), (6, (t 1)), (7, v7), (8, v8), (11, (t 0)), (12, (t 0)), (13, v13), (14, (ptr l14 (o14 + 0))), (15, v15), (16, (t 1)), (17, (t 4)), (18, v18), (19, (.agg c19.toArray)), (20, (.agg c20.toArray)), (21, (.slice (some ⟨l21, 0, none⟩) 1 1)), (22, v22), (23, v23), (24, (ptr l24 (o24 + 0))), (9, (t 4)), (10, v10), (4, v10)]) g3 n22) (
aRet K (.tuple #[]) g n)

def bellowsref21_Builder_Add (C : CT) (a0 a1 : Value) (g : G) (n : Nat) (K : Cont) : Prop :=
lfp (bellowsref21_Builder_Add_l1 C K) (puts (args0 [a0, a1]) [(4, (.int .i64 0))]) g n

theorem bellowsref21_Builder_Add_eq (C : CT) (a0 a1 : Value) (g : G) (n : Nat) (K : Cont) : bellowsref21_Builder_Add C a0 a1 g n K = abody Tryz.prog C bellowsref21_Builder_Add_id [a0, a1] g n K := by kernel_rfl

/- bellows/bellowsref24.li -/
def bellowsref24_li (C : CT) (a0 a1 : Value) (g : G) (n : Nat) (K : Cont) : Prop :=
kNew [(.int .i64 0), (.int .i64 0), (.int .i64 0), (.int .i64 0), (.int .i64 0)] .exact g n fun l4 g1 n4 =>
C bellowsref23_Li_id [a0, a1] g1 n4 fun v7 g2 n7 =>
kAgg v7 fun cg3 =>
cg3.length = 5 ∧ kStN g2 l4 0 cg3 fun g3 =>
kLdN g3 l4 0 5 fun r0 =>
aRet K (.agg r0.toArray) g3 n7

theorem bellowsref24_li_eq (C : CT) (a0 a1 : Value) (g : G) (n : Nat) (K : Cont) : bellowsref24_li C a0 a1 g n K = abody Tryz.prog C bellowsref24_li_id [a0, a1] g n K := by kernel_rfl

/- bellows/layout.Good -/
def layout_Good (C : CT) (a0 : Value) (g : G) (n : Nat) (K : Cont) : Prop :=
kAgg a0 fun c1 =>
kNew c1 .exact g n fun l1 g1 n1 =>
kLdN g1 l1 0 9 fun c3 =>
C layout_of_id [(.agg c3.toArray)] g1 n1 fun v4 g2 n4 =>
kNil v4 fun v5 =>
kPtr v5 fun l6 o6 =>
kLd g2 l6 (o6 + 3) fun v7 =>
aRet K v7 g2 n4

theorem layout_Good_eq (C : CT) (a0 : Value) (g : G) (n : Nat) (K : Cont) : layout_Good C a0 g n K = abody Tryz.prog C layout_Good_id [a0] g n K := by kernel_rfl

/- bellows/layout.Words -/
def layout_Words (C : CT) (a0 : Value) (g : G) (n : Nat) (K : Cont) : Prop :=
kAgg a0 fun c1 =>
kNew c1 .exact g n fun l1 g1 n1 =>
kLdN g1 l1 0 9 fun c4 =>
C layout_of_id [(.agg c4.toArray)] g1 n1 fun v5 g2 n5 =>
kNil v5 fun v7 =>
kPtr v7 fun l8 o8 =>
kLd g2 l8 (o8 + 3) fun v9 =>
kUn .not v9 fun v10 =>
kSplit v10 (
aRet K (.int .i64 0) g2 n5) (
kNil v5 fun v12 =>
kPtr v12 fun l13 o13 =>
kLd g2 l13 (o13 + 6) fun v14 =>
kBin .int .mul v14 (.int .i64 8) fun v15 =>
aRet K v15 g2 n5)

theorem layout_Words_eq (C : CT) (a0 : Value) (g : G) (n : Nat) (K : Cont) : layout_Words C a0 g n K = abody Tryz.prog C layout_Words_id [a0] g n K := by kernel_rfl

/- bellows/layout.Room -/
def layout_Room (C : CT) (a0 : Value) (g : G) (n : Nat) (K : Cont) : Prop :=
kAgg a0 fun c1 =>
kNew c1 .exact g n fun l1 g1 n1 =>
kLdN g1 l1 0 9 fun c4 =>
C layout_of_id [(.agg c4.toArray)] g1 n1 fun v5 g2 n5 =>
kNil v5 fun v7 =>
kPtr v7 fun l8 o8 =>
kLd g2 l8 (o8 + 3) fun v9 =>
kUn .not v9 fun v10 =>
kSplit v10 (
aRet K (.int .i64 0) g2 n5) (
kNil v5 fun v12 =>
kPtr v12 fun l13 o13 =>
kLd g2 l13 (o13 + 7) fun v14 =>
aRet K v14 g2 n5)

theorem layout_Room_eq (C : CT) (a0 : Value) (g : G) (n : Nat) (K : Cont) : layout_Room C a0 g n K = abody Tryz.prog C layout_Room_id [a0] g n K := by kernel_rfl

/- (*bellows/emit.Builder).Jump -/
def emit_Builder_Jump (C : CT) (a0 a1 a2 : Value) (g : G) (n : Nat) (K : Cont) : Prop :=
kAgg a1 fun c4 =>
kNew c4 .exact g n fun l4 g1 n4 =>
kBin .ptr .eql a0 (.pointer none) fun v7 =>
kSplit v7 (
aRet K (.tuple #[]) g1 n4) (
C emit_Builder_is_id [a0, a2] g1 n4 fun v10 g2 n10 =>
kUn .not v10 fun v11 =>
kSplit v11 (
kNil a0 fun v23 =>
kPtr v23 fun l24 o24 =>
kSt g2 l24 (o24 + 3) (.bool true) fun g3 =>
aRet K (.tuple #[]) g3 n10) (
kLd g2 l4 (0 + 0) fun v14 =>
kBin .int .lss v14 (.int .i64 17) fun v15 =>
kSplit v15 (
kNil a0 fun v23 =>
kPtr v23 fun l24 o24 =>
kSt g2 l24 (o24 + 3) (.bool true) fun g4 =>
aRet K (.tuple #[]) g4 n10) (
kLd g2 l4 (0 + 0) fun v19 =>
kBin .int .gtr v19 (.int .i64 20) fun v20 =>
kSplit v20 (
kNil a0 fun v23 =>
kPtr v23 fun l24 o24 =>
kSt g2 l24 (o24 + 3) (.bool true) fun g5 =>
aRet K (.tuple #[]) g5 n10) (
kNil a0 fun v27 =>
kPtr v27 fun l28 o28 =>
kLd g2 l28 (o28 + 2) fun v29 =>
kNil a0 fun v31 =>
kPtr v31 fun l32 o32 =>
kLd g2 l32 (o32 + 0) fun v33 =>
kLen v33 fun v34 =>
kFill [(.int .i64 0), (.int .i64 0)] [(0, none, v34), (1, none, a2)] fun c36 =>
kFill (reps 1 [(.int .i64 0), (.int .i64 0)]) [(0, (some 2), (.agg c36.toArray))] fun c37 =>
kNew c37 .exact g2 n10 fun l37 g6 n37 =>
(kPtr (ptr l28 (o28 + 2)) fun l _ => g6 l = g2 l) ∧ kAppend v29 (.slice (some ⟨l37, 0, none⟩) 1 1) 2 16 g6 n37 fun v38 g7 n38 =>
kNil a0 fun v39 =>
kPtr v39 fun l40 o40 =>
kSt g7 l40 (o40 + 2) v38 fun g8 =>
kLdN g8 l4 0 5 fun c42 =>
kFill (reps 1 [(.int .i64 0), (.int .i64 0), (.int .i64 0), (.int .i64 0), (.int .i64 0)]) [(0, (some 5), (.agg c42.toArray))] fun c43 =>
kNew c43 .exact g8 n38 fun l43 g9 n43 =>
C emit_Builder_Add_id [a0, (.slice (some ⟨l43, 0, none⟩) 1 1)] g9 n43 fun v44 g10 n44 =>
aRet K (.tuple #[]) g10 n44))))

theorem emit_Builder_Jump_eq (C : CT) (a0 a1 a2 : Value) (g : G) (n : Nat) (K : Cont) : emit_Builder_Jump C a0 a1 a2 g n K = abody Tryz.prog C emit_Builder_Jump_id [a0, a1, a2] g n K := by kernel_rfl

/- bellows/undo.entry -/
def undo_entry (C : CT) (a0 : Value) (g : G) (n : Nat) (K : Cont) : Prop :=
kAgg a0 fun c1 =>
kNew c1 .exact g n fun l1 g1 n1 =>
kLdN g1 l1 0 9 fun c5 =>
C undo_li_id [(.int .i64 0), (.int .u64 4)] g1 n1 fun v3 g2 n3 =>
(kPtr (ptr l1 0) fun l _ => g2 l = g1 l) ∧ C undo_three_id [(.int .i64 6), (.int .i64 6), (.int .i64 7), (.int .i64 0)] g2 n3 fun v4 g3 n4 =>
(kPtr (ptr l1 0) fun l _ => g3 l = g2 l) ∧ C layout_Entry_id [(.agg c5.toArray), (.int .i64 0)] g3 n4 fun v6 g4 n6 =>
C undo_li_id [(.int .i64 0), v6] g4 n6 fun v7 g5 n7 =>
C undo_three_id [(.int .i64 2), (.int .i64 6), (.int .i64 6), (.int .i64 0)] g5 n7 fun v8 g6 n8 =>
kFill (reps 4 [(.int .i64 0), (.int .i64 0), (.int .i64 0), (.int .i64 0), (.int .i64 0)]) [(0, (some 5), v3), (5, (some 5), v4), (10, (some 5), v7), (15, (some 5), v8)] fun c9 =>
kNew c9 .exact g6 n8 fun l9 g7 n9 =>
aRet K (.slice (some ⟨l9, 0, none⟩) 4 4) g7 n9

theorem undo_entry_eq (C : CT) (a0 : Value) (g : G) (n : Nat) (K : Cont) : undo_entry C a0 g n K = abody Tryz.prog C undo_entry_id [a0] g n K := by kernel_rfl

/- bellows/layout.Word -/
def layout_Word (C : CT) (a0 a1 : Value) (g : G) (n : Nat) (K : Cont) : Prop :=
kAgg a0 fun c2 =>
kNew c2 .exact g n fun l2 g1 n2 =>
kLdN g1 l2 0 9 fun c6 =>
C layout_of_id [(.agg c6.toArray)] g1 n2 fun v7 g2 n7 =>
kNil v7 fun v9 =>
kPtr v9 fun l10 o10 =>
kLd g2 l10 (o10 + 3) fun v11 =>
kUn .not v11 fun v12 =>
kSplit v12 (
aRet K (.int .u64 0) g2 n7) (
kBin .int .lss a1 (.int .i64 0) fun v15 =>
kSplit v15 (
aRet K (.int .u64 0) g2 n7) (
kNil v7 fun v20 =>
kPtr v20 fun l21 o21 =>
kLd g2 l21 (o21 + 6) fun v22 =>
kBin .int .mul v22 (.int .i64 8) fun v23 =>
kBin .int .geq a1 v23 fun v24 =>
kSplit v24 (
aRet K (.int .u64 0) g2 n7) (
kNil v7 fun v27 =>
kPtr v27 fun l28 o28 =>
kLd g2 l28 (o28 + 5) fun v29 =>
kBin .int .quo a1 (.int .i64 8) fun v31 =>
kBin .int .add v29 v31 fun v32 =>
kBin .int .rem a1 (.int .i64 8) fun v34 =>
C word_Addr_id [v32, v34] g2 n7 fun v35 g3 n35 =>
aRet K v35 g3 n35)))

theorem layout_Word_eq (C : CT) (a0 a1 : Value) (g : G) (n : Nat) (K : Cont) : layout_Word C a0 a1 g n K = abody Tryz.prog C layout_Word_id [a0, a1] g n K := by kernel_rfl

/- bellows/undo.st -/
def undo_st (C : CT) (a0 a1 a2 : Value) (g : G) (n : Nat) (K : Cont) : Prop :=
kNew [(.int .i64 0), (.int .i64 0), (.int .i64 0), (.int .i64 0), (.int .i64 0)] .exact g n fun l6 g1 n6 =>
kFill [(.int .i64 0), (.int .i64 0), (.int .i64 0), (.int .i64 0), (.int .i64 0)] [(0, none, (.int .i64 9)), (1, none, a0), (2, none, a1), (4, none, a2)] fun c10 =>
kAgg (.agg c10.toArray) fun cg2 =>
cg2.length = 5 ∧ kStN g1 l6 0 cg2 fun g2 =>
kLdN g2 l6 0 5 fun r0 =>
aRet K (.agg r0.toArray) g2 n6

theorem undo_st_eq (C : CT) (a0 a1 a2 : Value) (g : G) (n : Nat) (K : Cont) : undo_st C a0 a1 a2 g n K = abody Tryz.prog C undo_st_id [a0, a1, a2] g n K := by kernel_rfl

/- bellows/undo.ld -/
def undo_ld (C : CT) (a0 a1 a2 : Value) (g : G) (n : Nat) (K : Cont) : Prop :=
kNew [(.int .i64 0), (.int .i64 0), (.int .i64 0), (.int .i64 0), (.int .i64 0)] .exact g n fun l6 g1 n6 =>
kFill [(.int .i64 0), (.int .i64 0), (.int .i64 0), (.int .i64 0), (.int .i64 0)] [(0, none, (.int .i64 8)), (1, none, a0), (2, none, a1), (4, none, a2)] fun c10 =>
kAgg (.agg c10.toArray) fun cg2 =>
cg2.length = 5 ∧ kStN g1 l6 0 cg2 fun g2 =>
kLdN g2 l6 0 5 fun r0 =>
aRet K (.agg r0.toArray) g2 n6

theorem undo_ld_eq (C : CT) (a0 a1 a2 : Value) (g : G) (n : Nat) (K : Cont) : undo_ld C a0 a1 a2 g n K = abody Tryz.prog C undo_ld_id [a0, a1, a2] g n K := by kernel_rfl

/- bellows/undo.clwb -/
def undo_clwb (C : CT) (a0 : Value) (g : G) (n : Nat) (K : Cont) : Prop :=
kNew [(.int .i64 0), (.int .i64 0), (.int .i64 0), (.int .i64 0), (.int .i64 0)] .exact g n fun l2 g1 n2 =>
kFill [(.int .i64 0), (.int .i64 0), (.int .i64 0), (.int .i64 0), (.int .i64 0)] [(0, none, (.int .i64 12)), (2, none, a0)] fun c4 =>
kAgg (.agg c4.toArray) fun cg2 =>
cg2.length = 5 ∧ kStN g1 l2 0 cg2 fun g2 =>
kLdN g2 l2 0 5 fun r0 =>
aRet K (.agg r0.toArray) g2 n2

theorem undo_clwb_eq (C : CT) (a0 : Value) (g : G) (n : Nat) (K : Cont) : undo_clwb C a0 g n K = abody Tryz.prog C undo_clwb_id [a0] g n K := by kernel_rfl

/- bellows/undo.fence -/
def undo_fence (C : CT) (g : G) (n : Nat) (K : Cont) : Prop :=
kNew [(.int .i64 0), (.int .i64 0), (.int .i64 0), (.int .i64 0), (.int .i64 0)] .exact g n fun l0 g1 n0 =>
kFill [(.int .i64 0), (.int .i64 0), (.int .i64 0), (.int .i64 0), (.int .i64 0)] [(0, none, (.int .i64 15))] fun c1 =>
kAgg (.agg c1.toArray) fun cg2 =>
cg2.length = 5 ∧ kStN g1 l0 0 cg2 fun g2 =>
kLdN g2 l0 0 5 fun r0 =>
aRet K (.agg r0.toArray) g2 n0

theorem undo_fence_eq (C : CT) (g : G) (n : Nat) (K : Cont) : undo_fence C g n K = abody Tryz.prog C undo_fence_id [] g n K := by kernel_rfl

/- bellows/undo.three -/
def undo_three (C : CT) (a0 a1 a2 a3 : Value) (g : G) (n : Nat) (K : Cont) : Prop :=
kNew [(.int .i64 0), (.int .i64 0), (.int .i64 0), (.int .i64 0), (.int .i64 0)] .exact g n fun l8 g1 n8 =>
kFill [(.int .i64 0), (.int .i64 0), (.int .i64 0), (.int .i64 0), (.int .i64 0)] [(0, none, a0), (1, none, a1), (2, none, a2), (3, none, a3)] fun c13 =>
kAgg (.agg c13.toArray) fun cg2 =>
cg2.length = 5 ∧ kStN g1 l8 0 cg2 fun g2 =>
kLdN g2 l8 0 5 fun r0 =>
aRet K (.agg r0.toArray) g2 n8

theorem undo_three_eq (C : CT) (a0 a1 a2 a3 : Value) (g : G) (n : Nat) (K : Cont) : undo_three C a0 a1 a2 a3 g n K = abody Tryz.prog C undo_three_id [a0, a1, a2, a3] g n K := by kernel_rfl

/- bellows/layout.Count -/
def layout_Count (C : CT) (a0 : Value) (g : G) (n : Nat) (K : Cont) : Prop :=
kAgg a0 fun c1 =>
kNew c1 .exact g n fun l1 g1 n1 =>
kLdN g1 l1 0 9 fun c4 =>
C layout_of_id [(.agg c4.toArray)] g1 n1 fun v5 g2 n5 =>
kNil v5 fun v7 =>
kPtr v7 fun l8 o8 =>
kLd g2 l8 (o8 + 3) fun v9 =>
kUn .not v9 fun v10 =>
kSplit v10 (
aRet K (.int .u64 0) g2 n5) (
kNil v5 fun v12 =>
kPtr v12 fun l13 o13 =>
kLd g2 l13 (o13 + 4) fun v14 =>
kBin .int .sub v14 (.int .i64 1) fun v15 =>
C word_Addr_id [v15, (.int .i64 0)] g2 n5 fun v16 g3 n16 =>
aRet K v16 g3 n16)

theorem layout_Count_eq (C : CT) (a0 : Value) (g : G) (n : Nat) (K : Cont) : layout_Count C a0 g n K = abody Tryz.prog C layout_Count_id [a0] g n K := by kernel_rfl

/- bellows/bellowsref22.Words -/
def bellowsref22_Words (C : CT) (a0 : Value) (g : G) (n : Nat) (K : Cont) : Prop :=
kAgg a0 fun c1 =>
kNew c1 .exact g n fun l1 g1 n1 =>
kLdN g1 l1 0 9 fun c3 =>
C bellowsref22_Good_id [(.agg c3.toArray)] g1 n1 fun v4 g2 n4 =>
kUn .not v4 fun v5 =>
kSplit v5 (
aRet K (.int .i64 0) g2 n4) (
kLd g2 l1 (0 + 8) fun v7 =>
kBin .int .mul (.int .i64 8) v7 fun v8 =>
aRet K v8 g2 n4)

theorem bellowsref22_Words_eq (C : CT) (a0 : Value) (g : G) (n : Nat) (K : Cont) : bellowsref22_Words C a0 g n K = abody Tryz.prog C bellowsref22_Words_id [a0] g n K := by kernel_rfl

/- bellows/bellowsref22.Room -/
def bellowsref22_Room (C : CT) (a0 : Value) (g : G) (n : Nat) (K : Cont) : Prop :=
kAgg a0 fun c1 =>
kNew c1 .exact g n fun l1 g1 n1 =>
kLdN g1 l1 0 9 fun c3 =>
C bellowsref22_Good_id [(.agg c3.toArray)] g1 n1 fun v4 g2 n4 =>
kUn .not v4 fun v5 =>
kSplit v5 (
aRet K (.int .i64 0) g2 n4) (
kLd g2 l1 (0 + 7) fun v7 =>
kBin .int .mul (.int .i64 4) v7 fun v8 =>
aRet K v8 g2 n4)

theorem bellowsref22_Room_eq (C : CT) (a0 : Value) (g : G) (n : Nat) (K : Cont) : bellowsref22_Room C a0 g n K = abody Tryz.prog C bellowsref22_Room_id [a0] g n K := by kernel_rfl

/- (*bellows/bellowsref21.Builder).Jump -/
def bellowsref21_Builder_Jump (C : CT) (a0 a1 a2 : Value) (g : G) (n : Nat) (K : Cont) : Prop :=
kAgg a1 fun c4 =>
kNew c4 .exact g n fun l4 g1 n4 =>
kBin .int .lss a2 (.int .i64 0) fun v7 =>
kSplit v7 (
kNil a0 fun v38 =>
kPtr v38 fun l39 o39 =>
kSt g1 l39 (o39 + 2) (.bool true) fun g2 =>
aRet K (.tuple #[]) g2 n4) (
kNil a0 fun v11 =>
kPtr v11 fun l12 o12 =>
kLd g1 l12 (o12 + 1) fun v13 =>
kLen v13 fun v14 =>
kBin .int .geq a2 v14 fun v15 =>
kSplit v15 (
kNil a0 fun v38 =>
kPtr v38 fun l39 o39 =>
kSt g1 l39 (o39 + 2) (.bool true) fun g3 =>
aRet K (.tuple #[]) g3 n4) (
kLd g1 l4 (0 + 0) fun v19 =>
kBin .int .neq v19 (.int .i64 17) fun v20 =>
kSplit v20 (
kLd g1 l4 (0 + 0) fun v23 =>
kBin .int .neq v23 (.int .i64 18) fun v24 =>
kSplit v24 (
kLd g1 l4 (0 + 0) fun v28 =>
kBin .int .neq v28 (.int .i64 19) fun v29 =>
kSplit v29 (
kLd g1 l4 (0 + 0) fun v33 =>
kBin .int .neq v33 (.int .i64 20) fun v34 =>
kSplit v34 (
kNil a0 fun v38 =>
kPtr v38 fun l39 o39 =>
kSt g1 l39 (o39 + 2) (.bool true) fun g4 =>
aRet K (.tuple #[]) g4 n4) (
kNil a0 fun v42 =>
kPtr v42 fun l43 o43 =>
kLd g1 l43 (o43 + 0) fun v44 =>
kLdN g1 l4 0 5 fun c45 =>
kFill [(.int .i64 0), (.int .i64 0), (.int .i64 0), (.int .i64 0), (.int .i64 0), (.int .i64 0)] [(0, (some 5), (.agg c45.toArray)), (5, none, a2)] fun c47 =>
kFill (reps 1 [(.int .i64 0), (.int .i64 0), (.int .i64 0), (.int .i64 0), (.int .i64 0), (.int .i64 0)]) [(0, (some 6), (.agg c47.toArray))] fun c48 =>
kNew c48 .exact g1 n4 fun l48 g5 n48 =>
(kPtr (ptr l43 (o43 + 0)) fun l _ => g5 l = g1 l) ∧ kAppend v44 (.slice (some ⟨l48, 0, none⟩) 1 1) 6 48 g5 n48 fun v49 g6 n49 =>
kNil a0 fun v50 =>
kPtr v50 fun l51 o51 =>
kSt g6 l51 (o51 + 0) v49 fun g7 =>
aRet K (.tuple #[]) g7 n49)) (
kNil a0 fun v42 =>
kPtr v42 fun l43 o43 =>
kLd g1 l43 (o43 + 0) fun v44 =>
kLdN g1 l4 0 5 fun c45 =>
kFill [(.int .i64 0), (.int .i64 0), (.int .i64 0), (.int .i64 0), (.int .i64 0), (.int .i64 0)] [(0, (some 5), (.agg c45.toArray)), (5, none, a2)] fun c47 =>
kFill (reps 1 [(.int .i64 0), (.int .i64 0), (.int .i64 0), (.int .i64 0), (.int .i64 0), (.int .i64 0)]) [(0, (some 6), (.agg c47.toArray))] fun c48 =>
kNew c48 .exact g1 n4 fun l48 g8 n48 =>
(kPtr (ptr l43 (o43 + 0)) fun l _ => g8 l = g1 l) ∧ kAppend v44 (.slice (some ⟨l48, 0, none⟩) 1 1) 6 48 g8 n48 fun v49 g9 n49 =>
kNil a0 fun v50 =>
kPtr v50 fun l51 o51 =>
kSt g9 l51 (o51 + 0) v49 fun g10 =>
aRet K (.tuple #[]) g10 n49)) (
kNil a0 fun v42 =>
kPtr v42 fun l43 o43 =>
kLd g1 l43 (o43 + 0) fun v44 =>
kLdN g1 l4 0 5 fun c45 =>
kFill [(.int .i64 0), (.int .i64 0), (.int .i64 0), (.int .i64 0), (.int .i64 0), (.int .i64 0)] [(0, (some 5), (.agg c45.toArray)), (5, none, a2)] fun c47 =>
kFill (reps 1 [(.int .i64 0), (.int .i64 0), (.int .i64 0), (.int .i64 0), (.int .i64 0), (.int .i64 0)]) [(0, (some 6), (.agg c47.toArray))] fun c48 =>
kNew c48 .exact g1 n4 fun l48 g11 n48 =>
(kPtr (ptr l43 (o43 + 0)) fun l _ => g11 l = g1 l) ∧ kAppend v44 (.slice (some ⟨l48, 0, none⟩) 1 1) 6 48 g11 n48 fun v49 g12 n49 =>
kNil a0 fun v50 =>
kPtr v50 fun l51 o51 =>
kSt g12 l51 (o51 + 0) v49 fun g13 =>
aRet K (.tuple #[]) g13 n49)) (
kNil a0 fun v42 =>
kPtr v42 fun l43 o43 =>
kLd g1 l43 (o43 + 0) fun v44 =>
kLdN g1 l4 0 5 fun c45 =>
kFill [(.int .i64 0), (.int .i64 0), (.int .i64 0), (.int .i64 0), (.int .i64 0), (.int .i64 0)] [(0, (some 5), (.agg c45.toArray)), (5, none, a2)] fun c47 =>
kFill (reps 1 [(.int .i64 0), (.int .i64 0), (.int .i64 0), (.int .i64 0), (.int .i64 0), (.int .i64 0)]) [(0, (some 6), (.agg c47.toArray))] fun c48 =>
kNew c48 .exact g1 n4 fun l48 g14 n48 =>
(kPtr (ptr l43 (o43 + 0)) fun l _ => g14 l = g1 l) ∧ kAppend v44 (.slice (some ⟨l48, 0, none⟩) 1 1) 6 48 g14 n48 fun v49 g15 n49 =>
kNil a0 fun v50 =>
kPtr v50 fun l51 o51 =>
kSt g15 l51 (o51 + 0) v49 fun g16 =>
aRet K (.tuple #[]) g16 n49)))

theorem bellowsref21_Builder_Jump_eq (C : CT) (a0 a1 a2 : Value) (g : G) (n : Nat) (K : Cont) : bellowsref21_Builder_Jump C a0 a1 a2 g n K = abody Tryz.prog C bellowsref21_Builder_Jump_id [a0, a1, a2] g n K := by kernel_rfl

/- bellows/bellowsref24.op -/
def bellowsref24_op (C : CT) (a0 a1 a2 a3 : Value) (g : G) (n : Nat) (K : Cont) : Prop :=
kNew [(.int .i64 0), (.int .i64 0), (.int .i64 0), (.int .i64 0), (.int .i64 0)] .exact g n fun l8 g1 n8 =>
kFill [(.int .i64 0), (.int .i64 0), (.int .i64 0), (.int .i64 0), (.int .i64 0)] [(0, none, a0), (1, none, a1), (2, none, a2), (3, none, a3)] fun c13 =>
kAgg (.agg c13.toArray) fun cg2 =>
cg2.length = 5 ∧ kStN g1 l8 0 cg2 fun g2 =>
kLdN g2 l8 0 5 fun r0 =>
aRet K (.agg r0.toArray) g2 n8

theorem bellowsref24_op_eq (C : CT) (a0 a1 a2 a3 : Value) (g : G) (n : Nat) (K : Cont) : bellowsref24_op C a0 a1 a2 a3 g n K = abody Tryz.prog C bellowsref24_op_id [a0, a1, a2, a3] g n K := by kernel_rfl

/- bellows/bellowsref24.entry -/
def bellowsref24_entry (C : CT) (a0 a1 : Value) (g : G) (n : Nat) (K : Cont) : Prop :=
kAgg a1 fun c3 =>
kNew c3 .exact g n fun l3 g1 n3 =>
kLdN g1 l3 0 9 fun c7 =>
C bellowsref24_li_id [(.int .i64 0), (.int .u64 4)] g1 n3 fun v5 g2 n5 =>
(kPtr (ptr l3 0) fun l _ => g2 l = g1 l) ∧ C bellowsref24_op_id [(.int .i64 6), (.int .i64 6), (.int .i64 7), (.int .i64 0)] g2 n5 fun v6 g3 n6 =>
(kPtr (ptr l3 0) fun l _ => g3 l = g2 l) ∧ C bellowsref22_Entry_id [(.agg c7.toArray), (.int .i64 0)] g3 n6 fun v8 g4 n8 =>
C bellowsref24_li_id [(.int .i64 0), v8] g4 n8 fun v9 g5 n9 =>
C bellowsref24_op_id [(.int .i64 2), (.int .i64 6), (.int .i64 6), (.int .i64 0)] g5 n9 fun v10 g6 n10 =>
kFill (reps 4 [(.int .i64 0), (.int .i64 0), (.int .i64 0), (.int .i64 0), (.int .i64 0)]) [(0, (some 5), v5), (5, (some 5), v6), (10, (some 5), v9), (15, (some 5), v10)] fun c11 =>
kNew c11 .exact g6 n10 fun l11 g7 n11 =>
C bellowsref21_Builder_Add_id [a0, (.slice (some ⟨l11, 0, none⟩) 4 4)] g7 n11 fun v12 g8 n12 =>
aRet K (.tuple #[]) g8 n12

theorem bellowsref24_entry_eq (C : CT) (a0 a1 : Value) (g : G) (n : Nat) (K : Cont) : bellowsref24_entry C a0 a1 g n K = abody Tryz.prog C bellowsref24_entry_id [a0, a1] g n K := by kernel_rfl

/- bellows/bellowsref22.Word -/
def bellowsref22_Word (C : CT) (a0 a1 : Value) (g : G) (n : Nat) (K : Cont) : Prop :=
kAgg a0 fun c2 =>
kNew c2 .exact g n fun l2 g1 n2 =>
kBin .int .lss a1 (.int .i64 0) fun v6 =>
kSplit v6 (
aRet K (.int .u64 0) g1 n2) (
kLdN g1 l2 0 9 fun c9 =>
C bellowsref22_Words_id [(.agg c9.toArray)] g1 n2 fun v10 g2 n10 =>
kBin .int .geq a1 v10 fun v11 =>
kSplit v11 (
aRet K (.int .u64 0) g2 n10) (
kLdN g2 l2 0 9 fun c13 =>
C bellowsref22_First_id [(.agg c13.toArray)] g2 n10 fun v14 g3 n14 =>
kBin .int .quo a1 (.int .i64 8) fun v16 =>
kBin .int .add v14 v16 fun v17 =>
kBin .int .rem a1 (.int .i64 8) fun v19 =>
C bellowsref01_Addr_id [v17, v19] g3 n14 fun v20 g4 n20 =>
aRet K v20 g4 n20))

theorem bellowsref22_Word_eq (C : CT) (a0 a1 : Value) (g : G) (n : Nat) (K : Cont) : bellowsref22_Word C a0 a1 g n K = abody Tryz.prog C bellowsref22_Word_id [a0, a1] g n K := by kernel_rfl

/- bellows/bellowsref24.mem -/
def bellowsref24_mem (C : CT) (a0 a1 a2 a3 : Value) (g : G) (n : Nat) (K : Cont) : Prop :=
kNew [(.int .i64 0), (.int .i64 0), (.int .i64 0), (.int .i64 0), (.int .i64 0)] .exact g n fun l8 g1 n8 =>
kFill [(.int .i64 0), (.int .i64 0), (.int .i64 0), (.int .i64 0), (.int .i64 0)] [(0, none, a0), (1, none, a1), (2, none, a2), (4, none, a3)] fun c13 =>
kAgg (.agg c13.toArray) fun cg2 =>
cg2.length = 5 ∧ kStN g1 l8 0 cg2 fun g2 =>
kLdN g2 l8 0 5 fun r0 =>
aRet K (.agg r0.toArray) g2 n8

theorem bellowsref24_mem_eq (C : CT) (a0 a1 a2 a3 : Value) (g : G) (n : Nat) (K : Cont) : bellowsref24_mem C a0 a1 a2 a3 g n K = abody Tryz.prog C bellowsref24_mem_id [a0, a1, a2, a3] g n K := by kernel_rfl

/- bellows/bellowsref24.count -/
def bellowsref24_count_j1 (C : CT) (K : Cont) (t : Env) (g : G) (n : Nat) : Prop :=
C bellowsref24_mem_id [(.int .i64 9), (t 2), (.int .i64 6), (.int .i64 0)] g n fun v21 g9 n21 =>
C bellowsref24_mem_id [(.int .i64 12), (.int .i64 0), (.int .i64 6), (.int .i64 0)] g9 n21 fun v22 g10 n22 =>
C bellowsref24_op_id [(.int .i64 15), (.int .i64 0), (.int .i64 0), (.int .i64 0)] g10 n22 fun v23 g11 n23 =>
kFill (reps 3 [(.int .i64 0), (.int .i64 0), (.int .i64 0), (.int .i64 0), (.int .i64 0)]) [(0, (some 5), v21), (5, (some 5), v22), (10, (some 5), v23)] fun c24 =>
kNew c24 .exact g11 n23 fun l24 g12 n24 =>
C bellowsref21_Builder_Add_id [(t 0), (.slice (some ⟨l24, 0, none⟩) 3 3)] g12 n24 fun v25 g13 n25 =>
aRet K (.tuple #[]) g13 n25

def bellowsref24_count (C : CT) (a0 a1 a2 a3 : Value) (g : G) (n : Nat) (K : Cont) : Prop :=
kAgg a1 fun c5 =>
kNew c5 .exact g n fun l5 g1 n5 =>
kLdN g1 l5 0 9 fun c9 =>
C bellowsref22_Count_id [(.agg c9.toArray)] g1 n5 fun v10 g2 n10 =>
C bellowsref24_li_id [(.int .i64 6), v10] g2 n10 fun v11 g3 n11 =>
kFill (reps 1 [(.int .i64 0), (.int .i64 0), (.int .i64 0), (.int .i64 0), (.int .i64 0)]) [(0, (some 5), v11)] fun c12 =>
kNew c12 .exact g3 n11 fun l12 g4 n12 =>
C bellowsref21_Builder_Add_id [a0, (.slice (some ⟨l12, 0, none⟩) 1 1)] g4 n12 fun v13 g5 n13 =>
kSplit a3 (
C bellowsref24_li_id [(.int .i64 0), (.int .u64 0)] g5 n13 fun v16 g6 n16 =>
kFill (reps 1 [(.int .i64 0), (.int .i64 0), (.int .i64 0), (.int .i64 0), (.int .i64 0)]) [(0, (some 5), v16)] fun c17 =>
kNew c17 .exact g6 n16 fun l17 g7 n17 =>
C bellowsref21_Builder_Add_id [a0, (.slice (some ⟨l17, 0, none⟩) 1 1)] g7 n17 fun v18 g8 n18 =>
bellowsref24_count_j1 C K (puts (args0 [a0, a1, a2, a3]) [(5, (ptr l5 0)), (8, a0), (9, (.agg c9.toArray)), (10, v10), (11, v11), (12, (.slice (some ⟨l12, 0, none⟩) 1 1)), (13, v13), (14, a3), (15, a0), (16, v16), (17, (.slice (some ⟨l17, 0, none⟩) 1 1)), (18, v18)]) g8 n18) (
bellowsref24_count_j1 C K (puts (args0 [a0, a1, a2, a3]) [(5, (ptr l5 0)), (8, a0), (9, (.agg c9.toArray)), (10, v10), (11, v11), (12, (.slice (some ⟨l12, 0, none⟩) 1 1)), (13, v13), (14, a3)]) g5 n13)

theorem bellowsref24_count_eq (C : CT) (a0 a1 a2 a3 : Value) (g : G) (n : Nat) (K : Cont) : bellowsref24_count C a0 a1 a2 a3 g n K = abody Tryz.prog C bellowsref24_count_id [a0, a1, a2, a3] g n K := by kernel_rfl

/- slices.Sort[[]uint64,uint64] -/
def slices_Sort_uint64_uint64 (C : CT) (a0 : Value) (g : G) (n : Nat) (K : Cont) : Prop :=
kLen a0 fun v4 =>
kConv .u64 v4 fun v8 =>
C math_bits_Len_id [v8] g n fun v9 g1 n9 =>
C slices_pdqsortOrdered_uint64_id [a0, (.int .i64 0), v4, v9] g1 n9 fun v10 g2 n10 =>
aRet K (.tuple #[]) g2 n10

theorem slices_Sort_uint64_uint64_eq (C : CT) (a0 : Value) (g : G) (n : Nat) (K : Cont) : slices_Sort_uint64_uint64 C a0 g n K = abody Tryz.prog C slices_Sort_uint64_uint64_id [a0] g n K := by kernel_rfl

/- bellows/undo.nought -/
def undo_nought (C : CT) (a0 : Value) (g : G) (n : Nat) (K : Cont) : Prop :=
kAgg a0 fun c1 =>
kNew c1 .exact g n fun l1 g1 n1 =>
kLdN g1 l1 0 9 fun c4 =>
C undo_fence_id [] g1 n1 fun v3 g2 n3 =>
(kPtr (ptr l1 0) fun l _ => g2 l = g1 l) ∧ C layout_Count_id [(.agg c4.toArray)] g2 n3 fun v5 g3 n5 =>
C undo_li_id [(.int .i64 6), v5] g3 n5 fun v6 g4 n6 =>
C undo_li_id [(.int .i64 0), (.int .u64 0)] g4 n6 fun v7 g5 n7 =>
C undo_st_id [(.int .i64 0), (.int .i64 6), (.int .i64 0)] g5 n7 fun v8 g6 n8 =>
C undo_clwb_id [(.int .i64 6)] g6 n8 fun v9 g7 n9 =>
C undo_fence_id [] g7 n9 fun v10 g8 n10 =>
kFill (reps 6 [(.int .i64 0), (.int .i64 0), (.int .i64 0), (.int .i64 0), (.int .i64 0)]) [(0, (some 5), v3), (5, (some 5), v6), (10, (some 5), v7), (15, (some 5), v8), (20, (some 5), v9), (25, (some 5), v10)] fun c11 =>
kNew c11 .exact g8 n10 fun l11 g9 n11 =>
aRet K (.slice (some ⟨l11, 0, none⟩) 6 6) g9 n11

theorem undo_nought_eq (C : CT) (a0 : Value) (g : G) (n : Nat) (K : Cont) : undo_nought C a0 g n K = abody Tryz.prog C undo_nought_id [a0] g n K := by kernel_rfl

/- bellows/bellowsref22.Good -/
def bellowsref22_Good (C : CT) (a0 : Value) (g : G) (n : Nat) (K : Cont) : Prop :=
kAgg a0 fun c1 =>
kNew c1 .exact g n fun l1 g1 n1 =>
kLdN g1 l1 (0 + 0) 7 fun c4 =>
C bellowsref01_Good_id [(.agg c4.toArray)] g1 n1 fun v5 g2 n5 =>
kSplit v5 (
kLd g2 l1 (0 + 7) fun v8 =>
kBin .int .geq v8 (.int .i64 1) fun v9 =>
kSplit v9 (
kLd g2 l1 (0 + 7) fun v13 =>
kBin .int .leq v13 (.int .i64 16) fun v14 =>
kSplit v14 (
kLd g2 l1 (0 + 8) fun v18 =>
kBin .int .geq v18 (.int .i64 1) fun v19 =>
kSplit v19 (
kLd g2 l1 (0 + 8) fun v23 =>
kBin .int .leq v23 (.int .i64 16) fun v24 =>
kSplit v24 (
kLd g2 l1 (0 + 0 + 1) fun v29 =>
kLd g2 l1 (0 + 0 + 2) fun v32 =>
kBin .int .add v32 (.int .i64 1) fun v33 =>
kLd g2 l1 (0 + 7) fun v35 =>
kBin .int .add v33 v35 fun v36 =>
kLd g2 l1 (0 + 8) fun v38 =>
kBin .int .add v36 v38 fun v39 =>
kBin .int .geq v29 v39 fun v40 =>
aRet K v40 g2 n5) (
aRet K (.bool false) g2 n5)) (
aRet K (.bool false) g2 n5)) (
aRet K (.bool false) g2 n5)) (
aRet K (.bool false) g2 n5)) (
aRet K (.bool false) g2 n5)

theorem bellowsref22_Good_eq (C : CT) (a0 : Value) (g : G) (n : Nat) (K : Cont) : bellowsref22_Good C a0 g n K = abody Tryz.prog C bellowsref22_Good_id [a0] g n K := by kernel_rfl

/- (*bellows/emit.Builder).is -/
def emit_Builder_is (C : CT) (a0 a1 : Value) (g : G) (n : Nat) (K : Cont) : Prop :=
kBin .int .geq a1 (.int .i64 0) fun v6 =>
kSplit v6 (
kNil a0 fun v10 =>
kPtr v10 fun l11 o11 =>
kLd g l11 (o11 + 1) fun v12 =>
kLen v12 fun v13 =>
kBin .int .lss a1 v13 fun v14 =>
aRet K v14 g n) (
aRet K (.bool false) g n)

theorem emit_Builder_is_eq (C : CT) (a0 a1 : Value) (g : G) (n : Nat) (K : Cont) : emit_Builder_is C a0 a1 g n K = abody Tryz.prog C emit_Builder_is_id [a0, a1] g n K := by kernel_rfl

/- slices.Clone[[]bellows/api.Ins,bellows/api.Ins] -/
def slices_Clone_api_Ins_api_Ins (C : CT) (a0 : Value) (g : G) (n : Nat) (K : Cont) : Prop :=
kBin .slice .eql a0 (.slice none 0 0) fun v4 =>
kSplit v4 (
aRet K (.slice none 0 0) g n) (
kFill (reps 0 [(.int .i64 0), (.int .i64 0), (.int .i64 0), (.int .i64 0), (.int .i64 0)]) [] fun c5 =>
kNew c5 .exact g n fun l5 g1 n5 =>
kAppend (.slice (some ⟨l5, 0, none⟩) 0 0) a0 5 40 g1 n5 fun v7 g2 n7 =>
aRet K v7 g2 n7)

theorem slices_Clone_api_Ins_api_Ins_eq (C : CT) (a0 : Value) (g : G) (n : Nat) (K : Cont) : slices_Clone_api_Ins_api_Ins C a0 g n K = abody Tryz.prog C slices_Clone_api_Ins_api_Ins_id [a0] g n K := by kernel_rfl

/- bellows/isa.Encode -/
def isa_Encode (C : CT) (a0 : Value) (g : G) (n : Nat) (K : Cont) : Prop :=
kAgg a0 fun c1 =>
kNew c1 .exact g n fun l1 g1 n1 =>
kLdN g1 l1 0 5 fun c4 =>
C isa_Good_id [(.agg c4.toArray)] g1 n1 fun v5 g2 n5 =>
kUn .not v5 fun v6 =>
kSplit v6 (
aRet K (.tuple #[(.int .u64 0), (.int .i64 11)]) g2 n5) (
kLd g2 l1 (0 + 0) fun v8 =>
kConv .u64 v8 fun v9 =>
kLd g2 l1 (0 + 1) fun v11 =>
kConv .u64 v11 fun v12 =>
kBin .int .shl v12 (.int .u64 8) fun v13 =>
kBin .int .or v9 v13 fun v14 =>
kLd g2 l1 (0 + 2) fun v16 =>
kConv .u64 v16 fun v17 =>
kBin .int .shl v17 (.int .u64 12) fun v18 =>
kBin .int .or v14 v18 fun v19 =>
kLd g2 l1 (0 + 3) fun v21 =>
kConv .u64 v21 fun v22 =>
kBin .int .shl v22 (.int .u64 16) fun v23 =>
kBin .int .or v19 v23 fun v24 =>
kLd g2 l1 (0 + 4) fun v26 =>
kConv .u64 v26 fun v27 =>
kBin .int .shl v27 (.int .u64 32) fun v28 =>
kBin .int .or v24 v28 fun v29 =>
aRet K (.tuple #[v29, (.int .i64 0)]) g2 n5)

theorem isa_Encode_eq (C : CT) (a0 : Value) (g : G) (n : Nat) (K : Cont) : isa_Encode C a0 g n K = abody Tryz.prog C isa_Encode_id [a0] g n K := by kernel_rfl

/- bellows/bellowsref10.Encode -/
def bellowsref10_Encode_j1 (C : CT) (K : Cont) (t : Env) (g : G) (n : Nat) : Prop :=
kPtr (t 1) fun l14 o14 =>
kLd g l14 (o14 + 0) fun v15 =>
kConv .u64 v15 fun v16 =>
kPtr (t 1) fun l17 o17 =>
kLd g l17 (o17 + 1) fun v18 =>
kConv .u64 v18 fun v19 =>
kBin .int .shl v19 (.int .u64 8) fun v20 =>
kBin .int .add v16 v20 fun v21 =>
kPtr (t 1) fun l22 o22 =>
kLd g l22 (o22 + 2) fun v23 =>
kConv .u64 v23 fun v24 =>
kBin .int .shl v24 (.int .u64 12) fun v25 =>
kBin .int .add v21 v25 fun v26 =>
kPtr (t 1) fun l27 o27 =>
kLd g l27 (o27 + 3) fun v28 =>
kConv .u64 v28 fun v29 =>
kBin .int .shl v29 (.int .u64 16) fun v30 =>
kBin .int .add v26 v30 fun v31 =>
kConv .u64 (t 4) fun v33 =>
kBin .int .shl v33 (.int .u64 32) fun v34 =>
kBin .int .add v31 v34 fun v35 =>
aRet K (.tuple #[v35, (.int .i64 0)]) g n

def bellowsref10_Encode (C : CT) (a0 : Value) (g : G) (n : Nat) (K : Cont) : Prop :=
kAgg a0 fun c1 =>
kNew c1 .exact g n fun l1 g1 n1 =>
kLdN g1 l1 0 5 fun c5 =>
C bellowsref10_Good_id [(.agg c5.toArray)] g1 n1 fun v6 g2 n6 =>
kUn .not v6 fun v7 =>
kSplit v7 (
aRet K (.tuple #[(.int .u64 0), (.int .i64 11)]) g2 n6) (
kLd g2 l1 (0 + 4) fun v9 =>
kBin .int .lss v9 (.int .i64 0) fun v11 =>
kSplit v11 (
kBin .int .add v9 (.int .i64 4294967296) fun v13 =>
bellowsref10_Encode_j1 C K (puts (args0 [a0]) [(1, (ptr l1 0)), (2, (.int .u64 0)), (3, (.int .i64 0)), (5, (.agg c5.toArray)), (6, v6), (7, v7), (8, (ptr l1 (0 + 4))), (9, v9), (4, v9), (10, v9), (11, v11), (12, v9), (13, v13), (4, v13)]) g2 n6) (
bellowsref10_Encode_j1 C K (puts (args0 [a0]) [(1, (ptr l1 0)), (2, (.int .u64 0)), (3, (.int .i64 0)), (5, (.agg c5.toArray)), (6, v6), (7, v7), (8, (ptr l1 (0 + 4))), (9, v9), (4, v9), (10, v9), (11, v11)]) g2 n6))

theorem bellowsref10_Encode_eq (C : CT) (a0 : Value) (g : G) (n : Nat) (K : Cont) : bellowsref10_Encode C a0 g n K = abody Tryz.prog C bellowsref10_Encode_id [a0] g n K := by kernel_rfl

/- bellows/bellowsref22.Count -/
def bellowsref22_Count (C : CT) (a0 : Value) (g : G) (n : Nat) (K : Cont) : Prop :=
kAgg a0 fun c1 =>
kNew c1 .exact g n fun l1 g1 n1 =>
kLdN g1 l1 0 9 fun c3 =>
C bellowsref22_Good_id [(.agg c3.toArray)] g1 n1 fun v4 g2 n4 =>
kUn .not v4 fun v5 =>
kSplit v5 (
aRet K (.int .u64 0) g2 n4) (
kLd g2 l1 (0 + 0 + 2) fun v8 =>
C bellowsref01_Addr_id [v8, (.int .i64 0)] g2 n4 fun v9 g3 n9 =>
aRet K v9 g3 n9)

theorem bellowsref22_Count_eq (C : CT) (a0 : Value) (g : G) (n : Nat) (K : Cont) : bellowsref22_Count C a0 g n K = abody Tryz.prog C bellowsref22_Count_id [a0] g n K := by kernel_rfl

/- (*bellows/client.writer).tx -/
def client_writer_tx_j2 (C : CT) (K : Cont) (J : ECont) (t : Env) (g : G) (n : Nat) : Prop :=
J t g n

def client_writer_tx_l1 (C : CT) (K : Cont) (J : ECont) (I_l1 : ECont) (t : Env) (g : G) (n : Nat) : Prop :=
kBin .int .lss (t 49) (t 48) fun v50 =>
kSplit v50 (
kIndexAddr (t 47) (t 49) 3 fun v51 =>
kPtr v51 fun l52 o52 =>
kLdN g l52 o52 3 fun c52 =>
kNew [(.int .i64 0), (.int .i64 0), (.int .u64 0)] .exact g n fun l6 g11 n6 =>
kAgg (.agg c52.toArray) fun cg12 =>
cg12.length = 3 ∧ kStN g11 l6 0 cg12 fun g12 =>
kLd g12 l6 (0 + 1) fun v54 =>
kBin .int .lss v54 (.int .i64 0) fun v55 =>
kSplit v55 (
C client_writer_li_id [(t 0), (.int .i64 5), (.int .u64 103)] g12 n6 fun v67 g13 n67 =>
kNil (t 0) fun v70 =>
kPtr v70 fun l71 o71 =>
kLd g13 l71 (o71 + 11) fun v72 =>
C client_writer_jump_id [(t 0), v72] g13 n67 fun v73 g14 n73 =>
kBin .int .add (t 49) (.int .i64 1) fun v89 =>
I_l1 (puts t [(50, v50), (51, v51), (52, (.agg c52.toArray)), (6, (ptr l6 0)), (53, (ptr l6 (0 + 1))), (54, v54), (55, v55), (56, (.bool true)), (57, undef), (58, undef), (59, undef), (60, undef), (61, undef), (62, undef), (63, undef), (64, undef), (65, (.bool true)), (66, (t 0)), (67, v67), (68, (t 0)), (69, (t 0)), (70, v70), (71, (ptr l71 (o71 + 11))), (72, v72), (73, v73), (89, v89), (49, v89)]) g14 n73) (
kLd g12 l6 (0 + 1) fun v58 =>
kNil (t 0) fun v60 =>
kPtr v60 fun l61 o61 =>
kLdN g12 l61 (o61 + 1) 9 fun c62 =>
C layout_Words_id [(.agg c62.toArray)] g12 n6 fun v63 g15 n63 =>
(kPtr (ptr l6 (0 + 1)) fun l _ => g15 l = g12 l) ∧ kBin .int .geq v58 v63 fun v64 =>
kSplit v64 (
C client_writer_li_id [(t 0), (.int .i64 5), (.int .u64 103)] g15 n63 fun v67 g16 n67 =>
kNil (t 0) fun v70 =>
kPtr v70 fun l71 o71 =>
kLd g16 l71 (o71 + 11) fun v72 =>
C client_writer_jump_id [(t 0), v72] g16 n67 fun v73 g17 n73 =>
kBin .int .add (t 49) (.int .i64 1) fun v89 =>
I_l1 (puts t [(50, v50), (51, v51), (52, (.agg c52.toArray)), (6, (ptr l6 0)), (53, (ptr l6 (0 + 1))), (54, v54), (55, v55), (56, (.bool false)), (57, (ptr l6 (0 + 1))), (58, v58), (59, (t 0)), (60, v60), (61, (ptr l61 (o61 + 1))), (62, (.agg c62.toArray)), (63, v63), (64, v64), (65, v64), (66, (t 0)), (67, v67), (68, (t 0)), (69, (t 0)), (70, v70), (71, (ptr l71 (o71 + 11))), (72, v72), (73, v73), (89, v89), (49, v89)]) g17 n73) (
kLd g15 l6 (0 + 0) fun v76 =>
kLdN g15 l6 0 3 fun c79 =>
C client_does_id [] g15 n63 fun v74 g18 n74 =>
(kPtr (ptr l6 (0 + 0)) fun l _ => g18 l = g15 l) ∧ (kPtr (ptr l6 0) fun l _ => g18 l = g15 l) ∧ kIdx v74 v76 5 1 none fun v77 =>
kCall C v77 [(t 0), (.agg c79.toArray)] g18 n74 fun v80 g19 n80 =>
kLd g19 l6 (0 + 0) fun v82 =>
kBin .int .neq v82 (.int .i64 1) fun v83 =>
kSplit v83 (
kLd g19 l6 (0 + 1) fun v86 =>
kFill (reps 1 [(.int .i64 0)]) [(0, none, v86)] fun c87 =>
kNew c87 .exact g19 n80 fun l87 g20 n87 =>
kAppend (t 4) (.slice (some ⟨l87, 0, none⟩) 1 1) 1 8 g20 n87 fun v88 g21 n88 =>
kBin .int .add (t 49) (.int .i64 1) fun v89 =>
I_l1 (puts t [(50, v50), (51, v51), (52, (.agg c52.toArray)), (6, (ptr l6 0)), (53, (ptr l6 (0 + 1))), (54, v54), (55, v55), (56, (.bool false)), (57, (ptr l6 (0 + 1))), (58, v58), (59, (t 0)), (60, v60), (61, (ptr l61 (o61 + 1))), (62, (.agg c62.toArray)), (63, v63), (64, v64), (65, v64), (75, (ptr l6 (0 + 0))), (76, v76), (78, (t 0)), (79, (.agg c79.toArray)), (74, v74), (77, v77), (80, v80), (81, (ptr l6 (0 + 0))), (82, v82), (83, v83), (84, (t 4)), (85, (ptr l6 (0 + 1))), (86, v86), (87, (.slice (some ⟨l87, 0, none⟩) 1 1)), (88, v88), (4, v88), (89, v89), (49, v89)]) g21 n88) (
kBin .int .add (t 49) (.int .i64 1) fun v89 =>
I_l1 (puts t [(50, v50), (51, v51), (52, (.agg c52.toArray)), (6, (ptr l6 0)), (53, (ptr l6 (0 + 1))), (54, v54), (55, v55), (56, (.bool false)), (57, (ptr l6 (0 + 1))), (58, v58), (59, (t 0)), (60, v60), (61, (ptr l61 (o61 + 1))), (62, (.agg c62.toArray)), (63, v63), (64, v64), (65, v64), (75, (ptr l6 (0 + 0))), (76, v76), (78, (t 0)), (79, (.agg c79.toArray)), (74, v74), (77, v77), (80, v80), (81, (ptr l6 (0 + 0))), (82, v82), (83, v83), (89, v89), (49, v89)]) g19 n80)))) (
client_writer_tx_j2 C K J (puts t [(50, v50)]) g n)

def client_writer_tx_j3 (C : CT) (K : Cont) (J : ECont) (t : Env) (g : G) (n : Nat) : Prop :=
J t g n

def client_writer_tx_cut3 (C : CT) (K : Cont) (t : Env) (g : G) (n : Nat) : Prop :=
kNil (t 0) fun v148 =>
kPtr v148 fun l149 o149 =>
kLd g l149 (o149 + 0) fun v150 =>
kNil (t 0) fun v152 =>
kPtr v152 fun l153 o153 =>
kLd g l153 (o153 + 12) fun v154 =>
C emit_Builder_Here_id [v150, v154] g n fun v155 g31 n155 =>
kNil (t 0) fun v157 =>
kPtr v157 fun l158 o158 =>
kLd g31 l158 (o158 + 0) fun v159 =>
kNil (t 0) fun v161 =>
kPtr v161 fun l162 o162 =>
kLdN g31 l162 (o162 + 1) 9 fun c163 =>
C layout_Lock_id [(.agg c163.toArray)] g31 n155 fun v164 g32 n164 =>
(kPtr (ptr l158 (o158 + 0)) fun l _ => g32 l = g31 l) ∧ C lock_Give_id [v159, v164] g32 n164 fun v165 g33 n165 =>
C client_writer_tell_id [(t 0), (.int .i64 5)] g33 n165 fun v167 g34 n167 =>
aRet K (.tuple #[]) g34 n167

def client_writer_tx_cut2 (C : CT) (K : Cont) (J : ECont) (t : Env) (g : G) (n : Nat) : Prop :=
kNil (t 0) fun v119 =>
kPtr v119 fun l120 o120 =>
kLd g l120 (o120 + 0) fun v121 =>
kNil (t 0) fun v123 =>
kPtr v123 fun l124 o124 =>
kLd g l124 (o124 + 10) fun v125 =>
C emit_Builder_Here_id [v121, v125] g n fun v126 g27 n126 =>
C client_writer_li_id [(t 0), (.int .i64 5), (.int .u64 102)] g27 n126 fun v128 g28 n128 =>
kNil (t 0) fun v130 =>
kPtr v130 fun l131 o131 =>
kLd g28 l131 (o131 + 0) fun v132 =>
kNil (t 0) fun v134 =>
kPtr v134 fun l135 o135 =>
kLd g28 l135 (o135 + 11) fun v136 =>
C emit_Builder_Here_id [v132, v136] g28 n128 fun v137 g29 n137 =>
kNil (t 0) fun v139 =>
kPtr v139 fun l140 o140 =>
kLd g29 l140 (o140 + 0) fun v141 =>
kNil (t 0) fun v143 =>
kPtr v143 fun l144 o144 =>
kLdN g29 l144 (o144 + 1) 9 fun c145 =>
C undo_Back_id [v141, (.agg c145.toArray)] g29 n137 fun v146 g30 n146 =>
J (puts t [(118, (t 0)), (119, v119), (120, (ptr l120 (o120 + 0))), (121, v121), (122, (t 0)), (123, v123), (124, (ptr l124 (o124 + 10))), (125, v125), (126, v126), (127, (t 0)), (128, v128), (129, (t 0)), (130, v130), (131, (ptr l131 (o131 + 0))), (132, v132), (133, (t 0)), (134, v134), (135, (ptr l135 (o135 + 11))), (136, v136), (137, v137), (138, (t 0)), (139, v139), (140, (ptr l140 (o140 + 0))), (141, v141), (142, (t 0)), (143, v143), (144, (ptr l144 (o144 + 1))), (145, (.agg c145.toArray)), (146, v146)]) g30 n146

def client_writer_tx_cut1 (C : CT) (K : Cont) (J : ECont) (t : Env) (g : G) (n : Nat) : Prop :=
kPtr (t 3) fun l90 o90 =>
kLd g l90 (o90 + 1) fun v91 =>
kSplit v91 (
C client_writer_li_id [(t 0), (.int .i64 5), (.int .u64 104)] g n fun v93 g22 n93 =>
kNil (t 0) fun v96 =>
kPtr v96 fun l97 o97 =>
kLd g22 l97 (o97 + 11) fun v98 =>
C client_writer_jump_id [(t 0), v98] g22 n93 fun v99 g23 n99 =>
client_writer_tx_j3 C K J (puts t [(90, (ptr l90 (o90 + 1))), (91, v91), (92, (t 0)), (93, v93), (94, (t 0)), (95, (t 0)), (96, v96), (97, (ptr l97 (o97 + 11))), (98, v98), (99, v99)]) g23 n99) (
kNil (t 0) fun v101 =>
kPtr v101 fun l102 o102 =>
kLd g l102 (o102 + 0) fun v103 =>
kNil (t 0) fun v105 =>
kPtr v105 fun l106 o106 =>
kLdN g l106 (o106 + 1) 9 fun c107 =>
C undo_Commit_id [v103, (.agg c107.toArray), (t 4)] g n fun v109 g24 n109 =>
C client_writer_li_id [(t 0), (.int .i64 5), (.int .u64 101)] g24 n109 fun v111 g25 n111 =>
kNil (t 0) fun v114 =>
kPtr v114 fun l115 o115 =>
kLd g25 l115 (o115 + 12) fun v116 =>
C client_writer_jump_id [(t 0), v116] g25 n111 fun v117 g26 n117 =>
client_writer_tx_j3 C K J (puts t [(90, (ptr l90 (o90 + 1))), (91, v91), (100, (t 0)), (101, v101), (102, (ptr l102 (o102 + 0))), (103, v103), (104, (t 0)), (105, v105), (106, (ptr l106 (o106 + 1))), (107, (.agg c107.toArray)), (108, (t 4)), (109, v109), (110, (t 0)), (111, v111), (112, (t 0)), (113, (t 0)), (114, v114), (115, (ptr l115 (o115 + 12))), (116, v116), (117, v117)]) g26 n117)

def client_writer_tx_c (C : CT) (a0 a1 : Value) (J : ECont) (g : G) (n : Nat) (K : Cont) : Prop :=
kAgg a1 fun c3 =>
kNew c3 .exact g n fun l3 g1 n3 =>
kNil a0 fun v11 =>
kPtr v11 fun l12 o12 =>
kLd g1 l12 (o12 + 0) fun v13 =>
kNil a0 fun v16 =>
kPtr v16 fun l17 o17 =>
kLd g1 l17 (o17 + 0) fun v18 =>
kNil a0 fun v21 =>
kPtr v21 fun l22 o22 =>
kLd g1 l22 (o22 + 0) fun v23 =>
C emit_Builder_Mark_id [v13] g1 n3 fun v14 g2 n14 =>
(kPtr (ptr l17 (o17 + 0)) fun l _ => g2 l = g1 l) ∧ (kPtr (ptr l22 (o22 + 0)) fun l _ => g2 l = g1 l) ∧ C emit_Builder_Mark_id [v18] g2 n14 fun v19 g3 n19 =>
(kPtr (ptr l22 (o22 + 0)) fun l _ => g3 l = g2 l) ∧ C emit_Builder_Mark_id [v23] g3 n19 fun v24 g4 n24 =>
kNil a0 fun v25 =>
kPtr v25 fun l26 o26 =>
kSt g4 l26 (o26 + 10) v14 fun g5 =>
kNil a0 fun v27 =>
kPtr v27 fun l28 o28 =>
kSt g5 l28 (o28 + 11) v19 fun g6 =>
kNil a0 fun v29 =>
kPtr v29 fun l30 o30 =>
kSt g6 l30 (o30 + 12) v24 fun g7 =>
kNil a0 fun v32 =>
kPtr v32 fun l33 o33 =>
kLd g7 l33 (o33 + 0) fun v34 =>
kNil a0 fun v36 =>
kPtr v36 fun l37 o37 =>
kLdN g7 l37 (o37 + 1) 9 fun c38 =>
C layout_Lock_id [(.agg c38.toArray)] g7 n24 fun v39 g8 n39 =>
(kPtr (ptr l33 (o33 + 0)) fun l _ => g8 l = g7 l) ∧ C lock_Take_id [v34, v39] g8 n39 fun v40 g9 n40 =>
kNil a0 fun v42 =>
kPtr v42 fun l43 o43 =>
kLd g9 l43 (o43 + 0) fun v44 =>
C undo_Begin_id [v44] g9 n40 fun v45 g10 n45 =>
kLd g10 l3 (0 + 0) fun v47 =>
kLen v47 fun v48 =>
lfp (client_writer_tx_l1 C K J) (puts (args0 [a0, a1]) [(3, (ptr l3 0)), (7, a0), (8, a0), (9, a0), (10, a0), (11, v11), (12, (ptr l12 (o12 + 0))), (13, v13), (15, a0), (16, v16), (17, (ptr l17 (o17 + 0))), (18, v18), (20, a0), (21, v21), (22, (ptr l22 (o22 + 0))), (23, v23), (14, v14), (19, v19), (24, v24), (25, v25), (26, (ptr l26 (o26 + 10))), (27, v27), (28, (ptr l28 (o28 + 11))), (29, v29), (30, (ptr l30 (o30 + 12))), (31, a0), (32, v32), (33, (ptr l33 (o33 + 0))), (34, v34), (35, a0), (36, v36), (37, (ptr l37 (o37 + 1))), (38, (.agg c38.toArray)), (39, v39), (40, v40), (41, a0), (42, v42), (43, (ptr l43 (o43 + 0))), (44, v44), (45, v45), (4, (.slice none 0 0)), (46, (ptr l3 (0 + 0))), (47, v47), (48, v48), (49, (.int .i64 0))]) g10 n45

def client_writer_tx (C : CT) (a0 a1 : Value) (g : G) (n : Nat) (K : Cont) : Prop := client_writer_tx_c C a0 a1 (client_writer_tx_cut1 C K (client_writer_tx_cut2 C K (client_writer_tx_cut3 C K))) g n K

theorem client_writer_tx_cut3tail (C : CT) (t : Env) (g : G) (n : Nat) (K : Cont) : client_writer_tx_cut3 C K t g n = abodyAt Tryz.prog C [1, 1, 1, 1, 1, 1, 1, 1, 1, 1, 1] client_writer_tx_id K t g n := by kernel_rfl
theorem client_writer_tx_cut3all (C : CT) (K : Cont) : client_writer_tx_cut3 C K = abodyAt Tryz.prog C [1, 1, 1, 1, 1, 1, 1, 1, 1, 1, 1] client_writer_tx_id K := funext fun t => funext fun g => funext fun n => client_writer_tx_cut3tail C t g n K
theorem client_writer_tx_cut2tail (C : CT) (J : ECont) (t : Env) (g : G) (n : Nat) (K : Cont) : client_writer_tx_cut2 C K J t g n = abodyAtCut Tryz.prog C [1, 1, 1, 1, 1, 1, 1] [1, 1, 1, 1] J client_writer_tx_id K t g n := by kernel_rfl
theorem client_writer_tx_cut2all (C : CT) (K : Cont) : client_writer_tx_cut2 C K (client_writer_tx_cut3 C K) = abodyAt Tryz.prog C [1, 1, 1, 1, 1, 1, 1] client_writer_tx_id K := by
  rw [client_writer_tx_cut3all]
  exact (funext fun t => funext fun g => funext fun n => client_writer_tx_cut2tail C _ t g n K).trans (abodyAtCut_eq Tryz.prog C [1, 1, 1, 1, 1, 1, 1] [1, 1, 1, 1] client_writer_tx_id K)
theorem client_writer_tx_cut1tail (C : CT) (J : ECont) (t : Env) (g : G) (n : Nat) (K : Cont) : client_writer_tx_cut1 C K J t g n = abodyAtCut Tryz.prog C [1, 1, 1, 1, 1, 1] [1] J client_writer_tx_id K t g n := by kernel_rfl
theorem client_writer_tx_cut1all (C : CT) (K : Cont) : client_writer_tx_cut1 C K (client_writer_tx_cut2 C K (client_writer_tx_cut3 C K)) = abodyAt Tryz.prog C [1, 1, 1, 1, 1, 1] client_writer_tx_id K := by
  rw [client_writer_tx_cut2all]
  exact (funext fun t => funext fun g => funext fun n => client_writer_tx_cut1tail C _ t g n K).trans (abodyAtCut_eq Tryz.prog C [1, 1, 1, 1, 1, 1] [1] client_writer_tx_id K)
theorem client_writer_tx_cutmain (C : CT) (a0 a1 : Value) (J : ECont) (g : G) (n : Nat) (K : Cont) : client_writer_tx_c C a0 a1 J g n K = abodyCut Tryz.prog C [1, 1, 1, 1, 1, 1] J client_writer_tx_id [a0, a1] g n K := by kernel_rfl
theorem client_writer_tx_eq (C : CT) (a0 a1 : Value) (g : G) (n : Nat) (K : Cont) : client_writer_tx C a0 a1 g n K = abody Tryz.prog C client_writer_tx_id [a0, a1] g n K := by
  unfold client_writer_tx
  rw [client_writer_tx_cutmain, client_writer_tx_cut1all]
  exact abodyCut_eq Tryz.prog C [1, 1, 1, 1, 1, 1] client_writer_tx_id [a0, a1] g n K

/- bellows/bellowsref25.whole -/
def bellowsref25_whole_j2 (C : CT) (K : Cont) (I_l1 : ECont) (t : Env) (g : G) (n : Nat) : Prop :=
kBin .int .add (t 10) (.int .i64 1) fun v27 =>
I_l1 (puts t [(26, (t 10)), (27, v27), (10, v27)]) g n

def bellowsref25_whole_j4 (C : CT) (K : Cont) (t : Env) (g : G) (n : Nat) : Prop :=
C bellowsref21_Builder_Here_id [(t 0), (t 6)] g n fun v78 g15 n78 =>
C bellowsref25_li_id [(.int .i64 5), (.int .u64 102)] g15 n78 fun v80 g16 n80 =>
kFill (reps 1 [(.int .i64 0), (.int .i64 0), (.int .i64 0), (.int .i64 0), (.int .i64 0)]) [(0, (some 5), v80)] fun c81 =>
kNew c81 .exact g16 n80 fun l81 g17 n81 =>
C bellowsref21_Builder_Add_id [(t 0), (.slice (some ⟨l81, 0, none⟩) 1 1)] g17 n81 fun v82 g18 n82 =>
C bellowsref21_Builder_Here_id [(t 0), (t 7)] g18 n82 fun v85 g19 n85 =>
kPtr (t 4) fun l87 o87 =>
kLdN g19 l87 o87 9 fun c87 =>
C bellowsref24_Back_id [(t 0), (.agg c87.toArray)] g19 n85 fun v88 g20 n88 =>
C bellowsref21_Builder_Here_id [(t 0), (t 8)] g20 n88 fun v91 g21 n91 =>
C bellowsref23_Give_id [(t 0), (.int .u64 0)] g21 n91 fun v93 g22 n93 =>
C bellowsref25_tell_id [(.int .i64 5)] g22 n93 fun v95 g23 n95 =>
kFill (reps 1 [(.int .i64 0), (.int .i64 0), (.int .i64 0), (.int .i64 0), (.int .i64 0)]) [(0, (some 5), v95)] fun c96 =>
kNew c96 .exact g23 n95 fun l96 g24 n96 =>
C bellowsref21_Builder_Add_id [(t 0), (.slice (some ⟨l96, 0, none⟩) 1 1)] g24 n96 fun v97 g25 n97 =>
aRet K (.tuple #[]) g25 n97

def bellowsref25_whole_j3 (C : CT) (K : Cont) (t : Env) (g : G) (n : Nat) : Prop :=
kPtr (t 5) fun l54 o54 =>
kLd g l54 (o54 + 1) fun v55 =>
kSplit v55 (
C bellowsref25_li_id [(.int .i64 5), (.int .u64 104)] g n fun v57 g11 n57 =>
kFill (reps 1 [(.int .i64 0), (.int .i64 0), (.int .i64 0), (.int .i64 0), (.int .i64 0)]) [(0, (some 5), v57)] fun c58 =>
kNew c58 .exact g11 n57 fun l58 g12 n58 =>
C bellowsref21_Builder_Add_id [(t 0), (.slice (some ⟨l58, 0, none⟩) 1 1)] g12 n58 fun v59 g13 n59 =>
kFill [(.int .i64 0), (.int .i64 0), (.int .i64 0), (.int .i64 0), (.int .i64 0)] [(0, none, (.int .i64 17))] fun c61 =>
C bellowsref21_Builder_Jump_id [(t 0), (.agg c61.toArray), (t 7)] g13 n59 fun v63 g14 n63 =>
bellowsref25_whole_j4 C K (puts t [(54, (ptr l54 (o54 + 1))), (55, v55), (56, (t 0)), (57, v57), (58, (.slice (some ⟨l58, 0, none⟩) 1 1)), (59, v59), (60, (t 0)), (61, (.agg c61.toArray)), (62, (t 7)), (63, v63)]) g14 n63) (
kPtr (t 4) fun l65 o65 =>
kLdN g l65 o65 9 fun c65 =>
C bellowsref24_Commit_id [(t 0), (.agg c65.toArray), (t 9)] g n fun v67 g26 n67 =>
C bellowsref25_li_id [(.int .i64 5), (.int .u64 101)] g26 n67 fun v69 g27 n69 =>
kFill (reps 1 [(.int .i64 0), (.int .i64 0), (.int .i64 0), (.int .i64 0), (.int .i64 0)]) [(0, (some 5), v69)] fun c70 =>
kNew c70 .exact g27 n69 fun l70 g28 n70 =>
C bellowsref21_Builder_Add_id [(t 0), (.slice (some ⟨l70, 0, none⟩) 1 1)] g28 n70 fun v71 g29 n71 =>
kFill [(.int .i64 0), (.int .i64 0), (.int .i64 0), (.int .i64 0), (.int .i64 0)] [(0, none, (.int .i64 17))] fun c73 =>
C bellowsref21_Builder_Jump_id [(t 0), (.agg c73.toArray), (t 8)] g29 n71 fun v75 g30 n75 =>
bellowsref25_whole_j4 C K (puts t [(54, (ptr l54 (o54 + 1))), (55, v55), (64, (t 0)), (65, (.agg c65.toArray)), (66, (t 9)), (67, v67), (68, (t 0)), (69, v69), (70, (.slice (some ⟨l70, 0, none⟩) 1 1)), (71, v71), (72, (t 0)), (73, (.agg c73.toArray)), (74, (t 8)), (75, v75)]) g30 n75)

def bellowsref25_whole_l1 (C : CT) (K : Cont) (I_l1 : ECont) (t : Env) (g : G) (n : Nat) : Prop :=
kPtr (t 5) fun l22 o22 =>
kLd g l22 (o22 + 0) fun v23 =>
kLen v23 fun v24 =>
kBin .int .lss (t 10) v24 fun v25 =>
kSplit v25 (
kPtr (t 4) fun l29 o29 =>
kLdN g l29 o29 9 fun c29 =>
kPtr (t 5) fun l30 o30 =>
kLd g l30 (o30 + 0) fun v31 =>
kIndexAddr v31 (t 10) 3 fun v33 =>
kPtr v33 fun l34 o34 =>
kLdN g l34 o34 3 fun c34 =>
C bellowsref25_one_id [(t 0), (.agg c29.toArray), (.agg c34.toArray), (t 6), (t 7)] g n fun v37 g8 n37 =>
kPtr (t 5) fun l38 o38 =>
kLd g8 l38 (o38 + 0) fun v39 =>
kIndexAddr v39 (t 10) 3 fun v41 =>
kPtr v41 fun l42 o42 =>
kLd g8 l42 (o42 + 0) fun v43 =>
kBin .int .neq v43 (.int .i64 1) fun v44 =>
kSplit v44 (
kPtr (t 5) fun l46 o46 =>
kLd g8 l46 (o46 + 0) fun v47 =>
kIndexAddr v47 (t 10) 3 fun v49 =>
kPtr v49 fun l50 o50 =>
kLd g8 l50 (o50 + 1) fun v51 =>
kFill (reps 1 [(.int .i64 0)]) [(0, none, v51)] fun c52 =>
kNew c52 .exact g8 n37 fun l52 g9 n52 =>
kAppend (t 9) (.slice (some ⟨l52, 0, none⟩) 1 1) 1 8 g9 n52 fun v53 g10 n53 =>
bellowsref25_whole_j2 C K I_l1 (puts t [(21, (t 10)), (22, (ptr l22 (o22 + 0))), (23, v23), (24, v24), (25, v25), (28, (t 0)), (29, (.agg c29.toArray)), (30, (ptr l30 (o30 + 0))), (31, v31), (32, (t 10)), (33, v33), (34, (.agg c34.toArray)), (35, (t 6)), (36, (t 7)), (37, v37), (38, (ptr l38 (o38 + 0))), (39, v39), (40, (t 10)), (41, v41), (42, (ptr l42 (o42 + 0))), (43, v43), (44, v44), (45, (t 9)), (46, (ptr l46 (o46 + 0))), (47, v47), (48, (t 10)), (49, v49), (50, (ptr l50 (o50 + 1))), (51, v51), (52, (.slice (some ⟨l52, 0, none⟩) 1 1)), (53, v53), (9, v53)]) g10 n53) (
bellowsref25_whole_j2 C K I_l1 (puts t [(21, (t 10)), (22, (ptr l22 (o22 + 0))), (23, v23), (24, v24), (25, v25), (28, (t 0)), (29, (.agg c29.toArray)), (30, (ptr l30 (o30 + 0))), (31, v31), (32, (t 10)), (33, v33), (34, (.agg c34.toArray)), (35, (t 6)), (36, (t 7)), (37, v37), (38, (ptr l38 (o38 + 0))), (39, v39), (40, (t 10)), (41, v41), (42, (ptr l42 (o42 + 0))), (43, v43), (44, v44)]) g8 n37)) (
bellowsref25_whole_j3 C K (puts t [(21, (t 10)), (22, (ptr l22 (o22 + 0))), (23, v23), (24, v24), (25, v25)]) g n)

def bellowsref25_whole (C : CT) (a0 a1 a2 : Value) (g : G) (n : Nat) (K : Cont) : Prop :=
kAgg a1 fun c4 =>
kNew c4 .exact g n fun l4 g1 n4 =>
kAgg a2 fun c5 =>
kNew c5 .exact g1 n4 fun l5 g2 n5 =>
C bellowsref21_Builder_Mark_id [a0] g2 n5 fun v12 g3 n12 =>
C bellowsref21_Builder_Mark_id [a0] g3 n12 fun v14 g4 n14 =>
C bellowsref21_Builder_Mark_id [a0] g4 n14 fun v16 g5 n16 =>
C bellowsref23_Take_id [a0, (.int .u64 0)] g5 n16 fun v18 g6 n18 =>
C bellowsref24_Begin_id [a0] g6 n18 fun v20 g7 n20 =>
lfp (bellowsref25_whole_l1 C K) (puts (args0 [a0, a1, a2]) [(4, (ptr l4 0)), (5, (ptr l5 0)), (11, a0), (12, v12), (13, a0), (14, v14), (15, a0), (16, v16), (6, v12), (7, v14), (8, v16), (17, a0), (18, v18), (19, a0), (20, v20), (9, (.slice none 0 0)), (10, (.int .i64 0))]) g7 n20

theorem bellowsref25_whole_eq (C : CT) (a0 a1 a2 : Value) (g : G) (n : Nat) (K : Cont) : bellowsref25_whole C a0 a1 a2 g n K = abody Tryz.prog C bellowsref25_whole_id [a0, a1, a2] g n K := by kernel_rfl

/- bellows/client.good -/
def client_good (C : CT) (a0 : Value) (g : G) (n : Nat) (K : Cont) : Prop :=
kAgg a0 fun c1 =>
kNew c1 .exact g n fun l1 g1 n1 =>
kLd g1 l1 (0 + 0) fun v5 =>
kBin .int .lss v5 (.int .i64 1) fun v6 =>
kSplit v6 (
aRet K (.bool false) g1 n1) (
kLd g1 l1 (0 + 0) fun v9 =>
kBin .int .gtr v9 (.int .i64 4) fun v10 =>
kSplit v10 (
aRet K (.bool false) g1 n1) (
kLd g1 l1 (0 + 2) fun v14 =>
kBin .int .geq v14 (.int .u64 2147483648) fun v15 =>
kSplit v15 (
aRet K (.bool false) g1 n1) (
kLd g1 l1 (0 + 0) fun v19 =>
kBin .int .eql v19 (.int .i64 1) fun v20 =>
kSplit v20 (
kLd g1 l1 (0 + 2) fun v22 =>
kBin .int .eql v22 (.int .u64 0) fun v23 =>
aRet K v23 g1 n1) (
kLd g1 l1 (0 + 0) fun v26 =>
kBin .int .eql v26 (.int .i64 4) fun v27 =>
kSplit v27 (
kLd g1 l1 (0 + 2) fun v29 =>
kBin .int .neq v29 (.int .u64 0) fun v30 =>
aRet K v30 g1 n1) (
aRet K (.bool true) g1 n1)))))

theorem client_good_eq (C : CT) (a0 : Value) (g : G) (n : Nat) (K : Cont) : client_good C a0 g n K = abody Tryz.prog C client_good_id [a0] g n K := by kernel_rfl

/- bellows/bellowsref23.Li -/
def bellowsref23_Li (C : CT) (a0 a1 : Value) (g : G) (n : Nat) (K : Cont) : Prop :=
kNew [(.int .i64 0), (.int .i64 0), (.int .i64 0), (.int .i64 0), (.int .i64 0)] .exact g n fun l4 g1 n4 =>
kConv .i64 a1 fun v7 =>
kFill [(.int .i64 0), (.int .i64 0), (.int .i64 0), (.int .i64 0), (.int .i64 0)] [(0, none, (.int .i64 1)), (1, none, a0), (4, none, v7)] fun c8 =>
kAgg (.agg c8.toArray) fun cg2 =>
cg2.length = 5 ∧ kStN g1 l4 0 cg2 fun g2 =>
kLdN g2 l4 0 5 fun r0 =>
aRet K (.agg r0.toArray) g2 n4

theorem bellowsref23_Li_eq (C : CT) (a0 a1 : Value) (g : G) (n : Nat) (K : Cont) : bellowsref23_Li C a0 a1 g n K = abody Tryz.prog C bellowsref23_Li_id [a0, a1] g n K := by kernel_rfl

/- bellows/layout.of -/
def layout_of (C : CT) (a0 : Value) (g : G) (n : Nat) (K : Cont) : Prop :=
kAgg a0 fun c1 =>
kNew c1 .exact g n fun l1 g1 n1 =>
kFill [(.int .u32 0), (.int .i32 0), (.int .u32 0), (.bool false), (.int .i64 0), (.int .i64 0), (.int .i64 0), (.int .i64 0)] [] fun c4 =>
kAgg (.agg c4.toArray) fun c5 =>
kNew c5 .exact g1 n1 fun l5 g2 n5 =>
kNew [(.pointer none)] .exact g2 n5 fun l3 g3 n3 =>
kSt g3 l3 0 (ptr l5 0) fun g4 =>
kLd g4 l3 0 fun v6 =>
kNil v6 fun v7 =>
kPtr v7 fun l8 o8 =>
C sync_Once_Do_id [(ptr l8 (o8 + 0)), (.func (.func layout_of_1_id) #[] #[(ptr l3 0), (ptr l1 0)])] g4 n3 fun v10 g5 n10 =>
kLd g5 l3 0 fun v11 =>
aRet K v11 g5 n10

theorem layout_of_eq (C : CT) (a0 : Value) (g : G) (n : Nat) (K : Cont) : layout_of C a0 g n K = abody Tryz.prog C layout_of_id [a0] g n K := by kernel_rfl

/- bellows/layout.Entry -/
def layout_Entry (C : CT) (a0 a1 : Value) (g : G) (n : Nat) (K : Cont) : Prop :=
kAgg a0 fun c2 =>
kNew c2 .exact g n fun l2 g1 n2 =>
kLdN g1 l2 0 9 fun c6 =>
C layout_of_id [(.agg c6.toArray)] g1 n2 fun v7 g2 n7 =>
kNil v7 fun v9 =>
kPtr v9 fun l10 o10 =>
kLd g2 l10 (o10 + 3) fun v11 =>
kUn .not v11 fun v12 =>
kSplit v12 (
aRet K (.int .u64 0) g2 n7) (
kBin .int .lss a1 (.int .i64 0) fun v15 =>
kSplit v15 (
aRet K (.int .u64 0) g2 n7) (
kNil v7 fun v20 =>
kPtr v20 fun l21 o21 =>
kLd g2 l21 (o21 + 7) fun v22 =>
kBin .int .geq a1 v22 fun v23 =>
kSplit v23 (
aRet K (.int .u64 0) g2 n7) (
kNil v7 fun v26 =>
kPtr v26 fun l27 o27 =>
kLd g2 l27 (o27 + 4) fun v28 =>
kBin .int .quo a1 (.int .i64 4) fun v30 =>
kBin .int .add v28 v30 fun v31 =>
kBin .int .rem a1 (.int .i64 4) fun v33 =>
kBin .int .mul v33 (.int .i64 2) fun v34 =>
C word_Addr_id [v31, v34] g2 n7 fun v35 g3 n35 =>
aRet K v35 g3 n35)))

theorem layout_Entry_eq (C : CT) (a0 a1 : Value) (g : G) (n : Nat) (K : Cont) : layout_Entry C a0 a1 g n K = abody Tryz.prog C layout_Entry_id [a0, a1] g n K := by kernel_rfl

/- bellows/word.Addr -/
def word_Addr (C : CT) (a0 a1 : Value) (g : G) (n : Nat) (K : Cont) : Prop :=
kBin .int .lss a0 (.int .i64 0) fun v6 =>
kSplit v6 (
aRet K (.int .u64 0) g n) (
kBin .int .geq a0 (.int .i64 64) fun v9 =>
kSplit v9 (
aRet K (.int .u64 0) g n) (
C word_is_id [a1] g n fun v13 g1 n13 =>
kUn .not v13 fun v14 =>
kSplit v14 (
aRet K (.int .u64 0) g1 n13) (
kConv .u64 a0 fun v17 =>
kBin .int .mul v17 (.int .u64 64) fun v18 =>
kConv .u64 a1 fun v20 =>
kBin .int .mul v20 (.int .u64 8) fun v21 =>
kBin .int .add v18 v21 fun v22 =>
aRet K v22 g1 n13)))

theorem word_Addr_eq (C : CT) (a0 a1 : Value) (g : G) (n : Nat) (K : Cont) : word_Addr C a0 a1 g n K = abody Tryz.prog C word_Addr_id [a0, a1] g n K := by kernel_rfl

/- bellows/bellowsref22.Entry -/
def bellowsref22_Entry (C : CT) (a0 a1 : Value) (g : G) (n : Nat) (K : Cont) : Prop :=
kAgg a0 fun c2 =>
kNew c2 .exact g n fun l2 g1 n2 =>
kBin .int .lss a1 (.int .i64 0) fun v6 =>
kSplit v6 (
aRet K (.int .u64 0) g1 n2) (
kLdN g1 l2 0 9 fun c9 =>
C bellowsref22_Room_id [(.agg c9.toArray)] g1 n2 fun v10 g2 n10 =>
kBin .int .geq a1 v10 fun v11 =>
kSplit v11 (
aRet K (.int .u64 0) g2 n10) (
kLd g2 l2 (0 + 0 + 2) fun v15 =>
kBin .int .add v15 (.int .i64 1) fun v16 =>
kBin .int .quo a1 (.int .i64 4) fun v18 =>
kBin .int .add v16 v18 fun v19 =>
kBin .int .rem a1 (.int .i64 4) fun v21 =>
kBin .int .mul (.int .i64 2) v21 fun v22 =>
C bellowsref01_Addr_id [v19, v22] g2 n10 fun v23 g3 n23 =>
aRet K v23 g3 n23))

theorem bellowsref22_Entry_eq (C : CT) (a0 a1 : Value) (g : G) (n : Nat) (K : Cont) : bellowsref22_Entry C a0 a1 g n K = abody Tryz.prog C bellowsref22_Entry_id [a0, a1] g n K := by kernel_rfl

/- bellows/bellowsref01.Addr -/
def bellowsref01_Addr (C : CT) (a0 a1 : Value) (g : G) (n : Nat) (K : Cont) : Prop :=
kBin .int .lss a0 (.int .i64 0) fun v6 =>
kSplit v6 (
aRet K (.int .u64 0) g n) (
kBin .int .gtr a0 (.int .i64 63) fun v9 =>
kSplit v9 (
aRet K (.int .u64 0) g n) (
kBin .int .lss a1 (.int .i64 0) fun v13 =>
kSplit v13 (
aRet K (.int .u64 0) g n) (
kBin .int .gtr a1 (.int .i64 7) fun v17 =>
kSplit v17 (
aRet K (.int .u64 0) g n) (
kBin .int .mul (.int .i64 64) a0 fun v20 =>
kBin .int .mul (.int .i64 8) a1 fun v22 =>
kBin .int .add v20 v22 fun v23 =>
kConv .u64 v23 fun v24 =>
aRet K v24 g n))))

theorem bellowsref01_Addr_eq (C : CT) (a0 a1 : Value) (g : G) (n : Nat) (K : Cont) : bellowsref01_Addr C a0 a1 g n K = abody Tryz.prog C bellowsref01_Addr_id [a0, a1] g n K := by kernel_rfl

/- bellows/bellowsref22.First -/
def bellowsref22_First (C : CT) (a0 : Value) (g : G) (n : Nat) (K : Cont) : Prop :=
kAgg a0 fun c1 =>
kNew c1 .exact g n fun l1 g1 n1 =>
kLd g1 l1 (0 + 0 + 2) fun v5 =>
kBin .int .add v5 (.int .i64 1) fun v6 =>
kLd g1 l1 (0 + 7) fun v8 =>
kBin .int .add v6 v8 fun v9 =>
aRet K v9 g1 n1

theorem bellowsref22_First_eq (C : CT) (a0 : Value) (g : G) (n : Nat) (K : Cont) : bellowsref22_First C a0 g n K = abody Tryz.prog C bellowsref22_First_id [a0] g n K := by kernel_rfl

/- slices.pdqsortOrdered[uint64] -/
def slices_pdqsortOrdered_uint64_j6 (C : CT) (K : Cont) (I_l1 : ECont) (t : Env) (g : G) (n : Nat) : Prop :=
kSplit (t 87) (
C slices_partitionEqualOrdered_uint64_id [(t 0), (t 1), (t 2), (t 11)] g n fun v92 g8 n92 =>
I_l1 (puts t [(88, (t 0)), (89, (t 1)), (90, (t 2)), (91, (t 11)), (92, v92), (13, v92), (93, v92), (1, v92)]) g8 n92) (
C slices_partitionOrdered_uint64_id [(t 0), (t 1), (t 2), (t 11)] g n fun v99 g9 n99 =>
kExtract v99 0 fun v100 =>
kExtract v99 1 fun v101 =>
kBin .int .sub v100 (t 1) fun v105 =>
kBin .int .sub (t 2) v100 fun v108 =>
kBin .int .quo (t 10) (.int .i64 8) fun v110 =>
kBin .int .lss v105 v108 fun v113 =>
kSplit v113 (
kBin .int .geq v105 v110 fun v116 =>
C slices_pdqsortOrdered_uint64_id [(t 0), (t 1), v100, (t 3)] g9 n99 fun v121 g10 n121 =>
kBin .int .add v100 (.int .i64 1) fun v123 =>
I_l1 (puts t [(95, (t 0)), (96, (t 1)), (97, (t 2)), (98, (t 11)), (99, v99), (94, v99), (100, v100), (101, v101), (14, v100), (15, v101), (102, v101), (9, v101), (103, v100), (104, (t 1)), (105, v105), (106, (t 2)), (107, v100), (108, v108), (16, v105), (17, v108), (109, (t 10)), (110, v110), (18, v110), (111, v105), (112, v108), (113, v113), (114, v105), (115, v110), (116, v116), (8, v116), (117, (t 0)), (118, (t 1)), (119, v100), (120, (t 3)), (121, v121), (122, v100), (123, v123), (1, v123)]) g10 n121) (
kBin .int .geq v108 v110 fun v126 =>
kBin .int .add v100 (.int .i64 1) fun v129 =>
C slices_pdqsortOrdered_uint64_id [(t 0), v129, (t 2), (t 3)] g9 n99 fun v132 g11 n132 =>
I_l1 (puts t [(95, (t 0)), (96, (t 1)), (97, (t 2)), (98, (t 11)), (99, v99), (94, v99), (100, v100), (101, v101), (14, v100), (15, v101), (102, v101), (9, v101), (103, v100), (104, (t 1)), (105, v105), (106, (t 2)), (107, v100), (108, v108), (16, v105), (17, v108), (109, (t 10)), (110, v110), (18, v110), (111, v105), (112, v108), (113, v113), (124, v108), (125, v110), (126, v126), (8, v126), (127, (t 0)), (128, v100), (129, v129), (130, (t 2)), (131, (t 3)), (132, v132), (133, v100), (2, v100)]) g11 n132))

def slices_pdqsortOrdered_uint64_j5 (C : CT) (K : Cont) (I_l1 : ECont) (t : Env) (g : G) (n : Nat) : Prop :=
kBin .int .gtr (t 1) (.int .i64 0) fun v74 =>
kSplit v74 (
kBin .int .sub (t 1) (.int .i64 1) fun v78 =>
kIndexAddr (t 0) v78 1 fun v79 =>
kPtr v79 fun l80 o80 =>
kLd g l80 o80 fun v80 =>
kIndexAddr (t 0) (t 11) 1 fun v83 =>
kPtr v83 fun l84 o84 =>
kLd g l84 o84 fun v84 =>
C cmp_Less_uint64_id [v80, v84] g n fun v85 g7 n85 =>
kUn .not v85 fun v86 =>
slices_pdqsortOrdered_uint64_j6 C K I_l1 (puts t [(73, (t 1)), (74, v74), (75, (.bool true)), (76, (t 0)), (77, (t 1)), (78, v78), (79, v79), (80, v80), (81, (t 0)), (82, (t 11)), (83, v83), (84, v84), (85, v85), (86, v86), (87, v86)]) g7 n85) (
slices_pdqsortOrdered_uint64_j6 C K I_l1 (puts t [(73, (t 1)), (74, v74), (75, (.bool false)), (76, undef), (77, undef), (78, undef), (79, undef), (80, undef), (81, undef), (82, undef), (83, undef), (84, undef), (85, undef), (86, undef), (87, (.bool false))]) g n)

def slices_pdqsortOrdered_uint64_j4 (C : CT) (K : Cont) (I_l1 : ECont) (t : Env) (g : G) (n : Nat) : Prop :=
kSplit (t 68) (
C slices_partialInsertionSortOrdered_uint64_id [(t 0), (t 1), (t 2)] g n fun v72 g6 n72 =>
kSplit v72 (
aRet K (.tuple #[]) g6 n72) (
slices_pdqsortOrdered_uint64_j5 C K I_l1 (puts t [(69, (t 0)), (70, (t 1)), (71, (t 2)), (72, v72)]) g6 n72)) (
slices_pdqsortOrdered_uint64_j5 C K I_l1 t g n)

def slices_pdqsortOrdered_uint64_j3 (C : CT) (K : Cont) (I_l1 : ECont) (t : Env) (g : G) (n : Nat) : Prop :=
kSplit (t 8) (
kSplit (t 9) (
kBin .int .eql (t 12) (.int .i64 1) fun v67 =>
slices_pdqsortOrdered_uint64_j4 C K I_l1 (puts t [(61, (t 8)), (62, (.bool true)), (63, (t 9)), (64, (t 9)), (65, (.bool true)), (66, (t 12)), (67, v67), (68, v67)]) g n) (
slices_pdqsortOrdered_uint64_j4 C K I_l1 (puts t [(61, (t 8)), (62, (.bool true)), (63, (t 9)), (64, (t 9)), (65, (.bool false)), (66, undef), (67, undef), (68, (.bool false))]) g n)) (
slices_pdqsortOrdered_uint64_j4 C K I_l1 (puts t [(61, (t 8)), (62, (.bool false)), (63, undef), (64, (.bool false)), (65, (.bool false)), (66, undef), (67, undef), (68, (.bool false))]) g n)

def slices_pdqsortOrdered_uint64_j2 (C : CT) (K : Cont) (I_l1 : ECont) (t : Env) (g : G) (n : Nat) : Prop :=
C slices_choosePivotOrdered_uint64_id [(t 0), (t 1), (t 2)] g n fun v46 g4 n46 =>
kExtract v46 0 fun v47 =>
kExtract v46 1 fun v48 =>
kBin .int .eql v48 (.int .i64 2) fun v50 =>
kSplit v50 (
C slices_reverseRangeOrdered_uint64_id [(t 0), (t 1), (t 2)] g4 n46 fun v54 g5 n54 =>
kBin .int .sub (t 2) (.int .i64 1) fun v56 =>
kBin .int .sub v47 (t 1) fun v59 =>
kBin .int .sub v56 v59 fun v60 =>
slices_pdqsortOrdered_uint64_j3 C K I_l1 (puts t [(43, (t 0)), (44, (t 1)), (45, (t 2)), (46, v46), (42, v46), (47, v47), (48, v48), (11, v47), (12, v48), (49, v48), (50, v50), (51, (t 0)), (52, (t 1)), (53, (t 2)), (54, v54), (55, (t 2)), (56, v56), (57, v47), (58, (t 1)), (59, v59), (60, v60), (11, v60), (12, (.int .i64 1))]) g5 n54) (
slices_pdqsortOrdered_uint64_j3 C K I_l1 (puts t [(43, (t 0)), (44, (t 1)), (45, (t 2)), (46, v46), (42, v46), (47, v47), (48, v48), (11, v47), (12, v48), (49, v48), (50, v50)]) g4 n46)

def slices_pdqsortOrdered_uint64_l1 (C : CT) (K : Cont) (I_l1 : ECont) (t : Env) (g : G) (n : Nat) : Prop :=
kBin .int .sub (t 2) (t 1) fun v21 =>
kBin .int .leq v21 (.int .i64 12) fun v23 =>
kSplit v23 (
C slices_insertionSortOrdered_uint64_id [(t 0), (t 1), (t 2)] g n fun v27 g1 n27 =>
aRet K (.tuple #[]) g1 n27) (
kBin .int .eql (t 3) (.int .i64 0) fun v29 =>
kSplit v29 (
C slices_heapSortOrdered_uint64_id [(t 0), (t 1), (t 2)] g n fun v33 g2 n33 =>
aRet K (.tuple #[]) g2 n33) (
kUn .not (t 8) fun v35 =>
kSplit v35 (
C slices_breakPatternsOrdered_uint64_id [(t 0), (t 1), (t 2)] g n fun v39 g3 n39 =>
kBin .int .sub (t 3) (.int .i64 1) fun v41 =>
slices_pdqsortOrdered_uint64_j2 C K I_l1 (puts t [(19, (t 2)), (20, (t 1)), (21, v21), (10, v21), (22, v21), (23, v23), (28, (t 3)), (29, v29), (34, (t 8)), (35, v35), (36, (t 0)), (37, (t 1)), (38, (t 2)), (39, v39), (40, (t 3)), (41, v41), (3, v41)]) g3 n39) (
slices_pdqsortOrdered_uint64_j2 C K I_l1 (puts t [(19, (t 2)), (20, (t 1)), (21, v21), (10, v21), (22, v21), (23, v23), (28, (t 3)), (29, v29), (34, (t 8)), (35, v35)]) g n)))

def slices_pdqsortOrdered_uint64 (C : CT) (a0 a1 a2 a3 : Value) (g : G) (n : Nat) (K : Cont) : Prop :=
lfp (slices_pdqsortOrdered_uint64_l1 C K) (puts (args0 [a0, a1, a2, a3]) [(8, (.bool true)), (9, (.bool true))]) g n

theorem slices_pdqsortOrdered_uint64_eq (C : CT) (a0 a1 a2 a3 : Value) (g : G) (n : Nat) (K : Cont) : slices_pdqsortOrdered_uint64 C a0 a1 a2 a3 g n K = abody Tryz.prog C slices_pdqsortOrdered_uint64_id [a0, a1, a2, a3] g n K := by kernel_rfl

/- math/bits.Len -/
def math_bits_Len (C : CT) (a0 : Value) (g : G) (n : Nat) (K : Cont) : Prop :=
C math_bits_Len64_id [a0] g n fun v7 g1 n7 =>
aRet K v7 g1 n7

theorem math_bits_Len_eq (C : CT) (a0 : Value) (g : G) (n : Nat) (K : Cont) : math_bits_Len C a0 g n K = abody Tryz.prog C math_bits_Len_id [a0] g n K := by kernel_rfl

/- bellows/bellowsref01.Good -/
def bellowsref01_Good (C : CT) (a0 : Value) (g : G) (n : Nat) (K : Cont) : Prop :=
kAgg a0 fun c1 =>
kNew c1 .exact g n fun l1 g1 n1 =>
kLd g1 l1 (0 + 0) fun v4 =>
kBin .int .geq v4 (.int .i64 1) fun v5 =>
kSplit v5 (
kLd g1 l1 (0 + 0) fun v8 =>
kBin .int .leq v8 (.int .i64 8) fun v9 =>
kSplit v9 (
kLd g1 l1 (0 + 1) fun v13 =>
kBin .int .geq v13 (.int .i64 2) fun v14 =>
kSplit v14 (
kLd g1 l1 (0 + 1) fun v18 =>
kBin .int .leq v18 (.int .i64 64) fun v19 =>
kSplit v19 (
kLd g1 l1 (0 + 2) fun v23 =>
kBin .int .geq v23 (.int .i64 1) fun v24 =>
kSplit v24 (
kLd g1 l1 (0 + 2) fun v28 =>
kLd g1 l1 (0 + 1) fun v30 =>
kBin .int .lss v28 v30 fun v31 =>
kSplit v31 (
kLd g1 l1 (0 + 3) fun v35 =>
kBin .int .eql v35 (.int .i64 1) fun v36 =>
kSplit v36 (
kLd g1 l1 (0 + 4) fun v55 =>
kBin .int .geq v55 (.int .i64 1) fun v56 =>
kSplit v56 (
kLd g1 l1 (0 + 4) fun v60 =>
kBin .int .leq v60 (.int .i64 8) fun v61 =>
kSplit v61 (
kLd g1 l1 (0 + 5) fun v65 =>
kBin .int .geq v65 (.int .i64 1) fun v66 =>
kSplit v66 (
kLd g1 l1 (0 + 5) fun v70 =>
kBin .int .leq v70 (.int .i64 16) fun v71 =>
kSplit v71 (
kLd g1 l1 (0 + 6) fun v75 =>
kBin .int .geq v75 (.int .i64 1) fun v76 =>
kSplit v76 (
kLd g1 l1 (0 + 6) fun v80 =>
kBin .int .leq v80 (.int .i64 16) fun v81 =>
aRet K v81 g1 n1) (
aRet K (.bool false) g1 n1)) (
aRet K (.bool false) g1 n1)) (
aRet K (.bool false) g1 n1)) (
aRet K (.bool false) g1 n1)) (
aRet K (.bool false) g1 n1)) (
kLd g1 l1 (0 + 3) fun v39 =>
kBin .int .eql v39 (.int .i64 2) fun v40 =>
kSplit v40 (
kLd g1 l1 (0 + 4) fun v55 =>
kBin .int .geq v55 (.int .i64 1) fun v56 =>
kSplit v56 (
kLd g1 l1 (0 + 4) fun v60 =>
kBin .int .leq v60 (.int .i64 8) fun v61 =>
kSplit v61 (
kLd g1 l1 (0 + 5) fun v65 =>
kBin .int .geq v65 (.int .i64 1) fun v66 =>
kSplit v66 (
kLd g1 l1 (0 + 5) fun v70 =>
kBin .int .leq v70 (.int .i64 16) fun v71 =>
kSplit v71 (
kLd g1 l1 (0 + 6) fun v75 =>
kBin .int .geq v75 (.int .i64 1) fun v76 =>
kSplit v76 (
kLd g1 l1 (0 + 6) fun v80 =>
kBin .int .leq v80 (.int .i64 16) fun v81 =>
aRet K v81 g1 n1) (
aRet K (.bool false) g1 n1)) (
aRet K (.bool false) g1 n1)) (
aRet K (.bool false) g1 n1)) (
aRet K (.bool false) g1 n1)) (
aRet K (.bool false) g1 n1)) (
kLd g1 l1 (0 + 3) fun v44 =>
kBin .int .eql v44 (.int .i64 4) fun v45 =>
kSplit v45 (
kLd g1 l1 (0 + 4) fun v55 =>
kBin .int .geq v55 (.int .i64 1) fun v56 =>
kSplit v56 (
kLd g1 l1 (0 + 4) fun v60 =>
kBin .int .leq v60 (.int .i64 8) fun v61 =>
kSplit v61 (
kLd g1 l1 (0 + 5) fun v65 =>
kBin .int .geq v65 (.int .i64 1) fun v66 =>
kSplit v66 (
kLd g1 l1 (0 + 5) fun v70 =>
kBin .int .leq v70 (.int .i64 16) fun v71 =>
kSplit v71 (
kLd g1 l1 (0 + 6) fun v75 =>
kBin .int .geq v75 (.int .i64 1) fun v76 =>
kSplit v76 (
kLd g1 l1 (0 + 6) fun v80 =>
kBin .int .leq v80 (.int .i64 16) fun v81 =>
aRet K v81 g1 n1) (
aRet K (.bool false) g1 n1)) (
aRet K (.bool false) g1 n1)) (
aRet K (.bool false) g1 n1)) (
aRet K (.bool false) g1 n1)) (
aRet K (.bool false) g1 n1)) (
kLd g1 l1 (0 + 3) fun v49 =>
kBin .int .eql v49 (.int .i64 8) fun v50 =>
kSplit v50 (
kLd g1 l1 (0 + 4) fun v55 =>
kBin .int .geq v55 (.int .i64 1) fun v56 =>
kSplit v56 (
kLd g1 l1 (0 + 4) fun v60 =>
kBin .int .leq v60 (.int .i64 8) fun v61 =>
kSplit v61 (
kLd g1 l1 (0 + 5) fun v65 =>
kBin .int .geq v65 (.int .i64 1) fun v66 =>
kSplit v66 (
kLd g1 l1 (0 + 5) fun v70 =>
kBin .int .leq v70 (.int .i64 16) fun v71 =>
kSplit v71 (
kLd g1 l1 (0 + 6) fun v75 =>
kBin .int .geq v75 (.int .i64 1) fun v76 =>
kSplit v76 (
kLd g1 l1 (0 + 6) fun v80 =>
kBin .int .leq v80 (.int .i64 16) fun v81 =>
aRet K v81 g1 n1) (
aRet K (.bool false) g1 n1)) (
aRet K (.bool false) g1 n1)) (
aRet K (.bool false) g1 n1)) (
aRet K (.bool false) g1 n1)) (
aRet K (.bool false) g1 n1)) (
aRet K (.bool false) g1 n1))))) (
aRet K (.bool false) g1 n1)) (
aRet K (.bool false) g1 n1)) (
aRet K (.bool false) g1 n1)) (
aRet K (.bool false) g1 n1)) (
aRet K (.bool false) g1 n1)) (
aRet K (.bool false) g1 n1)

theorem bellowsref01_Good_eq (C : CT) (a0 : Value) (g : G) (n : Nat) (K : Cont) : bellowsref01_Good C a0 g n K = abody Tryz.prog C bellowsref01_Good_id [a0] g n K := by kernel_rfl

/- bellows/isa.Good -/
def isa_Good_j2 (C : CT) (K : Cont) (t : Env) (g : G) (n : Nat) : Prop :=
kPtr (t 1) fun l37 o37 =>
kLd g l37 (o37 + 4) fun v38 =>
kBin .int .geq v38 (.int .i64 (-2147483648)) fun v39 =>
kSplit v39 (
kPtr (t 1) fun l41 o41 =>
kLd g l41 (o41 + 4) fun v42 =>
kBin .int .leq v42 (.int .i64 2147483647) fun v43 =>
kSplit v43 (
kPtr (t 1) fun l46 o46 =>
kLd g l46 (o46 + 4) fun v47 =>
kBin .int .geq v47 (.int .i64 0) fun v48 =>
kSplit v48 (
aRet K (.bool true) g n) (
kPtr (t 1) fun l50 o50 =>
kLd g l50 (o50 + 0) fun v51 =>
C isa_jumps_id [v51] g n fun v52 g5 n52 =>
kUn .not v52 fun v53 =>
aRet K v53 g5 n52)) (
aRet K (.bool false) g n)) (
aRet K (.bool false) g n)

def isa_Good_j1 (C : CT) (K : Cont) (t : Env) (g : G) (n : Nat) : Prop :=
kSplit (t 7) (
aRet K (.bool false) g n) (
C strings_Contains_id [(t 3), (.string ⟨#[73]⟩)] g n fun v32 g4 n32 =>
kUn .not v32 fun v33 =>
kSplit v33 (
kPtr (t 1) fun l34 o34 =>
kLd g4 l34 (o34 + 4) fun v35 =>
kBin .int .eql v35 (.int .i64 0) fun v36 =>
aRet K v36 g4 n32) (
isa_Good_j2 C K (puts t [(31, (t 3)), (32, v32), (33, v33), (30, v33)]) g4 n32))

def isa_Good (C : CT) (a0 : Value) (g : G) (n : Nat) (K : Cont) : Prop :=
kAgg a0 fun c1 =>
kNew c1 .exact g n fun l1 g1 n1 =>
kLd g1 l1 (0 + 0) fun v5 =>
C isa_Has_id [v5] g1 n1 fun v6 g2 n6 =>
kLd g2 l1 (0 + 0) fun v9 =>
C isa_is_id [v9] g2 n6 fun v10 g3 n10 =>
kUn .not v10 fun v11 =>
kSplit v11 (
isa_Good_j1 C K (puts (args0 [a0]) [(1, (ptr l1 0)), (2, (.bool false)), (4, (ptr l1 (0 + 0))), (5, v5), (6, v6), (3, v6), (8, (ptr l1 (0 + 0))), (9, v9), (10, v10), (11, v11), (7, v11)]) g3 n10) (
kLd g3 l1 (0 + 1) fun v13 =>
C strings_Contains_id [v6, (.string ⟨#[65]⟩)] g3 n10 fun v15 g6 n15 =>
(kPtr (ptr l1 (0 + 1)) fun l _ => g6 l = g3 l) ∧ C isa_register_id [v13, v15] g6 n15 fun v16 g7 n16 =>
kUn .not v16 fun v17 =>
kSplit v17 (
isa_Good_j1 C K (puts (args0 [a0]) [(1, (ptr l1 0)), (2, (.bool false)), (4, (ptr l1 (0 + 0))), (5, v5), (6, v6), (3, v6), (8, (ptr l1 (0 + 0))), (9, v9), (10, v10), (11, v11), (7, v11), (12, (ptr l1 (0 + 1))), (13, v13), (14, v6), (15, v15), (16, v16), (17, v17), (7, v17)]) g7 n16) (
kLd g7 l1 (0 + 2) fun v19 =>
C strings_Contains_id [v6, (.string ⟨#[66]⟩)] g7 n16 fun v21 g8 n21 =>
(kPtr (ptr l1 (0 + 2)) fun l _ => g8 l = g7 l) ∧ C isa_register_id [v19, v21] g8 n21 fun v22 g9 n22 =>
kUn .not v22 fun v23 =>
kSplit v23 (
isa_Good_j1 C K (puts (args0 [a0]) [(1, (ptr l1 0)), (2, (.bool false)), (4, (ptr l1 (0 + 0))), (5, v5), (6, v6), (3, v6), (8, (ptr l1 (0 + 0))), (9, v9), (10, v10), (11, v11), (7, v11), (12, (ptr l1 (0 + 1))), (13, v13), (14, v6), (15, v15), (16, v16), (17, v17), (7, v17), (18, (ptr l1 (0 + 2))), (19, v19), (20, v6), (21, v21), (22, v22), (23, v23), (7, v23)]) g9 n22) (
kLd g9 l1 (0 + 3) fun v25 =>
C strings_Contains_id [v6, (.string ⟨#[67]⟩)] g9 n22 fun v27 g10 n27 =>
(kPtr (ptr l1 (0 + 3)) fun l _ => g10 l = g9 l) ∧ C isa_register_id [v25, v27] g10 n27 fun v28 g11 n28 =>
kUn .not v28 fun v29 =>
isa_Good_j1 C K (puts (args0 [a0]) [(1, (ptr l1 0)), (2, (.bool false)), (4, (ptr l1 (0 + 0))), (5, v5), (6, v6), (3, v6), (8, (ptr l1 (0 + 0))), (9, v9), (10, v10), (11, v11), (7, v11), (12, (ptr l1 (0 + 1))), (13, v13), (14, v6), (15, v15), (16, v16), (17, v17), (7, v17), (18, (ptr l1 (0 + 2))), (19, v19), (20, v6), (21, v21), (22, v22), (23, v23), (7, v23), (24, (ptr l1 (0 + 3))), (25, v25), (26, v6), (27, v27), (28, v28), (29, v29), (7, v29)]) g11 n28)))

theorem isa_Good_eq (C : CT) (a0 : Value) (g : G) (n : Nat) (K : Cont) : isa_Good C a0 g n K = abody Tryz.prog C isa_Good_id [a0] g n K := by kernel_rfl

/- bellows/bellowsref10.Good -/
def bellowsref10_Good_j8 (C : CT) (K : Cont) (t : Env) (g : G) (n : Nat) : Prop :=
kBool (t 104) fun b108 =>
kSplit (bif b108 then (t 107) else (.bool false)) (
kUn .not (t 3) fun v111 =>
kSplit v111 (
aRet K (.bool true) g n) (
kPtr (t 1) fun l113 o113 =>
kLd g l113 (o113 + 4) fun v114 =>
kBin .int .geq v114 (.int .i64 0) fun v115 =>
aRet K v115 g n)) (
aRet K (.bool false) g n)

def bellowsref10_Good_j7 (C : CT) (K : Cont) (t : Env) (g : G) (n : Nat) : Prop :=
kBool (t 91) fun b95 =>
kSplit (bif b95 then (.bool true) else (t 94)) (
kPtr (t 1) fun l101 o101 =>
kLd g l101 (o101 + 4) fun v102 =>
kBin .int .geq v102 (.int .i64 (-2147483648)) fun v103 =>
kSplit v103 (
kPtr (t 1) fun l105 o105 =>
kLd g l105 (o105 + 4) fun v106 =>
kBin .int .lss v106 (.int .i64 2147483648) fun v107 =>
bellowsref10_Good_j8 C K (puts t [(95, (bif b95 then (.bool true) else (t 94))), (96, (.bool true)), (97, undef), (98, undef), (99, undef), (100, (.bool true)), (3, (.bool true)), (101, (ptr l101 (o101 + 4))), (102, v102), (103, v103), (104, (.bool true)), (105, (ptr l105 (o105 + 4))), (106, v106), (107, v107)]) g n) (
bellowsref10_Good_j8 C K (puts t [(95, (bif b95 then (.bool true) else (t 94))), (96, (.bool true)), (97, undef), (98, undef), (99, undef), (100, (.bool true)), (3, (.bool true)), (101, (ptr l101 (o101 + 4))), (102, v102), (103, v103), (104, (.bool false)), (105, undef), (106, undef), (107, undef)]) g n)) (
kPtr (t 1) fun l97 o97 =>
kLd g l97 (o97 + 0) fun v98 =>
kBin .int .eql v98 (.int .i64 20) fun v99 =>
kPtr (t 1) fun l101 o101 =>
kLd g l101 (o101 + 4) fun v102 =>
kBin .int .geq v102 (.int .i64 (-2147483648)) fun v103 =>
kSplit v103 (
kPtr (t 1) fun l105 o105 =>
kLd g l105 (o105 + 4) fun v106 =>
kBin .int .lss v106 (.int .i64 2147483648) fun v107 =>
bellowsref10_Good_j8 C K (puts t [(95, (bif b95 then (.bool true) else (t 94))), (96, (.bool false)), (97, (ptr l97 (o97 + 0))), (98, v98), (99, v99), (100, v99), (3, v99), (101, (ptr l101 (o101 + 4))), (102, v102), (103, v103), (104, (.bool true)), (105, (ptr l105 (o105 + 4))), (106, v106), (107, v107)]) g n) (
bellowsref10_Good_j8 C K (puts t [(95, (bif b95 then (.bool true) else (t 94))), (96, (.bool false)), (97, (ptr l97 (o97 + 0))), (98, v98), (99, v99), (100, v99), (3, v99), (101, (ptr l101 (o101 + 4))), (102, v102), (103, v103), (104, (.bool false)), (105, undef), (106, undef), (107, undef)]) g n))

def bellowsref10_Good_j6 (C : CT) (K : Cont) (t : Env) (g : G) (n : Nat) : Prop :=
kBool (t 86) fun b90 =>
kSplit (bif b90 then (.bool true) else (t 89)) (
bellowsref10_Good_j7 C K (puts t [(90, (bif b90 then (.bool true) else (t 89))), (91, (.bool true)), (92, undef), (93, undef), (94, undef)]) g n) (
kPtr (t 1) fun l92 o92 =>
kLd g l92 (o92 + 0) fun v93 =>
kBin .int .eql v93 (.int .i64 19) fun v94 =>
bellowsref10_Good_j7 C K (puts t [(90, (bif b90 then (.bool true) else (t 89))), (91, (.bool false)), (92, (ptr l92 (o92 + 0))), (93, v93), (94, v94)]) g n)

def bellowsref10_Good_j5 (C : CT) (K : Cont) (t : Env) (g : G) (n : Nat) : Prop :=
kBool (t 54) fun b64 =>
kSplit (bif b64 then (.bool true) else (t 63)) (
aRet K (.bool false) g n) (
kPtr (t 1) fun l66 o66 =>
kLd g l66 (o66 + 0) fun v67 =>
C bellowsref10_has_id [v67, (.int .u8 67)] g n fun v68 g4 n68 =>
kUn .not v68 fun v69 =>
kSplit v69 (
kPtr (t 1) fun l71 o71 =>
kLd g4 l71 (o71 + 3) fun v72 =>
kBin .int .neq v72 (.int .i64 0) fun v73 =>
kSplit v73 (
aRet K (.bool false) g4 n68) (
kPtr (t 1) fun l76 o76 =>
kLd g4 l76 (o76 + 0) fun v77 =>
C bellowsref10_has_id [v77, (.int .u8 73)] g4 n68 fun v78 g5 n78 =>
kUn .not v78 fun v79 =>
kSplit v79 (
kPtr (t 1) fun l80 o80 =>
kLd g5 l80 (o80 + 4) fun v81 =>
kBin .int .eql v81 (.int .i64 0) fun v82 =>
aRet K v82 g5 n78) (
kPtr (t 1) fun l83 o83 =>
kLd g5 l83 (o83 + 0) fun v84 =>
kBin .int .eql v84 (.int .i64 17) fun v85 =>
kSplit v85 (
bellowsref10_Good_j6 C K (puts t [(64, (bif b64 then (.bool true) else (t 63))), (65, (.bool false)), (66, (ptr l66 (o66 + 0))), (67, v67), (68, v68), (69, v69), (70, (.bool true)), (71, (ptr l71 (o71 + 3))), (72, v72), (73, v73), (74, v73), (75, v73), (76, (ptr l76 (o76 + 0))), (77, v77), (78, v78), (79, v79), (83, (ptr l83 (o83 + 0))), (84, v84), (85, v85), (86, (.bool true)), (87, undef), (88, undef), (89, undef)]) g5 n78) (
kPtr (t 1) fun l87 o87 =>
kLd g5 l87 (o87 + 0) fun v88 =>
kBin .int .eql v88 (.int .i64 18) fun v89 =>
bellowsref10_Good_j6 C K (puts t [(64, (bif b64 then (.bool true) else (t 63))), (65, (.bool false)), (66, (ptr l66 (o66 + 0))), (67, v67), (68, v68), (69, v69), (70, (.bool true)), (71, (ptr l71 (o71 + 3))), (72, v72), (73, v73), (74, v73), (75, v73), (76, (ptr l76 (o76 + 0))), (77, v77), (78, v78), (79, v79), (83, (ptr l83 (o83 + 0))), (84, v84), (85, v85), (86, (.bool false)), (87, (ptr l87 (o87 + 0))), (88, v88), (89, v89)]) g5 n78)))) (
kPtr (t 1) fun l76 o76 =>
kLd g4 l76 (o76 + 0) fun v77 =>
C bellowsref10_has_id [v77, (.int .u8 73)] g4 n68 fun v78 g6 n78 =>
kUn .not v78 fun v79 =>
kSplit v79 (
kPtr (t 1) fun l80 o80 =>
kLd g6 l80 (o80 + 4) fun v81 =>
kBin .int .eql v81 (.int .i64 0) fun v82 =>
aRet K v82 g6 n78) (
kPtr (t 1) fun l83 o83 =>
kLd g6 l83 (o83 + 0) fun v84 =>
kBin .int .eql v84 (.int .i64 17) fun v85 =>
kSplit v85 (
bellowsref10_Good_j6 C K (puts t [(64, (bif b64 then (.bool true) else (t 63))), (65, (.bool false)), (66, (ptr l66 (o66 + 0))), (67, v67), (68, v68), (69, v69), (70, (.bool false)), (71, undef), (72, undef), (73, undef), (74, (.bool false)), (75, (.bool false)), (76, (ptr l76 (o76 + 0))), (77, v77), (78, v78), (79, v79), (83, (ptr l83 (o83 + 0))), (84, v84), (85, v85), (86, (.bool true)), (87, undef), (88, undef), (89, undef)]) g6 n78) (
kPtr (t 1) fun l87 o87 =>
kLd g6 l87 (o87 + 0) fun v88 =>
kBin .int .eql v88 (.int .i64 18) fun v89 =>
bellowsref10_Good_j6 C K (puts t [(64, (bif b64 then (.bool true) else (t 63))), (65, (.bool false)), (66, (ptr l66 (o66 + 0))), (67, v67), (68, v68), (69, v69), (70, (.bool false)), (71, undef), (72, undef), (73, undef), (74, (.bool false)), (75, (.bool false)), (76, (ptr l76 (o76 + 0))), (77, v77), (78, v78), (79, v79), (83, (ptr l83 (o83 + 0))), (84, v84), (85, v85), (86, (.bool false)), (87, (ptr l87 (o87 + 0))), (88, v88), (89, v89)]) g6 n78))))

def bellowsref10_Good_j4 (C : CT) (K : Cont) (t : Env) (g : G) (n : Nat) : Prop :=
kBool (t 43) fun b53 =>
kSplit (bif b53 then (.bool true) else (t 52)) (
bellowsref10_Good_j5 C K (puts t [(53, (bif b53 then (.bool true) else (t 52))), (54, (.bool true)), (55, undef), (56, undef), (57, undef), (58, undef), (59, undef), (60, undef), (61, undef), (62, undef), (63, undef)]) g n) (
kPtr (t 1) fun l55 o55 =>
kLd g l55 (o55 + 0) fun v56 =>
C bellowsref10_has_id [v56, (.int .u8 67)] g n fun v57 g7 n57 =>
kSplit v57 (
kPtr (t 1) fun l59 o59 =>
kLd g7 l59 (o59 + 3) fun v60 =>
C bellowsref10_reg_id [v60] g7 n57 fun v61 g8 n61 =>
kUn .not v61 fun v62 =>
bellowsref10_Good_j5 C K (puts t [(53, (bif b53 then (.bool true) else (t 52))), (54, (.bool false)), (55, (ptr l55 (o55 + 0))), (56, v56), (57, v57), (58, (.bool true)), (59, (ptr l59 (o59 + 3))), (60, v60), (61, v61), (62, v62), (63, v62)]) g8 n61) (
bellowsref10_Good_j5 C K (puts t [(53, (bif b53 then (.bool true) else (t 52))), (54, (.bool false)), (55, (ptr l55 (o55 + 0))), (56, v56), (57, v57), (58, (.bool false)), (59, undef), (60, undef), (61, undef), (62, undef), (63, (.bool false))]) g7 n57))

def bellowsref10_Good_j3 (C : CT) (K : Cont) (t : Env) (g : G) (n : Nat) : Prop :=
kBool (t 32) fun b42 =>
kSplit (bif b42 then (.bool true) else (t 41)) (
bellowsref10_Good_j4 C K (puts t [(42, (bif b42 then (.bool true) else (t 41))), (43, (.bool true)), (44, undef), (45, undef), (46, undef), (47, undef), (48, undef), (49, undef), (50, undef), (51, undef), (52, undef)]) g n) (
kPtr (t 1) fun l44 o44 =>
kLd g l44 (o44 + 0) fun v45 =>
C bellowsref10_has_id [v45, (.int .u8 66)] g n fun v46 g9 n46 =>
kUn .not v46 fun v47 =>
kSplit v47 (
kPtr (t 1) fun l49 o49 =>
kLd g9 l49 (o49 + 2) fun v50 =>
kBin .int .neq v50 (.int .i64 0) fun v51 =>
bellowsref10_Good_j4 C K (puts t [(42, (bif b42 then (.bool true) else (t 41))), (43, (.bool false)), (44, (ptr l44 (o44 + 0))), (45, v45), (46, v46), (47, v47), (48, (.bool true)), (49, (ptr l49 (o49 + 2))), (50, v50), (51, v51), (52, v51)]) g9 n46) (
bellowsref10_Good_j4 C K (puts t [(42, (bif b42 then (.bool true) else (t 41))), (43, (.bool false)), (44, (ptr l44 (o44 + 0))), (45, v45), (46, v46), (47, v47), (48, (.bool false)), (49, undef), (50, undef), (51, undef), (52, (.bool false))]) g9 n46))

def bellowsref10_Good_j2 (C : CT) (K : Cont) (t : Env) (g : G) (n : Nat) : Prop :=
kBool (t 21) fun b31 =>
kSplit (bif b31 then (.bool true) else (t 30)) (
bellowsref10_Good_j3 C K (puts t [(31, (bif b31 then (.bool true) else (t 30))), (32, (.bool true)), (33, undef), (34, undef), (35, undef), (36, undef), (37, undef), (38, undef), (39, undef), (40, undef), (41, undef)]) g n) (
kPtr (t 1) fun l33 o33 =>
kLd g l33 (o33 + 0) fun v34 =>
C bellowsref10_has_id [v34, (.int .u8 66)] g n fun v35 g10 n35 =>
kSplit v35 (
kPtr (t 1) fun l37 o37 =>
kLd g10 l37 (o37 + 2) fun v38 =>
C bellowsref10_reg_id [v38] g10 n35 fun v39 g11 n39 =>
kUn .not v39 fun v40 =>
bellowsref10_Good_j3 C K (puts t [(31, (bif b31 then (.bool true) else (t 30))), (32, (.bool false)), (33, (ptr l33 (o33 + 0))), (34, v34), (35, v35), (36, (.bool true)), (37, (ptr l37 (o37 + 2))), (38, v38), (39, v39), (40, v40), (41, v40)]) g11 n39) (
bellowsref10_Good_j3 C K (puts t [(31, (bif b31 then (.bool true) else (t 30))), (32, (.bool false)), (33, (ptr l33 (o33 + 0))), (34, v34), (35, v35), (36, (.bool false)), (37, undef), (38, undef), (39, undef), (40, undef), (41, (.bool false))]) g10 n35))

def bellowsref10_Good_j1 (C : CT) (K : Cont) (t : Env) (g : G) (n : Nat) : Prop :=
kBool (t 15) fun b20 =>
kSplit (bif b20 then (t 19) else (.bool false)) (
bellowsref10_Good_j2 C K (puts t [(20, (bif b20 then (t 19) else (.bool false))), (21, (.bool true)), (22, undef), (23, undef), (24, undef), (25, undef), (26, undef), (27, undef), (28, undef), (29, undef), (30, undef)]) g n) (
kPtr (t 1) fun l22 o22 =>
kLd g l22 (o22 + 0) fun v23 =>
C bellowsref10_has_id [v23, (.int .u8 65)] g n fun v24 g12 n24 =>
kUn .not v24 fun v25 =>
kSplit v25 (
kPtr (t 1) fun l27 o27 =>
kLd g12 l27 (o27 + 1) fun v28 =>
kBin .int .neq v28 (.int .i64 0) fun v29 =>
bellowsref10_Good_j2 C K (puts t [(20, (bif b20 then (t 19) else (.bool false))), (21, (.bool false)), (22, (ptr l22 (o22 + 0))), (23, v23), (24, v24), (25, v25), (26, (.bool true)), (27, (ptr l27 (o27 + 1))), (28, v28), (29, v29), (30, v29)]) g12 n24) (
bellowsref10_Good_j2 C K (puts t [(20, (bif b20 then (t 19) else (.bool false))), (21, (.bool false)), (22, (ptr l22 (o22 + 0))), (23, v23), (24, v24), (25, v25), (26, (.bool false)), (27, undef), (28, undef), (29, undef), (30, (.bool false))]) g12 n24))

def bellowsref10_Good (C : CT) (a0 : Value) (g : G) (n : Nat) (K : Cont) : Prop :=
kAgg a0 fun c1 =>
kNew c1 .exact g n fun l1 g1 n1 =>
kLd g1 l1 (0 + 0) fun v5 =>
kBin .int .lss v5 (.int .i64 0) fun v6 =>
kSplit v6 (
aRet K (.bool false) g1 n1) (
kLd g1 l1 (0 + 0) fun v9 =>
kBin .int .gtr v9 (.int .i64 22) fun v10 =>
kSplit v10 (
aRet K (.bool false) g1 n1) (
kLd g1 l1 (0 + 0) fun v13 =>
C bellowsref10_has_id [v13, (.int .u8 65)] g1 n1 fun v14 g2 n14 =>
kSplit v14 (
kLd g2 l1 (0 + 1) fun v17 =>
C bellowsref10_reg_id [v17] g2 n14 fun v18 g3 n18 =>
kUn .not v18 fun v19 =>
bellowsref10_Good_j1 C K (puts (args0 [a0]) [(1, (ptr l1 0)), (2, (.bool false)), (4, (ptr l1 (0 + 0))), (5, v5), (6, v6), (7, (.bool false)), (8, (ptr l1 (0 + 0))), (9, v9), (10, v10), (11, v10), (12, (ptr l1 (0 + 0))), (13, v13), (14, v14), (15, (.bool true)), (16, (ptr l1 (0 + 1))), (17, v17), (18, v18), (19, v19)]) g3 n18) (
bellowsref10_Good_j1 C K (puts (args0 [a0]) [(1, (ptr l1 0)), (2, (.bool false)), (4, (ptr l1 (0 + 0))), (5, v5), (6, v6), (7, (.bool false)), (8, (ptr l1 (0 + 0))), (9, v9), (10, v10), (11, v10), (12, (ptr l1 (0 + 0))), (13, v13), (14, v14), (15, (.bool false)), (16, undef), (17, undef), (18, undef), (19, undef)]) g2 n14)))

theorem bellowsref10_Good_eq (C : CT) (a0 : Value) (g : G) (n : Nat) (K : Cont) : bellowsref10_Good C a0 g n K = abody Tryz.prog C bellowsref10_Good_id [a0] g n K := by kernel_rfl

/- bellows/lock.Take -/
def lock_Take (C : CT) (a0 a1 : Value) (g : G) (n : Nat) (K : Cont) : Prop :=
kBin .ptr .eql a0 (.pointer none) fun v6 =>
kSplit v6 (
aRet K (.tuple #[]) g n) (
kBin .int .gtr a1 (.int .u64 4095) fun v9 =>
kSplit v9 (
aRet K (.tuple #[]) g n) (
C emit_Builder_Mark_id [a0] g n fun v12 g1 n12 =>
C emit_Builder_Here_id [a0, v12] g1 n12 fun v15 g2 n15 =>
C lock_li_id [(.int .i64 1), a1] g2 n15 fun v18 g3 n18 =>
C lock_li_id [(.int .i64 2), (.int .u64 0)] g3 n18 fun v19 g4 n19 =>
C lock_li_id [(.int .i64 3), (.int .u64 1)] g4 n19 fun v20 g5 n20 =>
kFill [(.int .i64 0), (.int .i64 0), (.int .i64 0), (.int .i64 0), (.int .i64 0)] [(0, none, (.int .i64 10)), (1, none, (.int .i64 2)), (2, none, (.int .i64 1)), (3, none, (.int .i64 3))] fun c21 =>
C lock_li_id [(.int .i64 0), (.int .u64 0)] g5 n20 fun v22 g6 n22 =>
kFill (reps 5 [(.int .i64 0), (.int .i64 0), (.int .i64 0), (.int .i64 0), (.int .i64 0)]) [(0, (some 5), v18), (5, (some 5), v19), (10, (some 5), v20), (15, (some 5), (.agg c21.toArray)), (20, (some 5), v22)] fun c23 =>
kNew c23 .exact g6 n22 fun l23 g7 n23 =>
C emit_Builder_Add_id [a0, (.slice (some ⟨l23, 0, none⟩) 5 5)] g7 n23 fun v24 g8 n24 =>
kFill [(.int .i64 0), (.int .i64 0), (.int .i64 0), (.int .i64 0), (.int .i64 0)] [(0, none, (.int .i64 19)), (1, none, (.int .i64 2)), (2, none, (.int .i64 0))] fun c26 =>
C emit_Builder_Jump_id [a0, (.agg c26.toArray), v12] g8 n24 fun v28 g9 n28 =>
aRet K (.tuple #[]) g9 n28))

theorem lock_Take_eq (C : CT) (a0 a1 : Value) (g : G) (n : Nat) (K : Cont) : lock_Take C a0 a1 g n K = abody Tryz.prog C lock_Take_id [a0, a1] g n K := by kernel_rfl

/- bellows/layout.Lock -/
def layout_Lock (C : CT) (a0 : Value) (g : G) (n : Nat) (K : Cont) : Prop :=
kAgg a0 fun c1 =>
kNew c1 .exact g n fun l1 g1 n1 =>
C word_Addr_id [(.int .i64 0), (.int .i64 0)] g1 n1 fun v3 g2 n3 =>
aRet K v3 g2 n3

theorem layout_Lock_eq (C : CT) (a0 : Value) (g : G) (n : Nat) (K : Cont) : layout_Lock C a0 g n K = abody Tryz.prog C layout_Lock_id [a0] g n K := by kernel_rfl

/- (*bellows/client.writer).li -/
def client_writer_li (C : CT) (a0 a1 a2 : Value) (g : G) (n : Nat) (K : Cont) : Prop :=
kNil a0 fun v7 =>
kPtr v7 fun l8 o8 =>
kLd g l8 (o8 + 0) fun v9 =>
kConv .i64 a2 fun v12 =>
kFill [(.int .i64 0), (.int .i64 0), (.int .i64 0), (.int .i64 0), (.int .i64 0)] [(0, none, (.int .i64 1)), (1, none, a1), (4, none, v12)] fun c13 =>
kFill (reps 1 [(.int .i64 0), (.int .i64 0), (.int .i64 0), (.int .i64 0), (.int .i64 0)]) [(0, (some 5), (.agg c13.toArray))] fun c14 =>
kNew c14 .exact g n fun l14 g1 n14 =>
C emit_Builder_Add_id [v9, (.slice (some ⟨l14, 0, none⟩) 1 1)] g1 n14 fun v15 g2 n15 =>
aRet K (.tuple #[]) g2 n15

theorem client_writer_li_eq (C : CT) (a0 a1 a2 : Value) (g : G) (n : Nat) (K : Cont) : client_writer_li C a0 a1 a2 g n K = abody Tryz.prog C client_writer_li_id [a0, a1, a2] g n K := by kernel_rfl

/- (*bellows/client.writer).jump -/
def client_writer_jump (C : CT) (a0 a1 : Value) (g : G) (n : Nat) (K : Cont) : Prop :=
kNil a0 fun v5 =>
kPtr v5 fun l6 o6 =>
kLd g l6 (o6 + 0) fun v7 =>
kFill [(.int .i64 0), (.int .i64 0), (.int .i64 0), (.int .i64 0), (.int .i64 0)] [(0, none, (.int .i64 17))] fun c8 =>
C emit_Builder_Jump_id [v7, (.agg c8.toArray), a1] g n fun v10 g1 n10 =>
aRet K (.tuple #[]) g1 n10

theorem client_writer_jump_eq (C : CT) (a0 a1 : Value) (g : G) (n : Nat) (K : Cont) : client_writer_jump C a0 a1 g n K = abody Tryz.prog C client_writer_jump_id [a0, a1] g n K := by kernel_rfl

/- bellows/client.does -/
def client_does (C : CT) (g : G) (n : Nat) (K : Cont) : Prop :=
kNew [.nilFunc, .nilFunc, .nilFunc, .nilFunc, .nilFunc] .exact g n fun l0 g1 n0 =>
kFill [.nilFunc, .nilFunc, .nilFunc, .nilFunc, .nilFunc] [(1, none, (.func (.func client_writer_read_id) #[] #[])), (2, none, (.func (.func client_writer_write_id) #[] #[])), (3, none, (.func (.func client_writer_add_id) #[] #[])), (4, none, (.func (.func client_writer_take_id) #[] #[]))] fun c1 =>
kAgg (.agg c1.toArray) fun cg2 =>
cg2.length = 5 ∧ kStN g1 l0 0 cg2 fun g2 =>
kLdN g2 l0 0 5 fun r0 =>
aRet K (.agg r0.toArray) g2 n0

theorem client_does_eq (C : CT) (g : G) (n : Nat) (K : Cont) : client_does C g n K = abody Tryz.prog C client_does_id [] g n K := by kernel_rfl

/- bellows/lock.Give -/
def lock_Give (C : CT) (a0 a1 : Value) (g : G) (n : Nat) (K : Cont) : Prop :=
kBin .ptr .eql a0 (.pointer none) fun v5 =>
kSplit v5 (
aRet K (.tuple #[]) g n) (
kBin .int .gtr a1 (.int .u64 4095) fun v8 =>
kSplit v8 (
aRet K (.tuple #[]) g n) (
C lock_li_id [(.int .i64 1), a1] g n fun v12 g1 n12 =>
C lock_li_id [(.int .i64 0), (.int .u64 0)] g1 n12 fun v13 g2 n13 =>
kFill [(.int .i64 0), (.int .i64 0), (.int .i64 0), (.int .i64 0), (.int .i64 0)] [(0, none, (.int .i64 9)), (1, none, (.int .i64 0)), (2, none, (.int .i64 1))] fun c14 =>
kFill (reps 3 [(.int .i64 0), (.int .i64 0), (.int .i64 0), (.int .i64 0), (.int .i64 0)]) [(0, (some 5), v12), (5, (some 5), v13), (10, (some 5), (.agg c14.toArray))] fun c15 =>
kNew c15 .exact g2 n13 fun l15 g3 n15 =>
C emit_Builder_Add_id [a0, (.slice (some ⟨l15, 0, none⟩) 3 3)] g3 n15 fun v16 g4 n16 =>
aRet K (.tuple #[]) g4 n16))

theorem lock_Give_eq (C : CT) (a0 a1 : Value) (g : G) (n : Nat) (K : Cont) : lock_Give C a0 a1 g n K = abody Tryz.prog C lock_Give_id [a0, a1] g n K := by kernel_rfl

/- (*bellows/client.writer).tell -/
def client_writer_tell (C : CT) (a0 a1 : Value) (g : G) (n : Nat) (K : Cont) : Prop :=
kNil a0 fun v5 =>
kPtr v5 fun l6 o6 =>
kLd g l6 (o6 + 0) fun v7 =>
kFill [(.int .i64 0), (.int .i64 0), (.int .i64 0), (.int .i64 0), (.int .i64 0)] [(0, none, (.int .i64 21)), (1, none, a1)] fun c9 =>
kFill (reps 1 [(.int .i64 0), (.int .i64 0), (.int .i64 0), (.int .i64 0), (.int .i64 0)]) [(0, (some 5), (.agg c9.toArray))] fun c10 =>
kNew c10 .exact g n fun l10 g1 n10 =>
C emit_Builder_Add_id [v7, (.slice (some ⟨l10, 0, none⟩) 1 1)] g1 n10 fun v11 g2 n11 =>
aRet K (.tuple #[]) g2 n11

theorem client_writer_tell_eq (C : CT) (a0 a1 : Value) (g : G) (n : Nat) (K : Cont) : client_writer_tell C a0 a1 g n K = abody Tryz.prog C client_writer_tell_id [a0, a1] g n K := by kernel_rfl

/- bellows/bellowsref23.Take -/
def bellowsref23_Take (C : CT) (a0 a1 : Value) (g : G) (n : Nat) (K : Cont) : Prop :=
kBin .int .gtr a1 (.int .u64 4095) fun v6 =>
kSplit v6 (
aRet K (.tuple #[]) g n) (
C bellowsref21_Builder_Mark_id [a0] g n fun v8 g1 n8 =>
C bellowsref21_Builder_Here_id [a0, v8] g1 n8 fun v11 g2 n11 =>
C bellowsref23_Li_id [(.int .i64 1), a1] g2 n11 fun v14 g3 n14 =>
C bellowsref23_Li_id [(.int .i64 2), (.int .u64 0)] g3 n14 fun v15 g4 n15 =>
C bellowsref23_Li_id [(.int .i64 3), (.int .u64 1)] g4 n15 fun v16 g5 n16 =>
kFill [(.int .i64 0), (.int .i64 0), (.int .i64 0), (.int .i64 0), (.int .i64 0)] [(0, none, (.int .i64 10)), (1, none, (.int .i64 2)), (2, none, (.int .i64 1)), (3, none, (.int .i64 3))] fun c17 =>
C bellowsref23_Li_id [(.int .i64 0), (.int .u64 0)] g5 n16 fun v18 g6 n18 =>
kFill (reps 5 [(.int .i64 0), (.int .i64 0), (.int .i64 0), (.int .i64 0), (.int .i64 0)]) [(0, (some 5), v14), (5, (some 5), v15), (10, (some 5), v16), (15, (some 5), (.agg c17.toArray)), (20, (some 5), v18)] fun c19 =>
kNew c19 .exact g6 n18 fun l19 g7 n19 =>
C bellowsref21_Builder_Add_id [a0, (.slice (some ⟨l19, 0, none⟩) 5 5)] g7 n19 fun v20 g8 n20 =>
kFill [(.int .i64 0), (.int .i64 0), (.int .i64 0), (.int .i64 0), (.int .i64 0)] [(0, none, (.int .i64 19)), (1, none, (.int .i64 2)), (2, none, (.int .i64 0))] fun c22 =>
C bellowsref21_Builder_Jump_id [a0, (.agg c22.toArray), v8] g8 n20 fun v24 g9 n24 =>
aRet K (.tuple #[]) g9 n24)

theorem bellowsref23_Take_eq (C : CT) (a0 a1 : Value) (g : G) (n : Nat) (K : Cont) : bellowsref23_Take C a0 a1 g n K = abody Tryz.prog C bellowsref23_Take_id [a0, a1] g n K := by kernel_rfl

/- bellows/bellowsref25.one -/
def bellowsref25_one (C : CT) (a0 a1 a2 a3 a4 : Value) (g : G) (n : Nat) (K : Cont) : Prop :=
kAgg a1 fun c6 =>
kNew c6 .exact g n fun l6 g1 n6 =>
kAgg a2 fun c7 =>
kNew c7 .exact g1 n6 fun l7 g2 n7 =>
kLd g2 l7 (0 + 1) fun v14 =>
kBin .int .lss v14 (.int .i64 0) fun v15 =>
kSplit v15 (
C bellowsref25_li_id [(.int .i64 5), (.int .u64 103)] g2 n7 fun v24 g3 n24 =>
kFill (reps 1 [(.int .i64 0), (.int .i64 0), (.int .i64 0), (.int .i64 0), (.int .i64 0)]) [(0, (some 5), v24)] fun c25 =>
kNew c25 .exact g3 n24 fun l25 g4 n25 =>
C bellowsref21_Builder_Add_id [a0, (.slice (some ⟨l25, 0, none⟩) 1 1)] g4 n25 fun v26 g5 n26 =>
kFill [(.int .i64 0), (.int .i64 0), (.int .i64 0), (.int .i64 0), (.int .i64 0)] [(0, none, (.int .i64 17))] fun c28 =>
C bellowsref21_Builder_Jump_id [a0, (.agg c28.toArray), a4] g5 n26 fun v30 g6 n30 =>
aRet K (.tuple #[]) g6 n30) (
kLd g2 l7 (0 + 1) fun v18 =>
kLdN g2 l6 0 9 fun c19 =>
C bellowsref22_Words_id [(.agg c19.toArray)] g2 n7 fun v20 g7 n20 =>
(kPtr (ptr l7 (0 + 1)) fun l _ => g7 l = g2 l) ∧ kBin .int .geq v18 v20 fun v21 =>
kSplit v21 (
C bellowsref25_li_id [(.int .i64 5), (.int .u64 103)] g7 n20 fun v24 g8 n24 =>
kFill (reps 1 [(.int .i64 0), (.int .i64 0), (.int .i64 0), (.int .i64 0), (.int .i64 0)]) [(0, (some 5), v24)] fun c25 =>
kNew c25 .exact g8 n24 fun l25 g9 n25 =>
C bellowsref21_Builder_Add_id [a0, (.slice (some ⟨l25, 0, none⟩) 1 1)] g9 n25 fun v26 g10 n26 =>
kFill [(.int .i64 0), (.int .i64 0), (.int .i64 0), (.int .i64 0), (.int .i64 0)] [(0, none, (.int .i64 17))] fun c28 =>
C bellowsref21_Builder_Jump_id [a0, (.agg c28.toArray), a4] g10 n26 fun v30 g11 n30 =>
aRet K (.tuple #[]) g11 n30) (
kLdN g7 l6 0 9 fun c31 =>
kLd g7 l7 (0 + 1) fun v33 =>
C bellowsref22_Word_id [(.agg c31.toArray), v33] g7 n20 fun v34 g12 n34 =>
C bellowsref25_li_id [(.int .i64 1), v34] g12 n34 fun v35 g13 n35 =>
kNew [(.int .i64 0), (.int .i64 0), (.int .i64 0), (.int .i64 0), (.int .i64 0)] .exact g13 n35 fun l10 g14 n10 =>
kAgg v35 fun cg15 =>
cg15.length = 5 ∧ kStN g14 l10 0 cg15 fun g15 =>
kLd g15 l7 (0 + 0) fun v37 =>
kBin .int .eql v37 (.int .i64 1) fun v39 =>
kSplit v39 (
kLdN g15 l10 0 5 fun c41 =>
C bellowsref25_load_id [] g15 n10 fun v42 g16 n42 =>
(kPtr (ptr l10 0) fun l _ => g16 l = g15 l) ∧ C bellowsref25_tell_id [(.int .i64 4)] g16 n42 fun v43 g17 n43 =>
(kPtr (ptr l10 0) fun l _ => g17 l = g16 l) ∧ kFill (reps 3 [(.int .i64 0), (.int .i64 0), (.int .i64 0), (.int .i64 0), (.int .i64 0)]) [(0, (some 5), (.agg c41.toArray)), (5, (some 5), v42), (10, (some 5), v43)] fun c44 =>
kNew c44 .exact g17 n43 fun l44 g18 n44 =>
C bellowsref21_Builder_Add_id [a0, (.slice (some ⟨l44, 0, none⟩) 3 3)] g18 n44 fun v45 g19 n45 =>
aRet K (.tuple #[]) g19 n45) (
kBin .int .eql v37 (.int .i64 2) fun v47 =>
kSplit v47 (
kLdN g15 l6 0 9 fun c49 =>
kLd g15 l7 (0 + 1) fun v51 =>
C bellowsref24_Note_id [a0, (.agg c49.toArray), v51, a3] g15 n10 fun v53 g20 n53 =>
kLdN g20 l10 0 5 fun c55 =>
kLd g20 l7 (0 + 2) fun v57 =>
C bellowsref25_li_id [(.int .i64 4), v57] g20 n53 fun v58 g21 n58 =>
(kPtr (ptr l10 0) fun l _ => g21 l = g20 l) ∧ C bellowsref25_store_id [] g21 n58 fun v59 g22 n59 =>
(kPtr (ptr l10 0) fun l _ => g22 l = g21 l) ∧ kFill (reps 3 [(.int .i64 0), (.int .i64 0), (.int .i64 0), (.int .i64 0), (.int .i64 0)]) [(0, (some 5), (.agg c55.toArray)), (5, (some 5), v58), (10, (some 5), v59)] fun c60 =>
kNew c60 .exact g22 n59 fun l60 g23 n60 =>
C bellowsref21_Builder_Add_id [a0, (.slice (some ⟨l60, 0, none⟩) 3 3)] g23 n60 fun v61 g24 n61 =>
aRet K (.tuple #[]) g24 n61) (
kBin .int .eql v37 (.int .i64 3) fun v63 =>
kSplit v63 (
kLdN g15 l6 0 9 fun c65 =>
kLd g15 l7 (0 + 1) fun v67 =>
C bellowsref24_Note_id [a0, (.agg c65.toArray), v67, a3] g15 n10 fun v69 g25 n69 =>
kLdN g25 l10 0 5 fun c71 =>
kLd g25 l7 (0 + 2) fun v74 =>
kFill [(.int .i64 0), (.int .i64 0), (.int .i64 0), (.int .i64 0), (.int .i64 0)] [(0, none, (.int .i64 2)), (1, none, (.int .i64 4)), (2, none, (.int .i64 4)), (3, none, (.int .i64 5))] fun c76 =>
C bellowsref25_load_id [] g25 n69 fun v72 g26 n72 =>
(kPtr (ptr l10 0) fun l _ => g26 l = g25 l) ∧ (kPtr (ptr l7 (0 + 2)) fun l _ => g26 l = g25 l) ∧ C bellowsref25_li_id [(.int .i64 5), v74] g26 n72 fun v75 g27 n75 =>
(kPtr (ptr l10 0) fun l _ => g27 l = g26 l) ∧ C bellowsref25_store_id [] g27 n75 fun v77 g28 n77 =>
(kPtr (ptr l10 0) fun l _ => g28 l = g27 l) ∧ C bellowsref25_tell_id [(.int .i64 4)] g28 n77 fun v78 g29 n78 =>
(kPtr (ptr l10 0) fun l _ => g29 l = g28 l) ∧ kFill (reps 6 [(.int .i64 0), (.int .i64 0), (.int .i64 0), (.int .i64 0), (.int .i64 0)]) [(0, (some 5), (.agg c71.toArray)), (5, (some 5), v72), (10, (some 5), v75), (15, (some 5), (.agg c76.toArray)), (20, (some 5), v77), (25, (some 5), v78)] fun c79 =>
kNew c79 .exact g29 n78 fun l79 g30 n79 =>
C bellowsref21_Builder_Add_id [a0, (.slice (some ⟨l79, 0, none⟩) 6 6)] g30 n79 fun v80 g31 n80 =>
aRet K (.tuple #[]) g31 n80) (
kBin .int .eql v37 (.int .i64 4) fun v82 =>
kSplit v82 (
C bellowsref21_Builder_Mark_id [a0] g15 n10 fun v84 g32 n84 =>
C bellowsref21_Builder_Mark_id [a0] g32 n84 fun v86 g33 n86 =>
kLdN g33 l10 0 5 fun c88 =>
C bellowsref25_load_id [] g33 n86 fun v89 g34 n89 =>
(kPtr (ptr l10 0) fun l _ => g34 l = g33 l) ∧ C bellowsref25_li_id [(.int .i64 0), (.int .u64 0)] g34 n89 fun v90 g35 n90 =>
(kPtr (ptr l10 0) fun l _ => g35 l = g34 l) ∧ kFill (reps 3 [(.int .i64 0), (.int .i64 0), (.int .i64 0), (.int .i64 0), (.int .i64 0)]) [(0, (some 5), (.agg c88.toArray)), (5, (some 5), v89), (10, (some 5), v90)] fun c91 =>
kNew c91 .exact g35 n90 fun l91 g36 n91 =>
C bellowsref21_Builder_Add_id [a0, (.slice (some ⟨l91, 0, none⟩) 3 3)] g36 n91 fun v92 g37 n92 =>
kFill [(.int .i64 0), (.int .i64 0), (.int .i64 0), (.int .i64 0), (.int .i64 0)] [(0, none, (.int .i64 19)), (1, none, (.int .i64 4)), (2, none, (.int .i64 0))] fun c94 =>
C bellowsref21_Builder_Jump_id [a0, (.agg c94.toArray), v84] g37 n92 fun v96 g38 n96 =>
kLdN g38 l6 0 9 fun c98 =>
kLd g38 l7 (0 + 1) fun v100 =>
C bellowsref24_Note_id [a0, (.agg c98.toArray), v100, a3] g38 n96 fun v102 g39 n102 =>
kLdN g39 l10 0 5 fun c104 =>
kLd g39 l7 (0 + 2) fun v106 =>
C bellowsref25_li_id [(.int .i64 4), v106] g39 n102 fun v107 g40 n107 =>
(kPtr (ptr l10 0) fun l _ => g40 l = g39 l) ∧ C bellowsref25_store_id [] g40 n107 fun v108 g41 n108 =>
(kPtr (ptr l10 0) fun l _ => g41 l = g40 l) ∧ C bellowsref25_li_id [(.int .i64 4), (.int .u64 1)] g41 n108 fun v109 g42 n109 =>
(kPtr (ptr l10 0) fun l _ => g42 l = g41 l) ∧ C bellowsref25_tell_id [(.int .i64 4)] g42 n109 fun v110 g43 n110 =>
(kPtr (ptr l10 0) fun l _ => g43 l = g42 l) ∧ kFill (reps 5 [(.int .i64 0), (.int .i64 0), (.int .i64 0), (.int .i64 0), (.int .i64 0)]) [(0, (some 5), (.agg c104.toArray)), (5, (some 5), v107), (10, (some 5), v108), (15, (some 5), v109), (20, (some 5), v110)] fun c111 =>
kNew c111 .exact g43 n110 fun l111 g44 n111 =>
C bellowsref21_Builder_Add_id [a0, (.slice (some ⟨l111, 0, none⟩) 5 5)] g44 n111 fun v112 g45 n112 =>
kFill [(.int .i64 0), (.int .i64 0), (.int .i64 0), (.int .i64 0), (.int .i64 0)] [(0, none, (.int .i64 17))] fun c114 =>
C bellowsref21_Builder_Jump_id [a0, (.agg c114.toArray), v86] g45 n112 fun v116 g46 n116 =>
C bellowsref21_Builder_Here_id [a0, v84] g46 n116 fun v119 g47 n119 =>
C bellowsref25_li_id [(.int .i64 4), (.int .u64 0)] g47 n119 fun v121 g48 n121 =>
C bellowsref25_tell_id [(.int .i64 4)] g48 n121 fun v122 g49 n122 =>
kFill (reps 2 [(.int .i64 0), (.int .i64 0), (.int .i64 0), (.int .i64 0), (.int .i64 0)]) [(0, (some 5), v121), (5, (some 5), v122)] fun c123 =>
kNew c123 .exact g49 n122 fun l123 g50 n123 =>
C bellowsref21_Builder_Add_id [a0, (.slice (some ⟨l123, 0, none⟩) 2 2)] g50 n123 fun v124 g51 n124 =>
C bellowsref21_Builder_Here_id [a0, v86] g51 n124 fun v127 g52 n127 =>
aRet K (.tuple #[]) g52 n127) (
aRet K (.tuple #[]) g15 n10))))))

theorem bellowsref25_one_eq (C : CT) (a0 a1 a2 a3 a4 : Value) (g : G) (n : Nat) (K : Cont) : bellowsref25_one C a0 a1 a2 a3 a4 g n K = abody Tryz.prog C bellowsref25_one_id [a0, a1, a2, a3, a4] g n K := by kernel_rfl

/- bellows/bellowsref25.li -/
def bellowsref25_li (C : CT) (a0 a1 : Value) (g : G) (n : Nat) (K : Cont) : Prop :=
kNew [(.int .i64 0), (.int .i64 0), (.int .i64 0), (.int .i64 0), (.int .i64 0)] .exact g n fun l4 g1 n4 =>
C bellowsref23_Li_id [a0, a1] g1 n4 fun v7 g2 n7 =>
kAgg v7 fun cg3 =>
cg3.length = 5 ∧ kStN g2 l4 0 cg3 fun g3 =>
kLdN g3 l4 0 5 fun r0 =>
aRet K (.agg r0.toArray) g3 n7

theorem bellowsref25_li_eq (C : CT) (a0 a1 : Value) (g : G) (n : Nat) (K : Cont) : bellowsref25_li C a0 a1 g n K = abody Tryz.prog C bellowsref25_li_id [a0, a1] g n K := by kernel_rfl

/- bellows/bellowsref23.Give -/
def bellowsref23_Give (C : CT) (a0 a1 : Value) (g : G) (n : Nat) (K : Cont) : Prop :=
kBin .int .gtr a1 (.int .u64 4095) fun v5 =>
kSplit v5 (
aRet K (.tuple #[]) g n) (
C bellowsref23_Li_id [(.int .i64 1), a1] g n fun v8 g1 n8 =>
C bellowsref23_Li_id [(.int .i64 0), (.int .u64 0)] g1 n8 fun v9 g2 n9 =>
kFill [(.int .i64 0), (.int .i64 0), (.int .i64 0), (.int .i64 0), (.int .i64 0)] [(0, none, (.int .i64 9)), (1, none, (.int .i64 0)), (2, none, (.int .i64 1))] fun c10 =>
kFill (reps 3 [(.int .i64 0), (.int .i64 0), (.int .i64 0), (.int .i64 0), (.int .i64 0)]) [(0, (some 5), v8), (5, (some 5), v9), (10, (some 5), (.agg c10.toArray))] fun c11 =>
kNew c11 .exact g2 n9 fun l11 g3 n11 =>
C bellowsref21_Builder_Add_id [a0, (.slice (some ⟨l11, 0, none⟩) 3 3)] g3 n11 fun v12 g4 n12 =>
aRet K (.tuple #[]) g4 n12)

theorem bellowsref23_Give_eq (C : CT) (a0 a1 : Value) (g : G) (n : Nat) (K : Cont) : bellowsref23_Give C a0 a1 g n K = abody Tryz.prog C bellowsref23_Give_id [a0, a1] g n K := by kernel_rfl

/- bellows/bellowsref25.tell -/
def bellowsref25_tell (C : CT) (a0 : Value) (g : G) (n : Nat) (K : Cont) : Prop :=
kNew [(.int .i64 0), (.int .i64 0), (.int .i64 0), (.int .i64 0), (.int .i64 0)] .exact g n fun l2 g1 n2 =>
kFill [(.int .i64 0), (.int .i64 0), (.int .i64 0), (.int .i64 0), (.int .i64 0)] [(0, none, (.int .i64 21)), (1, none, a0)] fun c4 =>
kAgg (.agg c4.toArray) fun cg2 =>
cg2.length = 5 ∧ kStN g1 l2 0 cg2 fun g2 =>
kLdN g2 l2 0 5 fun r0 =>
aRet K (.agg r0.toArray) g2 n2

theorem bellowsref25_tell_eq (C : CT) (a0 : Value) (g : G) (n : Nat) (K : Cont) : bellowsref25_tell C a0 g n K = abody Tryz.prog C bellowsref25_tell_id [a0] g n K := by kernel_rfl

/- (*sync.Once).Do -/
def sync_Once_Do (C : CT) (a0 a1 : Value) (g : G) (n : Nat) (K : Cont) : Prop :=
kNil a0 fun v5 =>
kPtr v5 fun l6 o6 =>
C sync_atomic_Bool_Load_id [(ptr l6 (o6 + 0))] g n fun v7 g1 n7 =>
kUn .not v7 fun v8 =>
kSplit v8 (
C sync_Once_doSlow_id [a0, a1] g1 n7 fun v11 g2 n11 =>
aRet K (.tuple #[]) g2 n11) (
aRet K (.tuple #[]) g1 n7)

theorem sync_Once_Do_eq (C : CT) (a0 a1 : Value) (g : G) (n : Nat) (K : Cont) : sync_Once_Do C a0 a1 g n K = abody Tryz.prog C sync_Once_Do_id [a0, a1] g n K := by kernel_rfl

/- bellows/layout.of$1 -/
def layout_of_1 (C : CT) (a0 a1 : Value) (g : G) (n : Nat) (K : Cont) : Prop :=
kPtr a0 fun l2 o2 =>
kLd g l2 o2 fun v2 =>
kPtr a1 fun l3 o3 =>
kLdN g l3 o3 9 fun c3 =>
C layout_plan_reckon_id [v2, (.agg c3.toArray)] g n fun v4 g1 n4 =>
aRet K (.tuple #[]) g1 n4

theorem layout_of_1_eq (C : CT) (a0 a1 : Value) (g : G) (n : Nat) (K : Cont) : layout_of_1 C a0 a1 g n K = abody Tryz.prog C layout_of_1_id [a0, a1] g n K := by kernel_rfl

/- (*bellows/layout.plan).reckon -/
def layout_plan_reckon (C : CT) (a0 a1 : Value) (g : G) (n : Nat) (K : Cont) : Prop :=
kAgg a1 fun c3 =>
kNew c3 .exact g n fun l3 g1 n3 =>
kLdN g1 l3 (0 + 0) 7 fun c6 =>
C word_Good_id [(.agg c6.toArray)] g1 n3 fun v7 g2 n7 =>
kSplit v7 (
kLd g2 l3 (0 + 7) fun v10 =>
kBin .int .geq v10 (.int .i64 1) fun v11 =>
kSplit v11 (
kLd g2 l3 (0 + 7) fun v15 =>
kBin .int .leq v15 (.int .i64 16) fun v16 =>
kSplit v16 (
kLd g2 l3 (0 + 8) fun v20 =>
kBin .int .geq v20 (.int .i64 1) fun v21 =>
kSplit v21 (
kLd g2 l3 (0 + 8) fun v25 =>
kBin .int .leq v25 (.int .i64 16) fun v26 =>
kSplit v26 (
kLd g2 l3 (0 + 0 + 1) fun v31 =>
kLd g2 l3 (0 + 0 + 2) fun v34 =>
kBin .int .sub v31 v34 fun v35 =>
kLd g2 l3 (0 + 7) fun v37 =>
kBin .int .add (.int .i64 1) v37 fun v38 =>
kLd g2 l3 (0 + 8) fun v40 =>
kBin .int .add v38 v40 fun v41 =>
kBin .int .geq v35 v41 fun v42 =>
kNil a0 fun v44 =>
kPtr v44 fun l45 o45 =>
kSt g2 l45 (o45 + 3) v42 fun g3 =>
kLd g3 l3 (0 + 0 + 2) fun v49 =>
kBin .int .add v49 (.int .i64 1) fun v50 =>
kNil a0 fun v51 =>
kPtr v51 fun l52 o52 =>
kSt g3 l52 (o52 + 4) v50 fun g4 =>
kNil a0 fun v55 =>
kPtr v55 fun l56 o56 =>
kLd g4 l56 (o56 + 4) fun v57 =>
kLd g4 l3 (0 + 7) fun v59 =>
kBin .int .add v57 v59 fun v60 =>
kNil a0 fun v61 =>
kPtr v61 fun l62 o62 =>
kSt g4 l62 (o62 + 5) v60 fun g5 =>
kLd g5 l3 (0 + 8) fun v66 =>
kLd g5 l3 (0 + 7) fun v68 =>
kBin .int .mul (.int .i64 4) v68 fun v69 =>
kNil a0 fun v70 =>
kPtr v70 fun l71 o71 =>
kSt g5 l71 (o71 + 6) v66 fun g6 =>
(kPtr (ptr l3 (0 + 7)) fun l _ => g6 l = g5 l) ∧ kNil a0 fun v72 =>
kPtr v72 fun l73 o73 =>
kSt g6 l73 (o73 + 7) v69 fun g7 =>
aRet K (.tuple #[]) g7 n7) (
kNil a0 fun v44 =>
kPtr v44 fun l45 o45 =>
kSt g2 l45 (o45 + 3) (.bool false) fun g8 =>
kLd g8 l3 (0 + 0 + 2) fun v49 =>
kBin .int .add v49 (.int .i64 1) fun v50 =>
kNil a0 fun v51 =>
kPtr v51 fun l52 o52 =>
kSt g8 l52 (o52 + 4) v50 fun g9 =>
kNil a0 fun v55 =>
kPtr v55 fun l56 o56 =>
kLd g9 l56 (o56 + 4) fun v57 =>
kLd g9 l3 (0 + 7) fun v59 =>
kBin .int .add v57 v59 fun v60 =>
kNil a0 fun v61 =>
kPtr v61 fun l62 o62 =>
kSt g9 l62 (o62 + 5) v60 fun g10 =>
kLd g10 l3 (0 + 8) fun v66 =>
kLd g10 l3 (0 + 7) fun v68 =>
kBin .int .mul (.int .i64 4) v68 fun v69 =>
kNil a0 fun v70 =>
kPtr v70 fun l71 o71 =>
kSt g10 l71 (o71 + 6) v66 fun g11 =>
(kPtr (ptr l3 (0 + 7)) fun l _ => g11 l = g10 l) ∧ kNil a0 fun v72 =>
kPtr v72 fun l73 o73 =>
kSt g11 l73 (o73 + 7) v69 fun g12 =>
aRet K (.tuple #[]) g12 n7)) (
kNil a0 fun v44 =>
kPtr v44 fun l45 o45 =>
kSt g2 l45 (o45 + 3) (.bool false) fun g13 =>
kLd g13 l3 (0 + 0 + 2) fun v49 =>
kBin .int .add v49 (.int .i64 1) fun v50 =>
kNil a0 fun v51 =>
kPtr v51 fun l52 o52 =>
kSt g13 l52 (o52 + 4) v50 fun g14 =>
kNil a0 fun v55 =>
kPtr v55 fun l56 o56 =>
kLd g14 l56 (o56 + 4) fun v57 =>
kLd g14 l3 (0 + 7) fun v59 =>
kBin .int .add v57 v59 fun v60 =>
kNil a0 fun v61 =>
kPtr v61 fun l62 o62 =>
kSt g14 l62 (o62 + 5) v60 fun g15 =>
kLd g15 l3 (0 + 8) fun v66 =>
kLd g15 l3 (0 + 7) fun v68 =>
kBin .int .mul (.int .i64 4) v68 fun v69 =>
kNil a0 fun v70 =>
kPtr v70 fun l71 o71 =>
kSt g15 l71 (o71 + 6) v66 fun g16 =>
(kPtr (ptr l3 (0 + 7)) fun l _ => g16 l = g15 l) ∧ kNil a0 fun v72 =>
kPtr v72 fun l73 o73 =>
kSt g16 l73 (o73 + 7) v69 fun g17 =>
aRet K (.tuple #[]) g17 n7)) (
kNil a0 fun v44 =>
kPtr v44 fun l45 o45 =>
kSt g2 l45 (o45 + 3) (.bool false) fun g18 =>
kLd g18 l3 (0 + 0 + 2) fun v49 =>
kBin .int .add v49 (.int .i64 1) fun v50 =>
kNil a0 fun v51 =>
kPtr v51 fun l52 o52 =>
kSt g18 l52 (o52 + 4) v50 fun g19 =>
kNil a0 fun v55 =>
kPtr v55 fun l56 o56 =>
kLd g19 l56 (o56 + 4) fun v57 =>
kLd g19 l3 (0 + 7) fun v59 =>
kBin .int .add v57 v59 fun v60 =>
kNil a0 fun v61 =>
kPtr v61 fun l62 o62 =>
kSt g19 l62 (o62 + 5) v60 fun g20 =>
kLd g20 l3 (0 + 8) fun v66 =>
kLd g20 l3 (0 + 7) fun v68 =>
kBin .int .mul (.int .i64 4) v68 fun v69 =>
kNil a0 fun v70 =>
kPtr v70 fun l71 o71 =>
kSt g20 l71 (o71 + 6) v66 fun g21 =>
(kPtr (ptr l3 (0 + 7)) fun l _ => g21 l = g20 l) ∧ kNil a0 fun v72 =>
kPtr v72 fun l73 o73 =>
kSt g21 l73 (o73 + 7) v69 fun g22 =>
aRet K (.tuple #[]) g22 n7)) (
kNil a0 fun v44 =>
kPtr v44 fun l45 o45 =>
kSt g2 l45 (o45 + 3) (.bool false) fun g23 =>
kLd g23 l3 (0 + 0 + 2) fun v49 =>
kBin .int .add v49 (.int .i64 1) fun v50 =>
kNil a0 fun v51 =>
kPtr v51 fun l52 o52 =>
kSt g23 l52 (o52 + 4) v50 fun g24 =>
kNil a0 fun v55 =>
kPtr v55 fun l56 o56 =>
kLd g24 l56 (o56 + 4) fun v57 =>
kLd g24 l3 (0 + 7) fun v59 =>
kBin .int .add v57 v59 fun v60 =>
kNil a0 fun v61 =>
kPtr v61 fun l62 o62 =>
kSt g24 l62 (o62 + 5) v60 fun g25 =>
kLd g25 l3 (0 + 8) fun v66 =>
kLd g25 l3 (0 + 7) fun v68 =>
kBin .int .mul (.int .i64 4) v68 fun v69 =>
kNil a0 fun v70 =>
kPtr v70 fun l71 o71 =>
kSt g25 l71 (o71 + 6) v66 fun g26 =>
(kPtr (ptr l3 (0 + 7)) fun l _ => g26 l = g25 l) ∧ kNil a0 fun v72 =>
kPtr v72 fun l73 o73 =>
kSt g26 l73 (o73 + 7) v69 fun g27 =>
aRet K (.tuple #[]) g27 n7)) (
kNil a0 fun v44 =>
kPtr v44 fun l45 o45 =>
kSt g2 l45 (o45 + 3) (.bool false) fun g28 =>
kLd g28 l3 (0 + 0 + 2) fun v49 =>
kBin .int .add v49 (.int .i64 1) fun v50 =>
kNil a0 fun v51 =>
kPtr v51 fun l52 o52 =>
kSt g28 l52 (o52 + 4) v50 fun g29 =>
kNil a0 fun v55 =>
kPtr v55 fun l56 o56 =>
kLd g29 l56 (o56 + 4) fun v57 =>
kLd g29 l3 (0 + 7) fun v59 =>
kBin .int .add v57 v59 fun v60 =>
kNil a0 fun v61 =>
kPtr v61 fun l62 o62 =>
kSt g29 l62 (o62 + 5) v60 fun g30 =>
kLd g30 l3 (0 + 8) fun v66 =>
kLd g30 l3 (0 + 7) fun v68 =>
kBin .int .mul (.int .i64 4) v68 fun v69 =>
kNil a0 fun v70 =>
kPtr v70 fun l71 o71 =>
kSt g30 l71 (o71 + 6) v66 fun g31 =>
(kPtr (ptr l3 (0 + 7)) fun l _ => g31 l = g30 l) ∧ kNil a0 fun v72 =>
kPtr v72 fun l73 o73 =>
kSt g31 l73 (o73 + 7) v69 fun g32 =>
aRet K (.tuple #[]) g32 n7)

theorem layout_plan_reckon_eq (C : CT) (a0 a1 : Value) (g : G) (n : Nat) (K : Cont) : layout_plan_reckon C a0 a1 g n K = abody Tryz.prog C layout_plan_reckon_id [a0, a1] g n K := by kernel_rfl

/- bellows/word.is -/
def word_is (C : CT) (a0 : Value) (g : G) (n : Nat) (K : Cont) : Prop :=
kBin .int .geq a0 (.int .i64 0) fun v4 =>
kSplit v4 (
kBin .int .lss a0 (.int .i64 8) fun v7 =>
aRet K v7 g n) (
aRet K (.bool false) g n)

theorem word_is_eq (C : CT) (a0 : Value) (g : G) (n : Nat) (K : Cont) : word_is C a0 g n K = abody Tryz.prog C word_is_id [a0] g n K := by kernel_rfl

/- slices.insertionSortOrdered[uint64] -/
def slices_insertionSortOrdered_uint64_j4 (C : CT) (K : Cont) (I_l1 : ECont) (I_l2 : ECont) (t : Env) (g : G) (n : Nat) : Prop :=
kBin .int .sub (t 7) (.int .i64 1) fun v32 =>
I_l2 (puts t [(31, (t 7)), (32, v32), (7, v32)]) g n

def slices_insertionSortOrdered_uint64_j5 (C : CT) (K : Cont) (I_l1 : ECont) (t : Env) (g : G) (n : Nat) : Prop :=
kBin .int .add (t 6) (.int .i64 1) fun v14 =>
I_l1 (puts t [(13, (t 6)), (14, v14), (6, v14)]) g n

def slices_insertionSortOrdered_uint64_j3 (C : CT) (K : Cont) (I_l1 : ECont) (I_l2 : ECont) (t : Env) (g : G) (n : Nat) : Prop :=
kSplit (t 30) (
kBin .int .sub (t 7) (.int .i64 1) fun v37 =>
kBin .int .sub (t 7) (.int .i64 1) fun v40 =>
kIndexAddr (t 0) v40 1 fun v41 =>
kPtr v41 fun l42 o42 =>
kLd g l42 o42 fun v42 =>
kIndexAddr (t 0) (t 7) 1 fun v45 =>
kPtr v45 fun l46 o46 =>
kLd g l46 o46 fun v46 =>
kIndexAddr (t 0) (t 7) 1 fun v47 =>
kPtr v47 fun lg2 og2 =>
kSt g lg2 og2 v42 fun g2 =>
kIndexAddr (t 0) v37 1 fun v48 =>
kPtr v48 fun lg3 og3 =>
kSt g2 lg3 og3 v46 fun g3 =>
slices_insertionSortOrdered_uint64_j4 C K I_l1 I_l2 (puts t [(33, (t 0)), (34, (t 7)), (35, (t 0)), (36, (t 7)), (37, v37), (38, (t 0)), (39, (t 7)), (40, v40), (41, v41), (42, v42), (43, (t 0)), (44, (t 7)), (45, v45), (46, v46), (47, v47), (48, v48)]) g3 n) (
slices_insertionSortOrdered_uint64_j5 C K I_l1 t g n)

def slices_insertionSortOrdered_uint64_l2 (C : CT) (K : Cont) (I_l1 : ECont) (I_l2 : ECont) (t : Env) (g : G) (n : Nat) : Prop :=
kBin .int .gtr (t 7) (t 1) fun v18 =>
kSplit v18 (
kIndexAddr (t 0) (t 7) 1 fun v22 =>
kPtr v22 fun l23 o23 =>
kLd g l23 o23 fun v23 =>
kBin .int .sub (t 7) (.int .i64 1) fun v26 =>
kIndexAddr (t 0) v26 1 fun v27 =>
kPtr v27 fun l28 o28 =>
kLd g l28 o28 fun v28 =>
C cmp_Less_uint64_id [v23, v28] g n fun v29 g1 n29 =>
slices_insertionSortOrdered_uint64_j3 C K I_l1 I_l2 (puts t [(16, (t 7)), (17, (t 1)), (18, v18), (19, (.bool true)), (20, (t 0)), (21, (t 7)), (22, v22), (23, v23), (24, (t 0)), (25, (t 7)), (26, v26), (27, v27), (28, v28), (29, v29), (30, v29)]) g1 n29) (
slices_insertionSortOrdered_uint64_j3 C K I_l1 I_l2 (puts t [(16, (t 7)), (17, (t 1)), (18, v18), (19, (.bool false)), (20, undef), (21, undef), (22, undef), (23, undef), (24, undef), (25, undef), (26, undef), (27, undef), (28, undef), (29, undef), (30, (.bool false))]) g n)

def slices_insertionSortOrdered_uint64_l1 (C : CT) (K : Cont) (I_l1 : ECont) (t : Env) (g : G) (n : Nat) : Prop :=
kBin .int .lss (t 6) (t 2) fun v12 =>
kSplit v12 (
lfp (slices_insertionSortOrdered_uint64_l2 C K I_l1) (puts t [(10, (t 6)), (11, (t 2)), (12, v12), (15, (t 6)), (7, (t 6))]) g n) (
aRet K (.tuple #[]) g n)

def slices_insertionSortOrdered_uint64 (C : CT) (a0 a1 a2 : Value) (g : G) (n : Nat) (K : Cont) : Prop :=
kBin .int .add a1 (.int .i64 1) fun v9 =>
lfp (slices_insertionSortOrdered_uint64_l1 C K) (puts (args0 [a0, a1, a2]) [(8, a1), (9, v9), (6, v9)]) g n

theorem slices_insertionSortOrdered_uint64_eq (C : CT) (a0 a1 a2 : Value) (g : G) (n : Nat) (K : Cont) : slices_insertionSortOrdered_uint64 C a0 a1 a2 g n K = abody Tryz.prog C slices_insertionSortOrdered_uint64_id [a0, a1, a2] g n K := by kernel_rfl

/- slices.heapSortOrdered[uint64] -/
def slices_heapSortOrdered_uint64_j4 (C : CT) (K : Cont) (I_l3 : ECont) (t : Env) (g : G) (n : Nat) : Prop :=
C slices_siftDownOrdered_uint64_id [(t 0), (t 7), (t 10), (t 6)] g n fun v55 g4 n55 =>
kBin .int .sub (t 10) (.int .i64 1) fun v32 =>
I_l3 (puts t [(51, (t 0)), (52, (t 7)), (53, (t 10)), (54, (t 6)), (55, v55), (31, (t 10)), (32, v32), (10, v32)]) g4 n55

def slices_heapSortOrdered_uint64_l3 (C : CT) (K : Cont) (I_l3 : ECont) (t : Env) (g : G) (n : Nat) : Prop :=
kBin .int .geq (t 10) (.int .i64 0) fun v30 =>
kSplit v30 (
kBin .int .add (t 6) (t 10) fun v38 =>
kBin .int .add (t 6) (t 10) fun v42 =>
kIndexAddr (t 0) v42 1 fun v43 =>
kPtr v43 fun l44 o44 =>
kLd g l44 o44 fun v44 =>
kIndexAddr (t 0) (t 6) 1 fun v47 =>
kPtr v47 fun l48 o48 =>
kLd g l48 o48 fun v48 =>
kIndexAddr (t 0) (t 6) 1 fun v49 =>
kPtr v49 fun lg2 og2 =>
kSt g lg2 og2 v44 fun g2 =>
kIndexAddr (t 0) v38 1 fun v50 =>
kPtr v50 fun lg3 og3 =>
kSt g2 lg3 og3 v48 fun g3 =>
slices_heapSortOrdered_uint64_j4 C K I_l3 (puts t [(29, (t 10)), (30, v30), (33, (t 0)), (34, (t 6)), (35, (t 0)), (36, (t 6)), (37, (t 10)), (38, v38), (39, (t 0)), (40, (t 6)), (41, (t 10)), (42, v42), (43, v43), (44, v44), (45, (t 0)), (46, (t 6)), (47, v47), (48, v48), (49, v49), (50, v50)]) g3 n) (
aRet K (.tuple #[]) g n)

def slices_heapSortOrdered_uint64_j2 (C : CT) (K : Cont) (t : Env) (g : G) (n : Nat) : Prop :=
kBin .int .sub (t 8) (.int .i64 1) fun v28 =>
lfp (slices_heapSortOrdered_uint64_l3 C K) (puts t [(27, (t 8)), (28, v28), (10, v28)]) g n

def slices_heapSortOrdered_uint64_l1 (C : CT) (K : Cont) (I_l1 : ECont) (t : Env) (g : G) (n : Nat) : Prop :=
kBin .int .geq (t 9) (.int .i64 0) fun v19 =>
kSplit v19 (
C slices_siftDownOrdered_uint64_id [(t 0), (t 9), (t 8), (t 6)] g n fun v26 g1 n26 =>
kBin .int .sub (t 9) (.int .i64 1) fun v21 =>
I_l1 (puts t [(18, (t 9)), (19, v19), (22, (t 0)), (23, (t 9)), (24, (t 8)), (25, (t 6)), (26, v26), (20, (t 9)), (21, v21), (9, v21)]) g1 n26) (
slices_heapSortOrdered_uint64_j2 C K (puts t [(18, (t 9)), (19, v19)]) g n)

def slices_heapSortOrdered_uint64 (C : CT) (a0 a1 a2 : Value) (g : G) (n : Nat) (K : Cont) : Prop :=
kBin .int .sub a2 a1 fun v14 =>
kBin .int .sub v14 (.int .i64 1) fun v16 =>
kBin .int .quo v16 (.int .i64 2) fun v17 =>
lfp (slices_heapSortOrdered_uint64_l1 C K) (puts (args0 [a0, a1, a2]) [(11, a1), (6, a1), (7, (.int .i64 0)), (12, a2), (13, a1), (14, v14), (8, v14), (15, v14), (16, v16), (17, v17), (9, v17)]) g n

theorem slices_heapSortOrdered_uint64_eq (C : CT) (a0 a1 a2 : Value) (g : G) (n : Nat) (K : Cont) : slices_heapSortOrdered_uint64 C a0 a1 a2 g n K = abody Tryz.prog C slices_heapSortOrdered_uint64_id [a0, a1, a2] g n K := by kernel_rfl

/- slices.breakPatternsOrdered[uint64] -/
def slices_breakPatternsOrdered_uint64_j4 (C : CT) (K : Cont) (I_l1 : ECont) (t : Env) (g : G) (n : Nat) : Prop :=
kBin .int .add (t 9) (.int .i64 1) fun v35 =>
I_l1 (puts t [(34, (t 9)), (35, v35), (9, v35)]) g n

def slices_breakPatternsOrdered_uint64_j3 (C : CT) (K : Cont) (I_l1 : ECont) (t : Env) (g : G) (n : Nat) : Prop :=
slices_breakPatternsOrdered_uint64_j4 C K I_l1 t g n

def slices_breakPatternsOrdered_uint64_j2 (C : CT) (K : Cont) (I_l1 : ECont) (t : Env) (g : G) (n : Nat) : Prop :=
kBin .int .add (t 1) (t 10) fun v52 =>
kBin .int .add (t 1) (t 10) fun v56 =>
kIndexAddr (t 0) v56 1 fun v57 =>
kPtr v57 fun l58 o58 =>
kLd g l58 o58 fun v58 =>
kIndexAddr (t 0) (t 9) 1 fun v61 =>
kPtr v61 fun l62 o62 =>
kLd g l62 o62 fun v62 =>
kIndexAddr (t 0) (t 9) 1 fun v63 =>
kPtr v63 fun lg5 og5 =>
kSt g lg5 og5 v58 fun g5 =>
kIndexAddr (t 0) v52 1 fun v64 =>
kPtr v64 fun lg6 og6 =>
kSt g5 lg6 og6 v62 fun g6 =>
slices_breakPatternsOrdered_uint64_j3 C K I_l1 (puts t [(47, (t 0)), (48, (t 9)), (49, (t 0)), (50, (t 1)), (51, (t 10)), (52, v52), (53, (t 0)), (54, (t 1)), (55, (t 10)), (56, v56), (57, v57), (58, v58), (59, (t 0)), (60, (t 9)), (61, v61), (62, v62), (63, v63), (64, v64)]) g6 n

def slices_breakPatternsOrdered_uint64_l1 (C : CT) (K : Cont) (I_l1 : ECont) (t : Env) (g : G) (n : Nat) : Prop :=
kBin .int .quo (t 6) (.int .i64 4) fun v29 =>
kBin .int .mul v29 (.int .i64 2) fun v30 =>
kBin .int .add (t 1) v30 fun v31 =>
kBin .int .add v31 (.int .i64 1) fun v32 =>
kBin .int .leq (t 9) v32 fun v33 =>
kSplit v33 (
C slices_xorshift_Next_id [(t 7)] g n fun v36 g4 n36 =>
kBin .int .sub (t 8) (.int .u64 1) fun v38 =>
kBin .int .and v36 v38 fun v39 =>
kConv .i64 v39 fun v40 =>
kBin .int .geq v40 (t 6) fun v43 =>
kSplit v43 (
kBin .int .sub v40 (t 6) fun v46 =>
slices_breakPatternsOrdered_uint64_j2 C K I_l1 (puts t [(26, (t 9)), (27, (t 1)), (28, (t 6)), (29, v29), (30, v30), (31, v31), (32, v32), (33, v33), (36, v36), (37, (t 8)), (38, v38), (39, v39), (40, v40), (10, v40), (41, v40), (42, (t 6)), (43, v43), (44, v40), (45, (t 6)), (46, v46), (10, v46)]) g4 n36) (
slices_breakPatternsOrdered_uint64_j2 C K I_l1 (puts t [(26, (t 9)), (27, (t 1)), (28, (t 6)), (29, v29), (30, v30), (31, v31), (32, v32), (33, v33), (36, v36), (37, (t 8)), (38, v38), (39, v39), (40, v40), (10, v40), (41, v40), (42, (t 6)), (43, v43)]) g4 n36)) (
aRet K (.tuple #[]) g n)

def slices_breakPatternsOrdered_uint64 (C : CT) (a0 a1 a2 : Value) (g : G) (n : Nat) (K : Cont) : Prop :=
kBin .int .sub a2 a1 fun v13 =>
kBin .int .geq v13 (.int .i64 8) fun v15 =>
kSplit v15 (
kConv .u64 v13 fun v17 =>
kNew [(.int .u64 0)] .exact g n fun l7 g1 n7 =>
kSt g1 l7 0 v17 fun g2 =>
C slices_nextPowerOfTwo_id [v13] g2 n7 fun v19 g3 n19 =>
kBin .int .quo v13 (.int .i64 4) fun v22 =>
kBin .int .mul v22 (.int .i64 2) fun v23 =>
kBin .int .add a1 v23 fun v24 =>
kBin .int .sub v24 (.int .i64 1) fun v25 =>
lfp (slices_breakPatternsOrdered_uint64_l1 C K) (puts (args0 [a0, a1, a2]) [(11, a2), (12, a1), (13, v13), (6, v13), (14, v13), (15, v15), (16, v13), (17, v17), (7, (ptr l7 0)), (18, v13), (19, v19), (8, v19), (20, a1), (21, v13), (22, v22), (23, v23), (24, v24), (25, v25), (9, v25)]) g3 n19) (
aRet K (.tuple #[]) g n)

theorem slices_breakPatternsOrdered_uint64_eq (C : CT) (a0 a1 a2 : Value) (g : G) (n : Nat) (K : Cont) : slices_breakPatternsOrdered_uint64 C a0 a1 a2 g n K = abody Tryz.prog C slices_breakPatternsOrdered_uint64_id [a0, a1, a2] g n K := by kernel_rfl

/- slices.choosePivotOrdered[uint64] -/
def slices_choosePivotOrdered_uint64_j2 (C : CT) (K : Cont) (t : Env) (g : G) (n : Nat) : Prop :=
kPtr (t 9) fun l49 o49 =>
kLd g l49 o49 fun v49 =>
kBin .int .eql v49 (.int .i64 0) fun v52 =>
kSplit v52 (
aRet K (.tuple #[(t 11), (.int .i64 1)]) g n) (
kBin .int .eql v49 (.int .i64 12) fun v55 =>
kSplit v55 (
aRet K (.tuple #[(t 11), (.int .i64 2)]) g n) (
aRet K (.tuple #[(t 11), (.int .i64 0)]) g n))

def slices_choosePivotOrdered_uint64_j1 (C : CT) (K : Cont) (t : Env) (g : G) (n : Nat) : Prop :=
C slices_medianOrdered_uint64_id [(t 0), (t 10), (t 11), (t 12), (t 9)] g n fun v48 g5 n48 =>
slices_choosePivotOrdered_uint64_j2 C K (puts t [(44, (t 0)), (45, (t 10)), (46, (t 11)), (47, (t 12)), (48, v48), (11, v48)]) g5 n48

def slices_choosePivotOrdered_uint64 (C : CT) (a0 a1 a2 : Value) (g : G) (n : Nat) (K : Cont) : Prop :=
kBin .int .sub a2 a1 fun v15 =>
kNew [(.int .i64 0)] .exact g n fun l9 g1 n9 =>
kBin .int .quo v15 (.int .i64 4) fun v18 =>
kBin .int .mul v18 (.int .i64 1) fun v19 =>
kBin .int .add a1 v19 fun v20 =>
kBin .int .quo v15 (.int .i64 4) fun v23 =>
kBin .int .mul v23 (.int .i64 2) fun v24 =>
kBin .int .add a1 v24 fun v25 =>
kBin .int .quo v15 (.int .i64 4) fun v28 =>
kBin .int .mul v28 (.int .i64 3) fun v29 =>
kBin .int .add a1 v29 fun v30 =>
kBin .int .geq v15 (.int .i64 8) fun v32 =>
kSplit v32 (
kBin .int .geq v15 (.int .i64 50) fun v34 =>
kSplit v34 (
C slices_medianAdjacentOrdered_uint64_id [a0, v20, (ptr l9 0)] g1 n9 fun v37 g2 n37 =>
C slices_medianAdjacentOrdered_uint64_id [a0, v25, (ptr l9 0)] g2 n37 fun v40 g3 n40 =>
C slices_medianAdjacentOrdered_uint64_id [a0, v30, (ptr l9 0)] g3 n40 fun v43 g4 n43 =>
slices_choosePivotOrdered_uint64_j1 C K (puts (args0 [a0, a1, a2]) [(6, (.int .i64 0)), (7, (.int .i64 0)), (13, a2), (14, a1), (15, v15), (8, v15), (9, (ptr l9 0)), (16, a1), (17, v15), (18, v18), (19, v19), (20, v20), (10, v20), (21, a1), (22, v15), (23, v23), (24, v24), (25, v25), (11, v25), (26, a1), (27, v15), (28, v28), (29, v29), (30, v30), (12, v30), (31, v15), (32, v32), (33, v15), (34, v34), (35, a0), (36, v20), (37, v37), (10, v37), (38, a0), (39, v25), (40, v40), (11, v40), (41, a0), (42, v30), (43, v43), (12, v43)]) g4 n43) (
slices_choosePivotOrdered_uint64_j1 C K (puts (args0 [a0, a1, a2]) [(6, (.int .i64 0)), (7, (.int .i64 0)), (13, a2), (14, a1), (15, v15), (8, v15), (9, (ptr l9 0)), (16, a1), (17, v15), (18, v18), (19, v19), (20, v20), (10, v20), (21, a1), (22, v15), (23, v23), (24, v24), (25, v25), (11, v25), (26, a1), (27, v15), (28, v28), (29, v29), (30, v30), (12, v30), (31, v15), (32, v32), (33, v15), (34, v34)]) g1 n9)) (
slices_choosePivotOrdered_uint64_j2 C K (puts (args0 [a0, a1, a2]) [(6, (.int .i64 0)), (7, (.int .i64 0)), (13, a2), (14, a1), (15, v15), (8, v15), (9, (ptr l9 0)), (16, a1), (17, v15), (18, v18), (19, v19), (20, v20), (10, v20), (21, a1), (22, v15), (23, v23), (24, v24), (25, v25), (11, v25), (26, a1), (27, v15), (28, v28), (29, v29), (30, v30), (12, v30), (31, v15), (32, v32)]) g1 n9)

theorem slices_choosePivotOrdered_uint64_eq (C : CT) (a0 a1 a2 : Value) (g : G) (n : Nat) (K : Cont) : slices_choosePivotOrdered_uint64 C a0 a1 a2 g n K = abody Tryz.prog C slices_choosePivotOrdered_uint64_id [a0, a1, a2] g n K := by kernel_rfl

/- slices.reverseRangeOrdered[uint64] -/
def slices_reverseRangeOrdered_uint64_j2 (C : CT) (K : Cont) (I_l1 : ECont) (t : Env) (g : G) (n : Nat) : Prop :=
kBin .int .add (t 6) (.int .i64 1) fun v29 =>
kBin .int .sub (t 7) (.int .i64 1) fun v31 =>
I_l1 (puts t [(28, (t 6)), (29, v29), (6, v29), (30, (t 7)), (31, v31), (7, v31)]) g n

def slices_reverseRangeOrdered_uint64_l1 (C : CT) (K : Cont) (I_l1 : ECont) (t : Env) (g : G) (n : Nat) : Prop :=
kBin .int .lss (t 6) (t 7) fun v13 =>
kSplit v13 (
kIndexAddr (t 0) (t 7) 1 fun v20 =>
kPtr v20 fun l21 o21 =>
kLd g l21 o21 fun v21 =>
kIndexAddr (t 0) (t 6) 1 fun v24 =>
kPtr v24 fun l25 o25 =>
kLd g l25 o25 fun v25 =>
kIndexAddr (t 0) (t 6) 1 fun v26 =>
kPtr v26 fun lg1 og1 =>
kSt g lg1 og1 v21 fun g1 =>
kIndexAddr (t 0) (t 7) 1 fun v27 =>
kPtr v27 fun lg2 og2 =>
kSt g1 lg2 og2 v25 fun g2 =>
slices_reverseRangeOrdered_uint64_j2 C K I_l1 (puts t [(11, (t 6)), (12, (t 7)), (13, v13), (14, (t 0)), (15, (t 6)), (16, (t 0)), (17, (t 7)), (18, (t 0)), (19, (t 7)), (20, v20), (21, v21), (22, (t 0)), (23, (t 6)), (24, v24), (25, v25), (26, v26), (27, v27)]) g2 n) (
aRet K (.tuple #[]) g n)

def slices_reverseRangeOrdered_uint64 (C : CT) (a0 a1 a2 : Value) (g : G) (n : Nat) (K : Cont) : Prop :=
kBin .int .sub a2 (.int .i64 1) fun v10 =>
lfp (slices_reverseRangeOrdered_uint64_l1 C K) (puts (args0 [a0, a1, a2]) [(8, a1), (6, a1), (9, a2), (10, v10), (7, v10)]) g n

theorem slices_reverseRangeOrdered_uint64_eq (C : CT) (a0 a1 a2 : Value) (g : G) (n : Nat) (K : Cont) : slices_reverseRangeOrdered_uint64 C a0 a1 a2 g n K = abody Tryz.prog C slices_reverseRangeOrdered_uint64_id [a0, a1, a2] g n K := by kernel_rfl

/- slices.partialInsertionSortOrdered[uint64] -/
def slices_partialInsertionSortOrdered_uint64_j11 (C : CT) (K : Cont) (I_l1 : ECont) (t : Env) (g : G) (n : Nat) : Prop :=
kBin .int .add (t 8) (.int .i64 1) fun v16 =>
I_l1 (puts t [(15, (t 8)), (16, v16), (8, v16)]) g n

def slices_partialInsertionSortOrdered_uint64_j12 (C : CT) (K : Cont) (I_l1 : ECont) (I_l9 : ECont) (t : Env) (g : G) (n : Nat) : Prop :=
kBin .int .add (t 10) (.int .i64 1) fun v105 =>
I_l9 (puts t [(104, (t 10)), (105, v105), (10, v105)]) g n

def slices_partialInsertionSortOrdered_uint64_j10 (C : CT) (K : Cont) (I_l1 : ECont) (I_l9 : ECont) (t : Env) (g : G) (n : Nat) : Prop :=
kSplit (t 116) (
slices_partialInsertionSortOrdered_uint64_j11 C K I_l1 t g n) (
kBin .int .sub (t 10) (.int .i64 1) fun v121 =>
kBin .int .sub (t 10) (.int .i64 1) fun v124 =>
kIndexAddr (t 0) v124 1 fun v125 =>
kPtr v125 fun l126 o126 =>
kLd g l126 o126 fun v126 =>
kIndexAddr (t 0) (t 10) 1 fun v129 =>
kPtr v129 fun l130 o130 =>
kLd g l130 o130 fun v130 =>
kIndexAddr (t 0) (t 10) 1 fun v131 =>
kPtr v131 fun lg6 og6 =>
kSt g lg6 og6 v126 fun g6 =>
kIndexAddr (t 0) v121 1 fun v132 =>
kPtr v132 fun lg7 og7 =>
kSt g6 lg7 og7 v130 fun g7 =>
slices_partialInsertionSortOrdered_uint64_j12 C K I_l1 I_l9 (puts t [(117, (t 0)), (118, (t 10)), (119, (t 0)), (120, (t 10)), (121, v121), (122, (t 0)), (123, (t 10)), (124, v124), (125, v125), (126, v126), (127, (t 0)), (128, (t 10)), (129, v129), (130, v130), (131, v131), (132, v132)]) g7 n)

def slices_partialInsertionSortOrdered_uint64_l9 (C : CT) (K : Cont) (I_l1 : ECont) (I_l9 : ECont) (t : Env) (g : G) (n : Nat) : Prop :=
kBin .int .lss (t 10) (t 2) fun v103 =>
kSplit v103 (
kIndexAddr (t 0) (t 10) 1 fun v108 =>
kPtr v108 fun l109 o109 =>
kLd g l109 o109 fun v109 =>
kBin .int .sub (t 10) (.int .i64 1) fun v112 =>
kIndexAddr (t 0) v112 1 fun v113 =>
kPtr v113 fun l114 o114 =>
kLd g l114 o114 fun v114 =>
C cmp_Less_uint64_id [v109, v114] g n fun v115 g5 n115 =>
kUn .not v115 fun v116 =>
slices_partialInsertionSortOrdered_uint64_j10 C K I_l1 I_l9 (puts t [(101, (t 10)), (102, (t 2)), (103, v103), (106, (t 0)), (107, (t 10)), (108, v108), (109, v109), (110, (t 0)), (111, (t 10)), (112, v112), (113, v113), (114, v114), (115, v115), (116, v116)]) g5 n115) (
slices_partialInsertionSortOrdered_uint64_j11 C K I_l1 (puts t [(101, (t 10)), (102, (t 2)), (103, v103)]) g n)

def slices_partialInsertionSortOrdered_uint64_j8 (C : CT) (K : Cont) (I_l1 : ECont) (t : Env) (g : G) (n : Nat) : Prop :=
kBin .int .sub (t 2) (t 7) fun v97 =>
kBin .int .geq v97 (.int .i64 2) fun v98 =>
kSplit v98 (
kBin .int .add (t 7) (.int .i64 1) fun v100 =>
lfp (slices_partialInsertionSortOrdered_uint64_l9 C K I_l1) (puts t [(95, (t 2)), (96, (t 7)), (97, v97), (98, v98), (99, (t 7)), (100, v100), (10, v100)]) g n) (
slices_partialInsertionSortOrdered_uint64_j11 C K I_l1 (puts t [(95, (t 2)), (96, (t 7)), (97, v97), (98, v98)]) g n)

def slices_partialInsertionSortOrdered_uint64_j13 (C : CT) (K : Cont) (I_l1 : ECont) (I_l6 : ECont) (t : Env) (g : G) (n : Nat) : Prop :=
kBin .int .sub (t 9) (.int .i64 1) fun v67 =>
I_l6 (puts t [(66, (t 9)), (67, v67), (9, v67)]) g n

def slices_partialInsertionSortOrdered_uint64_j7 (C : CT) (K : Cont) (I_l1 : ECont) (I_l6 : ECont) (t : Env) (g : G) (n : Nat) : Prop :=
kSplit (t 78) (
slices_partialInsertionSortOrdered_uint64_j8 C K I_l1 t g n) (
kBin .int .sub (t 9) (.int .i64 1) fun v83 =>
kBin .int .sub (t 9) (.int .i64 1) fun v86 =>
kIndexAddr (t 0) v86 1 fun v87 =>
kPtr v87 fun l88 o88 =>
kLd g l88 o88 fun v88 =>
kIndexAddr (t 0) (t 9) 1 fun v91 =>
kPtr v91 fun l92 o92 =>
kLd g l92 o92 fun v92 =>
kIndexAddr (t 0) (t 9) 1 fun v93 =>
kPtr v93 fun lg8 og8 =>
kSt g lg8 og8 v88 fun g8 =>
kIndexAddr (t 0) v83 1 fun v94 =>
kPtr v94 fun lg9 og9 =>
kSt g8 lg9 og9 v92 fun g9 =>
slices_partialInsertionSortOrdered_uint64_j13 C K I_l1 I_l6 (puts t [(79, (t 0)), (80, (t 9)), (81, (t 0)), (82, (t 9)), (83, v83), (84, (t 0)), (85, (t 9)), (86, v86), (87, v87), (88, v88), (89, (t 0)), (90, (t 9)), (91, v91), (92, v92), (93, v93), (94, v94)]) g9 n)

def slices_partialInsertionSortOrdered_uint64_l6 (C : CT) (K : Cont) (I_l1 : ECont) (I_l6 : ECont) (t : Env) (g : G) (n : Nat) : Prop :=
kBin .int .geq (t 9) (.int .i64 1) fun v65 =>
kSplit v65 (
kIndexAddr (t 0) (t 9) 1 fun v70 =>
kPtr v70 fun l71 o71 =>
kLd g l71 o71 fun v71 =>
kBin .int .sub (t 9) (.int .i64 1) fun v74 =>
kIndexAddr (t 0) v74 1 fun v75 =>
kPtr v75 fun l76 o76 =>
kLd g l76 o76 fun v76 =>
C cmp_Less_uint64_id [v71, v76] g n fun v77 g4 n77 =>
kUn .not v77 fun v78 =>
slices_partialInsertionSortOrdered_uint64_j7 C K I_l1 I_l6 (puts t [(64, (t 9)), (65, v65), (68, (t 0)), (69, (t 9)), (70, v70), (71, v71), (72, (t 0)), (73, (t 9)), (74, v74), (75, v75), (76, v76), (77, v77), (78, v78)]) g4 n77) (
slices_partialInsertionSortOrdered_uint64_j8 C K I_l1 (puts t [(64, (t 9)), (65, v65)]) g n)

def slices_partialInsertionSortOrdered_uint64_j5 (C : CT) (K : Cont) (I_l1 : ECont) (t : Env) (g : G) (n : Nat) : Prop :=
kBin .int .sub (t 7) (t 1) fun v60 =>
kBin .int .geq v60 (.int .i64 2) fun v61 =>
kSplit v61 (
kBin .int .sub (t 7) (.int .i64 1) fun v63 =>
lfp (slices_partialInsertionSortOrdered_uint64_l6 C K I_l1) (puts t [(58, (t 7)), (59, (t 1)), (60, v60), (61, v61), (62, (t 7)), (63, v63), (9, v63)]) g n) (
slices_partialInsertionSortOrdered_uint64_j8 C K I_l1 (puts t [(58, (t 7)), (59, (t 1)), (60, v60), (61, v61)]) g n)

def slices_partialInsertionSortOrdered_uint64_j4 (C : CT) (K : Cont) (I_l1 : ECont) (t : Env) (g : G) (n : Nat) : Prop :=
kBin .int .eql (t 7) (t 2) fun v37 =>
kSplit v37 (
aRet K (.bool true) g n) (
kBin .int .sub (t 2) (t 1) fun v40 =>
kBin .int .lss v40 (.int .i64 50) fun v41 =>
kSplit v41 (
aRet K (.bool false) g n) (
kBin .int .sub (t 7) (.int .i64 1) fun v46 =>
kBin .int .sub (t 7) (.int .i64 1) fun v49 =>
kIndexAddr (t 0) v49 1 fun v50 =>
kPtr v50 fun l51 o51 =>
kLd g l51 o51 fun v51 =>
kIndexAddr (t 0) (t 7) 1 fun v54 =>
kPtr v54 fun l55 o55 =>
kLd g l55 o55 fun v55 =>
kIndexAddr (t 0) (t 7) 1 fun v56 =>
kPtr v56 fun lg2 og2 =>
kSt g lg2 og2 v51 fun g2 =>
kIndexAddr (t 0) v46 1 fun v57 =>
kPtr v57 fun lg3 og3 =>
kSt g2 lg3 og3 v55 fun g3 =>
slices_partialInsertionSortOrdered_uint64_j5 C K I_l1 (puts t [(35, (t 7)), (36, (t 2)), (37, v37), (38, (t 2)), (39, (t 1)), (40, v40), (41, v41), (42, (t 0)), (43, (t 7)), (44, (t 0)), (45, (t 7)), (46, v46), (47, (t 0)), (48, (t 7)), (49, v49), (50, v50), (51, v51), (52, (t 0)), (53, (t 7)), (54, v54), (55, v55), (56, v56), (57, v57)]) g3 n))

def slices_partialInsertionSortOrdered_uint64_j3 (C : CT) (K : Cont) (I_l1 : ECont) (I_l2 : ECont) (t : Env) (g : G) (n : Nat) : Prop :=
kSplit (t 32) (
kBin .int .add (t 7) (.int .i64 1) fun v34 =>
I_l2 (puts t [(33, (t 7)), (34, v34), (7, v34)]) g n) (
slices_partialInsertionSortOrdered_uint64_j4 C K I_l1 t g n)

def slices_partialInsertionSortOrdered_uint64_l2 (C : CT) (K : Cont) (I_l1 : ECont) (I_l2 : ECont) (t : Env) (g : G) (n : Nat) : Prop :=
kBin .int .lss (t 7) (t 2) fun v19 =>
kSplit v19 (
kIndexAddr (t 0) (t 7) 1 fun v23 =>
kPtr v23 fun l24 o24 =>
kLd g l24 o24 fun v24 =>
kBin .int .sub (t 7) (.int .i64 1) fun v27 =>
kIndexAddr (t 0) v27 1 fun v28 =>
kPtr v28 fun l29 o29 =>
kLd g l29 o29 fun v29 =>
C cmp_Less_uint64_id [v24, v29] g n fun v30 g1 n30 =>
kUn .not v30 fun v31 =>
slices_partialInsertionSortOrdered_uint64_j3 C K I_l1 I_l2 (puts t [(17, (t 7)), (18, (t 2)), (19, v19), (20, (.bool true)), (21, (t 0)), (22, (t 7)), (23, v23), (24, v24), (25, (t 0)), (26, (t 7)), (27, v27), (28, v28), (29, v29), (30, v30), (31, v31), (32, v31)]) g1 n30) (
slices_partialInsertionSortOrdered_uint64_j3 C K I_l1 I_l2 (puts t [(17, (t 7)), (18, (t 2)), (19, v19), (20, (.bool false)), (21, undef), (22, undef), (23, undef), (24, undef), (25, undef), (26, undef), (27, undef), (28, undef), (29, undef), (30, undef), (31, undef), (32, (.bool false))]) g n)

def slices_partialInsertionSortOrdered_uint64_l1 (C : CT) (K : Cont) (I_l1 : ECont) (t : Env) (g : G) (n : Nat) : Prop :=
kBin .int .lss (t 8) (.int .i64 5) fun v14 =>
kSplit v14 (
lfp (slices_partialInsertionSortOrdered_uint64_l2 C K I_l1) (puts t [(13, (t 8)), (14, v14)]) g n) (
aRet K (.bool false) g n)

def slices_partialInsertionSortOrdered_uint64 (C : CT) (a0 a1 a2 : Value) (g : G) (n : Nat) (K : Cont) : Prop :=
kBin .int .add a1 (.int .i64 1) fun v12 =>
lfp (slices_partialInsertionSortOrdered_uint64_l1 C K) (puts (args0 [a0, a1, a2]) [(6, (.bool false)), (11, a1), (12, v12), (7, v12), (8, (.int .i64 0))]) g n

theorem slices_partialInsertionSortOrdered_uint64_eq (C : CT) (a0 a1 a2 : Value) (g : G) (n : Nat) (K : Cont) : slices_partialInsertionSortOrdered_uint64 C a0 a1 a2 g n K = abody Tryz.prog C slices_partialInsertionSortOrdered_uint64_id [a0, a1, a2] g n K := by kernel_rfl

/- cmp.Less[uint64] -/
def cmp_Less_uint64_j1 (C : CT) (K : Cont) (t : Env) (g : G) (n : Nat) : Prop :=
aRet K (t 4) g n

def cmp_Less_uint64 (C : CT) (a0 a1 : Value) (g : G) (n : Nat) (K : Cont) : Prop :=
C cmp_isNaN_uint64_id [a0] g n fun v6 g1 n6 =>
kSplit v6 (
C cmp_isNaN_uint64_id [a1] g1 n6 fun v9 g2 n9 =>
kUn .not v9 fun v10 =>
kSplit v10 (
cmp_Less_uint64_j1 C K (puts (args0 [a0, a1]) [(4, (.bool false)), (5, a0), (6, v6), (7, (.bool true)), (8, a1), (9, v9), (10, v10), (11, v10), (12, (.bool true)), (13, undef), (14, undef), (15, undef), (16, (.bool true)), (4, (.bool true))]) g2 n9) (
kBin .int .lss a0 a1 fun v15 =>
cmp_Less_uint64_j1 C K (puts (args0 [a0, a1]) [(4, (.bool false)), (5, a0), (6, v6), (7, (.bool true)), (8, a1), (9, v9), (10, v10), (11, v10), (12, (.bool false)), (13, a0), (14, a1), (15, v15), (16, v15), (4, v15)]) g2 n9)) (
kBin .int .lss a0 a1 fun v15 =>
cmp_Less_uint64_j1 C K (puts (args0 [a0, a1]) [(4, (.bool false)), (5, a0), (6, v6), (7, (.bool false)), (8, undef), (9, undef), (10, undef), (11, (.bool false)), (12, (.bool false)), (13, a0), (14, a1), (15, v15), (16, v15), (4, v15)]) g1 n6)

theorem cmp_Less_uint64_eq (C : CT) (a0 a1 : Value) (g : G) (n : Nat) (K : Cont) : cmp_Less_uint64 C a0 a1 g n K = abody Tryz.prog C cmp_Less_uint64_id [a0, a1] g n K := by kernel_rfl

/- slices.partitionEqualOrdered[uint64] -/
def slices_partitionEqualOrdered_uint64_j9 (C : CT) (K : Cont) (I_l2 : ECont) (t : Env) (g : G) (n : Nat) : Prop :=
kBin .int .add (t 9) (.int .i64 1) fun v80 =>
kBin .int .sub (t 10) (.int .i64 1) fun v82 =>
I_l2 (puts t [(79, (t 9)), (80, v80), (9, v80), (81, (t 10)), (82, v82), (10, v82)]) g n

def slices_partitionEqualOrdered_uint64_j8 (C : CT) (K : Cont) (I_l2 : ECont) (t : Env) (g : G) (n : Nat) : Prop :=
kBin .int .gtr (t 9) (t 10) fun v64 =>
kSplit v64 (
aRet K (t 9) g n) (
kIndexAddr (t 0) (t 10) 1 fun v71 =>
kPtr v71 fun l72 o72 =>
kLd g l72 o72 fun v72 =>
kIndexAddr (t 0) (t 9) 1 fun v75 =>
kPtr v75 fun l76 o76 =>
kLd g l76 o76 fun v76 =>
kIndexAddr (t 0) (t 9) 1 fun v77 =>
kPtr v77 fun lg5 og5 =>
kSt g lg5 og5 v72 fun g5 =>
kIndexAddr (t 0) (t 10) 1 fun v78 =>
kPtr v78 fun lg6 og6 =>
kSt g5 lg6 og6 v76 fun g6 =>
slices_partitionEqualOrdered_uint64_j9 C K I_l2 (puts t [(62, (t 9)), (63, (t 10)), (64, v64), (65, (t 0)), (66, (t 9)), (67, (t 0)), (68, (t 10)), (69, (t 0)), (70, (t 10)), (71, v71), (72, v72), (73, (t 0)), (74, (t 9)), (75, v75), (76, v76), (77, v77), (78, v78)]) g6 n)

def slices_partitionEqualOrdered_uint64_j7 (C : CT) (K : Cont) (I_l2 : ECont) (I_l6 : ECont) (t : Env) (g : G) (n : Nat) : Prop :=
kSplit (t 59) (
kBin .int .sub (t 10) (.int .i64 1) fun v61 =>
I_l6 (puts t [(60, (t 10)), (61, v61), (10, v61)]) g n) (
slices_partitionEqualOrdered_uint64_j8 C K I_l2 t g n)

def slices_partitionEqualOrdered_uint64_l6 (C : CT) (K : Cont) (I_l2 : ECont) (I_l6 : ECont) (t : Env) (g : G) (n : Nat) : Prop :=
kBin .int .leq (t 9) (t 10) fun v48 =>
kSplit v48 (
kIndexAddr (t 0) (t 1) 1 fun v52 =>
kPtr v52 fun l53 o53 =>
kLd g l53 o53 fun v53 =>
kIndexAddr (t 0) (t 10) 1 fun v56 =>
kPtr v56 fun l57 o57 =>
kLd g l57 o57 fun v57 =>
C cmp_Less_uint64_id [v53, v57] g n fun v58 g4 n58 =>
slices_partitionEqualOrdered_uint64_j7 C K I_l2 I_l6 (puts t [(46, (t 9)), (47, (t 10)), (48, v48), (49, (.bool true)), (50, (t 0)), (51, (t 1)), (52, v52), (53, v53), (54, (t 0)), (55, (t 10)), (56, v56), (57, v57), (58, v58), (59, v58)]) g4 n58) (
slices_partitionEqualOrdered_uint64_j7 C K I_l2 I_l6 (puts t [(46, (t 9)), (47, (t 10)), (48, v48), (49, (.bool false)), (50, undef), (51, undef), (52, undef), (53, undef), (54, undef), (55, undef), (56, undef), (57, undef), (58, undef), (59, (.bool false))]) g n)

def slices_partitionEqualOrdered_uint64_j5 (C : CT) (K : Cont) (I_l2 : ECont) (t : Env) (g : G) (n : Nat) : Prop :=
lfp (slices_partitionEqualOrdered_uint64_l6 C K I_l2) t g n

def slices_partitionEqualOrdered_uint64_j4 (C : CT) (K : Cont) (I_l2 : ECont) (I_l3 : ECont) (t : Env) (g : G) (n : Nat) : Prop :=
kSplit (t 43) (
kBin .int .add (t 9) (.int .i64 1) fun v45 =>
I_l3 (puts t [(44, (t 9)), (45, v45), (9, v45)]) g n) (
slices_partitionEqualOrdered_uint64_j5 C K I_l2 t g n)

def slices_partitionEqualOrdered_uint64_l3 (C : CT) (K : Cont) (I_l2 : ECont) (I_l3 : ECont) (t : Env) (g : G) (n : Nat) : Prop :=
kBin .int .leq (t 9) (t 10) fun v31 =>
kSplit v31 (
kIndexAddr (t 0) (t 1) 1 fun v35 =>
kPtr v35 fun l36 o36 =>
kLd g l36 o36 fun v36 =>
kIndexAddr (t 0) (t 9) 1 fun v39 =>
kPtr v39 fun l40 o40 =>
kLd g l40 o40 fun v40 =>
C cmp_Less_uint64_id [v36, v40] g n fun v41 g3 n41 =>
kUn .not v41 fun v42 =>
slices_partitionEqualOrdered_uint64_j4 C K I_l2 I_l3 (puts t [(29, (t 9)), (30, (t 10)), (31, v31), (32, (.bool true)), (33, (t 0)), (34, (t 1)), (35, v35), (36, v36), (37, (t 0)), (38, (t 9)), (39, v39), (40, v40), (41, v41), (42, v42), (43, v42)]) g3 n41) (
slices_partitionEqualOrdered_uint64_j4 C K I_l2 I_l3 (puts t [(29, (t 9)), (30, (t 10)), (31, v31), (32, (.bool false)), (33, undef), (34, undef), (35, undef), (36, undef), (37, undef), (38, undef), (39, undef), (40, undef), (41, undef), (42, undef), (43, (.bool false))]) g n)

def slices_partitionEqualOrdered_uint64_l2 (C : CT) (K : Cont) (I_l2 : ECont) (t : Env) (g : G) (n : Nat) : Prop :=
lfp (slices_partitionEqualOrdered_uint64_l3 C K I_l2) t g n

def slices_partitionEqualOrdered_uint64_j1 (C : CT) (K : Cont) (t : Env) (g : G) (n : Nat) : Prop :=
kBin .int .add (t 1) (.int .i64 1) fun v26 =>
kBin .int .sub (t 2) (.int .i64 1) fun v28 =>
lfp (slices_partitionEqualOrdered_uint64_l2 C K) (puts t [(25, (t 1)), (26, v26), (27, (t 2)), (28, v28), (9, v26), (10, v28)]) g n

def slices_partitionEqualOrdered_uint64 (C : CT) (a0 a1 a2 a3 : Value) (g : G) (n : Nat) (K : Cont) : Prop :=
kIndexAddr a0 a3 1 fun v17 =>
kPtr v17 fun l18 o18 =>
kLd g l18 o18 fun v18 =>
kIndexAddr a0 a1 1 fun v21 =>
kPtr v21 fun l22 o22 =>
kLd g l22 o22 fun v22 =>
kIndexAddr a0 a1 1 fun v23 =>
kPtr v23 fun lg1 og1 =>
kSt g lg1 og1 v18 fun g1 =>
kIndexAddr a0 a3 1 fun v24 =>
kPtr v24 fun lg2 og2 =>
kSt g1 lg2 og2 v22 fun g2 =>
slices_partitionEqualOrdered_uint64_j1 C K (puts (args0 [a0, a1, a2, a3]) [(8, (.int .i64 0)), (11, a0), (12, a1), (13, a0), (14, a3), (15, a0), (16, a3), (17, v17), (18, v18), (19, a0), (20, a1), (21, v21), (22, v22), (23, v23), (24, v24)]) g2 n

theorem slices_partitionEqualOrdered_uint64_eq (C : CT) (a0 a1 a2 a3 : Value) (g : G) (n : Nat) (K : Cont) : slices_partitionEqualOrdered_uint64 C a0 a1 a2 a3 g n K = abody Tryz.prog C slices_partitionEqualOrdered_uint64_id [a0, a1, a2, a3] g n K := by kernel_rfl

/- slices.partitionOrdered[uint64] -/
def slices_partitionOrdered_uint64_j8 (C : CT) (K : Cont) (t : Env) (g : G) (n : Nat) : Prop :=
aRet K (.tuple #[(t 11), (.bool true)]) g n

def slices_partitionOrdered_uint64_j18 (C : CT) (K : Cont) (t : Env) (g : G) (n : Nat) : Prop :=
aRet K (.tuple #[(t 11), (.bool false)]) g n

def slices_partitionOrdered_uint64_j17 (C : CT) (K : Cont) (t : Env) (g : G) (n : Nat) : Prop :=
kIndexAddr (t 0) (t 1) 1 fun v159 =>
kPtr v159 fun l160 o160 =>
kLd g l160 o160 fun v160 =>
kIndexAddr (t 0) (t 11) 1 fun v163 =>
kPtr v163 fun l164 o164 =>
kLd g l164 o164 fun v164 =>
kIndexAddr (t 0) (t 11) 1 fun v165 =>
kPtr v165 fun lg11 og11 =>
kSt g lg11 og11 v160 fun g11 =>
kIndexAddr (t 0) (t 1) 1 fun v166 =>
kPtr v166 fun lg12 og12 =>
kSt g11 lg12 og12 v164 fun g12 =>
slices_partitionOrdered_uint64_j18 C K (puts t [(153, (t 0)), (154, (t 11)), (155, (t 0)), (156, (t 1)), (157, (t 0)), (158, (t 1)), (159, v159), (160, v160), (161, (t 0)), (162, (t 11)), (163, v163), (164, v164), (165, v165), (166, v166)]) g12 n

def slices_partitionOrdered_uint64_j19 (C : CT) (K : Cont) (I_l10 : ECont) (t : Env) (g : G) (n : Nat) : Prop :=
kBin .int .add (t 10) (.int .i64 1) fun v150 =>
kBin .int .sub (t 11) (.int .i64 1) fun v152 =>
I_l10 (puts t [(149, (t 10)), (150, v150), (10, v150), (151, (t 11)), (152, v152), (11, v152)]) g n

def slices_partitionOrdered_uint64_j16 (C : CT) (K : Cont) (I_l10 : ECont) (t : Env) (g : G) (n : Nat) : Prop :=
kBin .int .gtr (t 10) (t 11) fun v134 =>
kSplit v134 (
slices_partitionOrdered_uint64_j17 C K (puts t [(132, (t 10)), (133, (t 11)), (134, v134)]) g n) (
kIndexAddr (t 0) (t 11) 1 fun v141 =>
kPtr v141 fun l142 o142 =>
kLd g l142 o142 fun v142 =>
kIndexAddr (t 0) (t 10) 1 fun v145 =>
kPtr v145 fun l146 o146 =>
kLd g l146 o146 fun v146 =>
kIndexAddr (t 0) (t 10) 1 fun v147 =>
kPtr v147 fun lg13 og13 =>
kSt g lg13 og13 v142 fun g13 =>
kIndexAddr (t 0) (t 11) 1 fun v148 =>
kPtr v148 fun lg14 og14 =>
kSt g13 lg14 og14 v146 fun g14 =>
slices_partitionOrdered_uint64_j19 C K I_l10 (puts t [(132, (t 10)), (133, (t 11)), (134, v134), (135, (t 0)), (136, (t 10)), (137, (t 0)), (138, (t 11)), (139, (t 0)), (140, (t 11)), (141, v141), (142, v142), (143, (t 0)), (144, (t 10)), (145, v145), (146, v146), (147, v147), (148, v148)]) g14 n)

def slices_partitionOrdered_uint64_j15 (C : CT) (K : Cont) (I_l10 : ECont) (I_l14 : ECont) (t : Env) (g : G) (n : Nat) : Prop :=
kSplit (t 129) (
kBin .int .sub (t 11) (.int .i64 1) fun v131 =>
I_l14 (puts t [(130, (t 11)), (131, v131), (11, v131)]) g n) (
slices_partitionOrdered_uint64_j16 C K I_l10 t g n)

def slices_partitionOrdered_uint64_l14 (C : CT) (K : Cont) (I_l10 : ECont) (I_l14 : ECont) (t : Env) (g : G) (n : Nat) : Prop :=
kBin .int .leq (t 10) (t 11) fun v117 =>
kSplit v117 (
kIndexAddr (t 0) (t 11) 1 fun v121 =>
kPtr v121 fun l122 o122 =>
kLd g l122 o122 fun v122 =>
kIndexAddr (t 0) (t 1) 1 fun v125 =>
kPtr v125 fun l126 o126 =>
kLd g l126 o126 fun v126 =>
C cmp_Less_uint64_id [v122, v126] g n fun v127 g10 n127 =>
kUn .not v127 fun v128 =>
slices_partitionOrdered_uint64_j15 C K I_l10 I_l14 (puts t [(115, (t 10)), (116, (t 11)), (117, v117), (118, (.bool true)), (119, (t 0)), (120, (t 11)), (121, v121), (122, v122), (123, (t 0)), (124, (t 1)), (125, v125), (126, v126), (127, v127), (128, v128), (129, v128)]) g10 n127) (
slices_partitionOrdered_uint64_j15 C K I_l10 I_l14 (puts t [(115, (t 10)), (116, (t 11)), (117, v117), (118, (.bool false)), (119, undef), (120, undef), (121, undef), (122, undef), (123, undef), (124, undef), (125, undef), (126, undef), (127, undef), (128, undef), (129, (.bool false))]) g n)

def slices_partitionOrdered_uint64_j13 (C : CT) (K : Cont) (I_l10 : ECont) (t : Env) (g : G) (n : Nat) : Prop :=
lfp (slices_partitionOrdered_uint64_l14 C K I_l10) t g n

def slices_partitionOrdered_uint64_j12 (C : CT) (K : Cont) (I_l10 : ECont) (I_l11 : ECont) (t : Env) (g : G) (n : Nat) : Prop :=
kSplit (t 112) (
kBin .int .add (t 10) (.int .i64 1) fun v114 =>
I_l11 (puts t [(113, (t 10)), (114, v114), (10, v114)]) g n) (
slices_partitionOrdered_uint64_j13 C K I_l10 t g n)

def slices_partitionOrdered_uint64_l11 (C : CT) (K : Cont) (I_l10 : ECont) (I_l11 : ECont) (t : Env) (g : G) (n : Nat) : Prop :=
kBin .int .leq (t 10) (t 11) fun v101 =>
kSplit v101 (
kIndexAddr (t 0) (t 10) 1 fun v105 =>
kPtr v105 fun l106 o106 =>
kLd g l106 o106 fun v106 =>
kIndexAddr (t 0) (t 1) 1 fun v109 =>
kPtr v109 fun l110 o110 =>
kLd g l110 o110 fun v110 =>
C cmp_Less_uint64_id [v106, v110] g n fun v111 g9 n111 =>
slices_partitionOrdered_uint64_j12 C K I_l10 I_l11 (puts t [(99, (t 10)), (100, (t 11)), (101, v101), (102, (.bool true)), (103, (t 0)), (104, (t 10)), (105, v105), (106, v106), (107, (t 0)), (108, (t 1)), (109, v109), (110, v110), (111, v111), (112, v111)]) g9 n111) (
slices_partitionOrdered_uint64_j12 C K I_l10 I_l11 (puts t [(99, (t 10)), (100, (t 11)), (101, v101), (102, (.bool false)), (103, undef), (104, undef), (105, undef), (106, undef), (107, undef), (108, undef), (109, undef), (110, undef), (111, undef), (112, (.bool false))]) g n)

def slices_partitionOrdered_uint64_l10 (C : CT) (K : Cont) (I_l10 : ECont) (t : Env) (g : G) (n : Nat) : Prop :=
lfp (slices_partitionOrdered_uint64_l11 C K I_l10) t g n

def slices_partitionOrdered_uint64_j9 (C : CT) (K : Cont) (t : Env) (g : G) (n : Nat) : Prop :=
kBin .int .add (t 10) (.int .i64 1) fun v96 =>
kBin .int .sub (t 11) (.int .i64 1) fun v98 =>
lfp (slices_partitionOrdered_uint64_l10 C K) (puts t [(95, (t 10)), (96, v96), (10, v96), (97, (t 11)), (98, v98), (11, v98)]) g n

def slices_partitionOrdered_uint64_j7 (C : CT) (K : Cont) (t : Env) (g : G) (n : Nat) : Prop :=
kBin .int .gtr (t 10) (t 11) fun v65 =>
kSplit v65 (
kIndexAddr (t 0) (t 1) 1 fun v72 =>
kPtr v72 fun l73 o73 =>
kLd g l73 o73 fun v73 =>
kIndexAddr (t 0) (t 11) 1 fun v76 =>
kPtr v76 fun l77 o77 =>
kLd g l77 o77 fun v77 =>
kIndexAddr (t 0) (t 11) 1 fun v78 =>
kPtr v78 fun lg5 og5 =>
kSt g lg5 og5 v73 fun g5 =>
kIndexAddr (t 0) (t 1) 1 fun v79 =>
kPtr v79 fun lg6 og6 =>
kSt g5 lg6 og6 v77 fun g6 =>
slices_partitionOrdered_uint64_j8 C K (puts t [(63, (t 10)), (64, (t 11)), (65, v65), (66, (t 0)), (67, (t 11)), (68, (t 0)), (69, (t 1)), (70, (t 0)), (71, (t 1)), (72, v72), (73, v73), (74, (t 0)), (75, (t 11)), (76, v76), (77, v77), (78, v78), (79, v79)]) g6 n) (
kIndexAddr (t 0) (t 11) 1 fun v87 =>
kPtr v87 fun l88 o88 =>
kLd g l88 o88 fun v88 =>
kIndexAddr (t 0) (t 10) 1 fun v91 =>
kPtr v91 fun l92 o92 =>
kLd g l92 o92 fun v92 =>
kIndexAddr (t 0) (t 10) 1 fun v93 =>
kPtr v93 fun lg7 og7 =>
kSt g lg7 og7 v88 fun g7 =>
kIndexAddr (t 0) (t 11) 1 fun v94 =>
kPtr v94 fun lg8 og8 =>
kSt g7 lg8 og8 v92 fun g8 =>
slices_partitionOrdered_uint64_j9 C K (puts t [(63, (t 10)), (64, (t 11)), (65, v65), (81, (t 0)), (82, (t 10)), (83, (t 0)), (84, (t 11)), (85, (t 0)), (86, (t 11)), (87, v87), (88, v88), (89, (t 0)), (90, (t 10)), (91, v91), (92, v92), (93, v93), (94, v94)]) g8 n)

def slices_partitionOrdered_uint64_j6 (C : CT) (K : Cont) (I_l5 : ECont) (t : Env) (g : G) (n : Nat) : Prop :=
kSplit (t 60) (
kBin .int .sub (t 11) (.int .i64 1) fun v62 =>
I_l5 (puts t [(61, (t 11)), (62, v62), (11, v62)]) g n) (
slices_partitionOrdered_uint64_j7 C K t g n)

def slices_partitionOrdered_uint64_l5 (C : CT) (K : Cont) (I_l5 : ECont) (t : Env) (g : G) (n : Nat) : Prop :=
kBin .int .leq (t 10) (t 11) fun v48 =>
kSplit v48 (
kIndexAddr (t 0) (t 11) 1 fun v52 =>
kPtr v52 fun l53 o53 =>
kLd g l53 o53 fun v53 =>
kIndexAddr (t 0) (t 1) 1 fun v56 =>
kPtr v56 fun l57 o57 =>
kLd g l57 o57 fun v57 =>
C cmp_Less_uint64_id [v53, v57] g n fun v58 g4 n58 =>
kUn .not v58 fun v59 =>
slices_partitionOrdered_uint64_j6 C K I_l5 (puts t [(46, (t 10)), (47, (t 11)), (48, v48), (49, (.bool true)), (50, (t 0)), (51, (t 11)), (52, v52), (53, v53), (54, (t 0)), (55, (t 1)), (56, v56), (57, v57), (58, v58), (59, v59), (60, v59)]) g4 n58) (
slices_partitionOrdered_uint64_j6 C K I_l5 (puts t [(46, (t 10)), (47, (t 11)), (48, v48), (49, (.bool false)), (50, undef), (51, undef), (52, undef), (53, undef), (54, undef), (55, undef), (56, undef), (57, undef), (58, undef), (59, undef), (60, (.bool false))]) g n)

def slices_partitionOrdered_uint64_j4 (C : CT) (K : Cont) (t : Env) (g : G) (n : Nat) : Prop :=
lfp (slices_partitionOrdered_uint64_l5 C K) t g n

def slices_partitionOrdered_uint64_j3 (C : CT) (K : Cont) (I_l2 : ECont) (t : Env) (g : G) (n : Nat) : Prop :=
kSplit (t 43) (
kBin .int .add (t 10) (.int .i64 1) fun v45 =>
I_l2 (puts t [(44, (t 10)), (45, v45), (10, v45)]) g n) (
slices_partitionOrdered_uint64_j4 C K t g n)

def slices_partitionOrdered_uint64_l2 (C : CT) (K : Cont) (I_l2 : ECont) (t : Env) (g : G) (n : Nat) : Prop :=
kBin .int .leq (t 10) (t 11) fun v32 =>
kSplit v32 (
kIndexAddr (t 0) (t 10) 1 fun v36 =>
kPtr v36 fun l37 o37 =>
kLd g l37 o37 fun v37 =>
kIndexAddr (t 0) (t 1) 1 fun v40 =>
kPtr v40 fun l41 o41 =>
kLd g l41 o41 fun v41 =>
C cmp_Less_uint64_id [v37, v41] g n fun v42 g3 n42 =>
slices_partitionOrdered_uint64_j3 C K I_l2 (puts t [(30, (t 10)), (31, (t 11)), (32, v32), (33, (.bool true)), (34, (t 0)), (35, (t 10)), (36, v36), (37, v37), (38, (t 0)), (39, (t 1)), (40, v40), (41, v41), (42, v42), (43, v42)]) g3 n42) (
slices_partitionOrdered_uint64_j3 C K I_l2 (puts t [(30, (t 10)), (31, (t 11)), (32, v32), (33, (.bool false)), (34, undef), (35, undef), (36, undef), (37, undef), (38, undef), (39, undef), (40, undef), (41, undef), (42, undef), (43, (.bool false))]) g n)

def slices_partitionOrdered_uint64_j1 (C : CT) (K : Cont) (t : Env) (g : G) (n : Nat) : Prop :=
kBin .int .add (t 1) (.int .i64 1) fun v27 =>
kBin .int .sub (t 2) (.int .i64 1) fun v29 =>
lfp (slices_partitionOrdered_uint64_l2 C K) (puts t [(26, (t 1)), (27, v27), (28, (t 2)), (29, v29), (10, v27), (11, v29)]) g n

def slices_partitionOrdered_uint64 (C : CT) (a0 a1 a2 a3 : Value) (g : G) (n : Nat) (K : Cont) : Prop :=
kIndexAddr a0 a3 1 fun v18 =>
kPtr v18 fun l19 o19 =>
kLd g l19 o19 fun v19 =>
kIndexAddr a0 a1 1 fun v22 =>
kPtr v22 fun l23 o23 =>
kLd g l23 o23 fun v23 =>
kIndexAddr a0 a1 1 fun v24 =>
kPtr v24 fun lg1 og1 =>
kSt g lg1 og1 v19 fun g1 =>
kIndexAddr a0 a3 1 fun v25 =>
kPtr v25 fun lg2 og2 =>
kSt g1 lg2 og2 v23 fun g2 =>
slices_partitionOrdered_uint64_j1 C K (puts (args0 [a0, a1, a2, a3]) [(8, (.int .i64 0)), (9, (.bool false)), (12, a0), (13, a1), (14, a0), (15, a3), (16, a0), (17, a3), (18, v18), (19, v19), (20, a0), (21, a1), (22, v22), (23, v23), (24, v24), (25, v25)]) g2 n

theorem slices_partitionOrdered_uint64_eq (C : CT) (a0 a1 a2 a3 : Value) (g : G) (n : Nat) (K : Cont) : slices_partitionOrdered_uint64 C a0 a1 a2 a3 g n K = abody Tryz.prog C slices_partitionOrdered_uint64_id [a0, a1, a2, a3] g n K := by kernel_rfl

/- math/bits.Len64 -/
def math_bits_Len64_j3 (C : CT) (K : Cont) (t : Env) (g : G) (n : Nat) : Prop :=
kConv .u8 (t 0) fun v21 =>
kIdxS (.string ⟨#[0, 1, 2, 2, 3, 3, 3, 3, 4, 4, 4, 4, 4, 4, 4, 4, 5, 5, 5, 5, 5, 5, 5, 5, 5, 5, 5, 5, 5, 5, 5, 5, 6, 6, 6, 6, 6, 6, 6, 6, 6, 6, 6, 6, 6, 6, 6, 6, 6, 6, 6, 6, 6, 6, 6, 6, 6, 6, 6, 6, 6, 6, 6, 6, 7, 7, 7, 7, 7, 7, 7, 7, 7, 7, 7, 7, 7, 7, 7, 7, 7, 7, 7, 7, 7, 7, 7, 7, 7, 7, 7, 7, 7, 7, 7, 7, 7, 7, 7, 7, 7, 7, 7, 7, 7, 7, 7, 7, 7, 7, 7, 7, 7, 7, 7, 7, 7, 7, 7, 7, 7, 7, 7, 7, 7, 7, 7, 7, 8, 8, 8, 8, 8, 8, 8, 8, 8, 8, 8, 8, 8, 8, 8, 8, 8, 8, 8, 8, 8, 8, 8, 8, 8, 8, 8, 8, 8, 8, 8, 8, 8, 8, 8, 8, 8, 8, 8, 8, 8, 8, 8, 8, 8, 8, 8, 8, 8, 8, 8, 8, 8, 8, 8, 8, 8, 8, 8, 8, 8, 8, 8, 8, 8, 8, 8, 8, 8, 8, 8, 8, 8, 8, 8, 8, 8, 8, 8, 8, 8, 8, 8, 8, 8, 8, 8, 8, 8, 8, 8, 8, 8, 8, 8, 8, 8, 8, 8, 8, 8, 8, 8, 8, 8, 8, 8, 8, 8, 8, 8, 8, 8, 8, 8, 8, 8, 8, 8, 8, 8, 8, 8, 8, 8, 8, 8, 8]⟩) v21 fun v22 =>
kConv .i64 v22 fun v23 =>
kBin .int .add (t 2) v23 fun v24 =>
aRet K v24 g n

def math_bits_Len64_j2 (C : CT) (K : Cont) (t : Env) (g : G) (n : Nat) : Prop :=
kBin .int .geq (t 0) (.int .u64 256) fun v14 =>
kSplit v14 (
kBin .int .shr (t 0) (.int .u64 8) fun v16 =>
kBin .int .add (t 2) (.int .i64 8) fun v18 =>
math_bits_Len64_j3 C K (puts t [(13, (t 0)), (14, v14), (15, (t 0)), (16, v16), (0, v16), (17, (t 2)), (18, v18), (2, v18)]) g n) (
math_bits_Len64_j3 C K (puts t [(13, (t 0)), (14, v14)]) g n)

def math_bits_Len64_j1 (C : CT) (K : Cont) (t : Env) (g : G) (n : Nat) : Prop :=
kBin .int .geq (t 0) (.int .u64 65536) fun v8 =>
kSplit v8 (
kBin .int .shr (t 0) (.int .u64 16) fun v10 =>
kBin .int .add (t 2) (.int .i64 16) fun v12 =>
math_bits_Len64_j2 C K (puts t [(7, (t 0)), (8, v8), (9, (t 0)), (10, v10), (0, v10), (11, (t 2)), (12, v12), (2, v12)]) g n) (
math_bits_Len64_j2 C K (puts t [(7, (t 0)), (8, v8)]) g n)

def math_bits_Len64 (C : CT) (a0 : Value) (g : G) (n : Nat) (K : Cont) : Prop :=
kBin .int .geq a0 (.int .u64 4294967296) fun v4 =>
kSplit v4 (
kBin .int .shr a0 (.int .u64 32) fun v6 =>
math_bits_Len64_j1 C K (puts (args0 [a0]) [(2, (.int .i64 0)), (3, a0), (4, v4), (5, a0), (6, v6), (0, v6), (2, (.int .i64 32))]) g n) (
math_bits_Len64_j1 C K (puts (args0 [a0]) [(2, (.int .i64 0)), (3, a0), (4, v4)]) g n)

theorem math_bits_Len64_eq (C : CT) (a0 : Value) (g : G) (n : Nat) (K : Cont) : math_bits_Len64 C a0 g n K = abody Tryz.prog C math_bits_Len64_id [a0] g n K := by kernel_rfl

/- bellows/isa.Has -/
def isa_Has (C : CT) (a0 : Value) (g : G) (n : Nat) (K : Cont) : Prop :=
C isa_is_id [a0] g n fun v5 g1 n5 =>
kUn .not v5 fun v6 =>
kSplit v6 (
aRet K (.string ⟨#[]⟩) g1 n5) (
kNew [(.int .u32 0), (.int .i32 0), (.int .u32 0), (.string .empty), (.string .empty), (.string .empty), (.string .empty), (.string .empty), (.string .empty), (.string .empty), (.string .empty), (.string .empty), (.string .empty), (.string .empty), (.string .empty), (.string .empty), (.string .empty), (.string .empty), (.string .empty), (.string .empty), (.string .empty), (.string .empty), (.string .empty), (.string .empty), (.string .empty), (.string .empty)] .exact g1 n5 fun l3 g2 n3 =>
C sync_Once_Do_id [(ptr l3 (0 + 0)), (.func (.func isa_table_fill_id) #[(ptr l3 0)] #[])] g2 n3 fun v9 g3 n9 =>
kIndexArr (ptr l3 (0 + 3)) a0 23 1 fun v12 =>
kPtr v12 fun l13 o13 =>
kLd g3 l13 o13 fun v13 =>
aRet K v13 g3 n9)

theorem isa_Has_eq (C : CT) (a0 : Value) (g : G) (n : Nat) (K : Cont) : isa_Has C a0 g n K = abody Tryz.prog C isa_Has_id [a0] g n K := by kernel_rfl

/- bellows/isa.is -/
def isa_is (C : CT) (a0 : Value) (g : G) (n : Nat) (K : Cont) : Prop :=
kBin .int .geq a0 (.int .i64 0) fun v4 =>
kSplit v4 (
kBin .int .leq a0 (.int .i64 22) fun v7 =>
aRet K v7 g n) (
aRet K (.bool false) g n)

theorem isa_is_eq (C : CT) (a0 : Value) (g : G) (n : Nat) (K : Cont) : isa_is C a0 g n K = abody Tryz.prog C isa_is_id [a0] g n K := by kernel_rfl

/- bellows/isa.register -/
def isa_register (C : CT) (a0 a1 : Value) (g : G) (n : Nat) (K : Cont) : Prop :=
kBin .int .eql a0 (.int .i64 0) fun v6 =>
kSplit v6 (
aRet K (.bool true) g n) (
kSplit a1 (
kBin .int .gtr a0 (.int .i64 0) fun v11 =>
kSplit v11 (
kBin .int .lss a0 (.int .i64 8) fun v15 =>
aRet K v15 g n) (
aRet K (.bool false) g n)) (
aRet K (.bool false) g n))

theorem isa_register_eq (C : CT) (a0 a1 : Value) (g : G) (n : Nat) (K : Cont) : isa_register C a0 a1 g n K = abody Tryz.prog C isa_register_id [a0, a1] g n K := by kernel_rfl

/- strings.Contains -/
def strings_Contains (C : CT) (a0 a1 : Value) (g : G) (n : Nat) (K : Cont) : Prop :=
C strings_Index_id [a0, a1] g n fun v7 g1 n7 =>
kBin .int .geq v7 (.int .i64 0) fun v8 =>
aRet K v8 g1 n7

theorem strings_Contains_eq (C : CT) (a0 a1 : Value) (g : G) (n : Nat) (K : Cont) : strings_Contains C a0 a1 g n K = abody Tryz.prog C strings_Contains_id [a0, a1] g n K := by kernel_rfl

/- bellows/isa.jumps -/
def isa_jumps (C : CT) (a0 : Value) (g : G) (n : Nat) (K : Cont) : Prop :=
kBin .int .geq a0 (.int .i64 17) fun v4 =>
kSplit v4 (
kBin .int .leq a0 (.int .i64 20) fun v7 =>
aRet K v7 g n) (
aRet K (.bool false) g n)

theorem isa_jumps_eq (C : CT) (a0 : Value) (g : G) (n : Nat) (K : Cont) : isa_jumps C a0 g n K = abody Tryz.prog C isa_jumps_id [a0] g n K := by kernel_rfl

/- bellows/bellowsref10.has -/
def bellowsref10_has_l1 (C : CT) (K : Cont) (I_l1 : ECont) (t : Env) (g : G) (n : Nat) : Prop :=
kLenS (t 5) fun v11 =>
kBin .int .lss (t 6) v11 fun v12 =>
kSplit v12 (
kIdxS (t 5) (t 6) fun v17 =>
kBin .int .eql v17 (t 1) fun v19 =>
kSplit v19 (
aRet K (.bool true) g n) (
kBin .int .add (t 6) (.int .i64 1) fun v14 =>
I_l1 (puts t [(9, (t 6)), (10, (t 5)), (11, v11), (12, v12), (15, (t 5)), (16, (t 6)), (17, v17), (18, (t 1)), (19, v19), (13, (t 6)), (14, v14), (6, v14)]) g n)) (
aRet K (.bool false) g n)

def bellowsref10_has (C : CT) (a0 a1 : Value) (g : G) (n : Nat) (K : Cont) : Prop :=
C bellowsref10_Has_id [a0] g n fun v8 g1 n8 =>
lfp (bellowsref10_has_l1 C K) (puts (args0 [a0, a1]) [(4, (.bool false)), (7, a0), (8, v8), (5, v8), (6, (.int .i64 0))]) g1 n8

theorem bellowsref10_has_eq (C : CT) (a0 a1 : Value) (g : G) (n : Nat) (K : Cont) : bellowsref10_has C a0 a1 g n K = abody Tryz.prog C bellowsref10_has_id [a0, a1] g n K := by kernel_rfl

/- bellows/bellowsref10.reg -/
def bellowsref10_reg (C : CT) (a0 : Value) (g : G) (n : Nat) (K : Cont) : Prop :=
kBin .int .geq a0 (.int .i64 0) fun v4 =>
kSplit v4 (
kBin .int .leq a0 (.int .i64 7) fun v7 =>
aRet K v7 g n) (
aRet K (.bool false) g n)

theorem bellowsref10_reg_eq (C : CT) (a0 : Value) (g : G) (n : Nat) (K : Cont) : bellowsref10_reg C a0 g n K = abody Tryz.prog C bellowsref10_reg_id [a0] g n K := by kernel_rfl

/- bellows/lock.li -/
def lock_li (C : CT) (a0 a1 : Value) (g : G) (n : Nat) (K : Cont) : Prop :=
kNew [(.int .i64 0), (.int .i64 0), (.int .i64 0), (.int .i64 0), (.int .i64 0)] .exact g n fun l4 g1 n4 =>
kConv .i64 a1 fun v7 =>
kFill [(.int .i64 0), (.int .i64 0), (.int .i64 0), (.int .i64 0), (.int .i64 0)] [(0, none, (.int .i64 1)), (1, none, a0), (4, none, v7)] fun c8 =>
kAgg (.agg c8.toArray) fun cg2 =>
cg2.length = 5 ∧ kStN g1 l4 0 cg2 fun g2 =>
kLdN g2 l4 0 5 fun r0 =>
aRet K (.agg r0.toArray) g2 n4

theorem lock_li_eq (C : CT) (a0 a1 : Value) (g : G) (n : Nat) (K : Cont) : lock_li C a0 a1 g n K = abody Tryz.prog C lock_li_id [a0, a1] g n K := by kernel_rfl

/- (*bellows/client.writer).read -/
def client_writer_read (C : CT) (a0 a1 : Value) (g : G) (n : Nat) (K : Cont) : Prop :=
kAgg a1 fun c3 =>
kNew c3 .exact g n fun l3 g1 n3 =>
kLdN g1 l3 0 3 fun c5 =>
C client_writer_at_id [a0, (.agg c5.toArray)] g1 n3 fun v6 g2 n6 =>
C client_writer_ld_id [a0] g2 n6 fun v8 g3 n8 =>
C client_writer_tell_id [a0, (.int .i64 4)] g3 n8 fun v10 g4 n10 =>
aRet K (.tuple #[]) g4 n10

theorem client_writer_read_eq (C : CT) (a0 a1 : Value) (g : G) (n : Nat) (K : Cont) : client_writer_read C a0 a1 g n K = abody Tryz.prog C client_writer_read_id [a0, a1] g n K := by kernel_rfl

/- (*bellows/client.writer).write -/
def client_writer_write (C : CT) (a0 a1 : Value) (g : G) (n : Nat) (K : Cont) : Prop :=
kAgg a1 fun c3 =>
kNew c3 .exact g n fun l3 g1 n3 =>
kLdN g1 l3 0 3 fun c5 =>
C client_writer_note_id [a0, (.agg c5.toArray)] g1 n3 fun v6 g2 n6 =>
kLdN g2 l3 0 3 fun c8 =>
C client_writer_at_id [a0, (.agg c8.toArray)] g2 n6 fun v9 g3 n9 =>
kLd g3 l3 (0 + 2) fun v12 =>
C client_writer_li_id [a0, (.int .i64 4), v12] g3 n9 fun v13 g4 n13 =>
C client_writer_st_id [a0] g4 n13 fun v15 g5 n15 =>
aRet K (.tuple #[]) g5 n15

theorem client_writer_write_eq (C : CT) (a0 a1 : Value) (g : G) (n : Nat) (K : Cont) : client_writer_write C a0 a1 g n K = abody Tryz.prog C client_writer_write_id [a0, a1] g n K := by kernel_rfl

/- (*bellows/client.writer).add -/
def client_writer_add (C : CT) (a0 a1 : Value) (g : G) (n : Nat) (K : Cont) : Prop :=
kAgg a1 fun c3 =>
kNew c3 .exact g n fun l3 g1 n3 =>
kLdN g1 l3 0 3 fun c5 =>
C client_writer_note_id [a0, (.agg c5.toArray)] g1 n3 fun v6 g2 n6 =>
kLdN g2 l3 0 3 fun c8 =>
C client_writer_at_id [a0, (.agg c8.toArray)] g2 n6 fun v9 g3 n9 =>
C client_writer_ld_id [a0] g3 n9 fun v11 g4 n11 =>
kLd g4 l3 (0 + 2) fun v14 =>
C client_writer_li_id [a0, (.int .i64 5), v14] g4 n11 fun v15 g5 n15 =>
kNil a0 fun v17 =>
kPtr v17 fun l18 o18 =>
kLd g5 l18 (o18 + 0) fun v19 =>
kFill [(.int .i64 0), (.int .i64 0), (.int .i64 0), (.int .i64 0), (.int .i64 0)] [(0, none, (.int .i64 2)), (1, none, (.int .i64 4)), (2, none, (.int .i64 4)), (3, none, (.int .i64 5))] fun c20 =>
kFill (reps 1 [(.int .i64 0), (.int .i64 0), (.int .i64 0), (.int .i64 0), (.int .i64 0)]) [(0, (some 5), (.agg c20.toArray))] fun c21 =>
kNew c21 .exact g5 n15 fun l21 g6 n21 =>
C emit_Builder_Add_id [v19, (.slice (some ⟨l21, 0, none⟩) 1 1)] g6 n21 fun v22 g7 n22 =>
C client_writer_st_id [a0] g7 n22 fun v24 g8 n24 =>
C client_writer_tell_id [a0, (.int .i64 4)] g8 n24 fun v26 g9 n26 =>
aRet K (.tuple #[]) g9 n26

theorem client_writer_add_eq (C : CT) (a0 a1 : Value) (g : G) (n : Nat) (K : Cont) : client_writer_add C a0 a1 g n K = abody Tryz.prog C client_writer_add_id [a0, a1] g n K := by kernel_rfl

/- (*bellows/client.writer).take -/
def client_writer_take (C : CT) (a0 a1 : Value) (g : G) (n : Nat) (K : Cont) : Prop :=
kAgg a1 fun c3 =>
kNew c3 .exact g n fun l3 g1 n3 =>
kNil a0 fun v7 =>
kPtr v7 fun l8 o8 =>
kLd g1 l8 (o8 + 0) fun v9 =>
kNil a0 fun v12 =>
kPtr v12 fun l13 o13 =>
kLd g1 l13 (o13 + 0) fun v14 =>
C emit_Builder_Mark_id [v9] g1 n3 fun v10 g2 n10 =>
(kPtr (ptr l13 (o13 + 0)) fun l _ => g2 l = g1 l) ∧ C emit_Builder_Mark_id [v14] g2 n10 fun v15 g3 n15 =>
kLdN g3 l3 0 3 fun c17 =>
C client_writer_at_id [a0, (.agg c17.toArray)] g3 n15 fun v18 g4 n18 =>
C client_writer_ld_id [a0] g4 n18 fun v20 g5 n20 =>
C client_writer_li_id [a0, (.int .i64 0), (.int .u64 0)] g5 n20 fun v22 g6 n22 =>
kNil a0 fun v24 =>
kPtr v24 fun l25 o25 =>
kLd g6 l25 (o25 + 0) fun v26 =>
kFill [(.int .i64 0), (.int .i64 0), (.int .i64 0), (.int .i64 0), (.int .i64 0)] [(0, none, (.int .i64 19)), (1, none, (.int .i64 4)), (2, none, (.int .i64 0))] fun c27 =>
C emit_Builder_Jump_id [v26, (.agg c27.toArray), v10] g6 n22 fun v29 g7 n29 =>
kLdN g7 l3 0 3 fun c31 =>
C client_writer_note_id [a0, (.agg c31.toArray)] g7 n29 fun v32 g8 n32 =>
kLdN g8 l3 0 3 fun c34 =>
C client_writer_at_id [a0, (.agg c34.toArray)] g8 n32 fun v35 g9 n35 =>
kLd g9 l3 (0 + 2) fun v38 =>
C client_writer_li_id [a0, (.int .i64 4), v38] g9 n35 fun v39 g10 n39 =>
C client_writer_st_id [a0] g10 n39 fun v41 g11 n41 =>
C client_writer_li_id [a0, (.int .i64 4), (.int .u64 1)] g11 n41 fun v43 g12 n43 =>
C client_writer_tell_id [a0, (.int .i64 4)] g12 n43 fun v45 g13 n45 =>
C client_writer_jump_id [a0, v15] g13 n45 fun v48 g14 n48 =>
kNil a0 fun v50 =>
kPtr v50 fun l51 o51 =>
kLd g14 l51 (o51 + 0) fun v52 =>
C emit_Builder_Here_id [v52, v10] g14 n48 fun v54 g15 n54 =>
C client_writer_li_id [a0, (.int .i64 4), (.int .u64 0)] g15 n54 fun v56 g16 n56 =>
C client_writer_tell_id [a0, (.int .i64 4)] g16 n56 fun v58 g17 n58 =>
kNil a0 fun v60 =>
kPtr v60 fun l61 o61 =>
kLd g17 l61 (o61 + 0) fun v62 =>
C emit_Builder_Here_id [v62, v15] g17 n58 fun v64 g18 n64 =>
aRet K (.tuple #[]) g18 n64

theorem client_writer_take_eq (C : CT) (a0 a1 : Value) (g : G) (n : Nat) (K : Cont) : client_writer_take C a0 a1 g n K = abody Tryz.prog C client_writer_take_id [a0, a1] g n K := by kernel_rfl

/- bellows/bellowsref25.load -/
def bellowsref25_load (C : CT) (g : G) (n : Nat) (K : Cont) : Prop :=
kNew [(.int .i64 0), (.int .i64 0), (.int .i64 0), (.int .i64 0), (.int .i64 0)] .exact g n fun l0 g1 n0 =>
kFill [(.int .i64 0), (.int .i64 0), (.int .i64 0), (.int .i64 0), (.int .i64 0)] [(0, none, (.int .i64 8)), (1, none, (.int .i64 4)), (2, none, (.int .i64 1))] fun c1 =>
kAgg (.agg c1.toArray) fun cg2 =>
cg2.length = 5 ∧ kStN g1 l0 0 cg2 fun g2 =>
kLdN g2 l0 0 5 fun r0 =>
aRet K (.agg r0.toArray) g2 n0

theorem bellowsref25_load_eq (C : CT) (g : G) (n : Nat) (K : Cont) : bellowsref25_load C g n K = abody Tryz.prog C bellowsref25_load_id [] g n K := by kernel_rfl

/- bellows/bellowsref25.store -/
def bellowsref25_store (C : CT) (g : G) (n : Nat) (K : Cont) : Prop :=
kNew [(.int .i64 0), (.int .i64 0), (.int .i64 0), (.int .i64 0), (.int .i64 0)] .exact g n fun l0 g1 n0 =>
kFill [(.int .i64 0), (.int .i64 0), (.int .i64 0), (.int .i64 0), (.int .i64 0)] [(0, none, (.int .i64 9)), (1, none, (.int .i64 4)), (2, none, (.int .i64 1))] fun c1 =>
kAgg (.agg c1.toArray) fun cg2 =>
cg2.length = 5 ∧ kStN g1 l0 0 cg2 fun g2 =>
kLdN g2 l0 0 5 fun r0 =>
aRet K (.agg r0.toArray) g2 n0

theorem bellowsref25_store_eq (C : CT) (g : G) (n : Nat) (K : Cont) : bellowsref25_store C g n K = abody Tryz.prog C bellowsref25_store_id [] g n K := by kernel_rfl

/- (*sync/atomic.Bool).Load -/
def sync_atomic_Bool_Load (C : CT) (a0 : Value) (g : G) (n : Nat) (K : Cont) : Prop :=
kNil a0 fun v4 =>
kPtr v4 fun l5 o5 =>
C sync_atomic_LoadUint32_id [(ptr l5 (o5 + 0))] g n fun v6 g1 n6 =>
kBin .int .neq v6 (.int .u32 0) fun v7 =>
aRet K v7 g1 n6

theorem sync_atomic_Bool_Load_eq (C : CT) (a0 : Value) (g : G) (n : Nat) (K : Cont) : sync_atomic_Bool_Load C a0 g n K = abody Tryz.prog C sync_atomic_Bool_Load_id [a0] g n K := by kernel_rfl

/- bellows/word.Good -/
def word_Good (C : CT) (a0 : Value) (g : G) (n : Nat) (K : Cont) : Prop :=
kAgg a0 fun c1 =>
kNew c1 .exact g n fun l1 g1 n1 =>
kLd g1 l1 (0 + 3) fun v5 =>
kBin .int .eql v5 (.int .i64 1) fun v6 =>
kSplit v6 (
kLd g1 l1 (0 + 0) fun v23 =>
C word_between_id [v23, (.int .i64 1), (.int .i64 8)] g1 n1 fun v24 g2 n24 =>
kSplit v24 (
kLd g2 l1 (0 + 1) fun v27 =>
C word_between_id [v27, (.int .i64 2), (.int .i64 64)] g2 n24 fun v28 g3 n28 =>
kSplit v28 (
kLd g3 l1 (0 + 2) fun v32 =>
kLd g3 l1 (0 + 1) fun v34 =>
kBin .int .sub v34 (.int .i64 1) fun v35 =>
C word_between_id [v32, (.int .i64 1), v35] g3 n28 fun v36 g4 n36 =>
kSplit v36 (
kLd g4 l1 (0 + 4) fun v43 =>
C word_between_id [v43, (.int .i64 1), (.int .i64 8)] g4 n36 fun v44 g5 n44 =>
kSplit v44 (
kLd g5 l1 (0 + 5) fun v48 =>
C word_between_id [v48, (.int .i64 1), (.int .i64 16)] g5 n44 fun v49 g6 n49 =>
kSplit v49 (
kLd g6 l1 (0 + 6) fun v53 =>
C word_between_id [v53, (.int .i64 1), (.int .i64 16)] g6 n49 fun v54 g7 n54 =>
aRet K v54 g7 n54) (
aRet K (.bool false) g6 n49)) (
aRet K (.bool false) g5 n44)) (
aRet K (.bool false) g4 n36)) (
aRet K (.bool false) g3 n28)) (
aRet K (.bool false) g2 n24)) (
kLd g1 l1 (0 + 3) fun v9 =>
kBin .int .eql v9 (.int .i64 2) fun v10 =>
kSplit v10 (
kLd g1 l1 (0 + 0) fun v23 =>
C word_between_id [v23, (.int .i64 1), (.int .i64 8)] g1 n1 fun v24 g8 n24 =>
kSplit v24 (
kLd g8 l1 (0 + 1) fun v27 =>
C word_between_id [v27, (.int .i64 2), (.int .i64 64)] g8 n24 fun v28 g9 n28 =>
kSplit v28 (
kLd g9 l1 (0 + 2) fun v32 =>
kLd g9 l1 (0 + 1) fun v34 =>
kBin .int .sub v34 (.int .i64 1) fun v35 =>
C word_between_id [v32, (.int .i64 1), v35] g9 n28 fun v36 g10 n36 =>
kSplit v36 (
kLd g10 l1 (0 + 4) fun v43 =>
C word_between_id [v43, (.int .i64 1), (.int .i64 8)] g10 n36 fun v44 g11 n44 =>
kSplit v44 (
kLd g11 l1 (0 + 5) fun v48 =>
C word_between_id [v48, (.int .i64 1), (.int .i64 16)] g11 n44 fun v49 g12 n49 =>
kSplit v49 (
kLd g12 l1 (0 + 6) fun v53 =>
C word_between_id [v53, (.int .i64 1), (.int .i64 16)] g12 n49 fun v54 g13 n54 =>
aRet K v54 g13 n54) (
aRet K (.bool false) g12 n49)) (
aRet K (.bool false) g11 n44)) (
aRet K (.bool false) g10 n36)) (
aRet K (.bool false) g9 n28)) (
aRet K (.bool false) g8 n24)) (
kLd g1 l1 (0 + 3) fun v14 =>
kBin .int .eql v14 (.int .i64 4) fun v15 =>
kSplit v15 (
kLd g1 l1 (0 + 0) fun v23 =>
C word_between_id [v23, (.int .i64 1), (.int .i64 8)] g1 n1 fun v24 g14 n24 =>
kSplit v24 (
kLd g14 l1 (0 + 1) fun v27 =>
C word_between_id [v27, (.int .i64 2), (.int .i64 64)] g14 n24 fun v28 g15 n28 =>
kSplit v28 (
kLd g15 l1 (0 + 2) fun v32 =>
kLd g15 l1 (0 + 1) fun v34 =>
kBin .int .sub v34 (.int .i64 1) fun v35 =>
C word_between_id [v32, (.int .i64 1), v35] g15 n28 fun v36 g16 n36 =>
kSplit v36 (
kLd g16 l1 (0 + 4) fun v43 =>
C word_between_id [v43, (.int .i64 1), (.int .i64 8)] g16 n36 fun v44 g17 n44 =>
kSplit v44 (
kLd g17 l1 (0 + 5) fun v48 =>
C word_between_id [v48, (.int .i64 1), (.int .i64 16)] g17 n44 fun v49 g18 n49 =>
kSplit v49 (
kLd g18 l1 (0 + 6) fun v53 =>
C word_between_id [v53, (.int .i64 1), (.int .i64 16)] g18 n49 fun v54 g19 n54 =>
aRet K v54 g19 n54) (
aRet K (.bool false) g18 n49)) (
aRet K (.bool false) g17 n44)) (
aRet K (.bool false) g16 n36)) (
aRet K (.bool false) g15 n28)) (
aRet K (.bool false) g14 n24)) (
kLd g1 l1 (0 + 3) fun v19 =>
kBin .int .eql v19 (.int .i64 8) fun v20 =>
kLd g1 l1 (0 + 0) fun v23 =>
C word_between_id [v23, (.int .i64 1), (.int .i64 8)] g1 n1 fun v24 g20 n24 =>
kSplit v24 (
kLd g20 l1 (0 + 1) fun v27 =>
C word_between_id [v27, (.int .i64 2), (.int .i64 64)] g20 n24 fun v28 g21 n28 =>
kSplit v28 (
kLd g21 l1 (0 + 2) fun v32 =>
kLd g21 l1 (0 + 1) fun v34 =>
kBin .int .sub v34 (.int .i64 1) fun v35 =>
C word_between_id [v32, (.int .i64 1), v35] g21 n28 fun v36 g22 n36 =>
kSplit v36 (
kSplit v20 (
kLd g22 l1 (0 + 4) fun v43 =>
C word_between_id [v43, (.int .i64 1), (.int .i64 8)] g22 n36 fun v44 g23 n44 =>
kSplit v44 (
kLd g23 l1 (0 + 5) fun v48 =>
C word_between_id [v48, (.int .i64 1), (.int .i64 16)] g23 n44 fun v49 g24 n49 =>
kSplit v49 (
kLd g24 l1 (0 + 6) fun v53 =>
C word_between_id [v53, (.int .i64 1), (.int .i64 16)] g24 n49 fun v54 g25 n54 =>
aRet K v54 g25 n54) (
aRet K (.bool false) g24 n49)) (
aRet K (.bool false) g23 n44)) (
aRet K (.bool false) g22 n36)) (
aRet K (.bool false) g22 n36)) (
aRet K (.bool false) g21 n28)) (
aRet K (.bool false) g20 n24))))

theorem word_Good_eq (C : CT) (a0 : Value) (g : G) (n : Nat) (K : Cont) : word_Good C a0 g n K = abody Tryz.prog C word_Good_id [a0] g n K := by kernel_rfl

/- slices.siftDownOrdered[uint64] -/
def slices_siftDownOrdered_uint64_j5 (C : CT) (K : Cont) (I_l1 : ECont) (t : Env) (g : G) (n : Nat) : Prop :=
I_l1 (puts t [(75, (t 9)), (8, (t 9))]) g n

def slices_siftDownOrdered_uint64_j4 (C : CT) (K : Cont) (I_l1 : ECont) (t : Env) (g : G) (n : Nat) : Prop :=
kSplit (t 52) (
aRet K (.tuple #[]) g n) (
kBin .int .add (t 3) (t 8) fun v56 =>
kBin .int .add (t 3) (t 9) fun v60 =>
kBin .int .add (t 3) (t 9) fun v64 =>
kIndexAddr (t 0) v64 1 fun v65 =>
kPtr v65 fun l66 o66 =>
kLd g l66 o66 fun v66 =>
kBin .int .add (t 3) (t 8) fun v70 =>
kIndexAddr (t 0) v70 1 fun v71 =>
kPtr v71 fun l72 o72 =>
kLd g l72 o72 fun v72 =>
kIndexAddr (t 0) v56 1 fun v73 =>
kPtr v73 fun lg3 og3 =>
kSt g lg3 og3 v66 fun g3 =>
kIndexAddr (t 0) v60 1 fun v74 =>
kPtr v74 fun lg4 og4 =>
kSt g3 lg4 og4 v72 fun g4 =>
slices_siftDownOrdered_uint64_j5 C K I_l1 (puts t [(53, (t 0)), (54, (t 3)), (55, (t 8)), (56, v56), (57, (t 0)), (58, (t 3)), (59, (t 9)), (60, v60), (61, (t 0)), (62, (t 3)), (63, (t 9)), (64, v64), (65, v65), (66, v66), (67, (t 0)), (68, (t 3)), (69, (t 8)), (70, v70), (71, v71), (72, v72), (73, v73), (74, v74)]) g4 n)

def slices_siftDownOrdered_uint64_j3 (C : CT) (K : Cont) (I_l1 : ECont) (t : Env) (g : G) (n : Nat) : Prop :=
kBin .int .add (t 3) (t 8) fun v42 =>
kIndexAddr (t 0) v42 1 fun v43 =>
kPtr v43 fun l44 o44 =>
kLd g l44 o44 fun v44 =>
kBin .int .add (t 3) (t 9) fun v48 =>
kIndexAddr (t 0) v48 1 fun v49 =>
kPtr v49 fun l50 o50 =>
kLd g l50 o50 fun v50 =>
C cmp_Less_uint64_id [v44, v50] g n fun v51 g2 n51 =>
kUn .not v51 fun v52 =>
slices_siftDownOrdered_uint64_j4 C K I_l1 (puts t [(39, (t 0)), (40, (t 3)), (41, (t 8)), (42, v42), (43, v43), (44, v44), (45, (t 0)), (46, (t 3)), (47, (t 9)), (48, v48), (49, v49), (50, v50), (51, v51), (52, v52)]) g2 n51

def slices_siftDownOrdered_uint64_j2 (C : CT) (K : Cont) (I_l1 : ECont) (t : Env) (g : G) (n : Nat) : Prop :=
kSplit (t 36) (
kBin .int .add (t 9) (.int .i64 1) fun v38 =>
slices_siftDownOrdered_uint64_j3 C K I_l1 (puts t [(37, (t 9)), (38, v38), (9, v38)]) g n) (
slices_siftDownOrdered_uint64_j3 C K I_l1 t g n)

def slices_siftDownOrdered_uint64_l1 (C : CT) (K : Cont) (I_l1 : ECont) (t : Env) (g : G) (n : Nat) : Prop :=
kBin .int .mul (.int .i64 2) (t 8) fun v12 =>
kBin .int .add v12 (.int .i64 1) fun v13 =>
kBin .int .geq v13 (t 2) fun v16 =>
kSplit v16 (
aRet K (.tuple #[]) g n) (
kBin .int .add v13 (.int .i64 1) fun v18 =>
kBin .int .lss v18 (t 2) fun v20 =>
kSplit v20 (
kBin .int .add (t 3) v13 fun v25 =>
kIndexAddr (t 0) v25 1 fun v26 =>
kPtr v26 fun l27 o27 =>
kLd g l27 o27 fun v27 =>
kBin .int .add (t 3) v13 fun v31 =>
kBin .int .add v31 (.int .i64 1) fun v32 =>
kIndexAddr (t 0) v32 1 fun v33 =>
kPtr v33 fun l34 o34 =>
kLd g l34 o34 fun v34 =>
C cmp_Less_uint64_id [v27, v34] g n fun v35 g1 n35 =>
slices_siftDownOrdered_uint64_j2 C K I_l1 (puts t [(11, (t 8)), (12, v12), (13, v13), (9, v13), (14, v13), (15, (t 2)), (16, v16), (17, v13), (18, v18), (19, (t 2)), (20, v20), (21, (.bool true)), (22, (t 0)), (23, (t 3)), (24, v13), (25, v25), (26, v26), (27, v27), (28, (t 0)), (29, (t 3)), (30, v13), (31, v31), (32, v32), (33, v33), (34, v34), (35, v35), (36, v35)]) g1 n35) (
slices_siftDownOrdered_uint64_j2 C K I_l1 (puts t [(11, (t 8)), (12, v12), (13, v13), (9, v13), (14, v13), (15, (t 2)), (16, v16), (17, v13), (18, v18), (19, (t 2)), (20, v20), (21, (.bool false)), (22, undef), (23, undef), (24, undef), (25, undef), (26, undef), (27, undef), (28, undef), (29, undef), (30, undef), (31, undef), (32, undef), (33, undef), (34, undef), (35, undef), (36, (.bool false))]) g n))

def slices_siftDownOrdered_uint64 (C : CT) (a0 a1 a2 a3 : Value) (g : G) (n : Nat) (K : Cont) : Prop :=
lfp (slices_siftDownOrdered_uint64_l1 C K) (puts (args0 [a0, a1, a2, a3]) [(10, a1), (8, a1)]) g n

theorem slices_siftDownOrdered_uint64_eq (C : CT) (a0 a1 a2 a3 : Value) (g : G) (n : Nat) (K : Cont) : slices_siftDownOrdered_uint64 C a0 a1 a2 a3 g n K = abody Tryz.prog C slices_siftDownOrdered_uint64_id [a0, a1, a2, a3] g n K := by kernel_rfl

/- slices.nextPowerOfTwo -/
def slices_nextPowerOfTwo (C : CT) (a0 : Value) (g : G) (n : Nat) (K : Cont) : Prop :=
kConv .u64 a0 fun v4 =>
C math_bits_Len_id [v4] g n fun v5 g1 n5 =>
kBin .int .shl (.int .u64 1) v5 fun v6 =>
aRet K v6 g1 n5

theorem slices_nextPowerOfTwo_eq (C : CT) (a0 : Value) (g : G) (n : Nat) (K : Cont) : slices_nextPowerOfTwo C a0 g n K = abody Tryz.prog C slices_nextPowerOfTwo_id [a0] g n K := by kernel_rfl

/- (*slices.xorshift).Next -/
def slices_xorshift_Next_j3 (C : CT) (K : Cont) (t : Env) (g : G) (n : Nat) : Prop :=
kNil (t 0) fun v31 =>
kPtr v31 fun l32 o32 =>
kLd g l32 o32 fun v32 =>
aRet K v32 g n

def slices_xorshift_Next_j2 (C : CT) (K : Cont) (t : Env) (g : G) (n : Nat) : Prop :=
kNil (t 0) fun v22 =>
kPtr v22 fun l23 o23 =>
kLd g l23 o23 fun v23 =>
kNil (t 0) fun v25 =>
kPtr v25 fun l26 o26 =>
kLd g l26 o26 fun v26 =>
kBin .int .shl v26 (.int .u64 17) fun v27 =>
kBin .int .xor v23 v27 fun v28 =>
kNil (t 0) fun v29 =>
kPtr v29 fun lg3 og3 =>
kSt g lg3 og3 v28 fun g3 =>
slices_xorshift_Next_j3 C K (puts t [(21, (t 0)), (22, v22), (23, v23), (24, (t 0)), (25, v25), (26, v26), (27, v27), (28, v28), (29, v29)]) g3 n

def slices_xorshift_Next_j1 (C : CT) (K : Cont) (t : Env) (g : G) (n : Nat) : Prop :=
kNil (t 0) fun v13 =>
kPtr v13 fun l14 o14 =>
kLd g l14 o14 fun v14 =>
kNil (t 0) fun v16 =>
kPtr v16 fun l17 o17 =>
kLd g l17 o17 fun v17 =>
kBin .int .shr v17 (.int .u64 7) fun v18 =>
kBin .int .xor v14 v18 fun v19 =>
kNil (t 0) fun v20 =>
kPtr v20 fun lg2 og2 =>
kSt g lg2 og2 v19 fun g2 =>
slices_xorshift_Next_j2 C K (puts t [(12, (t 0)), (13, v13), (14, v14), (15, (t 0)), (16, v16), (17, v17), (18, v18), (19, v19), (20, v20)]) g2 n

def slices_xorshift_Next (C : CT) (a0 : Value) (g : G) (n : Nat) (K : Cont) : Prop :=
kNil a0 fun v4 =>
kPtr v4 fun l5 o5 =>
kLd g l5 o5 fun v5 =>
kNil a0 fun v7 =>
kPtr v7 fun l8 o8 =>
kLd g l8 o8 fun v8 =>
kBin .int .shl v8 (.int .u64 13) fun v9 =>
kBin .int .xor v5 v9 fun v10 =>
kNil a0 fun v11 =>
kPtr v11 fun lg1 og1 =>
kSt g lg1 og1 v10 fun g1 =>
slices_xorshift_Next_j1 C K (puts (args0 [a0]) [(2, (.int .u64 0)), (3, a0), (4, v4), (5, v5), (6, a0), (7, v7), (8, v8), (9, v9), (10, v10), (11, v11)]) g1 n

theorem slices_xorshift_Next_eq (C : CT) (a0 : Value) (g : G) (n : Nat) (K : Cont) : slices_xorshift_Next C a0 g n K = abody Tryz.prog C slices_xorshift_Next_id [a0] g n K := by kernel_rfl

/- slices.medianAdjacentOrdered[uint64] -/
def slices_medianAdjacentOrdered_uint64 (C : CT) (a0 a1 a2 : Value) (g : G) (n : Nat) (K : Cont) : Prop :=
kBin .int .sub a1 (.int .i64 1) fun v9 =>
kBin .int .add a1 (.int .i64 1) fun v12 =>
C slices_medianOrdered_uint64_id [a0, v9, a1, v12, a2] g n fun v14 g1 n14 =>
aRet K v14 g1 n14

theorem slices_medianAdjacentOrdered_uint64_eq (C : CT) (a0 a1 a2 : Value) (g : G) (n : Nat) (K : Cont) : slices_medianAdjacentOrdered_uint64 C a0 a1 a2 g n K = abody Tryz.prog C slices_medianAdjacentOrdered_uint64_id [a0, a1, a2] g n K := by kernel_rfl

/- slices.medianOrdered[uint64] -/
def slices_medianOrdered_uint64 (C : CT) (a0 a1 a2 a3 a4 : Value) (g : G) (n : Nat) (K : Cont) : Prop :=
C slices_order2Ordered_uint64_id [a0, a1, a2, a4] g n fun v16 g1 n16 =>
kExtract v16 0 fun v17 =>
kExtract v16 1 fun v18 =>
C slices_order2Ordered_uint64_id [a0, v18, a3, a4] g1 n16 fun v24 g2 n24 =>
kExtract v24 0 fun v25 =>
kExtract v24 1 fun v26 =>
C slices_order2Ordered_uint64_id [a0, v17, v25, a4] g2 n24 fun v32 g3 n32 =>
kExtract v32 0 fun v33 =>
kExtract v32 1 fun v34 =>
aRet K v34 g3 n32

theorem slices_medianOrdered_uint64_eq (C : CT) (a0 a1 a2 a3 a4 : Value) (g : G) (n : Nat) (K : Cont) : slices_medianOrdered_uint64 C a0 a1 a2 a3 a4 g n K = abody Tryz.prog C slices_medianOrdered_uint64_id [a0, a1, a2, a3, a4] g n K := by kernel_rfl

/- cmp.isNaN[uint64] -/
def cmp_isNaN_uint64 (C : CT) (a0 : Value) (g : G) (n : Nat) (K : Cont) : Prop :=
kBin .int .neq a0 a0 fun v5 =>
aRet K v5 g n

theorem cmp_isNaN_uint64_eq (C : CT) (a0 : Value) (g : G) (n : Nat) (K : Cont) : cmp_isNaN_uint64 C a0 g n K = abody Tryz.prog C cmp_isNaN_uint64_id [a0] g n K := by kernel_rfl

/- (*bellows/isa.table).fill -/
def isa_table_fill_l7 (C : CT) (K : Cont) (I_l7 : ECont) (t : Env) (g : G) (n : Nat) : Prop :=
kBin .int .lss (t 50) (t 49) fun v51 =>
kSplit v51 (
kIndexAddr (t 48) (t 50) 1 fun v52 =>
kPtr v52 fun l53 o53 =>
kLd g l53 o53 fun v53 =>
kNil (t 0) fun v56 =>
kPtr v56 fun l57 o57 =>
kIndexArr (ptr l57 (o57 + 3)) v53 23 1 fun v58 =>
kPtr v58 fun lg13 og13 =>
kSt g lg13 og13 (.string ⟨#[66, 73]⟩) fun g13 =>
kBin .int .add (t 50) (.int .i64 1) fun v59 =>
I_l7 (puts t [(51, v51), (52, v52), (53, v53), (9, v53), (54, (t 0)), (55, v53), (56, v56), (57, (ptr l57 (o57 + 3))), (58, v58), (59, v59), (50, v59)]) g13 n) (
aRet K (.tuple #[]) g n)

def isa_table_fill_j6 (C : CT) (K : Cont) (t : Env) (g : G) (n : Nat) : Prop :=
kFill (reps 3 [(.int .i64 0)]) [(0, none, (.int .i64 12)), (1, none, (.int .i64 13)), (2, none, (.int .i64 14))] fun c48 =>
kNew c48 .exact g n fun l48 g12 n48 =>
kLen (.slice (some ⟨l48, 0, none⟩) 3 3) fun v49 =>
lfp (isa_table_fill_l7 C K) (puts t [(48, (.slice (some ⟨l48, 0, none⟩) 3 3)), (49, v49), (50, (.int .i64 0))]) g12 n48

def isa_table_fill_l5 (C : CT) (K : Cont) (I_l5 : ECont) (t : Env) (g : G) (n : Nat) : Prop :=
kBin .int .lss (t 38) (t 37) fun v39 =>
kSplit v39 (
kIndexAddr (t 36) (t 38) 1 fun v40 =>
kPtr v40 fun l41 o41 =>
kLd g l41 o41 fun v41 =>
kNil (t 0) fun v44 =>
kPtr v44 fun l45 o45 =>
kIndexArr (ptr l45 (o45 + 3)) v41 23 1 fun v46 =>
kPtr v46 fun lg11 og11 =>
kSt g lg11 og11 (.string ⟨#[65, 66, 73]⟩) fun g11 =>
kBin .int .add (t 38) (.int .i64 1) fun v47 =>
I_l5 (puts t [(39, v39), (40, v40), (41, v41), (7, v41), (42, (t 0)), (43, v41), (44, v44), (45, (ptr l45 (o45 + 3))), (46, v46), (47, v47), (38, v47)]) g11 n) (
isa_table_fill_j6 C K (puts t [(39, v39)]) g n)

def isa_table_fill_j4 (C : CT) (K : Cont) (t : Env) (g : G) (n : Nat) : Prop :=
kFill (reps 5 [(.int .i64 0)]) [(0, none, (.int .i64 8)), (1, none, (.int .i64 9)), (2, none, (.int .i64 18)), (3, none, (.int .i64 19)), (4, none, (.int .i64 20))] fun c36 =>
kNew c36 .exact g n fun l36 g10 n36 =>
kLen (.slice (some ⟨l36, 0, none⟩) 5 5) fun v37 =>
lfp (isa_table_fill_l5 C K) (puts t [(36, (.slice (some ⟨l36, 0, none⟩) 5 5)), (37, v37), (38, (.int .i64 0))]) g10 n36

def isa_table_fill_l3 (C : CT) (K : Cont) (I_l3 : ECont) (t : Env) (g : G) (n : Nat) : Prop :=
kBin .int .lss (t 26) (t 25) fun v27 =>
kSplit v27 (
kIndexAddr (t 24) (t 26) 1 fun v28 =>
kPtr v28 fun l29 o29 =>
kLd g l29 o29 fun v29 =>
kNil (t 0) fun v32 =>
kPtr v32 fun l33 o33 =>
kIndexArr (ptr l33 (o33 + 3)) v29 23 1 fun v34 =>
kPtr v34 fun lg9 og9 =>
kSt g lg9 og9 (.string ⟨#[65, 66, 67]⟩) fun g9 =>
kBin .int .add (t 26) (.int .i64 1) fun v35 =>
I_l3 (puts t [(27, v27), (28, v28), (29, v29), (5, v29), (30, (t 0)), (31, v29), (32, v32), (33, (ptr l33 (o33 + 3))), (34, v34), (35, v35), (26, v35)]) g9 n) (
isa_table_fill_j4 C K (puts t [(27, v27)]) g n)

def isa_table_fill_j2 (C : CT) (K : Cont) (t : Env) (g : G) (n : Nat) : Prop :=
kFill (reps 8 [(.int .i64 0)]) [(0, none, (.int .i64 2)), (1, none, (.int .i64 3)), (2, none, (.int .i64 4)), (3, none, (.int .i64 5)), (4, none, (.int .i64 6)), (5, none, (.int .i64 7)), (6, none, (.int .i64 10)), (7, none, (.int .i64 11))] fun c24 =>
kNew c24 .exact g n fun l24 g8 n24 =>
kLen (.slice (some ⟨l24, 0, none⟩) 8 8) fun v25 =>
lfp (isa_table_fill_l3 C K) (puts t [(24, (.slice (some ⟨l24, 0, none⟩) 8 8)), (25, v25), (26, (.int .i64 0))]) g8 n24

def isa_table_fill_l1 (C : CT) (K : Cont) (I_l1 : ECont) (t : Env) (g : G) (n : Nat) : Prop :=
kNext (t 12) g fun v13 g6 =>
kExtract v13 0 fun v14 =>
kSplit v14 (
kEntry (t 12) g6 fun v15 =>
kExtract v15 0 fun v16 =>
kExtract v15 1 fun v17 =>
kNil (t 0) fun v21 =>
kPtr v21 fun l22 o22 =>
kIndexArr (ptr l22 (o22 + 3)) v16 23 1 fun v23 =>
kPtr v23 fun lg7 og7 =>
kSt g6 lg7 og7 v17 fun g7 =>
I_l1 (puts t [(13, v13), (14, v14), (15, v15), (16, v16), (17, v17), (2, v16), (3, v17), (18, (t 0)), (19, v16), (20, v17), (21, v21), (22, (ptr l22 (o22 + 3))), (23, v23)]) g7 n) (
isa_table_fill_j2 C K (puts t [(13, v13), (14, v14)]) g6 n)

def isa_table_fill (C : CT) (a0 : Value) (g : G) (n : Nat) (K : Cont) : Prop :=
kNewB (.map []) g n fun l10 g1 n10 =>
kMapSet .i64 (.map (some l10)) (.int .i64 1) (.string ⟨#[65, 73]⟩) g1 fun g2 =>
kMapSet .i64 (.map (some l10)) (.int .i64 17) (.string ⟨#[73]⟩) g2 fun g3 =>
kMapSet .i64 (.map (some l10)) (.int .i64 21) (.string ⟨#[65]⟩) g3 fun g4 =>
kRange (.map (some l10)) g4 n10 fun l12 g5 n12 =>
lfp (isa_table_fill_l1 C K) (puts (args0 [a0]) [(10, (.map (some l10))), (11, (.map (some l10))), (12, (ptr l12 0))]) g5 n12

theorem isa_table_fill_eq (C : CT) (a0 : Value) (g : G) (n : Nat) (K : Cont) : isa_table_fill C a0 g n K = abody Tryz.prog C isa_table_fill_id [a0] g n K := by kernel_rfl

/- strings.Index -/
def strings_Index (C : CT) (a0 a1 : Value) (g : G) (n : Nat) (K : Cont) : Prop :=
C internal_stringslite_Index_id [a0, a1] g n fun v7 g1 n7 =>
aRet K v7 g1 n7

theorem strings_Index_eq (C : CT) (a0 a1 : Value) (g : G) (n : Nat) (K : Cont) : strings_Index C a0 a1 g n K = abody Tryz.prog C strings_Index_id [a0, a1] g n K := by kernel_rfl

/- bellows/bellowsref10.Has -/
def bellowsref10_Has_j3 (C : CT) (K : Cont) (t : Env) (g : G) (n : Nat) : Prop :=
kSplit (t 21) (
aRet K (.string ⟨#[66, 73]⟩) g n) (
kBin .int .eql (t 3) (.int .i64 17) fun v26 =>
kSplit v26 (
aRet K (.string ⟨#[73]⟩) g n) (
kBin .int .eql (t 3) (.int .i64 21) fun v28 =>
kSplit v28 (
aRet K (.string ⟨#[65]⟩) g n) (
aRet K (.string ⟨#[]⟩) g n)))

def bellowsref10_Has_j2 (C : CT) (K : Cont) (t : Env) (g : G) (n : Nat) : Prop :=
kSplit (t 15) (
aRet K (.string ⟨#[65, 66, 73]⟩) g n) (
kBin .int .eql (t 3) (.int .i64 12) fun v22 =>
kSplit v22 (
bellowsref10_Has_j3 C K (puts t [(22, v22), (21, v22)]) g n) (
kBin .int .eql (t 3) (.int .i64 13) fun v23 =>
kSplit v23 (
bellowsref10_Has_j3 C K (puts t [(22, v22), (21, v22), (23, v23), (21, v23)]) g n) (
kBin .int .eql (t 3) (.int .i64 14) fun v24 =>
bellowsref10_Has_j3 C K (puts t [(22, v22), (21, v22), (23, v23), (21, v23), (24, v24), (21, v24)]) g n)))

def bellowsref10_Has_j1 (C : CT) (K : Cont) (t : Env) (g : G) (n : Nat) : Prop :=
kSplit (t 6) (
aRet K (.string ⟨#[65, 66, 67]⟩) g n) (
kBin .int .eql (t 3) (.int .i64 8) fun v16 =>
kSplit v16 (
bellowsref10_Has_j2 C K (puts t [(16, v16), (15, v16)]) g n) (
kBin .int .eql (t 3) (.int .i64 9) fun v17 =>
kSplit v17 (
bellowsref10_Has_j2 C K (puts t [(16, v16), (15, v16), (17, v17), (15, v17)]) g n) (
kBin .int .eql (t 3) (.int .i64 18) fun v18 =>
kSplit v18 (
bellowsref10_Has_j2 C K (puts t [(16, v16), (15, v16), (17, v17), (15, v17), (18, v18), (15, v18)]) g n) (
kBin .int .eql (t 3) (.int .i64 19) fun v19 =>
kSplit v19 (
bellowsref10_Has_j2 C K (puts t [(16, v16), (15, v16), (17, v17), (15, v17), (18, v18), (15, v18), (19, v19), (15, v19)]) g n) (
kBin .int .eql (t 3) (.int .i64 20) fun v20 =>
bellowsref10_Has_j2 C K (puts t [(16, v16), (15, v16), (17, v17), (15, v17), (18, v18), (15, v18), (19, v19), (15, v19), (20, v20), (15, v20)]) g n)))))

def bellowsref10_Has (C : CT) (a0 : Value) (g : G) (n : Nat) (K : Cont) : Prop :=
kBin .int .eql a0 (.int .i64 1) fun v5 =>
kSplit v5 (
aRet K (.string ⟨#[65, 73]⟩) g n) (
kBin .int .eql a0 (.int .i64 2) fun v7 =>
kSplit v7 (
bellowsref10_Has_j1 C K (puts (args0 [a0]) [(2, (.string ⟨#[]⟩)), (3, a0), (5, v5), (4, v5), (7, v7), (6, v7)]) g n) (
kBin .int .eql a0 (.int .i64 3) fun v8 =>
kSplit v8 (
bellowsref10_Has_j1 C K (puts (args0 [a0]) [(2, (.string ⟨#[]⟩)), (3, a0), (5, v5), (4, v5), (7, v7), (6, v7), (8, v8), (6, v8)]) g n) (
kBin .int .eql a0 (.int .i64 4) fun v9 =>
kSplit v9 (
bellowsref10_Has_j1 C K (puts (args0 [a0]) [(2, (.string ⟨#[]⟩)), (3, a0), (5, v5), (4, v5), (7, v7), (6, v7), (8, v8), (6, v8), (9, v9), (6, v9)]) g n) (
kBin .int .eql a0 (.int .i64 5) fun v10 =>
kSplit v10 (
bellowsref10_Has_j1 C K (puts (args0 [a0]) [(2, (.string ⟨#[]⟩)), (3, a0), (5, v5), (4, v5), (7, v7), (6, v7), (8, v8), (6, v8), (9, v9), (6, v9), (10, v10), (6, v10)]) g n) (
kBin .int .eql a0 (.int .i64 6) fun v11 =>
kSplit v11 (
bellowsref10_Has_j1 C K (puts (args0 [a0]) [(2, (.string ⟨#[]⟩)), (3, a0), (5, v5), (4, v5), (7, v7), (6, v7), (8, v8), (6, v8), (9, v9), (6, v9), (10, v10), (6, v10), (11, v11), (6, v11)]) g n) (
kBin .int .eql a0 (.int .i64 7) fun v12 =>
kSplit v12 (
bellowsref10_Has_j1 C K (puts (args0 [a0]) [(2, (.string ⟨#[]⟩)), (3, a0), (5, v5), (4, v5), (7, v7), (6, v7), (8, v8), (6, v8), (9, v9), (6, v9), (10, v10), (6, v10), (11, v11), (6, v11), (12, v12), (6, v12)]) g n) (
kBin .int .eql a0 (.int .i64 10) fun v13 =>
kSplit v13 (
bellowsref10_Has_j1 C K (puts (args0 [a0]) [(2, (.string ⟨#[]⟩)), (3, a0), (5, v5), (4, v5), (7, v7), (6, v7), (8, v8), (6, v8), (9, v9), (6, v9), (10, v10), (6, v10), (11, v11), (6, v11), (12, v12), (6, v12), (13, v13), (6, v13)]) g n) (
kBin .int .eql a0 (.int .i64 11) fun v14 =>
bellowsref10_Has_j1 C K (puts (args0 [a0]) [(2, (.string ⟨#[]⟩)), (3, a0), (5, v5), (4, v5), (7, v7), (6, v7), (8, v8), (6, v8), (9, v9), (6, v9), (10, v10), (6, v10), (11, v11), (6, v11), (12, v12), (6, v12), (13, v13), (6, v13), (14, v14), (6, v14)]) g n))))))))

theorem bellowsref10_Has_eq (C : CT) (a0 : Value) (g : G) (n : Nat) (K : Cont) : bellowsref10_Has C a0 g n K = abody Tryz.prog C bellowsref10_Has_id [a0] g n K := by kernel_rfl

/- (*bellows/client.writer).at -/
def client_writer_at (C : CT) (a0 a1 : Value) (g : G) (n : Nat) (K : Cont) : Prop :=
kAgg a1 fun c3 =>
kNew c3 .exact g n fun l3 g1 n3 =>
kNil a0 fun v6 =>
kPtr v6 fun l7 o7 =>
kLdN g1 l7 (o7 + 1) 9 fun c8 =>
kLd g1 l3 (0 + 1) fun v10 =>
C layout_Word_id [(.agg c8.toArray), v10] g1 n3 fun v11 g2 n11 =>
C client_writer_li_id [a0, (.int .i64 1), v11] g2 n11 fun v12 g3 n12 =>
aRet K (.tuple #[]) g3 n12

theorem client_writer_at_eq (C : CT) (a0 a1 : Value) (g : G) (n : Nat) (K : Cont) : client_writer_at C a0 a1 g n K = abody Tryz.prog C client_writer_at_id [a0, a1] g n K := by kernel_rfl

/- (*bellows/client.writer).ld -/
def client_writer_ld (C : CT) (a0 : Value) (g : G) (n : Nat) (K : Cont) : Prop :=
kNil a0 fun v3 =>
kPtr v3 fun l4 o4 =>
kLd g l4 (o4 + 0) fun v5 =>
kFill [(.int .i64 0), (.int .i64 0), (.int .i64 0), (.int .i64 0), (.int .i64 0)] [(0, none, (.int .i64 8)), (1, none, (.int .i64 4)), (2, none, (.int .i64 1))] fun c6 =>
kFill (reps 1 [(.int .i64 0), (.int .i64 0), (.int .i64 0), (.int .i64 0), (.int .i64 0)]) [(0, (some 5), (.agg c6.toArray))] fun c7 =>
kNew c7 .exact g n fun l7 g1 n7 =>
C emit_Builder_Add_id [v5, (.slice (some ⟨l7, 0, none⟩) 1 1)] g1 n7 fun v8 g2 n8 =>
aRet K (.tuple #[]) g2 n8

theorem client_writer_ld_eq (C : CT) (a0 : Value) (g : G) (n : Nat) (K : Cont) : client_writer_ld C a0 g n K = abody Tryz.prog C client_writer_ld_id [a0] g n K := by kernel_rfl

/- (*bellows/client.writer).note -/
def client_writer_note (C : CT) (a0 a1 : Value) (g : G) (n : Nat) (K : Cont) : Prop :=
kAgg a1 fun c3 =>
kNew c3 .exact g n fun l3 g1 n3 =>
kNil a0 fun v5 =>
kPtr v5 fun l6 o6 =>
kLd g1 l6 (o6 + 0) fun v7 =>
kNil a0 fun v9 =>
kPtr v9 fun l10 o10 =>
kLdN g1 l10 (o10 + 1) 9 fun c11 =>
kLd g1 l3 (0 + 1) fun v13 =>
kNil a0 fun v15 =>
kPtr v15 fun l16 o16 =>
kLd g1 l16 (o16 + 10) fun v17 =>
C undo_Note_id [v7, (.agg c11.toArray), v13, v17] g1 n3 fun v18 g2 n18 =>
aRet K (.tuple #[]) g2 n18

theorem client_writer_note_eq (C : CT) (a0 a1 : Value) (g : G) (n : Nat) (K : Cont) : client_writer_note C a0 a1 g n K = abody Tryz.prog C client_writer_note_id [a0, a1] g n K := by kernel_rfl

/- (*bellows/client.writer).st -/
def client_writer_st (C : CT) (a0 : Value) (g : G) (n : Nat) (K : Cont) : Prop :=
kNil a0 fun v3 =>
kPtr v3 fun l4 o4 =>
kLd g l4 (o4 + 0) fun v5 =>
kFill [(.int .i64 0), (.int .i64 0), (.int .i64 0), (.int .i64 0), (.int .i64 0)] [(0, none, (.int .i64 9)), (1, none, (.int .i64 4)), (2, none, (.int .i64 1))] fun c6 =>
kFill (reps 1 [(.int .i64 0), (.int .i64 0), (.int .i64 0), (.int .i64 0), (.int .i64 0)]) [(0, (some 5), (.agg c6.toArray))] fun c7 =>
kNew c7 .exact g n fun l7 g1 n7 =>
C emit_Builder_Add_id [v5, (.slice (some ⟨l7, 0, none⟩) 1 1)] g1 n7 fun v8 g2 n8 =>
aRet K (.tuple #[]) g2 n8

theorem client_writer_st_eq (C : CT) (a0 : Value) (g : G) (n : Nat) (K : Cont) : client_writer_st C a0 g n K = abody Tryz.prog C client_writer_st_id [a0] g n K := by kernel_rfl

/- bellows/word.between -/
def word_between (C : CT) (a0 a1 a2 : Value) (g : G) (n : Nat) (K : Cont) : Prop :=
kBin .int .geq a0 a1 fun v9 =>
kSplit v9 (
kBin .int .leq a0 a2 fun v13 =>
aRet K v13 g n) (
aRet K (.bool false) g n)

theorem word_between_eq (C : CT) (a0 a1 a2 : Value) (g : G) (n : Nat) (K : Cont) : word_between C a0 a1 a2 g n K = abody Tryz.prog C word_between_id [a0, a1, a2] g n K := by kernel_rfl

/- slices.order2Ordered[uint64] -/
def slices_order2Ordered_uint64_j1 (C : CT) (K : Cont) (t : Env) (g : G) (n : Nat) : Prop :=
kSplit (t 18) (
kNil (t 3) fun v20 =>
kPtr v20 fun l21 o21 =>
kLd g l21 o21 fun v21 =>
kBin .int .add v21 (.int .i64 1) fun v22 =>
kNil (t 3) fun v23 =>
kPtr v23 fun lg2 og2 =>
kSt g lg2 og2 v22 fun g2 =>
aRet K (.tuple #[(t 2), (t 1)]) g2 n) (
aRet K (.tuple #[(t 1), (t 2)]) g n)

def slices_order2Ordered_uint64 (C : CT) (a0 a1 a2 a3 : Value) (g : G) (n : Nat) (K : Cont) : Prop :=
kIndexAddr a0 a2 1 fun v12 =>
kPtr v12 fun l13 o13 =>
kLd g l13 o13 fun v13 =>
kIndexAddr a0 a1 1 fun v16 =>
kPtr v16 fun l17 o17 =>
kLd g l17 o17 fun v17 =>
C cmp_Less_uint64_id [v13, v17] g n fun v18 g1 n18 =>
slices_order2Ordered_uint64_j1 C K (puts (args0 [a0, a1, a2, a3]) [(8, (.int .i64 0)), (9, (.int .i64 0)), (10, a0), (11, a2), (12, v12), (13, v13), (14, a0), (15, a1), (16, v16), (17, v17), (18, v18)]) g1 n18

theorem slices_order2Ordered_uint64_eq (C : CT) (a0 a1 a2 a3 : Value) (g : G) (n : Nat) (K : Cont) : slices_order2Ordered_uint64 C a0 a1 a2 a3 g n K = abody Tryz.prog C slices_order2Ordered_uint64_id [a0, a1, a2, a3] g n K := by kernel_rfl

/- internal/stringslite.Index -/
def internal_stringslite_Index (C : CT) (a0 a1 : Value) (g : G) (n : Nat) (K : Cont) : Prop :=
kLenS a1 fun v15 =>
kBin .int .eql v15 (.int .i64 0) fun v18 =>
kSplit v18 (
aRet K (.int .i64 0) g n) (
kBin .str .eql a1 a0 fun v22 =>
kSplit v22 (
aRet K (.int .i64 0) g n) (
kBin .int .eql v15 (.int .i64 1) fun v26 =>
kSplit v26 (
kIdxS a1 (.int .i64 0) fun v29 =>
C internal_stringslite_IndexByte_id [a0, v29] g n fun v30 g1 n30 =>
aRet K v30 g1 n30) (
kLenS a0 fun v34 =>
kBin .int .geq v15 v34 fun v35 =>
kSplit v35 (
aRet K (.int .i64 (-1)) g n) (
False))))

theorem internal_stringslite_Index_eq (C : CT) (a0 a1 : Value) (g : G) (n : Nat) (K : Cont) : internal_stringslite_Index C a0 a1 g n K = abody Tryz.prog C internal_stringslite_Index_id [a0, a1] g n K := by kernel_rfl

/- internal/stringslite.IndexByte -/
def internal_stringslite_IndexByte (C : CT) (a0 a1 : Value) (g : G) (n : Nat) (K : Cont) : Prop :=
C internal_bytealg_IndexByteString_id [a0, a1] g n fun v7 g1 n7 =>
aRet K v7 g1 n7

theorem internal_stringslite_IndexByte_eq (C : CT) (a0 a1 : Value) (g : G) (n : Nat) (K : Cont) : internal_stringslite_IndexByte C a0 a1 g n K = abody Tryz.prog C internal_stringslite_IndexByte_id [a0, a1] g n K := by kernel_rfl

end Go.Proofs.YtecojalpbppfeaaGreat.Gen
