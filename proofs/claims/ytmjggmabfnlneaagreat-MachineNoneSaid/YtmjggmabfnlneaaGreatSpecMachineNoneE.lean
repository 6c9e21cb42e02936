import Derived.Test.YtmjggmabfnlneaaGreatSpecMachineNoneC
/- What the functions come to. -/
set_option linter.all false
set_option linter.deprecated false
namespace Go.Proofs.YtmjggmabfnlneaaGreat.Gen
open Go Go.Proofs.YtmjggmabfnlneaaGreat.Abs Go.RowKit
set_option maxRecDepth 1000000 in
theorem wr1_ok : wr1.ok Tryz.prog (HT TT1) 1000 100 = true := by kernel_rfl
set_option maxRecDepth 1000000 in
theorem wr9_ok : wr9.ok Tryz.prog (HT TT1) 1000 100 = true := by kernel_rfl
set_option maxRecDepth 1000000 in
theorem wr17_ok : wr17.ok Tryz.prog (HT TT1) 1000 100 = true := by kernel_rfl
set_option maxRecDepth 1000000 in
theorem wr25_ok : wr25.ok Tryz.prog (HT TT1) 1000 100 = true := by kernel_rfl
set_option maxRecDepth 1000000 in
theorem wr33_ok : wr33.ok Tryz.prog (HT TT1) 1000 100 = true := by kernel_rfl
set_option maxRecDepth 1000000 in
theorem wr41_ok : wr41.ok Tryz.prog (HT TT1) 1000 100 = true := by kernel_rfl
set_option maxRecDepth 1000000 in
theorem wr49_ok : wr49.ok Tryz.prog (HT TT1) 1000 100 = true := by kernel_rfl
set_option maxRecDepth 1000000 in
theorem wr57_ok : wr57.ok Tryz.prog (HT TT1) 1000 100 = true := by kernel_rfl
set_option maxRecDepth 1000000 in
theorem wr65_ok : wr65.ok Tryz.prog (HT TT1) 1000 100 = true := by kernel_rfl
set_option maxRecDepth 1000000 in
theorem wr73_ok : wr73.ok Tryz.prog (HT TT1) 1000 100 = true := by kernel_rfl
set_option maxRecDepth 1000000 in
theorem wr81_ok : wr81.ok2 Tryz.prog (HT TT1) 1000 100 [(947, 948), (948, 947)] = true := by kernel_rfl
set_option maxRecDepth 1000000 in
theorem wr89_ok : wr89.ok Tryz.prog (HT TT1) 1000 100 = true := by kernel_rfl
set_option maxRecDepth 1000000 in
theorem wr97_ok : wr97.ok Tryz.prog (HT TT1) 1000 100 = true := by kernel_rfl
set_option maxRecDepth 1000000 in
theorem wr105_ok : wr105.ok Tryz.prog (HT TT1) 1000 100 = true := by kernel_rfl
set_option maxRecDepth 1000000 in
theorem wr113_ok : wr113.ok Tryz.prog (HT TT1) 1000 100 = true := by kernel_rfl
set_option maxRecDepth 1000000 in
theorem wr121_ok : wr121.ok Tryz.prog (HT TT1) 1000 100 = true := by kernel_rfl
set_option maxRecDepth 1000000 in
theorem wr129_ok : wr129.ok Tryz.prog (HT TT1) 1000 100 = true := by kernel_rfl
set_option maxRecDepth 1000000 in
theorem wr137_ok : wr137.ok Tryz.prog (HT TT1) 1000 100 = true := by kernel_rfl
set_option maxRecDepth 1000000 in
theorem wr145_ok : wr145.ok Tryz.prog (HT TT1) 1000 100 = true := by kernel_rfl
set_option maxRecDepth 1000000 in
theorem wr153_ok : wr153.ok Tryz.prog (HT TT1) 1000 100 = true := by kernel_rfl
set_option maxRecDepth 1000000 in
theorem wr161_ok : wr161.ok Tryz.prog (HT TT1) 1000 100 = true := by kernel_rfl
set_option maxRecDepth 1000000 in
theorem wr169_ok : wr169.ok Tryz.prog (HT TT1) 1000 100 = true := by kernel_rfl
set_option maxRecDepth 1000000 in
theorem wr177_ok : wr177.ok Tryz.prog (HT TT1) 1000 100 = true := by kernel_rfl
set_option maxRecDepth 1000000 in
theorem wr185_ok : wr185.ok Tryz.prog (HT TT1) 1000 100 = true := by kernel_rfl
set_option maxRecDepth 1000000 in
theorem wr193_ok : wr193.ok Tryz.prog (HT TT1) 1000 100 = true := by kernel_rfl
set_option maxRecDepth 1000000 in
theorem wr201_ok : wr201.ok Tryz.prog (HT TT1) 1000 100 = true := by kernel_rfl
set_option maxRecDepth 1000000 in
theorem wr209_ok : wr209.ok Tryz.prog (HT TT1) 1000 100 = true := by kernel_rfl
set_option maxRecDepth 1000000 in
theorem wr217_ok : wr217.ok Tryz.prog (HT TT1) 1000 100 = true := by kernel_rfl
end Go.Proofs.YtmjggmabfnlneaaGreat.Gen
