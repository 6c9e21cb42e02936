import Derived.Test.YtmjggmabfnlneaaGreatSpecMachineNoneC
/- What the functions come to. -/
set_option linter.all false
set_option linter.deprecated false
namespace Go.Proofs.YtmjggmabfnlneaaGreat.Gen
open Go Go.Proofs.YtmjggmabfnlneaaGreat.Abs Go.RowKit
set_option maxRecDepth 1000000 in
theorem wr2_ok : wr2.ok Tryz.prog (HT TT1) 1000 100 = true := by kernel_rfl
set_option maxRecDepth 1000000 in
theorem wr10_ok : wr10.ok Tryz.prog (HT TT1) 1000 100 = true := by kernel_rfl
set_option maxRecDepth 1000000 in
theorem wr18_ok : wr18.ok Tryz.prog (HT TT1) 1000 100 = true := by kernel_rfl
set_option maxRecDepth 1000000 in
theorem wr26_ok : wr26.ok Tryz.prog (HT TT1) 1000 100 = true := by kernel_rfl
set_option maxRecDepth 1000000 in
theorem wr34_ok : wr34.ok Tryz.prog (HT TT1) 1000 100 = true := by kernel_rfl
set_option maxRecDepth 1000000 in
theorem wr42_ok : wr42.ok Tryz.prog (HT TT1) 1000 100 = true := by kernel_rfl
set_option maxRecDepth 1000000 in
theorem wr50_ok : wr50.ok Tryz.prog (HT TT1) 1000 100 = true := by kernel_rfl
set_option maxRecDepth 1000000 in
theorem wr58_ok : wr58.ok Tryz.prog (HT TT1) 1000 100 = true := by kernel_rfl
set_option maxRecDepth 1000000 in
theorem wr66_ok : wr66.ok Tryz.prog (HT TT1) 1000 100 = true := by kernel_rfl
set_option maxRecDepth 1000000 in
theorem wr74_ok : wr74.ok Tryz.prog (HT TT1) 1000 100 = true := by kernel_rfl
set_option maxRecDepth 1000000 in
theorem wr82_ok : wr82.ok Tryz.prog (HT TT1) 1000 100 = true := by kernel_rfl
set_option maxRecDepth 1000000 in
theorem wr90_ok : wr90.ok Tryz.prog (HT TT1) 1000 100 = true := by kernel_rfl
set_option maxRecDepth 1000000 in
theorem wr98_ok : wr98.ok Tryz.prog (HT TT1) 1000 100 = true := by kernel_rfl
set_option maxRecDepth 1000000 in
theorem wr106_ok : wr106.ok Tryz.prog (HT TT1) 1000 100 = true := by kernel_rfl
set_option maxRecDepth 1000000 in
theorem wr114_ok : wr114.ok Tryz.prog (HT TT1) 1000 100 = true := by kernel_rfl
set_option maxRecDepth 1000000 in
theorem wr122_ok : wr122.ok Tryz.prog (HT TT1) 1000 100 = true := by kernel_rfl
set_option maxRecDepth 1000000 in
theorem wr130_ok : wr130.ok Tryz.prog (HT TT1) 1000 100 = true := by kernel_rfl
set_option maxRecDepth 1000000 in
theorem wr138_ok : wr138.ok Tryz.prog (HT TT1) 1000 100 = true := by kernel_rfl
set_option maxRecDepth 1000000 in
theorem wr146_ok : wr146.ok Tryz.prog (HT TT1) 1000 100 = true := by kernel_rfl
set_option maxRecDepth 1000000 in
theorem wr154_ok : wr154.ok Tryz.prog (HT TT1) 1000 100 = true := by kernel_rfl
set_option maxRecDepth 1000000 in
theorem wr162_ok : wr162.ok Tryz.prog (HT TT1) 1000 100 = true := by kernel_rfl
set_option maxRecDepth 1000000 in
theorem wr170_ok : wr170.ok Tryz.prog (HT TT1) 1000 100 = true := by kernel_rfl
set_option maxRecDepth 1000000 in
theorem wr178_ok : wr178.ok Tryz.prog (HT TT1) 1000 100 = true := by kernel_rfl
set_option maxRecDepth 1000000 in
theorem wr186_ok : wr186.ok Tryz.prog (HT TT1) 1000 100 = true := by kernel_rfl
set_option maxRecDepth 1000000 in
theorem wr194_ok : wr194.ok Tryz.prog (HT TT1) 1000 100 = true := by kernel_rfl
set_option maxRecDepth 1000000 in
theorem wr202_ok : wr202.ok Tryz.prog (HT TT1) 1000 100 = true := by kernel_rfl
set_option maxRecDepth 1000000 in
theorem wr210_ok : wr210.ok Tryz.prog (HT TT1) 1000 100 = true := by kernel_rfl
set_option maxRecDepth 1000000 in
theorem wr218_ok : wr218.ok Tryz.prog (HT TT1) 1000 100 = true := by kernel_rfl
end Go.Proofs.YtmjggmabfnlneaaGreat.Gen
