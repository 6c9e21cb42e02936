import Derived.Test.YtmjggmabfnlneaaGreatSpecMachineNoneC
/- What the functions come to. -/
set_option linter.all false
set_option linter.deprecated false
namespace Go.Proofs.YtmjggmabfnlneaaGreat.Gen
open Go Go.Proofs.YtmjggmabfnlneaaGreat.Abs Go.RowKit
set_option maxRecDepth 1000000 in
theorem wr0_ok : wr0.ok Tryz.prog (HT TT1) 1000 100 = true := by kernel_rfl
set_option maxRecDepth 1000000 in
theorem wr8_ok : wr8.ok Tryz.prog (HT TT1) 1000 100 = true := by kernel_rfl
set_option maxRecDepth 1000000 in
theorem wr16_ok : wr16.ok Tryz.prog (HT TT1) 1000 100 = true := by kernel_rfl
set_option maxRecDepth 1000000 in
theorem wr24_ok : wr24.ok Tryz.prog (HT TT1) 1000 100 = true := by kernel_rfl
set_option maxRecDepth 1000000 in
theorem wr32_ok : wr32.ok Tryz.prog (HT TT1) 1000 100 = true := by kernel_rfl
set_option maxRecDepth 1000000 in
theorem wr40_ok : wr40.ok Tryz.prog (HT TT1) 1000 100 = true := by kernel_rfl
set_option maxRecDepth 1000000 in
theorem wr48_ok : wr48.ok Tryz.prog (HT TT1) 1000 100 = true := by kernel_rfl
set_option maxRecDepth 1000000 in
theorem wr56_ok : wr56.ok Tryz.prog (HT TT1) 1000 100 = true := by kernel_rfl
set_option maxRecDepth 1000000 in
theorem wr64_ok : wr64.ok Tryz.prog (HT TT1) 1000 100 = true := by kernel_rfl
set_option maxRecDepth 1000000 in
theorem wr72_ok : wr72.ok Tryz.prog (HT TT1) 1000 100 = true := by kernel_rfl
set_option maxRecDepth 1000000 in
theorem wr80_ok : wr80.ok Tryz.prog (HT TT1) 1000 100 = true := by kernel_rfl
set_option maxRecDepth 1000000 in
theorem wr88_ok : wr88.ok Tryz.prog (HT TT1) 1000 100 = true := by kernel_rfl
set_option maxRecDepth 1000000 in
theorem wr96_ok : wr96.ok Tryz.prog (HT TT1) 1000 100 = true := by kernel_rfl
set_option maxRecDepth 1000000 in
theorem wr104_ok : wr104.ok Tryz.prog (HT TT1) 1000 100 = true := by kernel_rfl
set_option maxRecDepth 1000000 in
theorem wr112_ok : wr112.ok Tryz.prog (HT TT1) 1000 100 = true := by kernel_rfl
set_option maxRecDepth 1000000 in
theorem wr120_ok : wr120.ok Tryz.prog (HT TT1) 1000 100 = true := by kernel_rfl
set_option maxRecDepth 1000000 in
theorem wr128_ok : wr128.ok Tryz.prog (HT TT1) 1000 100 = true := by kernel_rfl
set_option maxRecDepth 1000000 in
theorem wr136_ok : wr136.ok Tryz.prog (HT TT1) 1000 100 = true := by kernel_rfl
set_option maxRecDepth 1000000 in
theorem wr144_ok : wr144.ok Tryz.prog (HT TT1) 1000 100 = true := by kernel_rfl
set_option maxRecDepth 1000000 in
theorem wr152_ok : wr152.ok Tryz.prog (HT TT1) 1000 100 = true := by kernel_rfl
set_option maxRecDepth 1000000 in
theorem wr160_ok : wr160.ok Tryz.prog (HT TT1) 1000 100 = true := by kernel_rfl
set_option maxRecDepth 1000000 in
theorem wr168_ok : wr168.ok Tryz.prog (HT TT1) 1000 100 = true := by kernel_rfl
set_option maxRecDepth 1000000 in
theorem wr176_ok : wr176.ok Tryz.prog (HT TT1) 1000 100 = true := by kernel_rfl
set_option maxRecDepth 1000000 in
theorem wr184_ok : wr184.ok Tryz.prog (HT TT1) 1000 100 = true := by kernel_rfl
set_option maxRecDepth 1000000 in
theorem wr192_ok : wr192.ok Tryz.prog (HT TT1) 1000 100 = true := by kernel_rfl
set_option maxRecDepth 1000000 in
theorem wr200_ok : wr200.ok Tryz.prog (HT TT1) 1000 100 = true := by kernel_rfl
set_option maxRecDepth 1000000 in
theorem wr208_ok : wr208.ok Tryz.prog (HT TT1) 1000 100 = true := by kernel_rfl
set_option maxRecDepth 1000000 in
theorem wr216_ok : wr216.ok Tryz.prog (HT TT1) 1000 100 = true := by kernel_rfl
end Go.Proofs.YtmjggmabfnlneaaGreat.Gen
