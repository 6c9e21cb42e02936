import Derived.Test.YtmjggmabfnlneaaGreatSpecMachineNoneC
/- What the functions come to. -/
set_option linter.all false
set_option linter.deprecated false
namespace Go.Proofs.YtmjggmabfnlneaaGreat.Gen
open Go Go.Proofs.YtmjggmabfnlneaaGreat.Abs Go.RowKit
set_option maxRecDepth 1000000 in
theorem wr7_ok : wr7.ok Tryz.prog (HT TT1) 1000 100 = true := by kernel_rfl
set_option maxRecDepth 1000000 in
theorem wr15_ok : wr15.ok Tryz.prog (HT TT1) 1000 100 = true := by kernel_rfl
set_option maxRecDepth 1000000 in
theorem wr23_ok : wr23.ok Tryz.prog (HT TT1) 1000 100 = true := by kernel_rfl
set_option maxRecDepth 1000000 in
theorem wr31_ok : wr31.ok Tryz.prog (HT TT1) 1000 100 = true := by kernel_rfl
set_option maxRecDepth 1000000 in
theorem wr39_ok : wr39.ok Tryz.prog (HT TT1) 1000 100 = true := by kernel_rfl
set_option maxRecDepth 1000000 in
theorem wr47_ok : wr47.ok Tryz.prog (HT TT1) 1000 100 = true := by kernel_rfl
set_option maxRecDepth 1000000 in
theorem wr55_ok : wr55.ok Tryz.prog (HT TT1) 1000 100 = true := by kernel_rfl
set_option maxRecDepth 1000000 in
theorem wr63_ok : wr63.ok Tryz.prog (HT TT1) 1000 100 = true := by kernel_rfl
set_option maxRecDepth 1000000 in
theorem wr71_ok : wr71.ok Tryz.prog (HT TT1) 1000 100 = true := by kernel_rfl
set_option maxRecDepth 1000000 in
theorem wr79_ok : wr79.ok Tryz.prog (HT TT1) 1000 100 = true := by kernel_rfl
set_option maxRecDepth 1000000 in
theorem wr87_ok : wr87.ok Tryz.prog (HT TT1) 1000 100 = true := by kernel_rfl
set_option maxRecDepth 1000000 in
theorem wr95_ok : wr95.ok Tryz.prog (HT TT1) 1000 100 = true := by kernel_rfl
set_option maxRecDepth 1000000 in
theorem wr103_ok : wr103.ok Tryz.prog (HT TT1) 1000 100 = true := by kernel_rfl
set_option maxRecDepth 1000000 in
theorem wr111_ok : wr111.ok Tryz.prog (HT TT1) 1000 100 = true := by kernel_rfl
set_option maxRecDepth 1000000 in
theorem wr119_ok : wr119.ok Tryz.prog (HT TT1) 1000 100 = true := by kernel_rfl
set_option maxRecDepth 1000000 in
theorem wr127_ok : wr127.ok Tryz.prog (HT TT1) 1000 100 = true := by kernel_rfl
set_option maxRecDepth 1000000 in
theorem wr135_ok : wr135.ok Tryz.prog (HT TT1) 1000 100 = true := by kernel_rfl
set_option maxRecDepth 1000000 in
theorem wr143_ok : wr143.ok Tryz.prog (HT TT1) 1000 100 = true := by kernel_rfl
set_option maxRecDepth 1000000 in
theorem wr151_ok : wr151.ok Tryz.prog (HT TT1) 1000 100 = true := by kernel_rfl
set_option maxRecDepth 1000000 in
theorem wr159_ok : wr159.ok Tryz.prog (HT TT1) 1000 100 = true := by kernel_rfl
set_option maxRecDepth 1000000 in
theorem wr167_ok : wr167.ok Tryz.prog (HT TT1) 1000 100 = true := by kernel_rfl
set_option maxRecDepth 1000000 in
theorem wr175_ok : wr175.ok Tryz.prog (HT TT1) 1000 100 = true := by kernel_rfl
set_option maxRecDepth 1000000 in
theorem wr183_ok : wr183.ok Tryz.prog (HT TT1) 1000 100 = true := by kernel_rfl
set_option maxRecDepth 1000000 in
theorem wr191_ok : wr191.ok Tryz.prog (HT TT1) 1000 100 = true := by kernel_rfl
set_option maxRecDepth 1000000 in
theorem wr199_ok : wr199.ok Tryz.prog (HT TT1) 1000 100 = true := by kernel_rfl
set_option maxRecDepth 1000000 in
theorem wr207_ok : wr207.ok Tryz.prog (HT TT1) 1000 100 = true := by kernel_rfl
set_option maxRecDepth 1000000 in
theorem wr215_ok : wr215.ok Tryz.prog (HT TT1) 1000 100 = true := by kernel_rfl
end Go.Proofs.YtmjggmabfnlneaaGreat.Gen
