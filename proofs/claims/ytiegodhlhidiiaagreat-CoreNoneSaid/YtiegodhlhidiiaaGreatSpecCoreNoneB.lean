import Derived.Test.YtiegodhlhidiiaaGreatSpecCoreNoneA
/- What the functions come to. -/
set_option linter.all false
set_option linter.deprecated false
namespace Go.Proofs.YtiegodhlhidiiaaGreat.Gen
open Go Go.Proofs.YtiegodhlhidiiaaGreat.Abs Go.RowKit
set_option maxRecDepth 1000000 in
theorem wr1_ok : wr1.ok Tryz.prog (HT TT1) 1000 100 = true := by kernel_rfl
set_option maxRecDepth 1000000 in
theorem wr4_ok : wr4.ok Tryz.prog (HT TT1) 1000 100 = true := by kernel_rfl
end Go.Proofs.YtiegodhlhidiiaaGreat.Gen
