import Derived.KernelRfl
import Derived.Test.YtncodeibkmekmaaProg
import Derived.KernelRfl
import Derived.Test.YtncodeibkmekmaaAbsC
/- What the functions come to. -/
set_option linter.all false
set_option linter.deprecated false
namespace Go.Proofs.Ytncodeibkmekmaa.Gen
open Go Go.Proofs.Ytncodeibkmekmaa.Abs Go.RowKit
variable {g : G} {n : Nat}
/-- three ints and a line -/
structure Stp where
  a : Int
  b : Int
  c : Int
  d0 : Int
  d1 : Int
  d2 : Int
  d3 : Int
  d4 : Int
  d5 : Int
  d6 : Int
  d7 : Int
def encX (x : Stp) : List Value := [.int .i64 x.a, .int .i64 x.b, .int .i64 x.c, .int .u64 x.d0, .int .u64 x.d1, .int .u64 x.d2, .int .u64 x.d3, .int .u64 x.d4, .int .u64 x.d5, .int .u64 x.d6, .int .u64 x.d7]
set_option maxRecDepth 100000 in
theorem ArrayNone_ev (x : Stp) : ecalls Try.prog 1000 100 9 [.agg (encX x).toArray] .nil 0 (fun v' _ _ => sameV v' (.bool true)) = true := by kernel_rfl
theorem ArrayNone_spec (x : Stp) {K : Cont} (hK : ∀ n', K (.bool true) g n') : ACalls Try.prog (XE Try.prog) 9 [.agg (encX x).toArray] g n K :=
  fun C hC => hC.2 _ _ _ _ _ ⟨.bool true, 1000, 100, by rfl, by rfl, ArrayNone_ev x, hK⟩
end Go.Proofs.Ytncodeibkmekmaa.Gen
