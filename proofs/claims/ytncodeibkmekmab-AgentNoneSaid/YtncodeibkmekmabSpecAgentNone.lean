import Derived.KernelRfl
import Derived.Test.YtncodeibkmekmabProg
import Derived.KernelRfl
import Derived.Test.YtncodeibkmekmabAbsC
/- What the functions come to. -/
set_option linter.all false
set_option linter.deprecated false
namespace Go.Proofs.Ytncodeibkmekmab.Gen
open Go Go.Proofs.Ytncodeibkmekmab.Abs Go.RowKit
variable {g : G} {n : Nat}
/-- three ints, a word, a message -/
structure Stp where
  x0 : Int
  x1 : Int
  x2 : Int
  x3 : Int
  x4 : Int
  x5 : Int
  x6 : Bool
  x7 : Bool
  x8 : Int
  x9 : Int
  x10 : Int
  x11 : Int
  x12 : Int
  x13 : Int
  x14 : Int
  x15 : Int
def encStp (x : Stp) : List Value := [.int .i64 x.x0, .int .i64 x.x1, .int .i64 x.x2, .int .u64 x.x3, .int .i64 x.x4, .int .i64 x.x5, .bool x.x6, .bool x.x7, .int .u64 x.x8, .int .u64 x.x9, .int .u64 x.x10, .int .u64 x.x11, .int .u64 x.x12, .int .u64 x.x13, .int .u64 x.x14, .int .u64 x.x15]
set_option maxRecDepth 100000 in
theorem AgentNone_ev (x : Stp) : ecalls Try.prog 1000 100 9 [.agg (encStp x).toArray] .nil 0 (fun v' _ _ => sameV v' (.bool true)) = true := by kernel_rfl
theorem AgentNone_spec (x : Stp) {K : Cont} (hK : ∀ n', K (.bool true) g n') : ACalls Try.prog (XE Try.prog) 9 [.agg (encStp x).toArray] g n K :=
  fun C hC => hC.2 _ _ _ _ _ ⟨.bool true, 1000, 100, by rfl, by rfl, AgentNone_ev x, hK⟩
end Go.Proofs.Ytncodeibkmekmab.Gen
