import Derived.KernelRfl
import Derived.Test.YtncodeibkmekmabProg
import Derived.KernelRfl
import Derived.Test.YtncodeibkmekmabAbsC
/- What the functions come to. -/
set_option linter.all false
set_option linter.deprecated false
namespace Go.Proofs.Ytncodeibkmekmab.Gen
open Go Go.Proofs.Ytncodeibkmekmab.Abs Go.RowKit
variable {g : G} {n : Nat}
/-- three ints, a word, a message -/
structure Stp where
  a0 : Int
  a1 : Int
  a2 : Int
  a3 : Int
  a4 : Int
  a5 : Int
  b0 : Bool
  b1 : Bool
  d0 : Int
  d1 : Int
  d2 : Int
  d3 : Int
  d4 : Int
  d5 : Int
  d6 : Int
  d7 : Int
def encX (x : Stp) : List Value := [.int .i64 x.a0, .int .i64 x.a1, .int .i64 x.a2, .int .u64 x.a3, .int .i64 x.a4, .int .i64 x.a5, .bool x.b0, .bool x.b1, .int .u64 x.d0, .int .u64 x.d1, .int .u64 x.d2, .int .u64 x.d3, .int .u64 x.d4, .int .u64 x.d5, .int .u64 x.d6, .int .u64 x.d7]
set_option maxRecDepth 100000 in
theorem AgentNone_ev (x : Stp) : ecalls Try.prog 1000 100 9 [.agg (encX x).toArray] .nil 0 (fun v' _ _ => sameV v' (.bool true)) = true := by kernel_rfl
theorem AgentNone_spec (x : Stp) {K : Cont} (hK : ∀ n', K (.bool true) g n') : ACalls Try.prog (XE Try.prog) 9 [.agg (encX x).toArray] g n K :=
  fun C hC => hC.2 _ _ _ _ _ ⟨.bool true, 1000, 100, by rfl, by rfl, AgentNone_ev x, hK⟩
end Go.Proofs.Ytncodeibkmekmab.Gen
