/-
  No cell of these rows narrows 'for every input' (looked for: loops, veiled, ifaces, maps, wideKeys, modest, calm, conditions, laid).
  DERIVED. THE GIVEN ROWS OF THIS SEAT. 8 by the template 'for every input the law returns true; each argument reads behind the call as it read before'; 0 by the template 'total and deterministic' (their statements: YtjpckcikmfihlaaGreatTotals.lean).
  GIVEN WITH THE SEED: the statements are not yours to turn. If you find one false, say at which input.
  Laid BY PROGRAM, IN A SANDBOX (cutbox-rows.mjs): the forced cells as the released guide's own fill.sh prints them over the translation d5c84269a325d09b… (all of the seat's roots in one cut). By AI agents, Wed Nov 11 2026. No macro, syntax, notation, axiom, sorry.
-/
import Derived.Test.YtjpckcikmfihlaaGreatChecked
import GoSem.Claim
import GoSem.ClaimJoined
import GoSem.ClaimMapViews
import Derived.JoinedTies
import Derived.KernelRfl
namespace Go.Proofs.YtjpckcikmfihlaaGreat
/- THE CELL 'sum', in the pinned program and in every row, IS THE sha256 OF THE DUMP (.gsa) THAT YtjpckcikmfihlaaGreatProg.lean LOADS. Nothing in Lean hashes anything: it is a label: what it is worth is what the hold of that sum in a sandbox is worth. -/
noncomputable def Tryz.pinned : Pinned := { name := "ytjpckcikmfihlaagreat", sum := "d5c84269a325d09b1e74f2d11d499e6a226012c62ab23dc2923044683d8e7118", checked := Tryz.checked }
namespace Rows
def none {H : Type} : Left H := { results := [], args := [] }

/-- 'bellowslaw09.MesiHands': WHATEVER THE INPUT: true; the input reads as it did. -/
def mesiHandsSpec : ChangeSpec := { name := "mesiHands", fn := fun _ => fun
  | [d1, d2] => { results := [.lit (.bool true)], args := [d1, d2] }
  | _ => none }
def mesiHandsRow : OpenClaim := { program := "ytjpckcikmfihlaagreat", sum := "d5c84269a325d09b1e74f2d11d499e6a226012c62ab23dc2923044683d8e7118", func := "bellows/bellowslaw09.MesiHands", spec := "mesiHands", inPlace := ["sync/atomic.AddInt64"], unfollowed := true, recurses := true, apart := false }
def MesiHandsSaid : Prop := mesiHandsRow.holds Tryz.pinned (OpenSpec.ofChange mesiHandsSpec)

/-- ITS FALSE NEIGHBOUR: 'it returns false'. Refute it at one input. -/
def mesiHandsWrong : ChangeSpec := { name := "mesiHands", fn := fun _ => fun
  | [d1, d2] => { results := [.lit (.bool false)], args := [d1, d2] }
  | _ => none }
def MesiHandsWrongFalsely : Prop := mesiHandsRow.holds Tryz.pinned (OpenSpec.ofChange mesiHandsWrong)

/-- 'bellowslaw09.MesiOne': WHATEVER THE INPUT: true; the input reads as it did. -/
def mesiOneSpec : ChangeSpec := { name := "mesiOne", fn := fun _ => fun
  | [d1, d2] => { results := [.lit (.bool true)], args := [d1, d2] }
  | _ => none }
def mesiOneRow : OpenClaim := { program := "ytjpckcikmfihlaagreat", sum := "d5c84269a325d09b1e74f2d11d499e6a226012c62ab23dc2923044683d8e7118", func := "bellows/bellowslaw09.MesiOne", spec := "mesiOne", inPlace := ["sync/atomic.AddInt64"], unfollowed := true, recurses := true, apart := false }
def MesiOneSaid : Prop := mesiOneRow.holds Tryz.pinned (OpenSpec.ofChange mesiOneSpec)

/-- ITS FALSE NEIGHBOUR: 'it returns false'. Refute it at one input. -/
def mesiOneWrong : ChangeSpec := { name := "mesiOne", fn := fun _ => fun
  | [d1, d2] => { results := [.lit (.bool false)], args := [d1, d2] }
  | _ => none }
def MesiOneWrongFalsely : Prop := mesiOneRow.holds Tryz.pinned (OpenSpec.ofChange mesiOneWrong)

/-- 'bellowslaw09.MesiFits': WHATEVER THE INPUT: true; the input reads as it did. -/
def mesiFitsSpec : ChangeSpec := { name := "mesiFits", fn := fun _ => fun
  | [d1, d2] => { results := [.lit (.bool true)], args := [d1, d2] }
  | _ => none }
def mesiFitsRow : OpenClaim := { program := "ytjpckcikmfihlaagreat", sum := "d5c84269a325d09b1e74f2d11d499e6a226012c62ab23dc2923044683d8e7118", func := "bellows/bellowslaw09.MesiFits", spec := "mesiFits", inPlace := ["sync/atomic.AddInt64"], unfollowed := true, recurses := true, apart := false }
def MesiFitsSaid : Prop := mesiFitsRow.holds Tryz.pinned (OpenSpec.ofChange mesiFitsSpec)

/-- ITS FALSE NEIGHBOUR: 'it returns false'. Refute it at one input. -/
def mesiFitsWrong : ChangeSpec := { name := "mesiFits", fn := fun _ => fun
  | [d1, d2] => { results := [.lit (.bool false)], args := [d1, d2] }
  | _ => none }
def MesiFitsWrongFalsely : Prop := mesiFitsRow.holds Tryz.pinned (OpenSpec.ofChange mesiFitsWrong)

/-- 'bellowslaw09.MesiDrops': WHATEVER THE INPUT: true; the input reads as it did. -/
def mesiDropsSpec : ChangeSpec := { name := "mesiDrops", fn := fun _ => fun
  | [d1, d2] => { results := [.lit (.bool true)], args := [d1, d2] }
  | _ => none }
def mesiDropsRow : OpenClaim := { program := "ytjpckcikmfihlaagreat", sum := "d5c84269a325d09b1e74f2d11d499e6a226012c62ab23dc2923044683d8e7118", func := "bellows/bellowslaw09.MesiDrops", spec := "mesiDrops", inPlace := ["sync/atomic.AddInt64"], unfollowed := true, recurses := true, apart := false }
def MesiDropsSaid : Prop := mesiDropsRow.holds Tryz.pinned (OpenSpec.ofChange mesiDropsSpec)

/-- ITS FALSE NEIGHBOUR: 'it returns false'. Refute it at one input. -/
def mesiDropsWrong : ChangeSpec := { name := "mesiDrops", fn := fun _ => fun
  | [d1, d2] => { results := [.lit (.bool false)], args := [d1, d2] }
  | _ => none }
def MesiDropsWrongFalsely : Prop := mesiDropsRow.holds Tryz.pinned (OpenSpec.ofChange mesiDropsWrong)

/-- 'bellowslaw09.MesiTrue': WHATEVER THE INPUT: true; the input reads as it did. -/
def mesiTrueSpec : ChangeSpec := { name := "mesiTrue", fn := fun _ => fun
  | [d1, d2] => { results := [.lit (.bool true)], args := [d1, d2] }
  | _ => none }
def mesiTrueRow : OpenClaim := { program := "ytjpckcikmfihlaagreat", sum := "d5c84269a325d09b1e74f2d11d499e6a226012c62ab23dc2923044683d8e7118", func := "bellows/bellowslaw09.MesiTrue", spec := "mesiTrue", inPlace := ["sync/atomic.AddInt64"], unfollowed := true, recurses := true, apart := false }
def MesiTrueSaid : Prop := mesiTrueRow.holds Tryz.pinned (OpenSpec.ofChange mesiTrueSpec)

/-- ITS FALSE NEIGHBOUR: 'it returns false'. Refute it at one input. -/
def mesiTrueWrong : ChangeSpec := { name := "mesiTrue", fn := fun _ => fun
  | [d1, d2] => { results := [.lit (.bool false)], args := [d1, d2] }
  | _ => none }
def MesiTrueWrongFalsely : Prop := mesiTrueRow.holds Tryz.pinned (OpenSpec.ofChange mesiTrueWrong)

/-- 'bellowslaw09.MesiPlays': WHATEVER THE INPUT: true; the input reads as it did. -/
def mesiPlaysSpec : ChangeSpec := { name := "mesiPlays", fn := fun _ => fun
  | [d1, d2, d3] => { results := [.lit (.bool true)], args := [d1, d2, d3] }
  | _ => none }
def mesiPlaysRow : OpenClaim := { program := "ytjpckcikmfihlaagreat", sum := "d5c84269a325d09b1e74f2d11d499e6a226012c62ab23dc2923044683d8e7118", func := "bellows/bellowslaw09.MesiPlays", spec := "mesiPlays", inPlace := ["sync/atomic.AddInt64"], unfollowed := true, recurses := true, apart := false }
def MesiPlaysSaid : Prop := mesiPlaysRow.holds Tryz.pinned (OpenSpec.ofChange mesiPlaysSpec)

/-- ITS FALSE NEIGHBOUR: 'it returns false'. Refute it at one input. -/
def mesiPlaysWrong : ChangeSpec := { name := "mesiPlays", fn := fun _ => fun
  | [d1, d2, d3] => { results := [.lit (.bool false)], args := [d1, d2, d3] }
  | _ => none }
def MesiPlaysWrongFalsely : Prop := mesiPlaysRow.holds Tryz.pinned (OpenSpec.ofChange mesiPlaysWrong)

/-- 'bellowslaw09.MesiMemory': WHATEVER THE INPUT: true; the input reads as it did. -/
def mesiMemorySpec : ChangeSpec := { name := "mesiMemory", fn := fun _ => fun
  | [d1, d2, d3] => { results := [.lit (.bool true)], args := [d1, d2, d3] }
  | _ => none }
def mesiMemoryRow : OpenClaim := { program := "ytjpckcikmfihlaagreat", sum := "d5c84269a325d09b1e74f2d11d499e6a226012c62ab23dc2923044683d8e7118", func := "bellows/bellowslaw09.MesiMemory", spec := "mesiMemory", inPlace := ["sync/atomic.AddInt64"], unfollowed := true, recurses := true, apart := false }
def MesiMemorySaid : Prop := mesiMemoryRow.holds Tryz.pinned (OpenSpec.ofChange mesiMemorySpec)

/-- ITS FALSE NEIGHBOUR: 'it returns false'. Refute it at one input. -/
def mesiMemoryWrong : ChangeSpec := { name := "mesiMemory", fn := fun _ => fun
  | [d1, d2, d3] => { results := [.lit (.bool false)], args := [d1, d2, d3] }
  | _ => none }
def MesiMemoryWrongFalsely : Prop := mesiMemoryRow.holds Tryz.pinned (OpenSpec.ofChange mesiMemoryWrong)

/-- 'bellowslaw09.MesiNone': WHATEVER THE INPUT: true; the input reads as it did. -/
def mesiNoneSpec : ChangeSpec := { name := "mesiNone", fn := fun _ => fun
  | [d] => { results := [.lit (.bool true)], args := [d] }
  | _ => none }
def mesiNoneRow : OpenClaim := { program := "ytjpckcikmfihlaagreat", sum := "d5c84269a325d09b1e74f2d11d499e6a226012c62ab23dc2923044683d8e7118", func := "bellows/bellowslaw09.MesiNone", spec := "mesiNone", inPlace := ["sync/atomic.AddInt64"], unfollowed := true, recurses := true, apart := false }
def MesiNoneSaid : Prop := mesiNoneRow.holds Tryz.pinned (OpenSpec.ofChange mesiNoneSpec)

/-- ITS FALSE NEIGHBOUR: 'it returns false'. Refute it at one input. -/
def mesiNoneWrong : ChangeSpec := { name := "mesiNone", fn := fun _ => fun
  | [d] => { results := [.lit (.bool false)], args := [d] }
  | _ => none }
def MesiNoneWrongFalsely : Prop := mesiNoneRow.holds Tryz.pinned (OpenSpec.ofChange mesiNoneWrong)

/- THE SECOND FORM. 'bulk': how many values and letters a reading holds, each counted each time it is reached (what is shared counts as often as it is met; a slice's spare places count too). A statement '..UptoSaid' is the law's where the arguments, and the package variables that the reading takes, are together of bulk at most 1048576: NARROWER than '..Said'. Prove '..Said' where nothing that the law and all that it calls make is longer than what came in: it says more and counts as full. Else prove '..UptoSaid'. A law counts once. -/
mutual
def uptoBulk {H : Type} : DataW H → Nat
  | .lit (.string bytes) => bytes.length + 1
  | .lit _ => 1
  | .nil => 1
  | .ptr d => uptoBulk d + 1
  | .slice elems spare => uptoBulkAll elems + uptoBulkAll spare + 1
  | .agg parts => uptoBulkAll parts + 1
  | .iface _ d => uptoBulk d + 1
  | .map entries => uptoBulkEntries entries + 1
  | .held _ => 1
def uptoBulkAll {H : Type} : List (DataW H) → Nat
  | [] => 0
  | d :: r => uptoBulk d + uptoBulkAll r
def uptoBulkEntries {H : Type} : List (Lit × DataW H) → Nat
  | [] => 0
  | x :: r => uptoBulkEntry x + uptoBulkEntries r
def uptoBulkEntry {H : Type} : Lit × DataW H → Nat
  | (.string bytes, d) => bytes.length + uptoBulk d + 1
  | (_, d) => uptoBulk d + 1
 end
def uptoSmall : (H : Type) → List (DataW H) → Bool := fun _ ds => decide (uptoBulkAll ds ≤ 1048576)
def OpenSpec.upto (s : _root_.Go.ChangeSpec) : _root_.Go.OpenSpec := { _root_.Go.OpenSpec.ofChange s with cond := some uptoSmall }

/-- 'bellowslaw09.MesiHands', WHERE WHAT IT READS IS OF BULK AT MOST 1048576: true; the input reads as it did. -/
def mesiHandsUptoRow : OpenClaim := { program := "ytjpckcikmfihlaagreat", sum := "d5c84269a325d09b1e74f2d11d499e6a226012c62ab23dc2923044683d8e7118", func := "bellows/bellowslaw09.MesiHands", spec := "mesiHands", inPlace := ["sync/atomic.AddInt64"], unfollowed := true, recurses := true, apart := false, narrowed := true }
def MesiHandsUptoSaid : Prop := mesiHandsUptoRow.holds Tryz.pinned (OpenSpec.upto mesiHandsSpec)

/-- 'bellowslaw09.MesiOne', WHERE WHAT IT READS IS OF BULK AT MOST 1048576: true; the input reads as it did. -/
def mesiOneUptoRow : OpenClaim := { program := "ytjpckcikmfihlaagreat", sum := "d5c84269a325d09b1e74f2d11d499e6a226012c62ab23dc2923044683d8e7118", func := "bellows/bellowslaw09.MesiOne", spec := "mesiOne", inPlace := ["sync/atomic.AddInt64"], unfollowed := true, recurses := true, apart := false, narrowed := true }
def MesiOneUptoSaid : Prop := mesiOneUptoRow.holds Tryz.pinned (OpenSpec.upto mesiOneSpec)

/-- 'bellowslaw09.MesiFits', WHERE WHAT IT READS IS OF BULK AT MOST 1048576: true; the input reads as it did. -/
def mesiFitsUptoRow : OpenClaim := { program := "ytjpckcikmfihlaagreat", sum := "d5c84269a325d09b1e74f2d11d499e6a226012c62ab23dc2923044683d8e7118", func := "bellows/bellowslaw09.MesiFits", spec := "mesiFits", inPlace := ["sync/atomic.AddInt64"], unfollowed := true, recurses := true, apart := false, narrowed := true }
def MesiFitsUptoSaid : Prop := mesiFitsUptoRow.holds Tryz.pinned (OpenSpec.upto mesiFitsSpec)

/-- 'bellowslaw09.MesiDrops', WHERE WHAT IT READS IS OF BULK AT MOST 1048576: true; the input reads as it did. -/
def mesiDropsUptoRow : OpenClaim := { program := "ytjpckcikmfihlaagreat", sum := "d5c84269a325d09b1e74f2d11d499e6a226012c62ab23dc2923044683d8e7118", func := "bellows/bellowslaw09.MesiDrops", spec := "mesiDrops", inPlace := ["sync/atomic.AddInt64"], unfollowed := true, recurses := true, apart := false, narrowed := true }
def MesiDropsUptoSaid : Prop := mesiDropsUptoRow.holds Tryz.pinned (OpenSpec.upto mesiDropsSpec)

/-- 'bellowslaw09.MesiTrue', WHERE WHAT IT READS IS OF BULK AT MOST 1048576: true; the input reads as it did. -/
def mesiTrueUptoRow : OpenClaim := { program := "ytjpckcikmfihlaagreat", sum := "d5c84269a325d09b1e74f2d11d499e6a226012c62ab23dc2923044683d8e7118", func := "bellows/bellowslaw09.MesiTrue", spec := "mesiTrue", inPlace := ["sync/atomic.AddInt64"], unfollowed := true, recurses := true, apart := false, narrowed := true }
def MesiTrueUptoSaid : Prop := mesiTrueUptoRow.holds Tryz.pinned (OpenSpec.upto mesiTrueSpec)

/-- 'bellowslaw09.MesiPlays', WHERE WHAT IT READS IS OF BULK AT MOST 1048576: true; the input reads as it did. -/
def mesiPlaysUptoRow : OpenClaim := { program := "ytjpckcikmfihlaagreat", sum := "d5c84269a325d09b1e74f2d11d499e6a226012c62ab23dc2923044683d8e7118", func := "bellows/bellowslaw09.MesiPlays", spec := "mesiPlays", inPlace := ["sync/atomic.AddInt64"], unfollowed := true, recurses := true, apart := false, narrowed := true }
def MesiPlaysUptoSaid : Prop := mesiPlaysUptoRow.holds Tryz.pinned (OpenSpec.upto mesiPlaysSpec)

/-- 'bellowslaw09.MesiMemory', WHERE WHAT IT READS IS OF BULK AT MOST 1048576: true; the input reads as it did. -/
def mesiMemoryUptoRow : OpenClaim := { program := "ytjpckcikmfihlaagreat", sum := "d5c84269a325d09b1e74f2d11d499e6a226012c62ab23dc2923044683d8e7118", func := "bellows/bellowslaw09.MesiMemory", spec := "mesiMemory", inPlace := ["sync/atomic.AddInt64"], unfollowed := true, recurses := true, apart := false, narrowed := true }
def MesiMemoryUptoSaid : Prop := mesiMemoryUptoRow.holds Tryz.pinned (OpenSpec.upto mesiMemorySpec)

/-- 'bellowslaw09.MesiNone', WHERE WHAT IT READS IS OF BULK AT MOST 1048576: true; the input reads as it did. -/
def mesiNoneUptoRow : OpenClaim := { program := "ytjpckcikmfihlaagreat", sum := "d5c84269a325d09b1e74f2d11d499e6a226012c62ab23dc2923044683d8e7118", func := "bellows/bellowslaw09.MesiNone", spec := "mesiNone", inPlace := ["sync/atomic.AddInt64"], unfollowed := true, recurses := true, apart := false, narrowed := true }
def MesiNoneUptoSaid : Prop := mesiNoneUptoRow.holds Tryz.pinned (OpenSpec.upto mesiNoneSpec)

end Rows
end Go.Proofs.YtjpckcikmfihlaaGreat
