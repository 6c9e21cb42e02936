/-
  No cell of these rows narrows 'for every input' (looked for: loops, veiled, ifaces, maps, wideKeys, modest, calm, conditions, laid).
  DERIVED. THE GIVEN ROWS OF THIS SEAT. 8 by the template 'for every input the law returns true; each argument reads behind the call as it read before'; 0 by the template 'total and deterministic' (their statements: YtncodeibkmekmabTotals.lean).
  GIVEN WITH THE SEED: the statements are not yours to turn. If you find one false, say at which input.
  Laid BY PROGRAM, IN A SANDBOX (cutbox-rows.mjs): the forced cells as the released guide's own fill.sh prints them over the translation 5be7580bf57e6643… (all of the seat's roots in one cut). By AI agents, Wed Nov 11 2026. No macro, syntax, notation, axiom, sorry.
-/
import Derived.Test.YtncodeibkmekmabChecked
import GoSem.Claim
import GoSem.ClaimJoined
import GoSem.ClaimMapViews
import Derived.JoinedTies
import Derived.KernelRfl
namespace Go.Proofs.Ytncodeibkmekmab
/- THE CELL 'sum', in the pinned program and in every row, IS THE sha256 OF THE DUMP (.gsa) THAT YtncodeibkmekmabProg.lean LOADS. Nothing in Lean hashes anything: it is a label: what it is worth is what the hold of that sum in a sandbox is worth. -/
noncomputable def Try.pinned : Pinned := { name := "ytncodeibkmekmab", sum := "5be7580bf57e6643ac889abb7a54a0e6b921ff9aa9e431e9399e905e111af841", checked := Try.checked }
namespace Rows
def none {H : Type} : Left H := { results := [], args := [] }

/-- 'bellowslaw08.AgentUps': WHATEVER THE INPUT: true; the input reads as it did. -/
def agentUpsSpec : ChangeSpec := { name := "agentUps", fn := fun _ => fun
  | [d1, d2, d3] => { results := [.lit (.bool true)], args := [d1, d2, d3] }
  | _ => none }
def agentUpsRow : OpenClaim := { program := "ytncodeibkmekmab", sum := "5be7580bf57e6643ac889abb7a54a0e6b921ff9aa9e431e9399e905e111af841", func := "bellows/bellowslaw08.AgentUps", spec := "agentUps", unfollowed := true, recurses := true, apart := false }
def AgentUpsSaid : Prop := agentUpsRow.holds Try.pinned (OpenSpec.ofChange agentUpsSpec)

/-- ITS FALSE NEIGHBOUR: 'it returns false'. Refute it at one input. -/
def agentUpsWrong : ChangeSpec := { name := "agentUps", fn := fun _ => fun
  | [d1, d2, d3] => { results := [.lit (.bool false)], args := [d1, d2, d3] }
  | _ => none }
def AgentUpsWrongFalsely : Prop := agentUpsRow.holds Try.pinned (OpenSpec.ofChange agentUpsWrong)

/-- 'bellowslaw08.AgentRoom': WHATEVER THE INPUT: true; the input reads as it did. -/
def agentRoomSpec : ChangeSpec := { name := "agentRoom", fn := fun _ => fun
  | [d1, d2] => { results := [.lit (.bool true)], args := [d1, d2] }
  | _ => none }
def agentRoomRow : OpenClaim := { program := "ytncodeibkmekmab", sum := "5be7580bf57e6643ac889abb7a54a0e6b921ff9aa9e431e9399e905e111af841", func := "bellows/bellowslaw08.AgentRoom", spec := "agentRoom", unfollowed := true, recurses := true, apart := false }
def AgentRoomSaid : Prop := agentRoomRow.holds Try.pinned (OpenSpec.ofChange agentRoomSpec)

/-- ITS FALSE NEIGHBOUR: 'it returns false'. Refute it at one input. -/
def agentRoomWrong : ChangeSpec := { name := "agentRoom", fn := fun _ => fun
  | [d1, d2] => { results := [.lit (.bool false)], args := [d1, d2] }
  | _ => none }
def AgentRoomWrongFalsely : Prop := agentRoomRow.holds Try.pinned (OpenSpec.ofChange agentRoomWrong)

/-- 'bellowslaw08.AgentWaits': WHATEVER THE INPUT: true; the input reads as it did. -/
def agentWaitsSpec : ChangeSpec := { name := "agentWaits", fn := fun _ => fun
  | [d1, d2] => { results := [.lit (.bool true)], args := [d1, d2] }
  | _ => none }
def agentWaitsRow : OpenClaim := { program := "ytncodeibkmekmab", sum := "5be7580bf57e6643ac889abb7a54a0e6b921ff9aa9e431e9399e905e111af841", func := "bellows/bellowslaw08.AgentWaits", spec := "agentWaits", unfollowed := true, recurses := true, apart := false }
def AgentWaitsSaid : Prop := agentWaitsRow.holds Try.pinned (OpenSpec.ofChange agentWaitsSpec)

/-- ITS FALSE NEIGHBOUR: 'it returns false'. Refute it at one input. -/
def agentWaitsWrong : ChangeSpec := { name := "agentWaits", fn := fun _ => fun
  | [d1, d2] => { results := [.lit (.bool false)], args := [d1, d2] }
  | _ => none }
def AgentWaitsWrongFalsely : Prop := agentWaitsRow.holds Try.pinned (OpenSpec.ofChange agentWaitsWrong)

/-- 'bellowslaw08.AgentPlays': WHATEVER THE INPUT: true; the input reads as it did. -/
def agentPlaysSpec : ChangeSpec := { name := "agentPlays", fn := fun _ => fun
  | [d1, d2, d3] => { results := [.lit (.bool true)], args := [d1, d2, d3] }
  | _ => none }
def agentPlaysRow : OpenClaim := { program := "ytncodeibkmekmab", sum := "5be7580bf57e6643ac889abb7a54a0e6b921ff9aa9e431e9399e905e111af841", func := "bellows/bellowslaw08.AgentPlays", spec := "agentPlays", unfollowed := true, recurses := true, apart := false }
def AgentPlaysSaid : Prop := agentPlaysRow.holds Try.pinned (OpenSpec.ofChange agentPlaysSpec)

/-- ITS FALSE NEIGHBOUR: 'it returns false'. Refute it at one input. -/
def agentPlaysWrong : ChangeSpec := { name := "agentPlays", fn := fun _ => fun
  | [d1, d2, d3] => { results := [.lit (.bool false)], args := [d1, d2, d3] }
  | _ => none }
def AgentPlaysWrongFalsely : Prop := agentPlaysRow.holds Try.pinned (OpenSpec.ofChange agentPlaysWrong)

/-- 'bellowslaw08.AgentOne': WHATEVER THE INPUT: true; the input reads as it did. -/
def agentOneSpec : ChangeSpec := { name := "agentOne", fn := fun _ => fun
  | [d1, d2, d3] => { results := [.lit (.bool true)], args := [d1, d2, d3] }
  | _ => none }
def agentOneRow : OpenClaim := { program := "ytncodeibkmekmab", sum := "5be7580bf57e6643ac889abb7a54a0e6b921ff9aa9e431e9399e905e111af841", func := "bellows/bellowslaw08.AgentOne", spec := "agentOne", unfollowed := true, recurses := true, apart := false }
def AgentOneSaid : Prop := agentOneRow.holds Try.pinned (OpenSpec.ofChange agentOneSpec)

/-- ITS FALSE NEIGHBOUR: 'it returns false'. Refute it at one input. -/
def agentOneWrong : ChangeSpec := { name := "agentOne", fn := fun _ => fun
  | [d1, d2, d3] => { results := [.lit (.bool false)], args := [d1, d2, d3] }
  | _ => none }
def AgentOneWrongFalsely : Prop := agentOneRow.holds Try.pinned (OpenSpec.ofChange agentOneWrong)

/-- 'bellowslaw08.AgentTells': WHATEVER THE INPUT: true; the input reads as it did. -/
def agentTellsSpec : ChangeSpec := { name := "agentTells", fn := fun _ => fun
  | [d1, d2, d3] => { results := [.lit (.bool true)], args := [d1, d2, d3] }
  | _ => none }
def agentTellsRow : OpenClaim := { program := "ytncodeibkmekmab", sum := "5be7580bf57e6643ac889abb7a54a0e6b921ff9aa9e431e9399e905e111af841", func := "bellows/bellowslaw08.AgentTells", spec := "agentTells", unfollowed := true, recurses := true, apart := false }
def AgentTellsSaid : Prop := agentTellsRow.holds Try.pinned (OpenSpec.ofChange agentTellsSpec)

/-- ITS FALSE NEIGHBOUR: 'it returns false'. Refute it at one input. -/
def agentTellsWrong : ChangeSpec := { name := "agentTells", fn := fun _ => fun
  | [d1, d2, d3] => { results := [.lit (.bool false)], args := [d1, d2, d3] }
  | _ => none }
def AgentTellsWrongFalsely : Prop := agentTellsRow.holds Try.pinned (OpenSpec.ofChange agentTellsWrong)

/-- 'bellowslaw08.AgentNone': WHATEVER THE INPUT: true; the input reads as it did. -/
def agentNoneSpec : ChangeSpec := { name := "agentNone", fn := fun _ => fun
  | [d] => { results := [.lit (.bool true)], args := [d] }
  | _ => none }
def agentNoneRow : OpenClaim := { program := "ytncodeibkmekmab", sum := "5be7580bf57e6643ac889abb7a54a0e6b921ff9aa9e431e9399e905e111af841", func := "bellows/bellowslaw08.AgentNone", spec := "agentNone", unfollowed := true, recurses := true, apart := false }
def AgentNoneSaid : Prop := agentNoneRow.holds Try.pinned (OpenSpec.ofChange agentNoneSpec)

/-- ITS FALSE NEIGHBOUR: 'it returns false'. Refute it at one input. -/
def agentNoneWrong : ChangeSpec := { name := "agentNone", fn := fun _ => fun
  | [d] => { results := [.lit (.bool false)], args := [d] }
  | _ => none }
def AgentNoneWrongFalsely : Prop := agentNoneRow.holds Try.pinned (OpenSpec.ofChange agentNoneWrong)

/-- 'bellowslaw23.LockCode': WHATEVER THE INPUT: true; the input reads as it did. -/
def lockCodeSpec : ChangeSpec := { name := "lockCode", fn := fun _ => fun
  | [d1, d2] => { results := [.lit (.bool true)], args := [d1, d2] }
  | _ => none }
def lockCodeRow : OpenClaim := { program := "ytncodeibkmekmab", sum := "5be7580bf57e6643ac889abb7a54a0e6b921ff9aa9e431e9399e905e111af841", func := "bellows/bellowslaw23.LockCode", spec := "lockCode", inPlace := ["sync/atomic.LoadUint32", "(*internal/sync.Mutex).Lock", "internal/race.Disable", "sync/atomic.CompareAndSwapInt32", "internal/race.Enable", "internal/race.Acquire", "(*internal/sync.Mutex).lockSlow", "internal/sync.runtime_canSpin", "internal/sync.runtime_doSpin", "internal/sync.throw", "internal/sync.runtime_nanotime", "internal/sync.runtime_SemacquireMutex", "sync/atomic.AddInt32", "(*internal/sync.Mutex).Unlock", "internal/race.ReleaseMerge", "(*internal/sync.Mutex).unlockSlow", "internal/sync.fatal", "internal/sync.runtime_Semrelease", "sync/atomic.StoreUint32", "internal/bytealg.IndexByteString", "internal/bytealg.IndexString"], unfollowed := true, recurses := true, named := ["internal/bytealg.MaxLen"], apart := false }
def LockCodeSaid : Prop := lockCodeRow.holds Try.pinned (OpenSpec.ofChange lockCodeSpec)

/-- ITS FALSE NEIGHBOUR: 'it returns false'. Refute it at one input. -/
def lockCodeWrong : ChangeSpec := { name := "lockCode", fn := fun _ => fun
  | [d1, d2] => { results := [.lit (.bool false)], args := [d1, d2] }
  | _ => none }
def LockCodeWrongFalsely : Prop := lockCodeRow.holds Try.pinned (OpenSpec.ofChange lockCodeWrong)

/- THE SECOND FORM. 'bulk': how many values and letters a reading holds, each counted each time it is reached (what is shared counts as often as it is met; a slice's spare places count too). A statement '..UptoSaid' is the law's where the arguments, and the package variables that the reading takes, are together of bulk at most 1048576: NARROWER than '..Said'. Prove '..Said' where nothing that the law and all that it calls make is longer than what came in: it says more and counts as full. Else prove '..UptoSaid'. A law counts once. -/
mutual
def uptoBulk {H : Type} : DataW H → Nat
  | .lit (.string bytes) => bytes.length + 1
  | .lit _ => 1
  | .nil => 1
  | .ptr d => uptoBulk d + 1
  | .slice elems spare => uptoBulkAll elems + uptoBulkAll spare + 1
  | .agg parts => uptoBulkAll parts + 1
  | .iface _ d => uptoBulk d + 1
  | .map entries => uptoBulkEntries entries + 1
  | .held _ => 1
def uptoBulkAll {H : Type} : List (DataW H) → Nat
  | [] => 0
  | d :: r => uptoBulk d + uptoBulkAll r
def uptoBulkEntries {H : Type} : List (Lit × DataW H) → Nat
  | [] => 0
  | x :: r => uptoBulkEntry x + uptoBulkEntries r
def uptoBulkEntry {H : Type} : Lit × DataW H → Nat
  | (.string bytes, d) => bytes.length + uptoBulk d + 1
  | (_, d) => uptoBulk d + 1
 end
def uptoSmall : (H : Type) → List (DataW H) → Bool := fun _ ds => decide (uptoBulkAll ds ≤ 1048576)
def OpenSpec.upto (s : _root_.Go.ChangeSpec) : _root_.Go.OpenSpec := { _root_.Go.OpenSpec.ofChange s with cond := some uptoSmall }

/-- 'bellowslaw08.AgentUps', WHERE WHAT IT READS IS OF BULK AT MOST 1048576: true; the input reads as it did. -/
def agentUpsUptoRow : OpenClaim := { program := "ytncodeibkmekmab", sum := "5be7580bf57e6643ac889abb7a54a0e6b921ff9aa9e431e9399e905e111af841", func := "bellows/bellowslaw08.AgentUps", spec := "agentUps", unfollowed := true, recurses := true, apart := false, narrowed := true }
def AgentUpsUptoSaid : Prop := agentUpsUptoRow.holds Try.pinned (OpenSpec.upto agentUpsSpec)

/-- 'bellowslaw08.AgentRoom', WHERE WHAT IT READS IS OF BULK AT MOST 1048576: true; the input reads as it did. -/
def agentRoomUptoRow : OpenClaim := { program := "ytncodeibkmekmab", sum := "5be7580bf57e6643ac889abb7a54a0e6b921ff9aa9e431e9399e905e111af841", func := "bellows/bellowslaw08.AgentRoom", spec := "agentRoom", unfollowed := true, recurses := true, apart := false, narrowed := true }
def AgentRoomUptoSaid : Prop := agentRoomUptoRow.holds Try.pinned (OpenSpec.upto agentRoomSpec)

/-- 'bellowslaw08.AgentWaits', WHERE WHAT IT READS IS OF BULK AT MOST 1048576: true; the input reads as it did. -/
def agentWaitsUptoRow : OpenClaim := { program := "ytncodeibkmekmab", sum := "5be7580bf57e6643ac889abb7a54a0e6b921ff9aa9e431e9399e905e111af841", func := "bellows/bellowslaw08.AgentWaits", spec := "agentWaits", unfollowed := true, recurses := true, apart := false, narrowed := true }
def AgentWaitsUptoSaid : Prop := agentWaitsUptoRow.holds Try.pinned (OpenSpec.upto agentWaitsSpec)

/-- 'bellowslaw08.AgentPlays', WHERE WHAT IT READS IS OF BULK AT MOST 1048576: true; the input reads as it did. -/
def agentPlaysUptoRow : OpenClaim := { program := "ytncodeibkmekmab", sum := "5be7580bf57e6643ac889abb7a54a0e6b921ff9aa9e431e9399e905e111af841", func := "bellows/bellowslaw08.AgentPlays", spec := "agentPlays", unfollowed := true, recurses := true, apart := false, narrowed := true }
def AgentPlaysUptoSaid : Prop := agentPlaysUptoRow.holds Try.pinned (OpenSpec.upto agentPlaysSpec)

/-- 'bellowslaw08.AgentOne', WHERE WHAT IT READS IS OF BULK AT MOST 1048576: true; the input reads as it did. -/
def agentOneUptoRow : OpenClaim := { program := "ytncodeibkmekmab", sum := "5be7580bf57e6643ac889abb7a54a0e6b921ff9aa9e431e9399e905e111af841", func := "bellows/bellowslaw08.AgentOne", spec := "agentOne", unfollowed := true, recurses := true, apart := false, narrowed := true }
def AgentOneUptoSaid : Prop := agentOneUptoRow.holds Try.pinned (OpenSpec.upto agentOneSpec)

/-- 'bellowslaw08.AgentTells', WHERE WHAT IT READS IS OF BULK AT MOST 1048576: true; the input reads as it did. -/
def agentTellsUptoRow : OpenClaim := { program := "ytncodeibkmekmab", sum := "5be7580bf57e6643ac889abb7a54a0e6b921ff9aa9e431e9399e905e111af841", func := "bellows/bellowslaw08.AgentTells", spec := "agentTells", unfollowed := true, recurses := true, apart := false, narrowed := true }
def AgentTellsUptoSaid : Prop := agentTellsUptoRow.holds Try.pinned (OpenSpec.upto agentTellsSpec)

/-- 'bellowslaw08.AgentNone', WHERE WHAT IT READS IS OF BULK AT MOST 1048576: true; the input reads as it did. -/
def agentNoneUptoRow : OpenClaim := { program := "ytncodeibkmekmab", sum := "5be7580bf57e6643ac889abb7a54a0e6b921ff9aa9e431e9399e905e111af841", func := "bellows/bellowslaw08.AgentNone", spec := "agentNone", unfollowed := true, recurses := true, apart := false, narrowed := true }
def AgentNoneUptoSaid : Prop := agentNoneUptoRow.holds Try.pinned (OpenSpec.upto agentNoneSpec)

/-- 'bellowslaw23.LockCode', WHERE WHAT IT READS IS OF BULK AT MOST 1048576: true; the input reads as it did. -/
def lockCodeUptoRow : OpenClaim := { program := "ytncodeibkmekmab", sum := "5be7580bf57e6643ac889abb7a54a0e6b921ff9aa9e431e9399e905e111af841", func := "bellows/bellowslaw23.LockCode", spec := "lockCode", inPlace := ["sync/atomic.LoadUint32", "(*internal/sync.Mutex).Lock", "internal/race.Disable", "sync/atomic.CompareAndSwapInt32", "internal/race.Enable", "internal/race.Acquire", "(*internal/sync.Mutex).lockSlow", "internal/sync.runtime_canSpin", "internal/sync.runtime_doSpin", "internal/sync.throw", "internal/sync.runtime_nanotime", "internal/sync.runtime_SemacquireMutex", "sync/atomic.AddInt32", "(*internal/sync.Mutex).Unlock", "internal/race.ReleaseMerge", "(*internal/sync.Mutex).unlockSlow", "internal/sync.fatal", "internal/sync.runtime_Semrelease", "sync/atomic.StoreUint32", "internal/bytealg.IndexByteString", "internal/bytealg.IndexString"], unfollowed := true, recurses := true, named := ["internal/bytealg.MaxLen"], apart := false, narrowed := true }
def LockCodeUptoSaid : Prop := lockCodeUptoRow.holds Try.pinned (OpenSpec.upto lockCodeSpec)

end Rows
end Go.Proofs.Ytncodeibkmekmab
