/-
  No cell of these rows narrows 'for every input' (looked for: loops, veiled, ifaces, maps, wideKeys, modest, calm, conditions, laid).
  DERIVED. THE GIVEN ROWS OF THIS SEAT. 9 by the template 'for every input the law returns true; each argument reads behind the call as it read before'; 0 by the template 'total and deterministic' (their statements: YtmchcjaomcdbmaaGreatTotals.lean).
  GIVEN WITH THE SEED: the statements are not yours to turn. If you find one false, say at which input.
  Laid BY PROGRAM, IN A SANDBOX (cutbox-rows.mjs): the forced cells as the released guide's own fill.sh prints them over the translation b1ac766d7015d862… (all of the seat's roots in one cut). By AI agents, Wed Nov 11 2026. No macro, syntax, notation, axiom, sorry.
-/
import Derived.Test.YtmchcjaomcdbmaaGreatChecked
import GoSem.Claim
import GoSem.ClaimJoined
import GoSem.ClaimMapViews
import Derived.JoinedTies
import Derived.KernelRfl
namespace Go.Proofs.YtmchcjaomcdbmaaGreat
/- THE CELL 'sum', in the pinned program and in every row, IS THE sha256 OF THE DUMP (.gsa) THAT YtmchcjaomcdbmaaGreatProg.lean LOADS. Nothing in Lean hashes anything: it is a label: what it is worth is what the hold of that sum in a sandbox is worth. -/
noncomputable def Tryz.pinned : Pinned := { name := "ytmchcjaomcdbmaagreat", sum := "b1ac766d7015d86213d5bb17bd1ba161999d2de76672215427f781f87d9c1f2f", checked := Tryz.checked }
namespace Rows
def none {H : Type} : Left H := { results := [], args := [] }

/-- 'bellowslaw09.MesiHands': WHATEVER THE INPUT: true; the input reads as it did. -/
def mesiHandsSpec : ChangeSpec := { name := "mesiHands", fn := fun _ => fun
  | [d1, d2] => { results := [.lit (.bool true)], args := [d1, d2] }
  | _ => none }
def mesiHandsRow : OpenClaim := { program := "ytmchcjaomcdbmaagreat", sum := "b1ac766d7015d86213d5bb17bd1ba161999d2de76672215427f781f87d9c1f2f", func := "bellows/bellowslaw09.MesiHands", spec := "mesiHands", inPlace := ["sync/atomic.AddInt64"], unfollowed := true, recurses := true, apart := false }
def MesiHandsSaid : Prop := mesiHandsRow.holds Tryz.pinned (OpenSpec.ofChange mesiHandsSpec)

/-- ITS FALSE NEIGHBOUR: 'it returns false'. Refute it at one input. -/
def mesiHandsWrong : ChangeSpec := { name := "mesiHands", fn := fun _ => fun
  | [d1, d2] => { results := [.lit (.bool false)], args := [d1, d2] }
  | _ => none }
def MesiHandsWrongFalsely : Prop := mesiHandsRow.holds Tryz.pinned (OpenSpec.ofChange mesiHandsWrong)

/-- 'bellowslaw09.MesiDrops': WHATEVER THE INPUT: true; the input reads as it did. -/
def mesiDropsSpec : ChangeSpec := { name := "mesiDrops", fn := fun _ => fun
  | [d1, d2] => { results := [.lit (.bool true)], args := [d1, d2] }
  | _ => none }
def mesiDropsRow : OpenClaim := { program := "ytmchcjaomcdbmaagreat", sum := "b1ac766d7015d86213d5bb17bd1ba161999d2de76672215427f781f87d9c1f2f", func := "bellows/bellowslaw09.MesiDrops", spec := "mesiDrops", inPlace := ["sync/atomic.AddInt64"], unfollowed := true, recurses := true, apart := false }
def MesiDropsSaid : Prop := mesiDropsRow.holds Tryz.pinned (OpenSpec.ofChange mesiDropsSpec)

/-- ITS FALSE NEIGHBOUR: 'it returns false'. Refute it at one input. -/
def mesiDropsWrong : ChangeSpec := { name := "mesiDrops", fn := fun _ => fun
  | [d1, d2] => { results := [.lit (.bool false)], args := [d1, d2] }
  | _ => none }
def MesiDropsWrongFalsely : Prop := mesiDropsRow.holds Tryz.pinned (OpenSpec.ofChange mesiDropsWrong)

/-- 'bellowslaw09.MesiPlays': WHATEVER THE INPUT: true; the input reads as it did. -/
def mesiPlaysSpec : ChangeSpec := { name := "mesiPlays", fn := fun _ => fun
  | [d1, d2, d3] => { results := [.lit (.bool true)], args := [d1, d2, d3] }
  | _ => none }
def mesiPlaysRow : OpenClaim := { program := "ytmchcjaomcdbmaagreat", sum := "b1ac766d7015d86213d5bb17bd1ba161999d2de76672215427f781f87d9c1f2f", func := "bellows/bellowslaw09.MesiPlays", spec := "mesiPlays", inPlace := ["sync/atomic.AddInt64"], unfollowed := true, recurses := true, apart := false }
def MesiPlaysSaid : Prop := mesiPlaysRow.holds Tryz.pinned (OpenSpec.ofChange mesiPlaysSpec)

/-- ITS FALSE NEIGHBOUR: 'it returns false'. Refute it at one input. -/
def mesiPlaysWrong : ChangeSpec := { name := "mesiPlays", fn := fun _ => fun
  | [d1, d2, d3] => { results := [.lit (.bool false)], args := [d1, d2, d3] }
  | _ => none }
def MesiPlaysWrongFalsely : Prop := mesiPlaysRow.holds Tryz.pinned (OpenSpec.ofChange mesiPlaysWrong)

/-- 'bellowslaw19.PersistMachine': WHATEVER THE INPUT: true; the input reads as it did. -/
def persistMachineSpec : ChangeSpec := { name := "persistMachine", fn := fun _ => fun
  | [d1, d2] => { results := [.lit (.bool true)], args := [d1, d2] }
  | _ => none }
def persistMachineRow : OpenClaim := { program := "ytmchcjaomcdbmaagreat", sum := "b1ac766d7015d86213d5bb17bd1ba161999d2de76672215427f781f87d9c1f2f", func := "bellows/bellowslaw19.PersistMachine", spec := "persistMachine", inPlace := ["sync/atomic.LoadUint32", "(*internal/sync.Mutex).Lock", "internal/race.Disable", "sync/atomic.CompareAndSwapInt32", "internal/race.Enable", "internal/race.Acquire", "(*internal/sync.Mutex).lockSlow", "internal/sync.runtime_canSpin", "internal/sync.runtime_doSpin", "internal/sync.throw", "internal/sync.runtime_nanotime", "internal/sync.runtime_SemacquireMutex", "sync/atomic.AddInt32", "(*internal/sync.Mutex).Unlock", "internal/race.ReleaseMerge", "(*internal/sync.Mutex).unlockSlow", "internal/sync.fatal", "internal/sync.runtime_Semrelease", "sync/atomic.StoreUint32", "internal/bytealg.IndexByteString", "internal/bytealg.IndexString", "sync/atomic.AddInt64"], unfollowed := true, recurses := true, named := ["internal/bytealg.MaxLen"], apart := false }
def PersistMachineSaid : Prop := persistMachineRow.holds Tryz.pinned (OpenSpec.ofChange persistMachineSpec)

/-- ITS FALSE NEIGHBOUR: 'it returns false'. Refute it at one input. -/
def persistMachineWrong : ChangeSpec := { name := "persistMachine", fn := fun _ => fun
  | [d1, d2] => { results := [.lit (.bool false)], args := [d1, d2] }
  | _ => none }
def PersistMachineWrongFalsely : Prop := persistMachineRow.holds Tryz.pinned (OpenSpec.ofChange persistMachineWrong)

/-- 'bellowslaw15.MachineAllowed': WHATEVER THE INPUT: true; the input reads as it did. -/
def machineAllowedSpec : ChangeSpec := { name := "machineAllowed", fn := fun _ => fun
  | [d1, d2] => { results := [.lit (.bool true)], args := [d1, d2] }
  | _ => none }
def machineAllowedRow : OpenClaim := { program := "ytmchcjaomcdbmaagreat", sum := "b1ac766d7015d86213d5bb17bd1ba161999d2de76672215427f781f87d9c1f2f", func := "bellows/bellowslaw15.MachineAllowed", spec := "machineAllowed", inPlace := ["sync/atomic.AddInt64", "sync/atomic.LoadUint32", "(*internal/sync.Mutex).Lock", "internal/race.Disable", "sync/atomic.CompareAndSwapInt32", "internal/race.Enable", "internal/race.Acquire", "(*internal/sync.Mutex).lockSlow", "internal/sync.runtime_canSpin", "internal/sync.runtime_doSpin", "internal/sync.throw", "internal/sync.runtime_nanotime", "internal/sync.runtime_SemacquireMutex", "sync/atomic.AddInt32", "(*internal/sync.Mutex).Unlock", "internal/race.ReleaseMerge", "(*internal/sync.Mutex).unlockSlow", "internal/sync.fatal", "internal/sync.runtime_Semrelease", "sync/atomic.StoreUint32", "internal/bytealg.IndexByteString", "internal/bytealg.IndexString"], unfollowed := true, recurses := true, named := ["internal/bytealg.MaxLen"], apart := false }
def MachineAllowedSaid : Prop := machineAllowedRow.holds Tryz.pinned (OpenSpec.ofChange machineAllowedSpec)

/-- ITS FALSE NEIGHBOUR: 'it returns false'. Refute it at one input. -/
def machineAllowedWrong : ChangeSpec := { name := "machineAllowed", fn := fun _ => fun
  | [d1, d2] => { results := [.lit (.bool false)], args := [d1, d2] }
  | _ => none }
def MachineAllowedWrongFalsely : Prop := machineAllowedRow.holds Tryz.pinned (OpenSpec.ofChange machineAllowedWrong)

/-- 'bellowslaw15.MachineKept': WHATEVER THE INPUT: true; the input reads as it did. -/
def machineKeptSpec : ChangeSpec := { name := "machineKept", fn := fun _ => fun
  | [d1, d2] => { results := [.lit (.bool true)], args := [d1, d2] }
  | _ => none }
def machineKeptRow : OpenClaim := { program := "ytmchcjaomcdbmaagreat", sum := "b1ac766d7015d86213d5bb17bd1ba161999d2de76672215427f781f87d9c1f2f", func := "bellows/bellowslaw15.MachineKept", spec := "machineKept", inPlace := ["sync/atomic.AddInt64", "sync/atomic.LoadUint32", "(*internal/sync.Mutex).Lock", "internal/race.Disable", "sync/atomic.CompareAndSwapInt32", "internal/race.Enable", "internal/race.Acquire", "(*internal/sync.Mutex).lockSlow", "internal/sync.runtime_canSpin", "internal/sync.runtime_doSpin", "internal/sync.throw", "internal/sync.runtime_nanotime", "internal/sync.runtime_SemacquireMutex", "sync/atomic.AddInt32", "(*internal/sync.Mutex).Unlock", "internal/race.ReleaseMerge", "(*internal/sync.Mutex).unlockSlow", "internal/sync.fatal", "internal/sync.runtime_Semrelease", "sync/atomic.StoreUint32", "internal/bytealg.IndexByteString", "internal/bytealg.IndexString"], unfollowed := true, recurses := true, named := ["internal/bytealg.MaxLen"], apart := false }
def MachineKeptSaid : Prop := machineKeptRow.holds Tryz.pinned (OpenSpec.ofChange machineKeptSpec)

/-- ITS FALSE NEIGHBOUR: 'it returns false'. Refute it at one input. -/
def machineKeptWrong : ChangeSpec := { name := "machineKept", fn := fun _ => fun
  | [d1, d2] => { results := [.lit (.bool false)], args := [d1, d2] }
  | _ => none }
def MachineKeptWrongFalsely : Prop := machineKeptRow.holds Tryz.pinned (OpenSpec.ofChange machineKeptWrong)

/-- 'bellowslaw15.MachineQuiet': WHATEVER THE INPUT: true; the input reads as it did. -/
def machineQuietSpec : ChangeSpec := { name := "machineQuiet", fn := fun _ => fun
  | [d1, d2] => { results := [.lit (.bool true)], args := [d1, d2] }
  | _ => none }
def machineQuietRow : OpenClaim := { program := "ytmchcjaomcdbmaagreat", sum := "b1ac766d7015d86213d5bb17bd1ba161999d2de76672215427f781f87d9c1f2f", func := "bellows/bellowslaw15.MachineQuiet", spec := "machineQuiet", inPlace := ["sync/atomic.AddInt64", "sync/atomic.LoadUint32", "(*internal/sync.Mutex).Lock", "internal/race.Disable", "sync/atomic.CompareAndSwapInt32", "internal/race.Enable", "internal/race.Acquire", "(*internal/sync.Mutex).lockSlow", "internal/sync.runtime_canSpin", "internal/sync.runtime_doSpin", "internal/sync.throw", "internal/sync.runtime_nanotime", "internal/sync.runtime_SemacquireMutex", "sync/atomic.AddInt32", "(*internal/sync.Mutex).Unlock", "internal/race.ReleaseMerge", "(*internal/sync.Mutex).unlockSlow", "internal/sync.fatal", "internal/sync.runtime_Semrelease", "sync/atomic.StoreUint32", "internal/bytealg.IndexByteString", "internal/bytealg.IndexString"], unfollowed := true, recurses := true, named := ["internal/bytealg.MaxLen"], apart := false }
def MachineQuietSaid : Prop := machineQuietRow.holds Tryz.pinned (OpenSpec.ofChange machineQuietSpec)

/-- ITS FALSE NEIGHBOUR: 'it returns false'. Refute it at one input. -/
def machineQuietWrong : ChangeSpec := { name := "machineQuiet", fn := fun _ => fun
  | [d1, d2] => { results := [.lit (.bool false)], args := [d1, d2] }
  | _ => none }
def MachineQuietWrongFalsely : Prop := machineQuietRow.holds Tryz.pinned (OpenSpec.ofChange machineQuietWrong)

/-- 'bellowslaw15.MachineFlushes': WHATEVER THE INPUT: true; the input reads as it did. -/
def machineFlushesSpec : ChangeSpec := { name := "machineFlushes", fn := fun _ => fun
  | [d1, d2, d3] => { results := [.lit (.bool true)], args := [d1, d2, d3] }
  | _ => none }
def machineFlushesRow : OpenClaim := { program := "ytmchcjaomcdbmaagreat", sum := "b1ac766d7015d86213d5bb17bd1ba161999d2de76672215427f781f87d9c1f2f", func := "bellows/bellowslaw15.MachineFlushes", spec := "machineFlushes", inPlace := ["sync/atomic.AddInt64", "sync/atomic.LoadUint32", "(*internal/sync.Mutex).Lock", "internal/race.Disable", "sync/atomic.CompareAndSwapInt32", "internal/race.Enable", "internal/race.Acquire", "(*internal/sync.Mutex).lockSlow", "internal/sync.runtime_canSpin", "internal/sync.runtime_doSpin", "internal/sync.throw", "internal/sync.runtime_nanotime", "internal/sync.runtime_SemacquireMutex", "sync/atomic.AddInt32", "(*internal/sync.Mutex).Unlock", "internal/race.ReleaseMerge", "(*internal/sync.Mutex).unlockSlow", "internal/sync.fatal", "internal/sync.runtime_Semrelease", "sync/atomic.StoreUint32", "internal/bytealg.IndexByteString", "internal/bytealg.IndexString"], unfollowed := true, recurses := true, named := ["internal/bytealg.MaxLen"], apart := false }
def MachineFlushesSaid : Prop := machineFlushesRow.holds Tryz.pinned (OpenSpec.ofChange machineFlushesSpec)

/-- ITS FALSE NEIGHBOUR: 'it returns false'. Refute it at one input. -/
def machineFlushesWrong : ChangeSpec := { name := "machineFlushes", fn := fun _ => fun
  | [d1, d2, d3] => { results := [.lit (.bool false)], args := [d1, d2, d3] }
  | _ => none }
def MachineFlushesWrongFalsely : Prop := machineFlushesRow.holds Tryz.pinned (OpenSpec.ofChange machineFlushesWrong)

/-- 'bellowslaw15.MachineShapes': WHATEVER THE INPUT: true; the input reads as it did. -/
def machineShapesSpec : ChangeSpec := { name := "machineShapes", fn := fun _ => fun
  | [d1, d2, d3] => { results := [.lit (.bool true)], args := [d1, d2, d3] }
  | _ => none }
def machineShapesRow : OpenClaim := { program := "ytmchcjaomcdbmaagreat", sum := "b1ac766d7015d86213d5bb17bd1ba161999d2de76672215427f781f87d9c1f2f", func := "bellows/bellowslaw15.MachineShapes", spec := "machineShapes", inPlace := ["sync/atomic.AddInt64", "sync/atomic.LoadUint32", "(*internal/sync.Mutex).Lock", "internal/race.Disable", "sync/atomic.CompareAndSwapInt32", "internal/race.Enable", "internal/race.Acquire", "(*internal/sync.Mutex).lockSlow", "internal/sync.runtime_canSpin", "internal/sync.runtime_doSpin", "internal/sync.throw", "internal/sync.runtime_nanotime", "internal/sync.runtime_SemacquireMutex", "sync/atomic.AddInt32", "(*internal/sync.Mutex).Unlock", "internal/race.ReleaseMerge", "(*internal/sync.Mutex).unlockSlow", "internal/sync.fatal", "internal/sync.runtime_Semrelease", "sync/atomic.StoreUint32", "internal/bytealg.IndexByteString", "internal/bytealg.IndexString"], unfollowed := true, recurses := true, named := ["internal/bytealg.MaxLen"], apart := false }
def MachineShapesSaid : Prop := machineShapesRow.holds Tryz.pinned (OpenSpec.ofChange machineShapesSpec)

/-- ITS FALSE NEIGHBOUR: 'it returns false'. Refute it at one input. -/
def machineShapesWrong : ChangeSpec := { name := "machineShapes", fn := fun _ => fun
  | [d1, d2, d3] => { results := [.lit (.bool false)], args := [d1, d2, d3] }
  | _ => none }
def MachineShapesWrongFalsely : Prop := machineShapesRow.holds Tryz.pinned (OpenSpec.ofChange machineShapesWrong)

/- THE SECOND FORM. 'bulk': how many values and letters a reading holds, each counted each time it is reached (what is shared counts as often as it is met; a slice's spare places count too). A statement '..UptoSaid' is the law's where the arguments, and the package variables that the reading takes, are together of bulk at most 1048576: NARROWER than '..Said'. Prove '..Said' where nothing that the law and all that it calls make is longer than what came in: it says more and counts as full. Else prove '..UptoSaid'. A law counts once. -/
mutual
def uptoBulk {H : Type} : DataW H → Nat
  | .lit (.string bytes) => bytes.length + 1
  | .lit _ => 1
  | .nil => 1
  | .ptr d => uptoBulk d + 1
  | .slice elems spare => uptoBulkAll elems + uptoBulkAll spare + 1
  | .agg parts => uptoBulkAll parts + 1
  | .iface _ d => uptoBulk d + 1
  | .map entries => uptoBulkEntries entries + 1
  | .held _ => 1
def uptoBulkAll {H : Type} : List (DataW H) → Nat
  | [] => 0
  | d :: r => uptoBulk d + uptoBulkAll r
def uptoBulkEntries {H : Type} : List (Lit × DataW H) → Nat
  | [] => 0
  | x :: r => uptoBulkEntry x + uptoBulkEntries r
def uptoBulkEntry {H : Type} : Lit × DataW H → Nat
  | (.string bytes, d) => bytes.length + uptoBulk d + 1
  | (_, d) => uptoBulk d + 1
 end
def uptoSmall : (H : Type) → List (DataW H) → Bool := fun _ ds => decide (uptoBulkAll ds ≤ 1048576)
def OpenSpec.upto (s : _root_.Go.ChangeSpec) : _root_.Go.OpenSpec := { _root_.Go.OpenSpec.ofChange s with cond := some uptoSmall }

/-- 'bellowslaw09.MesiHands', WHERE WHAT IT READS IS OF BULK AT MOST 1048576: true; the input reads as it did. -/
def mesiHandsUptoRow : OpenClaim := { program := "ytmchcjaomcdbmaagreat", sum := "b1ac766d7015d86213d5bb17bd1ba161999d2de76672215427f781f87d9c1f2f", func := "bellows/bellowslaw09.MesiHands", spec := "mesiHands", inPlace := ["sync/atomic.AddInt64"], unfollowed := true, recurses := true, apart := false, narrowed := true }
def MesiHandsUptoSaid : Prop := mesiHandsUptoRow.holds Tryz.pinned (OpenSpec.upto mesiHandsSpec)

/-- 'bellowslaw09.MesiDrops', WHERE WHAT IT READS IS OF BULK AT MOST 1048576: true; the input reads as it did. -/
def mesiDropsUptoRow : OpenClaim := { program := "ytmchcjaomcdbmaagreat", sum := "b1ac766d7015d86213d5bb17bd1ba161999d2de76672215427f781f87d9c1f2f", func := "bellows/bellowslaw09.MesiDrops", spec := "mesiDrops", inPlace := ["sync/atomic.AddInt64"], unfollowed := true, recurses := true, apart := false, narrowed := true }
def MesiDropsUptoSaid : Prop := mesiDropsUptoRow.holds Tryz.pinned (OpenSpec.upto mesiDropsSpec)

/-- 'bellowslaw09.MesiPlays', WHERE WHAT IT READS IS OF BULK AT MOST 1048576: true; the input reads as it did. -/
def mesiPlaysUptoRow : OpenClaim := { program := "ytmchcjaomcdbmaagreat", sum := "b1ac766d7015d86213d5bb17bd1ba161999d2de76672215427f781f87d9c1f2f", func := "bellows/bellowslaw09.MesiPlays", spec := "mesiPlays", inPlace := ["sync/atomic.AddInt64"], unfollowed := true, recurses := true, apart := false, narrowed := true }
def MesiPlaysUptoSaid : Prop := mesiPlaysUptoRow.holds Tryz.pinned (OpenSpec.upto mesiPlaysSpec)

/-- 'bellowslaw19.PersistMachine', WHERE WHAT IT READS IS OF BULK AT MOST 1048576: true; the input reads as it did. -/
def persistMachineUptoRow : OpenClaim := { program := "ytmchcjaomcdbmaagreat", sum := "b1ac766d7015d86213d5bb17bd1ba161999d2de76672215427f781f87d9c1f2f", func := "bellows/bellowslaw19.PersistMachine", spec := "persistMachine", inPlace := ["sync/atomic.LoadUint32", "(*internal/sync.Mutex).Lock", "internal/race.Disable", "sync/atomic.CompareAndSwapInt32", "internal/race.Enable", "internal/race.Acquire", "(*internal/sync.Mutex).lockSlow", "internal/sync.runtime_canSpin", "internal/sync.runtime_doSpin", "internal/sync.throw", "internal/sync.runtime_nanotime", "internal/sync.runtime_SemacquireMutex", "sync/atomic.AddInt32", "(*internal/sync.Mutex).Unlock", "internal/race.ReleaseMerge", "(*internal/sync.Mutex).unlockSlow", "internal/sync.fatal", "internal/sync.runtime_Semrelease", "sync/atomic.StoreUint32", "internal/bytealg.IndexByteString", "internal/bytealg.IndexString", "sync/atomic.AddInt64"], unfollowed := true, recurses := true, named := ["internal/bytealg.MaxLen"], apart := false, narrowed := true }
def PersistMachineUptoSaid : Prop := persistMachineUptoRow.holds Tryz.pinned (OpenSpec.upto persistMachineSpec)

/-- 'bellowslaw15.MachineAllowed', WHERE WHAT IT READS IS OF BULK AT MOST 1048576: true; the input reads as it did. -/
def machineAllowedUptoRow : OpenClaim := { program := "ytmchcjaomcdbmaagreat", sum := "b1ac766d7015d86213d5bb17bd1ba161999d2de76672215427f781f87d9c1f2f", func := "bellows/bellowslaw15.MachineAllowed", spec := "machineAllowed", inPlace := ["sync/atomic.AddInt64", "sync/atomic.LoadUint32", "(*internal/sync.Mutex).Lock", "internal/race.Disable", "sync/atomic.CompareAndSwapInt32", "internal/race.Enable", "internal/race.Acquire", "(*internal/sync.Mutex).lockSlow", "internal/sync.runtime_canSpin", "internal/sync.runtime_doSpin", "internal/sync.throw", "internal/sync.runtime_nanotime", "internal/sync.runtime_SemacquireMutex", "sync/atomic.AddInt32", "(*internal/sync.Mutex).Unlock", "internal/race.ReleaseMerge", "(*internal/sync.Mutex).unlockSlow", "internal/sync.fatal", "internal/sync.runtime_Semrelease", "sync/atomic.StoreUint32", "internal/bytealg.IndexByteString", "internal/bytealg.IndexString"], unfollowed := true, recurses := true, named := ["internal/bytealg.MaxLen"], apart := false, narrowed := true }
def MachineAllowedUptoSaid : Prop := machineAllowedUptoRow.holds Tryz.pinned (OpenSpec.upto machineAllowedSpec)

/-- 'bellowslaw15.MachineKept', WHERE WHAT IT READS IS OF BULK AT MOST 1048576: true; the input reads as it did. -/
def machineKeptUptoRow : OpenClaim := { program := "ytmchcjaomcdbmaagreat", sum := "b1ac766d7015d86213d5bb17bd1ba161999d2de76672215427f781f87d9c1f2f", func := "bellows/bellowslaw15.MachineKept", spec := "machineKept", inPlace := ["sync/atomic.AddInt64", "sync/atomic.LoadUint32", "(*internal/sync.Mutex).Lock", "internal/race.Disable", "sync/atomic.CompareAndSwapInt32", "internal/race.Enable", "internal/race.Acquire", "(*internal/sync.Mutex).lockSlow", "internal/sync.runtime_canSpin", "internal/sync.runtime_doSpin", "internal/sync.throw", "internal/sync.runtime_nanotime", "internal/sync.runtime_SemacquireMutex", "sync/atomic.AddInt32", "(*internal/sync.Mutex).Unlock", "internal/race.ReleaseMerge", "(*internal/sync.Mutex).unlockSlow", "internal/sync.fatal", "internal/sync.runtime_Semrelease", "sync/atomic.StoreUint32", "internal/bytealg.IndexByteString", "internal/bytealg.IndexString"], unfollowed := true, recurses := true, named := ["internal/bytealg.MaxLen"], apart := false, narrowed := true }
def MachineKeptUptoSaid : Prop := machineKeptUptoRow.holds Tryz.pinned (OpenSpec.upto machineKeptSpec)

/-- 'bellowslaw15.MachineQuiet', WHERE WHAT IT READS IS OF BULK AT MOST 1048576: true; the input reads as it did. -/
def machineQuietUptoRow : OpenClaim := { program := "ytmchcjaomcdbmaagreat", sum := "b1ac766d7015d86213d5bb17bd1ba161999d2de76672215427f781f87d9c1f2f", func := "bellows/bellowslaw15.MachineQuiet", spec := "machineQuiet", inPlace := ["sync/atomic.AddInt64", "sync/atomic.LoadUint32", "(*internal/sync.Mutex).Lock", "internal/race.Disable", "sync/atomic.CompareAndSwapInt32", "internal/race.Enable", "internal/race.Acquire", "(*internal/sync.Mutex).lockSlow", "internal/sync.runtime_canSpin", "internal/sync.runtime_doSpin", "internal/sync.throw", "internal/sync.runtime_nanotime", "internal/sync.runtime_SemacquireMutex", "sync/atomic.AddInt32", "(*internal/sync.Mutex).Unlock", "internal/race.ReleaseMerge", "(*internal/sync.Mutex).unlockSlow", "internal/sync.fatal", "internal/sync.runtime_Semrelease", "sync/atomic.StoreUint32", "internal/bytealg.IndexByteString", "internal/bytealg.IndexString"], unfollowed := true, recurses := true, named := ["internal/bytealg.MaxLen"], apart := false, narrowed := true }
def MachineQuietUptoSaid : Prop := machineQuietUptoRow.holds Tryz.pinned (OpenSpec.upto machineQuietSpec)

/-- 'bellowslaw15.MachineFlushes', WHERE WHAT IT READS IS OF BULK AT MOST 1048576: true; the input reads as it did. -/
def machineFlushesUptoRow : OpenClaim := { program := "ytmchcjaomcdbmaagreat", sum := "b1ac766d7015d86213d5bb17bd1ba161999d2de76672215427f781f87d9c1f2f", func := "bellows/bellowslaw15.MachineFlushes", spec := "machineFlushes", inPlace := ["sync/atomic.AddInt64", "sync/atomic.LoadUint32", "(*internal/sync.Mutex).Lock", "internal/race.Disable", "sync/atomic.CompareAndSwapInt32", "internal/race.Enable", "internal/race.Acquire", "(*internal/sync.Mutex).lockSlow", "internal/sync.runtime_canSpin", "internal/sync.runtime_doSpin", "internal/sync.throw", "internal/sync.runtime_nanotime", "internal/sync.runtime_SemacquireMutex", "sync/atomic.AddInt32", "(*internal/sync.Mutex).Unlock", "internal/race.ReleaseMerge", "(*internal/sync.Mutex).unlockSlow", "internal/sync.fatal", "internal/sync.runtime_Semrelease", "sync/atomic.StoreUint32", "internal/bytealg.IndexByteString", "internal/bytealg.IndexString"], unfollowed := true, recurses := true, named := ["internal/bytealg.MaxLen"], apart := false, narrowed := true }
def MachineFlushesUptoSaid : Prop := machineFlushesUptoRow.holds Tryz.pinned (OpenSpec.upto machineFlushesSpec)

/-- 'bellowslaw15.MachineShapes', WHERE WHAT IT READS IS OF BULK AT MOST 1048576: true; the input reads as it did. -/
def machineShapesUptoRow : OpenClaim := { program := "ytmchcjaomcdbmaagreat", sum := "b1ac766d7015d86213d5bb17bd1ba161999d2de76672215427f781f87d9c1f2f", func := "bellows/bellowslaw15.MachineShapes", spec := "machineShapes", inPlace := ["sync/atomic.AddInt64", "sync/atomic.LoadUint32", "(*internal/sync.Mutex).Lock", "internal/race.Disable", "sync/atomic.CompareAndSwapInt32", "internal/race.Enable", "internal/race.Acquire", "(*internal/sync.Mutex).lockSlow", "internal/sync.runtime_canSpin", "internal/sync.runtime_doSpin", "internal/sync.throw", "internal/sync.runtime_nanotime", "internal/sync.runtime_SemacquireMutex", "sync/atomic.AddInt32", "(*internal/sync.Mutex).Unlock", "internal/race.ReleaseMerge", "(*internal/sync.Mutex).unlockSlow", "internal/sync.fatal", "internal/sync.runtime_Semrelease", "sync/atomic.StoreUint32", "internal/bytealg.IndexByteString", "internal/bytealg.IndexString"], unfollowed := true, recurses := true, named := ["internal/bytealg.MaxLen"], apart := false, narrowed := true }
def MachineShapesUptoSaid : Prop := machineShapesUptoRow.holds Tryz.pinned (OpenSpec.upto machineShapesSpec)

end Rows
end Go.Proofs.YtmchcjaomcdbmaaGreat
