/-
  No cell of these rows narrows 'for every input' (looked for: loops, veiled, ifaces, maps, wideKeys, modest, calm, conditions, laid).
  DERIVED. THE GIVEN ROWS OF THIS SEAT. 6 by the template 'for every input the law returns true; each argument reads behind the call as it read before'; 0 by the template 'total and deterministic' (their statements: YtkdfaijmjmnhjaaGreatTotals.lean).
  GIVEN WITH THE SEED: the statements are not yours to turn. If you find one false, say at which input.
  Laid BY PROGRAM, IN A SANDBOX (cutbox-rows.mjs): the forced cells as the released guide's own fill.sh prints them over the translation 3e9a0b986252ec98… (all of the seat's roots in one cut). By AI agents, Wed Nov 11 2026. No macro, syntax, notation, axiom, sorry.
-/
import Derived.Test.YtkdfaijmjmnhjaaGreatChecked
import GoSem.Claim
import GoSem.ClaimJoined
import GoSem.ClaimMapViews
import Derived.JoinedTies
import Derived.KernelRfl
namespace Go.Proofs.YtkdfaijmjmnhjaaGreat
/- THE CELL 'sum', in the pinned program and in every row, IS THE sha256 OF THE DUMP (.gsa) THAT YtkdfaijmjmnhjaaGreatProg.lean LOADS. Nothing in Lean hashes anything: it is a label: what it is worth is what the hold of that sum in a sandbox is worth. -/
noncomputable def Tryz.pinned : Pinned := { name := "ytkdfaijmjmnhjaagreat", sum := "3e9a0b986252ec9889f25c1bb7cf4e8be3efef6332f7929d0e89a32ee4dec5ef", checked := Tryz.checked }
namespace Rows
def none {H : Type} : Left H := { results := [], args := [] }

/-- 'bellowslaw13.CoreFull': WHATEVER THE INPUT: true; the input reads as it did. -/
def coreFullSpec : ChangeSpec := { name := "coreFull", fn := fun _ => fun
  | [d1, d2] => { results := [.lit (.bool true)], args := [d1, d2] }
  | _ => none }
def coreFullRow : OpenClaim := { program := "ytkdfaijmjmnhjaagreat", sum := "3e9a0b986252ec9889f25c1bb7cf4e8be3efef6332f7929d0e89a32ee4dec5ef", func := "bellows/bellowslaw13.CoreFull", spec := "coreFull", inPlace := ["sync/atomic.LoadUint32", "(*internal/sync.Mutex).Lock", "internal/race.Disable", "sync/atomic.CompareAndSwapInt32", "internal/race.Enable", "internal/race.Acquire", "(*internal/sync.Mutex).lockSlow", "internal/sync.runtime_canSpin", "internal/sync.runtime_doSpin", "internal/sync.throw", "internal/sync.runtime_nanotime", "internal/sync.runtime_SemacquireMutex", "sync/atomic.AddInt32", "(*internal/sync.Mutex).Unlock", "internal/race.ReleaseMerge", "(*internal/sync.Mutex).unlockSlow", "internal/sync.fatal", "internal/sync.runtime_Semrelease", "sync/atomic.StoreUint32", "internal/bytealg.IndexByteString", "internal/bytealg.IndexString", "sync/atomic.AddInt64"], unfollowed := true, recurses := true, named := ["internal/bytealg.MaxLen"], apart := false }
def CoreFullSaid : Prop := coreFullRow.holds Tryz.pinned (OpenSpec.ofChange coreFullSpec)

/-- ITS FALSE NEIGHBOUR: 'it returns false'. Refute it at one input. -/
def coreFullWrong : ChangeSpec := { name := "coreFull", fn := fun _ => fun
  | [d1, d2] => { results := [.lit (.bool false)], args := [d1, d2] }
  | _ => none }
def CoreFullWrongFalsely : Prop := coreFullRow.holds Tryz.pinned (OpenSpec.ofChange coreFullWrong)

/-- 'bellowslaw13.CoreOwn': WHATEVER THE INPUT: true; the input reads as it did. -/
def coreOwnSpec : ChangeSpec := { name := "coreOwn", fn := fun _ => fun
  | [d1, d2] => { results := [.lit (.bool true)], args := [d1, d2] }
  | _ => none }
def coreOwnRow : OpenClaim := { program := "ytkdfaijmjmnhjaagreat", sum := "3e9a0b986252ec9889f25c1bb7cf4e8be3efef6332f7929d0e89a32ee4dec5ef", func := "bellows/bellowslaw13.CoreOwn", spec := "coreOwn", inPlace := ["sync/atomic.LoadUint32", "(*internal/sync.Mutex).Lock", "internal/race.Disable", "sync/atomic.CompareAndSwapInt32", "internal/race.Enable", "internal/race.Acquire", "(*internal/sync.Mutex).lockSlow", "internal/sync.runtime_canSpin", "internal/sync.runtime_doSpin", "internal/sync.throw", "internal/sync.runtime_nanotime", "internal/sync.runtime_SemacquireMutex", "sync/atomic.AddInt32", "(*internal/sync.Mutex).Unlock", "internal/race.ReleaseMerge", "(*internal/sync.Mutex).unlockSlow", "internal/sync.fatal", "internal/sync.runtime_Semrelease", "sync/atomic.StoreUint32", "internal/bytealg.IndexByteString", "internal/bytealg.IndexString", "sync/atomic.AddInt64"], unfollowed := true, recurses := true, named := ["internal/bytealg.MaxLen"], apart := false }
def CoreOwnSaid : Prop := coreOwnRow.holds Tryz.pinned (OpenSpec.ofChange coreOwnSpec)

/-- ITS FALSE NEIGHBOUR: 'it returns false'. Refute it at one input. -/
def coreOwnWrong : ChangeSpec := { name := "coreOwn", fn := fun _ => fun
  | [d1, d2] => { results := [.lit (.bool false)], args := [d1, d2] }
  | _ => none }
def CoreOwnWrongFalsely : Prop := coreOwnRow.holds Tryz.pinned (OpenSpec.ofChange coreOwnWrong)

/-- 'bellowslaw13.CoreFences': WHATEVER THE INPUT: true; the input reads as it did. -/
def coreFencesSpec : ChangeSpec := { name := "coreFences", fn := fun _ => fun
  | [d1, d2] => { results := [.lit (.bool true)], args := [d1, d2] }
  | _ => none }
def coreFencesRow : OpenClaim := { program := "ytkdfaijmjmnhjaagreat", sum := "3e9a0b986252ec9889f25c1bb7cf4e8be3efef6332f7929d0e89a32ee4dec5ef", func := "bellows/bellowslaw13.CoreFences", spec := "coreFences", inPlace := ["sync/atomic.LoadUint32", "(*internal/sync.Mutex).Lock", "internal/race.Disable", "sync/atomic.CompareAndSwapInt32", "internal/race.Enable", "internal/race.Acquire", "(*internal/sync.Mutex).lockSlow", "internal/sync.runtime_canSpin", "internal/sync.runtime_doSpin", "internal/sync.throw", "internal/sync.runtime_nanotime", "internal/sync.runtime_SemacquireMutex", "sync/atomic.AddInt32", "(*internal/sync.Mutex).Unlock", "internal/race.ReleaseMerge", "(*internal/sync.Mutex).unlockSlow", "internal/sync.fatal", "internal/sync.runtime_Semrelease", "sync/atomic.StoreUint32", "internal/bytealg.IndexByteString", "internal/bytealg.IndexString", "sync/atomic.AddInt64"], unfollowed := true, recurses := true, named := ["internal/bytealg.MaxLen"], apart := false }
def CoreFencesSaid : Prop := coreFencesRow.holds Tryz.pinned (OpenSpec.ofChange coreFencesSpec)

/-- ITS FALSE NEIGHBOUR: 'it returns false'. Refute it at one input. -/
def coreFencesWrong : ChangeSpec := { name := "coreFences", fn := fun _ => fun
  | [d1, d2] => { results := [.lit (.bool false)], args := [d1, d2] }
  | _ => none }
def CoreFencesWrongFalsely : Prop := coreFencesRow.holds Tryz.pinned (OpenSpec.ofChange coreFencesWrong)

/-- 'bellowslaw13.CoreLoops': WHATEVER THE INPUT: true; the input reads as it did. -/
def coreLoopsSpec : ChangeSpec := { name := "coreLoops", fn := fun _ => fun
  | [d] => { results := [.lit (.bool true)], args := [d] }
  | _ => none }
def coreLoopsRow : OpenClaim := { program := "ytkdfaijmjmnhjaagreat", sum := "3e9a0b986252ec9889f25c1bb7cf4e8be3efef6332f7929d0e89a32ee4dec5ef", func := "bellows/bellowslaw13.CoreLoops", spec := "coreLoops", inPlace := ["sync/atomic.LoadUint32", "(*internal/sync.Mutex).Lock", "internal/race.Disable", "sync/atomic.CompareAndSwapInt32", "internal/race.Enable", "internal/race.Acquire", "(*internal/sync.Mutex).lockSlow", "internal/sync.runtime_canSpin", "internal/sync.runtime_doSpin", "internal/sync.throw", "internal/sync.runtime_nanotime", "internal/sync.runtime_SemacquireMutex", "sync/atomic.AddInt32", "(*internal/sync.Mutex).Unlock", "internal/race.ReleaseMerge", "(*internal/sync.Mutex).unlockSlow", "internal/sync.fatal", "internal/sync.runtime_Semrelease", "sync/atomic.StoreUint32", "internal/bytealg.IndexByteString", "internal/bytealg.IndexString", "sync/atomic.AddInt64"], unfollowed := true, recurses := true, named := ["internal/bytealg.MaxLen"], apart := false }
def CoreLoopsSaid : Prop := coreLoopsRow.holds Tryz.pinned (OpenSpec.ofChange coreLoopsSpec)

/-- ITS FALSE NEIGHBOUR: 'it returns false'. Refute it at one input. -/
def coreLoopsWrong : ChangeSpec := { name := "coreLoops", fn := fun _ => fun
  | [d] => { results := [.lit (.bool false)], args := [d] }
  | _ => none }
def CoreLoopsWrongFalsely : Prop := coreLoopsRow.holds Tryz.pinned (OpenSpec.ofChange coreLoopsWrong)

/-- 'bellowslaw13.CoreLocks': WHATEVER THE INPUT: true; the input reads as it did. -/
def coreLocksSpec : ChangeSpec := { name := "coreLocks", fn := fun _ => fun
  | [d1, d2, d3] => { results := [.lit (.bool true)], args := [d1, d2, d3] }
  | _ => none }
def coreLocksRow : OpenClaim := { program := "ytkdfaijmjmnhjaagreat", sum := "3e9a0b986252ec9889f25c1bb7cf4e8be3efef6332f7929d0e89a32ee4dec5ef", func := "bellows/bellowslaw13.CoreLocks", spec := "coreLocks", inPlace := ["sync/atomic.LoadUint32", "(*internal/sync.Mutex).Lock", "internal/race.Disable", "sync/atomic.CompareAndSwapInt32", "internal/race.Enable", "internal/race.Acquire", "(*internal/sync.Mutex).lockSlow", "internal/sync.runtime_canSpin", "internal/sync.runtime_doSpin", "internal/sync.throw", "internal/sync.runtime_nanotime", "internal/sync.runtime_SemacquireMutex", "sync/atomic.AddInt32", "(*internal/sync.Mutex).Unlock", "internal/race.ReleaseMerge", "(*internal/sync.Mutex).unlockSlow", "internal/sync.fatal", "internal/sync.runtime_Semrelease", "sync/atomic.StoreUint32", "internal/bytealg.IndexByteString", "internal/bytealg.IndexString", "sync/atomic.AddInt64"], unfollowed := true, recurses := true, named := ["internal/bytealg.MaxLen"], apart := false }
def CoreLocksSaid : Prop := coreLocksRow.holds Tryz.pinned (OpenSpec.ofChange coreLocksSpec)

/-- ITS FALSE NEIGHBOUR: 'it returns false'. Refute it at one input. -/
def coreLocksWrong : ChangeSpec := { name := "coreLocks", fn := fun _ => fun
  | [d1, d2, d3] => { results := [.lit (.bool false)], args := [d1, d2, d3] }
  | _ => none }
def CoreLocksWrongFalsely : Prop := coreLocksRow.holds Tryz.pinned (OpenSpec.ofChange coreLocksWrong)

/-- 'bellowslaw13.CoreTraps': WHATEVER THE INPUT: true; the input reads as it did. -/
def coreTrapsSpec : ChangeSpec := { name := "coreTraps", fn := fun _ => fun
  | [d1, d2, d3] => { results := [.lit (.bool true)], args := [d1, d2, d3] }
  | _ => none }
def coreTrapsRow : OpenClaim := { program := "ytkdfaijmjmnhjaagreat", sum := "3e9a0b986252ec9889f25c1bb7cf4e8be3efef6332f7929d0e89a32ee4dec5ef", func := "bellows/bellowslaw13.CoreTraps", spec := "coreTraps", inPlace := ["sync/atomic.LoadUint32", "(*internal/sync.Mutex).Lock", "internal/race.Disable", "sync/atomic.CompareAndSwapInt32", "internal/race.Enable", "internal/race.Acquire", "(*internal/sync.Mutex).lockSlow", "internal/sync.runtime_canSpin", "internal/sync.runtime_doSpin", "internal/sync.throw", "internal/sync.runtime_nanotime", "internal/sync.runtime_SemacquireMutex", "sync/atomic.AddInt32", "(*internal/sync.Mutex).Unlock", "internal/race.ReleaseMerge", "(*internal/sync.Mutex).unlockSlow", "internal/sync.fatal", "internal/sync.runtime_Semrelease", "sync/atomic.StoreUint32", "internal/bytealg.IndexByteString", "internal/bytealg.IndexString", "sync/atomic.AddInt64"], unfollowed := true, recurses := true, named := ["internal/bytealg.MaxLen"], apart := false }
def CoreTrapsSaid : Prop := coreTrapsRow.holds Tryz.pinned (OpenSpec.ofChange coreTrapsSpec)

/-- ITS FALSE NEIGHBOUR: 'it returns false'. Refute it at one input. -/
def coreTrapsWrong : ChangeSpec := { name := "coreTraps", fn := fun _ => fun
  | [d1, d2, d3] => { results := [.lit (.bool false)], args := [d1, d2, d3] }
  | _ => none }
def CoreTrapsWrongFalsely : Prop := coreTrapsRow.holds Tryz.pinned (OpenSpec.ofChange coreTrapsWrong)

/- THE SECOND FORM. 'bulk': how many values and letters a reading holds, each counted each time it is reached (what is shared counts as often as it is met; a slice's spare places count too). A statement '..UptoSaid' is the law's where the arguments, and the package variables that the reading takes, are together of bulk at most 1048576: NARROWER than '..Said'. Prove '..Said' where nothing that the law and all that it calls make is longer than what came in: it says more and counts as full. Else prove '..UptoSaid'. A law counts once. -/
mutual
def uptoBulk {H : Type} : DataW H → Nat
  | .lit (.string bytes) => bytes.length + 1
  | .lit _ => 1
  | .nil => 1
  | .ptr d => uptoBulk d + 1
  | .slice elems spare => uptoBulkAll elems + uptoBulkAll spare + 1
  | .agg parts => uptoBulkAll parts + 1
  | .iface _ d => uptoBulk d + 1
  | .map entries => uptoBulkEntries entries + 1
  | .held _ => 1
def uptoBulkAll {H : Type} : List (DataW H) → Nat
  | [] => 0
  | d :: r => uptoBulk d + uptoBulkAll r
def uptoBulkEntries {H : Type} : List (Lit × DataW H) → Nat
  | [] => 0
  | x :: r => uptoBulkEntry x + uptoBulkEntries r
def uptoBulkEntry {H : Type} : Lit × DataW H → Nat
  | (.string bytes, d) => bytes.length + uptoBulk d + 1
  | (_, d) => uptoBulk d + 1
 end
def uptoSmall : (H : Type) → List (DataW H) → Bool := fun _ ds => decide (uptoBulkAll ds ≤ 1048576)
def OpenSpec.upto (s : _root_.Go.ChangeSpec) : _root_.Go.OpenSpec := { _root_.Go.OpenSpec.ofChange s with cond := some uptoSmall }

/-- 'bellowslaw13.CoreFull', WHERE WHAT IT READS IS OF BULK AT MOST 1048576: true; the input reads as it did. -/
def coreFullUptoRow : OpenClaim := { program := "ytkdfaijmjmnhjaagreat", sum := "3e9a0b986252ec9889f25c1bb7cf4e8be3efef6332f7929d0e89a32ee4dec5ef", func := "bellows/bellowslaw13.CoreFull", spec := "coreFull", inPlace := ["sync/atomic.LoadUint32", "(*internal/sync.Mutex).Lock", "internal/race.Disable", "sync/atomic.CompareAndSwapInt32", "internal/race.Enable", "internal/race.Acquire", "(*internal/sync.Mutex).lockSlow", "internal/sync.runtime_canSpin", "internal/sync.runtime_doSpin", "internal/sync.throw", "internal/sync.runtime_nanotime", "internal/sync.runtime_SemacquireMutex", "sync/atomic.AddInt32", "(*internal/sync.Mutex).Unlock", "internal/race.ReleaseMerge", "(*internal/sync.Mutex).unlockSlow", "internal/sync.fatal", "internal/sync.runtime_Semrelease", "sync/atomic.StoreUint32", "internal/bytealg.IndexByteString", "internal/bytealg.IndexString", "sync/atomic.AddInt64"], unfollowed := true, recurses := true, named := ["internal/bytealg.MaxLen"], apart := false, narrowed := true }
def CoreFullUptoSaid : Prop := coreFullUptoRow.holds Tryz.pinned (OpenSpec.upto coreFullSpec)

/-- 'bellowslaw13.CoreOwn', WHERE WHAT IT READS IS OF BULK AT MOST 1048576: true; the input reads as it did. -/
def coreOwnUptoRow : OpenClaim := { program := "ytkdfaijmjmnhjaagreat", sum := "3e9a0b986252ec9889f25c1bb7cf4e8be3efef6332f7929d0e89a32ee4dec5ef", func := "bellows/bellowslaw13.CoreOwn", spec := "coreOwn", inPlace := ["sync/atomic.LoadUint32", "(*internal/sync.Mutex).Lock", "internal/race.Disable", "sync/atomic.CompareAndSwapInt32", "internal/race.Enable", "internal/race.Acquire", "(*internal/sync.Mutex).lockSlow", "internal/sync.runtime_canSpin", "internal/sync.runtime_doSpin", "internal/sync.throw", "internal/sync.runtime_nanotime", "internal/sync.runtime_SemacquireMutex", "sync/atomic.AddInt32", "(*internal/sync.Mutex).Unlock", "internal/race.ReleaseMerge", "(*internal/sync.Mutex).unlockSlow", "internal/sync.fatal", "internal/sync.runtime_Semrelease", "sync/atomic.StoreUint32", "internal/bytealg.IndexByteString", "internal/bytealg.IndexString", "sync/atomic.AddInt64"], unfollowed := true, recurses := true, named := ["internal/bytealg.MaxLen"], apart := false, narrowed := true }
def CoreOwnUptoSaid : Prop := coreOwnUptoRow.holds Tryz.pinned (OpenSpec.upto coreOwnSpec)

/-- 'bellowslaw13.CoreFences', WHERE WHAT IT READS IS OF BULK AT MOST 1048576: true; the input reads as it did. -/
def coreFencesUptoRow : OpenClaim := { program := "ytkdfaijmjmnhjaagreat", sum := "3e9a0b986252ec9889f25c1bb7cf4e8be3efef6332f7929d0e89a32ee4dec5ef", func := "bellows/bellowslaw13.CoreFences", spec := "coreFences", inPlace := ["sync/atomic.LoadUint32", "(*internal/sync.Mutex).Lock", "internal/race.Disable", "sync/atomic.CompareAndSwapInt32", "internal/race.Enable", "internal/race.Acquire", "(*internal/sync.Mutex).lockSlow", "internal/sync.runtime_canSpin", "internal/sync.runtime_doSpin", "internal/sync.throw", "internal/sync.runtime_nanotime", "internal/sync.runtime_SemacquireMutex", "sync/atomic.AddInt32", "(*internal/sync.Mutex).Unlock", "internal/race.ReleaseMerge", "(*internal/sync.Mutex).unlockSlow", "internal/sync.fatal", "internal/sync.runtime_Semrelease", "sync/atomic.StoreUint32", "internal/bytealg.IndexByteString", "internal/bytealg.IndexString", "sync/atomic.AddInt64"], unfollowed := true, recurses := true, named := ["internal/bytealg.MaxLen"], apart := false, narrowed := true }
def CoreFencesUptoSaid : Prop := coreFencesUptoRow.holds Tryz.pinned (OpenSpec.upto coreFencesSpec)

/-- 'bellowslaw13.CoreLoops', WHERE WHAT IT READS IS OF BULK AT MOST 1048576: true; the input reads as it did. -/
def coreLoopsUptoRow : OpenClaim := { program := "ytkdfaijmjmnhjaagreat", sum := "3e9a0b986252ec9889f25c1bb7cf4e8be3efef6332f7929d0e89a32ee4dec5ef", func := "bellows/bellowslaw13.CoreLoops", spec := "coreLoops", inPlace := ["sync/atomic.LoadUint32", "(*internal/sync.Mutex).Lock", "internal/race.Disable", "sync/atomic.CompareAndSwapInt32", "internal/race.Enable", "internal/race.Acquire", "(*internal/sync.Mutex).lockSlow", "internal/sync.runtime_canSpin", "internal/sync.runtime_doSpin", "internal/sync.throw", "internal/sync.runtime_nanotime", "internal/sync.runtime_SemacquireMutex", "sync/atomic.AddInt32", "(*internal/sync.Mutex).Unlock", "internal/race.ReleaseMerge", "(*internal/sync.Mutex).unlockSlow", "internal/sync.fatal", "internal/sync.runtime_Semrelease", "sync/atomic.StoreUint32", "internal/bytealg.IndexByteString", "internal/bytealg.IndexString", "sync/atomic.AddInt64"], unfollowed := true, recurses := true, named := ["internal/bytealg.MaxLen"], apart := false, narrowed := true }
def CoreLoopsUptoSaid : Prop := coreLoopsUptoRow.holds Tryz.pinned (OpenSpec.upto coreLoopsSpec)

/-- 'bellowslaw13.CoreLocks', WHERE WHAT IT READS IS OF BULK AT MOST 1048576: true; the input reads as it did. -/
def coreLocksUptoRow : OpenClaim := { program := "ytkdfaijmjmnhjaagreat", sum := "3e9a0b986252ec9889f25c1bb7cf4e8be3efef6332f7929d0e89a32ee4dec5ef", func := "bellows/bellowslaw13.CoreLocks", spec := "coreLocks", inPlace := ["sync/atomic.LoadUint32", "(*internal/sync.Mutex).Lock", "internal/race.Disable", "sync/atomic.CompareAndSwapInt32", "internal/race.Enable", "internal/race.Acquire", "(*internal/sync.Mutex).lockSlow", "internal/sync.runtime_canSpin", "internal/sync.runtime_doSpin", "internal/sync.throw", "internal/sync.runtime_nanotime", "internal/sync.runtime_SemacquireMutex", "sync/atomic.AddInt32", "(*internal/sync.Mutex).Unlock", "internal/race.ReleaseMerge", "(*internal/sync.Mutex).unlockSlow", "internal/sync.fatal", "internal/sync.runtime_Semrelease", "sync/atomic.StoreUint32", "internal/bytealg.IndexByteString", "internal/bytealg.IndexString", "sync/atomic.AddInt64"], unfollowed := true, recurses := true, named := ["internal/bytealg.MaxLen"], apart := false, narrowed := true }
def CoreLocksUptoSaid : Prop := coreLocksUptoRow.holds Tryz.pinned (OpenSpec.upto coreLocksSpec)

/-- 'bellowslaw13.CoreTraps', WHERE WHAT IT READS IS OF BULK AT MOST 1048576: true; the input reads as it did. -/
def coreTrapsUptoRow : OpenClaim := { program := "ytkdfaijmjmnhjaagreat", sum := "3e9a0b986252ec9889f25c1bb7cf4e8be3efef6332f7929d0e89a32ee4dec5ef", func := "bellows/bellowslaw13.CoreTraps", spec := "coreTraps", inPlace := ["sync/atomic.LoadUint32", "(*internal/sync.Mutex).Lock", "internal/race.Disable", "sync/atomic.CompareAndSwapInt32", "internal/race.Enable", "internal/race.Acquire", "(*internal/sync.Mutex).lockSlow", "internal/sync.runtime_canSpin", "internal/sync.runtime_doSpin", "internal/sync.throw", "internal/sync.runtime_nanotime", "internal/sync.runtime_SemacquireMutex", "sync/atomic.AddInt32", "(*internal/sync.Mutex).Unlock", "internal/race.ReleaseMerge", "(*internal/sync.Mutex).unlockSlow", "internal/sync.fatal", "internal/sync.runtime_Semrelease", "sync/atomic.StoreUint32", "internal/bytealg.IndexByteString", "internal/bytealg.IndexString", "sync/atomic.AddInt64"], unfollowed := true, recurses := true, named := ["internal/bytealg.MaxLen"], apart := false, narrowed := true }
def CoreTrapsUptoSaid : Prop := coreTrapsUptoRow.holds Tryz.pinned (OpenSpec.upto coreTrapsSpec)

end Rows
end Go.Proofs.YtkdfaijmjmnhjaaGreat
