/-
  No cell of these rows narrows 'for every input' (looked for: loops, veiled, ifaces, maps, wideKeys, modest, calm, conditions, laid).
  DERIVED. THE GIVEN ROWS OF THIS SEAT. 6 by the template 'for every input the law returns true; each argument reads behind the call as it read before'; 0 by the template 'total and deterministic' (their statements: YtldlimkjhppjbaaTotals.lean).
  GIVEN WITH THE SEED: the statements are not yours to turn. If you find one false, say at which input.
  Laid BY PROGRAM, IN A SANDBOX (cutbox-rows.mjs): the forced cells as the released guide's own fill.sh prints them over the translation df6cbebb79540100… (all of the seat's roots in one cut). By AI agents, Wed Nov 11 2026. No macro, syntax, notation, axiom, sorry.
-/
import Derived.Test.YtldlimkjhppjbaaChecked
import GoSem.Claim
import GoSem.ClaimJoined
import GoSem.ClaimMapViews
import Derived.JoinedTies
import Derived.KernelRfl
namespace Go.Proofs.Ytldlimkjhppjbaa
/- THE CELL 'sum', in the pinned program and in every row, IS THE sha256 OF THE DUMP (.gsa) THAT YtldlimkjhppjbaaProg.lean LOADS. Nothing in Lean hashes anything: it is a label: what it is worth is what the hold of that sum in a sandbox is worth. -/
noncomputable def Try.pinned : Pinned := { name := "ytldlimkjhppjbaa", sum := "df6cbebb795401001e752307d75629fb55b387ef32dfcfa409457216e84ccb96", checked := Try.checked }
namespace Rows
def none {H : Type} : Left H := { results := [], args := [] }

/-- 'bellowslaw23.LockCode': WHATEVER THE INPUT: true; the input reads as it did. -/
def lockCodeSpec : ChangeSpec := { name := "lockCode", fn := fun _ => fun
  | [d1, d2] => { results := [.lit (.bool true)], args := [d1, d2] }
  | _ => none }
def lockCodeRow : OpenClaim := { program := "ytldlimkjhppjbaa", sum := "df6cbebb795401001e752307d75629fb55b387ef32dfcfa409457216e84ccb96", func := "bellows/bellowslaw23.LockCode", spec := "lockCode", inPlace := ["sync/atomic.LoadUint32", "(*internal/sync.Mutex).Lock", "internal/race.Disable", "sync/atomic.CompareAndSwapInt32", "internal/race.Enable", "internal/race.Acquire", "(*internal/sync.Mutex).lockSlow", "internal/sync.runtime_canSpin", "internal/sync.runtime_doSpin", "internal/sync.throw", "internal/sync.runtime_nanotime", "internal/sync.runtime_SemacquireMutex", "sync/atomic.AddInt32", "(*internal/sync.Mutex).Unlock", "internal/race.ReleaseMerge", "(*internal/sync.Mutex).unlockSlow", "internal/sync.fatal", "internal/sync.runtime_Semrelease", "sync/atomic.StoreUint32", "internal/bytealg.IndexByteString", "internal/bytealg.IndexString"], unfollowed := true, recurses := true, named := ["internal/bytealg.MaxLen"], apart := false }
def LockCodeSaid : Prop := lockCodeRow.holds Try.pinned (OpenSpec.ofChange lockCodeSpec)

/-- ITS FALSE NEIGHBOUR: 'it returns false'. Refute it at one input. -/
def lockCodeWrong : ChangeSpec := { name := "lockCode", fn := fun _ => fun
  | [d1, d2] => { results := [.lit (.bool false)], args := [d1, d2] }
  | _ => none }
def LockCodeWrongFalsely : Prop := lockCodeRow.holds Try.pinned (OpenSpec.ofChange lockCodeWrong)

/-- 'bellowslaw28.SerialReads': WHATEVER THE INPUT: true; the input reads as it did. -/
def serialReadsSpec : ChangeSpec := { name := "serialReads", fn := fun _ => fun
  | [d1, d2, d3] => { results := [.lit (.bool true)], args := [d1, d2, d3] }
  | _ => none }
def serialReadsRow : OpenClaim := { program := "ytldlimkjhppjbaa", sum := "df6cbebb795401001e752307d75629fb55b387ef32dfcfa409457216e84ccb96", func := "bellows/bellowslaw28.SerialReads", spec := "serialReads", inPlace := ["sync/atomic.LoadUint32", "(*internal/sync.Mutex).Lock", "internal/race.Disable", "sync/atomic.CompareAndSwapInt32", "internal/race.Enable", "internal/race.Acquire", "(*internal/sync.Mutex).lockSlow", "internal/sync.runtime_canSpin", "internal/sync.runtime_doSpin", "internal/sync.throw", "internal/sync.runtime_nanotime", "internal/sync.runtime_SemacquireMutex", "sync/atomic.AddInt32", "(*internal/sync.Mutex).Unlock", "internal/race.ReleaseMerge", "(*internal/sync.Mutex).unlockSlow", "internal/sync.fatal", "internal/sync.runtime_Semrelease", "sync/atomic.StoreUint32"], unfollowed := true, recurses := true, apart := false }
def SerialReadsSaid : Prop := serialReadsRow.holds Try.pinned (OpenSpec.ofChange serialReadsSpec)

/-- ITS FALSE NEIGHBOUR: 'it returns false'. Refute it at one input. -/
def serialReadsWrong : ChangeSpec := { name := "serialReads", fn := fun _ => fun
  | [d1, d2, d3] => { results := [.lit (.bool false)], args := [d1, d2, d3] }
  | _ => none }
def SerialReadsWrongFalsely : Prop := serialReadsRow.holds Try.pinned (OpenSpec.ofChange serialReadsWrong)

/-- 'bellowslaw28.SerialChecks': WHATEVER THE INPUT: true; the input reads as it did. -/
def serialChecksSpec : ChangeSpec := { name := "serialChecks", fn := fun _ => fun
  | [d1, d2] => { results := [.lit (.bool true)], args := [d1, d2] }
  | _ => none }
def serialChecksRow : OpenClaim := { program := "ytldlimkjhppjbaa", sum := "df6cbebb795401001e752307d75629fb55b387ef32dfcfa409457216e84ccb96", func := "bellows/bellowslaw28.SerialChecks", spec := "serialChecks", inPlace := ["sync/atomic.LoadUint32", "(*internal/sync.Mutex).Lock", "internal/race.Disable", "sync/atomic.CompareAndSwapInt32", "internal/race.Enable", "internal/race.Acquire", "(*internal/sync.Mutex).lockSlow", "internal/sync.runtime_canSpin", "internal/sync.runtime_doSpin", "internal/sync.throw", "internal/sync.runtime_nanotime", "internal/sync.runtime_SemacquireMutex", "sync/atomic.AddInt32", "(*internal/sync.Mutex).Unlock", "internal/race.ReleaseMerge", "(*internal/sync.Mutex).unlockSlow", "internal/sync.fatal", "internal/sync.runtime_Semrelease", "sync/atomic.StoreUint32"], unfollowed := true, recurses := true, apart := false }
def SerialChecksSaid : Prop := serialChecksRow.holds Try.pinned (OpenSpec.ofChange serialChecksSpec)

/-- ITS FALSE NEIGHBOUR: 'it returns false'. Refute it at one input. -/
def serialChecksWrong : ChangeSpec := { name := "serialChecks", fn := fun _ => fun
  | [d1, d2] => { results := [.lit (.bool false)], args := [d1, d2] }
  | _ => none }
def SerialChecksWrongFalsely : Prop := serialChecksRow.holds Try.pinned (OpenSpec.ofChange serialChecksWrong)

/-- 'bellowslaw28.SerialBegins': WHATEVER THE INPUT: true; the input reads as it did. -/
def serialBeginsSpec : ChangeSpec := { name := "serialBegins", fn := fun _ => fun
  | [d1, d2, d3] => { results := [.lit (.bool true)], args := [d1, d2, d3] }
  | _ => none }
def serialBeginsRow : OpenClaim := { program := "ytldlimkjhppjbaa", sum := "df6cbebb795401001e752307d75629fb55b387ef32dfcfa409457216e84ccb96", func := "bellows/bellowslaw28.SerialBegins", spec := "serialBegins", inPlace := ["sync/atomic.LoadUint32", "(*internal/sync.Mutex).Lock", "internal/race.Disable", "sync/atomic.CompareAndSwapInt32", "internal/race.Enable", "internal/race.Acquire", "(*internal/sync.Mutex).lockSlow", "internal/sync.runtime_canSpin", "internal/sync.runtime_doSpin", "internal/sync.throw", "internal/sync.runtime_nanotime", "internal/sync.runtime_SemacquireMutex", "sync/atomic.AddInt32", "(*internal/sync.Mutex).Unlock", "internal/race.ReleaseMerge", "(*internal/sync.Mutex).unlockSlow", "internal/sync.fatal", "internal/sync.runtime_Semrelease", "sync/atomic.StoreUint32"], unfollowed := true, recurses := true, apart := false }
def SerialBeginsSaid : Prop := serialBeginsRow.holds Try.pinned (OpenSpec.ofChange serialBeginsSpec)

/-- ITS FALSE NEIGHBOUR: 'it returns false'. Refute it at one input. -/
def serialBeginsWrong : ChangeSpec := { name := "serialBegins", fn := fun _ => fun
  | [d1, d2, d3] => { results := [.lit (.bool false)], args := [d1, d2, d3] }
  | _ => none }
def SerialBeginsWrongFalsely : Prop := serialBeginsRow.holds Try.pinned (OpenSpec.ofChange serialBeginsWrong)

/-- 'bellowslaw29.CrashTells': WHATEVER THE INPUT: true; the input reads as it did. -/
def crashTellsSpec : ChangeSpec := { name := "crashTells", fn := fun _ => fun
  | [d1, d2, d3] => { results := [.lit (.bool true)], args := [d1, d2, d3] }
  | _ => none }
def crashTellsRow : OpenClaim := { program := "ytldlimkjhppjbaa", sum := "df6cbebb795401001e752307d75629fb55b387ef32dfcfa409457216e84ccb96", func := "bellows/bellowslaw29.CrashTells", spec := "crashTells", inPlace := ["sync/atomic.LoadUint32", "(*internal/sync.Mutex).Lock", "internal/race.Disable", "sync/atomic.CompareAndSwapInt32", "internal/race.Enable", "internal/race.Acquire", "(*internal/sync.Mutex).lockSlow", "internal/sync.runtime_canSpin", "internal/sync.runtime_doSpin", "internal/sync.throw", "internal/sync.runtime_nanotime", "internal/sync.runtime_SemacquireMutex", "sync/atomic.AddInt32", "(*internal/sync.Mutex).Unlock", "internal/race.ReleaseMerge", "(*internal/sync.Mutex).unlockSlow", "internal/sync.fatal", "internal/sync.runtime_Semrelease", "sync/atomic.StoreUint32"], unfollowed := true, recurses := true, apart := false }
def CrashTellsSaid : Prop := crashTellsRow.holds Try.pinned (OpenSpec.ofChange crashTellsSpec)

/-- ITS FALSE NEIGHBOUR: 'it returns false'. Refute it at one input. -/
def crashTellsWrong : ChangeSpec := { name := "crashTells", fn := fun _ => fun
  | [d1, d2, d3] => { results := [.lit (.bool false)], args := [d1, d2, d3] }
  | _ => none }
def CrashTellsWrongFalsely : Prop := crashTellsRow.holds Try.pinned (OpenSpec.ofChange crashTellsWrong)

/-- 'bellowslaw29.CrashGrows': WHATEVER THE INPUT: true; the input reads as it did. -/
def crashGrowsSpec : ChangeSpec := { name := "crashGrows", fn := fun _ => fun
  | [d1, d2, d3] => { results := [.lit (.bool true)], args := [d1, d2, d3] }
  | _ => none }
def crashGrowsRow : OpenClaim := { program := "ytldlimkjhppjbaa", sum := "df6cbebb795401001e752307d75629fb55b387ef32dfcfa409457216e84ccb96", func := "bellows/bellowslaw29.CrashGrows", spec := "crashGrows", inPlace := ["sync/atomic.LoadUint32", "(*internal/sync.Mutex).Lock", "internal/race.Disable", "sync/atomic.CompareAndSwapInt32", "internal/race.Enable", "internal/race.Acquire", "(*internal/sync.Mutex).lockSlow", "internal/sync.runtime_canSpin", "internal/sync.runtime_doSpin", "internal/sync.throw", "internal/sync.runtime_nanotime", "internal/sync.runtime_SemacquireMutex", "sync/atomic.AddInt32", "(*internal/sync.Mutex).Unlock", "internal/race.ReleaseMerge", "(*internal/sync.Mutex).unlockSlow", "internal/sync.fatal", "internal/sync.runtime_Semrelease", "sync/atomic.StoreUint32"], unfollowed := true, recurses := true, apart := false }
def CrashGrowsSaid : Prop := crashGrowsRow.holds Try.pinned (OpenSpec.ofChange crashGrowsSpec)

/-- ITS FALSE NEIGHBOUR: 'it returns false'. Refute it at one input. -/
def crashGrowsWrong : ChangeSpec := { name := "crashGrows", fn := fun _ => fun
  | [d1, d2, d3] => { results := [.lit (.bool false)], args := [d1, d2, d3] }
  | _ => none }
def CrashGrowsWrongFalsely : Prop := crashGrowsRow.holds Try.pinned (OpenSpec.ofChange crashGrowsWrong)

/- THE SECOND FORM. 'bulk': how many values and letters a reading holds, each counted each time it is reached (what is shared counts as often as it is met; a slice's spare places count too). A statement '..UptoSaid' is the law's where the arguments, and the package variables that the reading takes, are together of bulk at most 1048576: NARROWER than '..Said'. Prove '..Said' where nothing that the law and all that it calls make is longer than what came in: it says more and counts as full. Else prove '..UptoSaid'. A law counts once. -/
mutual
def uptoBulk {H : Type} : DataW H → Nat
  | .lit (.string bytes) => bytes.length + 1
  | .lit _ => 1
  | .nil => 1
  | .ptr d => uptoBulk d + 1
  | .slice elems spare => uptoBulkAll elems + uptoBulkAll spare + 1
  | .agg parts => uptoBulkAll parts + 1
  | .iface _ d => uptoBulk d + 1
  | .map entries => uptoBulkEntries entries + 1
  | .held _ => 1
def uptoBulkAll {H : Type} : List (DataW H) → Nat
  | [] => 0
  | d :: r => uptoBulk d + uptoBulkAll r
def uptoBulkEntries {H : Type} : List (Lit × DataW H) → Nat
  | [] => 0
  | x :: r => uptoBulkEntry x + uptoBulkEntries r
def uptoBulkEntry {H : Type} : Lit × DataW H → Nat
  | (.string bytes, d) => bytes.length + uptoBulk d + 1
  | (_, d) => uptoBulk d + 1
 end
def uptoSmall : (H : Type) → List (DataW H) → Bool := fun _ ds => decide (uptoBulkAll ds ≤ 1048576)
def OpenSpec.upto (s : _root_.Go.ChangeSpec) : _root_.Go.OpenSpec := { _root_.Go.OpenSpec.ofChange s with cond := some uptoSmall }

/-- 'bellowslaw23.LockCode', WHERE WHAT IT READS IS OF BULK AT MOST 1048576: true; the input reads as it did. -/
def lockCodeUptoRow : OpenClaim := { program := "ytldlimkjhppjbaa", sum := "df6cbebb795401001e752307d75629fb55b387ef32dfcfa409457216e84ccb96", func := "bellows/bellowslaw23.LockCode", spec := "lockCode", inPlace := ["sync/atomic.LoadUint32", "(*internal/sync.Mutex).Lock", "internal/race.Disable", "sync/atomic.CompareAndSwapInt32", "internal/race.Enable", "internal/race.Acquire", "(*internal/sync.Mutex).lockSlow", "internal/sync.runtime_canSpin", "internal/sync.runtime_doSpin", "internal/sync.throw", "internal/sync.runtime_nanotime", "internal/sync.runtime_SemacquireMutex", "sync/atomic.AddInt32", "(*internal/sync.Mutex).Unlock", "internal/race.ReleaseMerge", "(*internal/sync.Mutex).unlockSlow", "internal/sync.fatal", "internal/sync.runtime_Semrelease", "sync/atomic.StoreUint32", "internal/bytealg.IndexByteString", "internal/bytealg.IndexString"], unfollowed := true, recurses := true, named := ["internal/bytealg.MaxLen"], apart := false, narrowed := true }
def LockCodeUptoSaid : Prop := lockCodeUptoRow.holds Try.pinned (OpenSpec.upto lockCodeSpec)

/-- 'bellowslaw28.SerialReads', WHERE WHAT IT READS IS OF BULK AT MOST 1048576: true; the input reads as it did. -/
def serialReadsUptoRow : OpenClaim := { program := "ytldlimkjhppjbaa", sum := "df6cbebb795401001e752307d75629fb55b387ef32dfcfa409457216e84ccb96", func := "bellows/bellowslaw28.SerialReads", spec := "serialReads", inPlace := ["sync/atomic.LoadUint32", "(*internal/sync.Mutex).Lock", "internal/race.Disable", "sync/atomic.CompareAndSwapInt32", "internal/race.Enable", "internal/race.Acquire", "(*internal/sync.Mutex).lockSlow", "internal/sync.runtime_canSpin", "internal/sync.runtime_doSpin", "internal/sync.throw", "internal/sync.runtime_nanotime", "internal/sync.runtime_SemacquireMutex", "sync/atomic.AddInt32", "(*internal/sync.Mutex).Unlock", "internal/race.ReleaseMerge", "(*internal/sync.Mutex).unlockSlow", "internal/sync.fatal", "internal/sync.runtime_Semrelease", "sync/atomic.StoreUint32"], unfollowed := true, recurses := true, apart := false, narrowed := true }
def SerialReadsUptoSaid : Prop := serialReadsUptoRow.holds Try.pinned (OpenSpec.upto serialReadsSpec)

/-- 'bellowslaw28.SerialChecks', WHERE WHAT IT READS IS OF BULK AT MOST 1048576: true; the input reads as it did. -/
def serialChecksUptoRow : OpenClaim := { program := "ytldlimkjhppjbaa", sum := "df6cbebb795401001e752307d75629fb55b387ef32dfcfa409457216e84ccb96", func := "bellows/bellowslaw28.SerialChecks", spec := "serialChecks", inPlace := ["sync/atomic.LoadUint32", "(*internal/sync.Mutex).Lock", "internal/race.Disable", "sync/atomic.CompareAndSwapInt32", "internal/race.Enable", "internal/race.Acquire", "(*internal/sync.Mutex).lockSlow", "internal/sync.runtime_canSpin", "internal/sync.runtime_doSpin", "internal/sync.throw", "internal/sync.runtime_nanotime", "internal/sync.runtime_SemacquireMutex", "sync/atomic.AddInt32", "(*internal/sync.Mutex).Unlock", "internal/race.ReleaseMerge", "(*internal/sync.Mutex).unlockSlow", "internal/sync.fatal", "internal/sync.runtime_Semrelease", "sync/atomic.StoreUint32"], unfollowed := true, recurses := true, apart := false, narrowed := true }
def SerialChecksUptoSaid : Prop := serialChecksUptoRow.holds Try.pinned (OpenSpec.upto serialChecksSpec)

/-- 'bellowslaw28.SerialBegins', WHERE WHAT IT READS IS OF BULK AT MOST 1048576: true; the input reads as it did. -/
def serialBeginsUptoRow : OpenClaim := { program := "ytldlimkjhppjbaa", sum := "df6cbebb795401001e752307d75629fb55b387ef32dfcfa409457216e84ccb96", func := "bellows/bellowslaw28.SerialBegins", spec := "serialBegins", inPlace := ["sync/atomic.LoadUint32", "(*internal/sync.Mutex).Lock", "internal/race.Disable", "sync/atomic.CompareAndSwapInt32", "internal/race.Enable", "internal/race.Acquire", "(*internal/sync.Mutex).lockSlow", "internal/sync.runtime_canSpin", "internal/sync.runtime_doSpin", "internal/sync.throw", "internal/sync.runtime_nanotime", "internal/sync.runtime_SemacquireMutex", "sync/atomic.AddInt32", "(*internal/sync.Mutex).Unlock", "internal/race.ReleaseMerge", "(*internal/sync.Mutex).unlockSlow", "internal/sync.fatal", "internal/sync.runtime_Semrelease", "sync/atomic.StoreUint32"], unfollowed := true, recurses := true, apart := false, narrowed := true }
def SerialBeginsUptoSaid : Prop := serialBeginsUptoRow.holds Try.pinned (OpenSpec.upto serialBeginsSpec)

/-- 'bellowslaw29.CrashTells', WHERE WHAT IT READS IS OF BULK AT MOST 1048576: true; the input reads as it did. -/
def crashTellsUptoRow : OpenClaim := { program := "ytldlimkjhppjbaa", sum := "df6cbebb795401001e752307d75629fb55b387ef32dfcfa409457216e84ccb96", func := "bellows/bellowslaw29.CrashTells", spec := "crashTells", inPlace := ["sync/atomic.LoadUint32", "(*internal/sync.Mutex).Lock", "internal/race.Disable", "sync/atomic.CompareAndSwapInt32", "internal/race.Enable", "internal/race.Acquire", "(*internal/sync.Mutex).lockSlow", "internal/sync.runtime_canSpin", "internal/sync.runtime_doSpin", "internal/sync.throw", "internal/sync.runtime_nanotime", "internal/sync.runtime_SemacquireMutex", "sync/atomic.AddInt32", "(*internal/sync.Mutex).Unlock", "internal/race.ReleaseMerge", "(*internal/sync.Mutex).unlockSlow", "internal/sync.fatal", "internal/sync.runtime_Semrelease", "sync/atomic.StoreUint32"], unfollowed := true, recurses := true, apart := false, narrowed := true }
def CrashTellsUptoSaid : Prop := crashTellsUptoRow.holds Try.pinned (OpenSpec.upto crashTellsSpec)

/-- 'bellowslaw29.CrashGrows', WHERE WHAT IT READS IS OF BULK AT MOST 1048576: true; the input reads as it did. -/
def crashGrowsUptoRow : OpenClaim := { program := "ytldlimkjhppjbaa", sum := "df6cbebb795401001e752307d75629fb55b387ef32dfcfa409457216e84ccb96", func := "bellows/bellowslaw29.CrashGrows", spec := "crashGrows", inPlace := ["sync/atomic.LoadUint32", "(*internal/sync.Mutex).Lock", "internal/race.Disable", "sync/atomic.CompareAndSwapInt32", "internal/race.Enable", "internal/race.Acquire", "(*internal/sync.Mutex).lockSlow", "internal/sync.runtime_canSpin", "internal/sync.runtime_doSpin", "internal/sync.throw", "internal/sync.runtime_nanotime", "internal/sync.runtime_SemacquireMutex", "sync/atomic.AddInt32", "(*internal/sync.Mutex).Unlock", "internal/race.ReleaseMerge", "(*internal/sync.Mutex).unlockSlow", "internal/sync.fatal", "internal/sync.runtime_Semrelease", "sync/atomic.StoreUint32"], unfollowed := true, recurses := true, apart := false, narrowed := true }
def CrashGrowsUptoSaid : Prop := crashGrowsUptoRow.holds Try.pinned (OpenSpec.upto crashGrowsSpec)

end Rows
end Go.Proofs.Ytldlimkjhppjbaa
