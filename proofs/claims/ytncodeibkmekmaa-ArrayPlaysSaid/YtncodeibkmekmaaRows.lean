/-
  No cell of these rows narrows 'for every input' (looked for: loops, veiled, ifaces, maps, wideKeys, modest, calm, conditions, laid).
  DERIVED. THE GIVEN ROWS OF THIS SEAT. 8 by the template 'for every input the law returns true; each argument reads behind the call as it read before'; 0 by the template 'total and deterministic' (their statements: YtncodeibkmekmaaTotals.lean).
  GIVEN WITH THE SEED: the statements are not yours to turn. If you find one false, say at which input.
  Laid BY PROGRAM, IN A SANDBOX (cutbox-rows.mjs): the forced cells as the released guide's own fill.sh prints them over the translation 1c4663391648917d… (all of the seat's roots in one cut). By AI agents, Wed Nov 11 2026. No macro, syntax, notation, axiom, sorry.
-/
import Derived.Test.YtncodeibkmekmaaChecked
import GoSem.Claim
import GoSem.ClaimJoined
import GoSem.ClaimMapViews
import Derived.JoinedTies
import Derived.KernelRfl
namespace Go.Proofs.Ytncodeibkmekmaa
/- THE CELL 'sum', in the pinned program and in every row, IS THE sha256 OF THE DUMP (.gsa) THAT YtncodeibkmekmaaProg.lean LOADS. Nothing in Lean hashes anything: it is a label: what it is worth is what the hold of that sum in a sandbox is worth. -/
noncomputable def Try.pinned : Pinned := { name := "ytncodeibkmekmaa", sum := "1c4663391648917d91f387b2291287ef906ce60d287aa854505f3a5fdce379a4", checked := Try.checked }
namespace Rows
def none {H : Type} : Left H := { results := [], args := [] }

/-- 'bellowslaw17.TraceWhole': WHATEVER THE INPUT: true; the input reads as it did. -/
def traceWholeSpec : ChangeSpec := { name := "traceWhole", fn := fun _ => fun
  | [d1, d2, d3] => { results := [.lit (.bool true)], args := [d1, d2, d3] }
  | _ => none }
def traceWholeRow : OpenClaim := { program := "ytncodeibkmekmaa", sum := "1c4663391648917d91f387b2291287ef906ce60d287aa854505f3a5fdce379a4", func := "bellows/bellowslaw17.TraceWhole", spec := "traceWhole", unfollowed := true, recurses := true, apart := false }
def TraceWholeSaid : Prop := traceWholeRow.holds Try.pinned (OpenSpec.ofChange traceWholeSpec)

/-- ITS FALSE NEIGHBOUR: 'it returns false'. Refute it at one input. -/
def traceWholeWrong : ChangeSpec := { name := "traceWhole", fn := fun _ => fun
  | [d1, d2, d3] => { results := [.lit (.bool false)], args := [d1, d2, d3] }
  | _ => none }
def TraceWholeWrongFalsely : Prop := traceWholeRow.holds Try.pinned (OpenSpec.ofChange traceWholeWrong)

/-- 'bellowslaw17.TraceOf': WHATEVER THE INPUT: true; the input reads as it did. -/
def traceOfSpec : ChangeSpec := { name := "traceOf", fn := fun _ => fun
  | [d1, d2] => { results := [.lit (.bool true)], args := [d1, d2] }
  | _ => none }
def traceOfRow : OpenClaim := { program := "ytncodeibkmekmaa", sum := "1c4663391648917d91f387b2291287ef906ce60d287aa854505f3a5fdce379a4", func := "bellows/bellowslaw17.TraceOf", spec := "traceOf", unfollowed := true, recurses := true, apart := false }
def TraceOfSaid : Prop := traceOfRow.holds Try.pinned (OpenSpec.ofChange traceOfSpec)

/-- ITS FALSE NEIGHBOUR: 'it returns false'. Refute it at one input. -/
def traceOfWrong : ChangeSpec := { name := "traceOf", fn := fun _ => fun
  | [d1, d2] => { results := [.lit (.bool false)], args := [d1, d2] }
  | _ => none }
def TraceOfWrongFalsely : Prop := traceOfRow.holds Try.pinned (OpenSpec.ofChange traceOfWrong)

/-- 'bellowslaw19.PersistMoments': WHATEVER THE INPUT: true; the input reads as it did. -/
def persistMomentsSpec : ChangeSpec := { name := "persistMoments", fn := fun _ => fun
  | [d1, d2, d3] => { results := [.lit (.bool true)], args := [d1, d2, d3] }
  | _ => none }
def persistMomentsRow : OpenClaim := { program := "ytncodeibkmekmaa", sum := "1c4663391648917d91f387b2291287ef906ce60d287aa854505f3a5fdce379a4", func := "bellows/bellowslaw19.PersistMoments", spec := "persistMoments", unfollowed := true, recurses := true, apart := false }
def PersistMomentsSaid : Prop := persistMomentsRow.holds Try.pinned (OpenSpec.ofChange persistMomentsSpec)

/-- ITS FALSE NEIGHBOUR: 'it returns false'. Refute it at one input. -/
def persistMomentsWrong : ChangeSpec := { name := "persistMoments", fn := fun _ => fun
  | [d1, d2, d3] => { results := [.lit (.bool false)], args := [d1, d2, d3] }
  | _ => none }
def PersistMomentsWrongFalsely : Prop := persistMomentsRow.holds Try.pinned (OpenSpec.ofChange persistMomentsWrong)

/-- 'bellowslaw05.ArrayKeeps': WHATEVER THE INPUT: true; the input reads as it did. -/
def arrayKeepsSpec : ChangeSpec := { name := "arrayKeeps", fn := fun _ => fun
  | [d1, d2] => { results := [.lit (.bool true)], args := [d1, d2] }
  | _ => none }
def arrayKeepsRow : OpenClaim := { program := "ytncodeibkmekmaa", sum := "1c4663391648917d91f387b2291287ef906ce60d287aa854505f3a5fdce379a4", func := "bellows/bellowslaw05.ArrayKeeps", spec := "arrayKeeps", unfollowed := true, recurses := true, apart := false }
def ArrayKeepsSaid : Prop := arrayKeepsRow.holds Try.pinned (OpenSpec.ofChange arrayKeepsSpec)

/-- ITS FALSE NEIGHBOUR: 'it returns false'. Refute it at one input. -/
def arrayKeepsWrong : ChangeSpec := { name := "arrayKeeps", fn := fun _ => fun
  | [d1, d2] => { results := [.lit (.bool false)], args := [d1, d2] }
  | _ => none }
def ArrayKeepsWrongFalsely : Prop := arrayKeepsRow.holds Try.pinned (OpenSpec.ofChange arrayKeepsWrong)

/-- 'bellowslaw05.ArrayPlays': WHATEVER THE INPUT: true; the input reads as it did. -/
def arrayPlaysSpec : ChangeSpec := { name := "arrayPlays", fn := fun _ => fun
  | [d1, d2, d3] => { results := [.lit (.bool true)], args := [d1, d2, d3] }
  | _ => none }
def arrayPlaysRow : OpenClaim := { program := "ytncodeibkmekmaa", sum := "1c4663391648917d91f387b2291287ef906ce60d287aa854505f3a5fdce379a4", func := "bellows/bellowslaw05.ArrayPlays", spec := "arrayPlays", unfollowed := true, recurses := true, apart := false }
def ArrayPlaysSaid : Prop := arrayPlaysRow.holds Try.pinned (OpenSpec.ofChange arrayPlaysSpec)

/-- ITS FALSE NEIGHBOUR: 'it returns false'. Refute it at one input. -/
def arrayPlaysWrong : ChangeSpec := { name := "arrayPlays", fn := fun _ => fun
  | [d1, d2, d3] => { results := [.lit (.bool false)], args := [d1, d2, d3] }
  | _ => none }
def ArrayPlaysWrongFalsely : Prop := arrayPlaysRow.holds Try.pinned (OpenSpec.ofChange arrayPlaysWrong)

/-- 'bellowslaw05.ArrayOnce': WHATEVER THE INPUT: true; the input reads as it did. -/
def arrayOnceSpec : ChangeSpec := { name := "arrayOnce", fn := fun _ => fun
  | [d1, d2, d3] => { results := [.lit (.bool true)], args := [d1, d2, d3] }
  | _ => none }
def arrayOnceRow : OpenClaim := { program := "ytncodeibkmekmaa", sum := "1c4663391648917d91f387b2291287ef906ce60d287aa854505f3a5fdce379a4", func := "bellows/bellowslaw05.ArrayOnce", spec := "arrayOnce", unfollowed := true, recurses := true, apart := false }
def ArrayOnceSaid : Prop := arrayOnceRow.holds Try.pinned (OpenSpec.ofChange arrayOnceSpec)

/-- ITS FALSE NEIGHBOUR: 'it returns false'. Refute it at one input. -/
def arrayOnceWrong : ChangeSpec := { name := "arrayOnce", fn := fun _ => fun
  | [d1, d2, d3] => { results := [.lit (.bool false)], args := [d1, d2, d3] }
  | _ => none }
def ArrayOnceWrongFalsely : Prop := arrayOnceRow.holds Try.pinned (OpenSpec.ofChange arrayOnceWrong)

/-- 'bellowslaw05.ArrayNone': WHATEVER THE INPUT: true; the input reads as it did. -/
def arrayNoneSpec : ChangeSpec := { name := "arrayNone", fn := fun _ => fun
  | [d] => { results := [.lit (.bool true)], args := [d] }
  | _ => none }
def arrayNoneRow : OpenClaim := { program := "ytncodeibkmekmaa", sum := "1c4663391648917d91f387b2291287ef906ce60d287aa854505f3a5fdce379a4", func := "bellows/bellowslaw05.ArrayNone", spec := "arrayNone", unfollowed := true, recurses := true, apart := false }
def ArrayNoneSaid : Prop := arrayNoneRow.holds Try.pinned (OpenSpec.ofChange arrayNoneSpec)

/-- ITS FALSE NEIGHBOUR: 'it returns false'. Refute it at one input. -/
def arrayNoneWrong : ChangeSpec := { name := "arrayNone", fn := fun _ => fun
  | [d] => { results := [.lit (.bool false)], args := [d] }
  | _ => none }
def ArrayNoneWrongFalsely : Prop := arrayNoneRow.holds Try.pinned (OpenSpec.ofChange arrayNoneWrong)

/-- 'bellowslaw05.ArrayLast': WHATEVER THE INPUT: true; the input reads as it did. -/
def arrayLastSpec : ChangeSpec := { name := "arrayLast", fn := fun _ => fun
  | [d1, d2] => { results := [.lit (.bool true)], args := [d1, d2] }
  | _ => none }
def arrayLastRow : OpenClaim := { program := "ytncodeibkmekmaa", sum := "1c4663391648917d91f387b2291287ef906ce60d287aa854505f3a5fdce379a4", func := "bellows/bellowslaw05.ArrayLast", spec := "arrayLast", unfollowed := true, recurses := true, apart := false }
def ArrayLastSaid : Prop := arrayLastRow.holds Try.pinned (OpenSpec.ofChange arrayLastSpec)

/-- ITS FALSE NEIGHBOUR: 'it returns false'. Refute it at one input. -/
def arrayLastWrong : ChangeSpec := { name := "arrayLast", fn := fun _ => fun
  | [d1, d2] => { results := [.lit (.bool false)], args := [d1, d2] }
  | _ => none }
def ArrayLastWrongFalsely : Prop := arrayLastRow.holds Try.pinned (OpenSpec.ofChange arrayLastWrong)

/- THE SECOND FORM. 'bulk': how many values and letters a reading holds, each counted each time it is reached (what is shared counts as often as it is met; a slice's spare places count too). A statement '..UptoSaid' is the law's where the arguments, and the package variables that the reading takes, are together of bulk at most 1048576: NARROWER than '..Said'. Prove '..Said' where nothing that the law and all that it calls make is longer than what came in: it says more and counts as full. Else prove '..UptoSaid'. A law counts once. -/
mutual
def uptoBulk {H : Type} : DataW H → Nat
  | .lit (.string bytes) => bytes.length + 1
  | .lit _ => 1
  | .nil => 1
  | .ptr d => uptoBulk d + 1
  | .slice elems spare => uptoBulkAll elems + uptoBulkAll spare + 1
  | .agg parts => uptoBulkAll parts + 1
  | .iface _ d => uptoBulk d + 1
  | .map entries => uptoBulkEntries entries + 1
  | .held _ => 1
def uptoBulkAll {H : Type} : List (DataW H) → Nat
  | [] => 0
  | d :: r => uptoBulk d + uptoBulkAll r
def uptoBulkEntries {H : Type} : List (Lit × DataW H) → Nat
  | [] => 0
  | x :: r => uptoBulkEntry x + uptoBulkEntries r
def uptoBulkEntry {H : Type} : Lit × DataW H → Nat
  | (.string bytes, d) => bytes.length + uptoBulk d + 1
  | (_, d) => uptoBulk d + 1
 end
def uptoSmall : (H : Type) → List (DataW H) → Bool := fun _ ds => decide (uptoBulkAll ds ≤ 1048576)
def OpenSpec.upto (s : _root_.Go.ChangeSpec) : _root_.Go.OpenSpec := { _root_.Go.OpenSpec.ofChange s with cond := some uptoSmall }

/-- 'bellowslaw17.TraceWhole', WHERE WHAT IT READS IS OF BULK AT MOST 1048576: true; the input reads as it did. -/
def traceWholeUptoRow : OpenClaim := { program := "ytncodeibkmekmaa", sum := "1c4663391648917d91f387b2291287ef906ce60d287aa854505f3a5fdce379a4", func := "bellows/bellowslaw17.TraceWhole", spec := "traceWhole", unfollowed := true, recurses := true, apart := false, narrowed := true }
def TraceWholeUptoSaid : Prop := traceWholeUptoRow.holds Try.pinned (OpenSpec.upto traceWholeSpec)

/-- 'bellowslaw17.TraceOf', WHERE WHAT IT READS IS OF BULK AT MOST 1048576: true; the input reads as it did. -/
def traceOfUptoRow : OpenClaim := { program := "ytncodeibkmekmaa", sum := "1c4663391648917d91f387b2291287ef906ce60d287aa854505f3a5fdce379a4", func := "bellows/bellowslaw17.TraceOf", spec := "traceOf", unfollowed := true, recurses := true, apart := false, narrowed := true }
def TraceOfUptoSaid : Prop := traceOfUptoRow.holds Try.pinned (OpenSpec.upto traceOfSpec)

/-- 'bellowslaw19.PersistMoments', WHERE WHAT IT READS IS OF BULK AT MOST 1048576: true; the input reads as it did. -/
def persistMomentsUptoRow : OpenClaim := { program := "ytncodeibkmekmaa", sum := "1c4663391648917d91f387b2291287ef906ce60d287aa854505f3a5fdce379a4", func := "bellows/bellowslaw19.PersistMoments", spec := "persistMoments", unfollowed := true, recurses := true, apart := false, narrowed := true }
def PersistMomentsUptoSaid : Prop := persistMomentsUptoRow.holds Try.pinned (OpenSpec.upto persistMomentsSpec)

/-- 'bellowslaw05.ArrayKeeps', WHERE WHAT IT READS IS OF BULK AT MOST 1048576: true; the input reads as it did. -/
def arrayKeepsUptoRow : OpenClaim := { program := "ytncodeibkmekmaa", sum := "1c4663391648917d91f387b2291287ef906ce60d287aa854505f3a5fdce379a4", func := "bellows/bellowslaw05.ArrayKeeps", spec := "arrayKeeps", unfollowed := true, recurses := true, apart := false, narrowed := true }
def ArrayKeepsUptoSaid : Prop := arrayKeepsUptoRow.holds Try.pinned (OpenSpec.upto arrayKeepsSpec)

/-- 'bellowslaw05.ArrayPlays', WHERE WHAT IT READS IS OF BULK AT MOST 1048576: true; the input reads as it did. -/
def arrayPlaysUptoRow : OpenClaim := { program := "ytncodeibkmekmaa", sum := "1c4663391648917d91f387b2291287ef906ce60d287aa854505f3a5fdce379a4", func := "bellows/bellowslaw05.ArrayPlays", spec := "arrayPlays", unfollowed := true, recurses := true, apart := false, narrowed := true }
def ArrayPlaysUptoSaid : Prop := arrayPlaysUptoRow.holds Try.pinned (OpenSpec.upto arrayPlaysSpec)

/-- 'bellowslaw05.ArrayOnce', WHERE WHAT IT READS IS OF BULK AT MOST 1048576: true; the input reads as it did. -/
def arrayOnceUptoRow : OpenClaim := { program := "ytncodeibkmekmaa", sum := "1c4663391648917d91f387b2291287ef906ce60d287aa854505f3a5fdce379a4", func := "bellows/bellowslaw05.ArrayOnce", spec := "arrayOnce", unfollowed := true, recurses := true, apart := false, narrowed := true }
def ArrayOnceUptoSaid : Prop := arrayOnceUptoRow.holds Try.pinned (OpenSpec.upto arrayOnceSpec)

/-- 'bellowslaw05.ArrayNone', WHERE WHAT IT READS IS OF BULK AT MOST 1048576: true; the input reads as it did. -/
def arrayNoneUptoRow : OpenClaim := { program := "ytncodeibkmekmaa", sum := "1c4663391648917d91f387b2291287ef906ce60d287aa854505f3a5fdce379a4", func := "bellows/bellowslaw05.ArrayNone", spec := "arrayNone", unfollowed := true, recurses := true, apart := false, narrowed := true }
def ArrayNoneUptoSaid : Prop := arrayNoneUptoRow.holds Try.pinned (OpenSpec.upto arrayNoneSpec)

/-- 'bellowslaw05.ArrayLast', WHERE WHAT IT READS IS OF BULK AT MOST 1048576: true; the input reads as it did. -/
def arrayLastUptoRow : OpenClaim := { program := "ytncodeibkmekmaa", sum := "1c4663391648917d91f387b2291287ef906ce60d287aa854505f3a5fdce379a4", func := "bellows/bellowslaw05.ArrayLast", spec := "arrayLast", unfollowed := true, recurses := true, apart := false, narrowed := true }
def ArrayLastUptoSaid : Prop := arrayLastUptoRow.holds Try.pinned (OpenSpec.upto arrayLastSpec)

end Rows
end Go.Proofs.Ytncodeibkmekmaa
