/-
  No cell of these rows narrows 'for every input' (looked for: loops, veiled, ifaces, maps, wideKeys, modest, calm, conditions, laid).
  DERIVED. THE GIVEN ROWS OF THIS SEAT. 11 by the template 'for every input the law returns true; each argument reads behind the call as it read before'; 0 by the template 'total and deterministic' (their statements: YtodlpofpeoiedaaTotals.lean).
  GIVEN WITH THE SEED: the statements are not yours to turn. If you find one false, say at which input.
  Laid BY PROGRAM, IN A SANDBOX (cutbox-rows.mjs): the forced cells as the released guide's own fill.sh prints them over the translation 20cb0d153b8c426e… (all of the seat's roots in one cut). By AI agents, Wed Nov 11 2026. No macro, syntax, notation, axiom, sorry.
-/
import Derived.Test.YtodlpofpeoiedaaChecked
import GoSem.Claim
import GoSem.ClaimJoined
import GoSem.ClaimMapViews
import Derived.JoinedTies
import Derived.KernelRfl
namespace Go.Proofs.Ytodlpofpeoiedaa
/- THE CELL 'sum', in the pinned program and in every row, IS THE sha256 OF THE DUMP (.gsa) THAT YtodlpofpeoiedaaProg.lean LOADS. Nothing in Lean hashes anything: it is a label: what it is worth is what the hold of that sum in a sandbox is worth. -/
noncomputable def Try.pinned : Pinned := { name := "ytodlpofpeoiedaa", sum := "20cb0d153b8c426e8defb8cbfb61649fd8a35d7d24ecb5b71f0e97dda2a9dad9", checked := Try.checked }
namespace Rows
def none {H : Type} : Left H := { results := [], args := [] }

/-- 'miradorlaw13.FormatBytes': WHATEVER THE INPUT: true; the input reads as it did. -/
def formatBytesSpec : ChangeSpec := { name := "formatBytes", fn := fun _ => fun
  | [d1, d2] => { results := [.lit (.bool true)], args := [d1, d2] }
  | _ => none }
def formatBytesRow : OpenClaim := { program := "ytodlpofpeoiedaa", sum := "20cb0d153b8c426e8defb8cbfb61649fd8a35d7d24ecb5b71f0e97dda2a9dad9", func := "mirador/miradorlaw13.FormatBytes", spec := "formatBytes", unfollowed := true, recurses := true, apart := false }
def FormatBytesSaid : Prop := formatBytesRow.holds Try.pinned (OpenSpec.ofChange formatBytesSpec)

/-- ITS FALSE NEIGHBOUR: 'it returns false'. Refute it at one input. -/
def formatBytesWrong : ChangeSpec := { name := "formatBytes", fn := fun _ => fun
  | [d1, d2] => { results := [.lit (.bool false)], args := [d1, d2] }
  | _ => none }
def FormatBytesWrongFalsely : Prop := formatBytesRow.holds Try.pinned (OpenSpec.ofChange formatBytesWrong)

/-- 'miradorlaw16.PlainBack': WHATEVER THE INPUT: true; the input reads as it did. -/
def plainBackSpec : ChangeSpec := { name := "plainBack", fn := fun _ => fun
  | [d1, d2, d3, d4, d5] => { results := [.lit (.bool true)], args := [d1, d2, d3, d4, d5] }
  | _ => none }
def plainBackRow : OpenClaim := { program := "ytodlpofpeoiedaa", sum := "20cb0d153b8c426e8defb8cbfb61649fd8a35d7d24ecb5b71f0e97dda2a9dad9", func := "mirador/miradorlaw16.PlainBack", spec := "plainBack", inPlace := ["internal/abi.NoEscape"], unfollowed := true, recurses := true, apart := false }
def PlainBackSaid : Prop := plainBackRow.holds Try.pinned (OpenSpec.ofChange plainBackSpec)

/-- ITS FALSE NEIGHBOUR: 'it returns false'. Refute it at one input. -/
def plainBackWrong : ChangeSpec := { name := "plainBack", fn := fun _ => fun
  | [d1, d2, d3, d4, d5] => { results := [.lit (.bool false)], args := [d1, d2, d3, d4, d5] }
  | _ => none }
def PlainBackWrongFalsely : Prop := plainBackRow.holds Try.pinned (OpenSpec.ofChange plainBackWrong)

/-- 'miradorlaw16.PlainRaws': WHATEVER THE INPUT: true; the input reads as it did. -/
def plainRawsSpec : ChangeSpec := { name := "plainRaws", fn := fun _ => fun
  | [d1, d2, d3, d4, d5] => { results := [.lit (.bool true)], args := [d1, d2, d3, d4, d5] }
  | _ => none }
def plainRawsRow : OpenClaim := { program := "ytodlpofpeoiedaa", sum := "20cb0d153b8c426e8defb8cbfb61649fd8a35d7d24ecb5b71f0e97dda2a9dad9", func := "mirador/miradorlaw16.PlainRaws", spec := "plainRaws", inPlace := ["internal/abi.NoEscape"], unfollowed := true, recurses := true, apart := false }
def PlainRawsSaid : Prop := plainRawsRow.holds Try.pinned (OpenSpec.ofChange plainRawsSpec)

/-- ITS FALSE NEIGHBOUR: 'it returns false'. Refute it at one input. -/
def plainRawsWrong : ChangeSpec := { name := "plainRaws", fn := fun _ => fun
  | [d1, d2, d3, d4, d5] => { results := [.lit (.bool false)], args := [d1, d2, d3, d4, d5] }
  | _ => none }
def PlainRawsWrongFalsely : Prop := plainRawsRow.holds Try.pinned (OpenSpec.ofChange plainRawsWrong)

/-- 'miradorlaw16.PlainGlue': WHATEVER THE INPUT: true; the input reads as it did. -/
def plainGlueSpec : ChangeSpec := { name := "plainGlue", fn := fun _ => fun
  | [d1, d2, d3] => { results := [.lit (.bool true)], args := [d1, d2, d3] }
  | _ => none }
def plainGlueRow : OpenClaim := { program := "ytodlpofpeoiedaa", sum := "20cb0d153b8c426e8defb8cbfb61649fd8a35d7d24ecb5b71f0e97dda2a9dad9", func := "mirador/miradorlaw16.PlainGlue", spec := "plainGlue", inPlace := ["internal/abi.NoEscape"], unfollowed := true, recurses := true, apart := false }
def PlainGlueSaid : Prop := plainGlueRow.holds Try.pinned (OpenSpec.ofChange plainGlueSpec)

/-- ITS FALSE NEIGHBOUR: 'it returns false'. Refute it at one input. -/
def plainGlueWrong : ChangeSpec := { name := "plainGlue", fn := fun _ => fun
  | [d1, d2, d3] => { results := [.lit (.bool false)], args := [d1, d2, d3] }
  | _ => none }
def PlainGlueWrongFalsely : Prop := plainGlueRow.holds Try.pinned (OpenSpec.ofChange plainGlueWrong)

/-- 'miradorlaw13.FormatOrder': WHATEVER THE INPUT: true; the input reads as it did. -/
def formatOrderSpec : ChangeSpec := { name := "formatOrder", fn := fun _ => fun
  | [d1, d2] => { results := [.lit (.bool true)], args := [d1, d2] }
  | _ => none }
def formatOrderRow : OpenClaim := { program := "ytodlpofpeoiedaa", sum := "20cb0d153b8c426e8defb8cbfb61649fd8a35d7d24ecb5b71f0e97dda2a9dad9", func := "mirador/miradorlaw13.FormatOrder", spec := "formatOrder", unfollowed := true, recurses := true, apart := false }
def FormatOrderSaid : Prop := formatOrderRow.holds Try.pinned (OpenSpec.ofChange formatOrderSpec)

/-- ITS FALSE NEIGHBOUR: 'it returns false'. Refute it at one input. -/
def formatOrderWrong : ChangeSpec := { name := "formatOrder", fn := fun _ => fun
  | [d1, d2] => { results := [.lit (.bool false)], args := [d1, d2] }
  | _ => none }
def FormatOrderWrongFalsely : Prop := formatOrderRow.holds Try.pinned (OpenSpec.ofChange formatOrderWrong)

/-- 'miradorlaw13.FormatBack': WHATEVER THE INPUT: true; the input reads as it did. -/
def formatBackSpec : ChangeSpec := { name := "formatBack", fn := fun _ => fun
  | [d1, d2, d3] => { results := [.lit (.bool true)], args := [d1, d2, d3] }
  | _ => none }
def formatBackRow : OpenClaim := { program := "ytodlpofpeoiedaa", sum := "20cb0d153b8c426e8defb8cbfb61649fd8a35d7d24ecb5b71f0e97dda2a9dad9", func := "mirador/miradorlaw13.FormatBack", spec := "formatBack", unfollowed := true, recurses := true, apart := false }
def FormatBackSaid : Prop := formatBackRow.holds Try.pinned (OpenSpec.ofChange formatBackSpec)

/-- ITS FALSE NEIGHBOUR: 'it returns false'. Refute it at one input. -/
def formatBackWrong : ChangeSpec := { name := "formatBack", fn := fun _ => fun
  | [d1, d2, d3] => { results := [.lit (.bool false)], args := [d1, d2, d3] }
  | _ => none }
def FormatBackWrongFalsely : Prop := formatBackRow.holds Try.pinned (OpenSpec.ofChange formatBackWrong)

/-- 'miradorlaw16.PlainCopies': WHATEVER THE INPUT: true; the input reads as it did. -/
def plainCopiesSpec : ChangeSpec := { name := "plainCopies", fn := fun _ => fun
  | [d1, d2, d3] => { results := [.lit (.bool true)], args := [d1, d2, d3] }
  | _ => none }
def plainCopiesRow : OpenClaim := { program := "ytodlpofpeoiedaa", sum := "20cb0d153b8c426e8defb8cbfb61649fd8a35d7d24ecb5b71f0e97dda2a9dad9", func := "mirador/miradorlaw16.PlainCopies", spec := "plainCopies", inPlace := ["internal/abi.NoEscape"], unfollowed := true, recurses := true, apart := false }
def PlainCopiesSaid : Prop := plainCopiesRow.holds Try.pinned (OpenSpec.ofChange plainCopiesSpec)

/-- ITS FALSE NEIGHBOUR: 'it returns false'. Refute it at one input. -/
def plainCopiesWrong : ChangeSpec := { name := "plainCopies", fn := fun _ => fun
  | [d1, d2, d3] => { results := [.lit (.bool false)], args := [d1, d2, d3] }
  | _ => none }
def PlainCopiesWrongFalsely : Prop := plainCopiesRow.holds Try.pinned (OpenSpec.ofChange plainCopiesWrong)

/-- 'miradorlaw23.ServermsgWrites': WHATEVER THE INPUT: true; the input reads as it did. -/
def servermsgWritesSpec : ChangeSpec := { name := "servermsgWrites", fn := fun _ => fun
  | [d1, d2, d3, d4, d5] => { results := [.lit (.bool true)], args := [d1, d2, d3, d4, d5] }
  | _ => none }
def servermsgWritesRow : OpenClaim := { program := "ytodlpofpeoiedaa", sum := "20cb0d153b8c426e8defb8cbfb61649fd8a35d7d24ecb5b71f0e97dda2a9dad9", func := "mirador/miradorlaw23.ServermsgWrites", spec := "servermsgWrites", inPlace := ["internal/abi.NoEscape"], unfollowed := true, recurses := true, apart := false }
def ServermsgWritesSaid : Prop := servermsgWritesRow.holds Try.pinned (OpenSpec.ofChange servermsgWritesSpec)

/-- ITS FALSE NEIGHBOUR: 'it returns false'. Refute it at one input. -/
def servermsgWritesWrong : ChangeSpec := { name := "servermsgWrites", fn := fun _ => fun
  | [d1, d2, d3, d4, d5] => { results := [.lit (.bool false)], args := [d1, d2, d3, d4, d5] }
  | _ => none }
def ServermsgWritesWrongFalsely : Prop := servermsgWritesRow.holds Try.pinned (OpenSpec.ofChange servermsgWritesWrong)

/-- 'miradorlaw23.ServermsgMany': WHATEVER THE INPUT: true; the input reads as it did. -/
def servermsgManySpec : ChangeSpec := { name := "servermsgMany", fn := fun _ => fun
  | [d] => { results := [.lit (.bool true)], args := [d] }
  | _ => none }
def servermsgManyRow : OpenClaim := { program := "ytodlpofpeoiedaa", sum := "20cb0d153b8c426e8defb8cbfb61649fd8a35d7d24ecb5b71f0e97dda2a9dad9", func := "mirador/miradorlaw23.ServermsgMany", spec := "servermsgMany", inPlace := ["internal/abi.NoEscape"], unfollowed := true, recurses := true, apart := false }
def ServermsgManySaid : Prop := servermsgManyRow.holds Try.pinned (OpenSpec.ofChange servermsgManySpec)

/-- ITS FALSE NEIGHBOUR: 'it returns false'. Refute it at one input. -/
def servermsgManyWrong : ChangeSpec := { name := "servermsgMany", fn := fun _ => fun
  | [d] => { results := [.lit (.bool false)], args := [d] }
  | _ => none }
def ServermsgManyWrongFalsely : Prop := servermsgManyRow.holds Try.pinned (OpenSpec.ofChange servermsgManyWrong)

/-- 'miradorlaw23.ServermsgReads': WHATEVER THE INPUT: true; the input reads as it did. -/
def servermsgReadsSpec : ChangeSpec := { name := "servermsgReads", fn := fun _ => fun
  | [d] => { results := [.lit (.bool true)], args := [d] }
  | _ => none }
def servermsgReadsRow : OpenClaim := { program := "ytodlpofpeoiedaa", sum := "20cb0d153b8c426e8defb8cbfb61649fd8a35d7d24ecb5b71f0e97dda2a9dad9", func := "mirador/miradorlaw23.ServermsgReads", spec := "servermsgReads", inPlace := ["internal/abi.NoEscape"], unfollowed := true, recurses := true, apart := false }
def ServermsgReadsSaid : Prop := servermsgReadsRow.holds Try.pinned (OpenSpec.ofChange servermsgReadsSpec)

/-- ITS FALSE NEIGHBOUR: 'it returns false'. Refute it at one input. -/
def servermsgReadsWrong : ChangeSpec := { name := "servermsgReads", fn := fun _ => fun
  | [d] => { results := [.lit (.bool false)], args := [d] }
  | _ => none }
def ServermsgReadsWrongFalsely : Prop := servermsgReadsRow.holds Try.pinned (OpenSpec.ofChange servermsgReadsWrong)

/-- 'miradorlaw23.ServermsgMore': WHATEVER THE INPUT: true; the input reads as it did. -/
def servermsgMoreSpec : ChangeSpec := { name := "servermsgMore", fn := fun _ => fun
  | [d1, d2] => { results := [.lit (.bool true)], args := [d1, d2] }
  | _ => none }
def servermsgMoreRow : OpenClaim := { program := "ytodlpofpeoiedaa", sum := "20cb0d153b8c426e8defb8cbfb61649fd8a35d7d24ecb5b71f0e97dda2a9dad9", func := "mirador/miradorlaw23.ServermsgMore", spec := "servermsgMore", inPlace := ["internal/abi.NoEscape"], unfollowed := true, recurses := true, apart := false }
def ServermsgMoreSaid : Prop := servermsgMoreRow.holds Try.pinned (OpenSpec.ofChange servermsgMoreSpec)

/-- ITS FALSE NEIGHBOUR: 'it returns false'. Refute it at one input. -/
def servermsgMoreWrong : ChangeSpec := { name := "servermsgMore", fn := fun _ => fun
  | [d1, d2] => { results := [.lit (.bool false)], args := [d1, d2] }
  | _ => none }
def ServermsgMoreWrongFalsely : Prop := servermsgMoreRow.holds Try.pinned (OpenSpec.ofChange servermsgMoreWrong)

/- THE SECOND FORM. 'bulk': how many values and letters a reading holds, each counted each time it is reached (what is shared counts as often as it is met; a slice's spare places count too). A statement '..UptoSaid' is the law's where the arguments, and the package variables that the reading takes, are together of bulk at most 1048576: NARROWER than '..Said'. Prove '..Said' where nothing that the law and all that it calls make is longer than what came in: it says more and counts as full. Else prove '..UptoSaid'. A law counts once. -/
mutual
def uptoBulk {H : Type} : DataW H → Nat
  | .lit (.string bytes) => bytes.length + 1
  | .lit _ => 1
  | .nil => 1
  | .ptr d => uptoBulk d + 1
  | .slice elems spare => uptoBulkAll elems + uptoBulkAll spare + 1
  | .agg parts => uptoBulkAll parts + 1
  | .iface _ d => uptoBulk d + 1
  | .map entries => uptoBulkEntries entries + 1
  | .held _ => 1
def uptoBulkAll {H : Type} : List (DataW H) → Nat
  | [] => 0
  | d :: r => uptoBulk d + uptoBulkAll r
def uptoBulkEntries {H : Type} : List (Lit × DataW H) → Nat
  | [] => 0
  | x :: r => uptoBulkEntry x + uptoBulkEntries r
def uptoBulkEntry {H : Type} : Lit × DataW H → Nat
  | (.string bytes, d) => bytes.length + uptoBulk d + 1
  | (_, d) => uptoBulk d + 1
 end
def uptoSmall : (H : Type) → List (DataW H) → Bool := fun _ ds => decide (uptoBulkAll ds ≤ 1048576)
def OpenSpec.upto (s : _root_.Go.ChangeSpec) : _root_.Go.OpenSpec := { _root_.Go.OpenSpec.ofChange s with cond := some uptoSmall }

/-- 'miradorlaw13.FormatBytes', WHERE WHAT IT READS IS OF BULK AT MOST 1048576: true; the input reads as it did. -/
def formatBytesUptoRow : OpenClaim := { program := "ytodlpofpeoiedaa", sum := "20cb0d153b8c426e8defb8cbfb61649fd8a35d7d24ecb5b71f0e97dda2a9dad9", func := "mirador/miradorlaw13.FormatBytes", spec := "formatBytes", unfollowed := true, recurses := true, apart := false, narrowed := true }
def FormatBytesUptoSaid : Prop := formatBytesUptoRow.holds Try.pinned (OpenSpec.upto formatBytesSpec)

/-- 'miradorlaw16.PlainBack', WHERE WHAT IT READS IS OF BULK AT MOST 1048576: true; the input reads as it did. -/
def plainBackUptoRow : OpenClaim := { program := "ytodlpofpeoiedaa", sum := "20cb0d153b8c426e8defb8cbfb61649fd8a35d7d24ecb5b71f0e97dda2a9dad9", func := "mirador/miradorlaw16.PlainBack", spec := "plainBack", inPlace := ["internal/abi.NoEscape"], unfollowed := true, recurses := true, apart := false, narrowed := true }
def PlainBackUptoSaid : Prop := plainBackUptoRow.holds Try.pinned (OpenSpec.upto plainBackSpec)

/-- 'miradorlaw16.PlainRaws', WHERE WHAT IT READS IS OF BULK AT MOST 1048576: true; the input reads as it did. -/
def plainRawsUptoRow : OpenClaim := { program := "ytodlpofpeoiedaa", sum := "20cb0d153b8c426e8defb8cbfb61649fd8a35d7d24ecb5b71f0e97dda2a9dad9", func := "mirador/miradorlaw16.PlainRaws", spec := "plainRaws", inPlace := ["internal/abi.NoEscape"], unfollowed := true, recurses := true, apart := false, narrowed := true }
def PlainRawsUptoSaid : Prop := plainRawsUptoRow.holds Try.pinned (OpenSpec.upto plainRawsSpec)

/-- 'miradorlaw16.PlainGlue', WHERE WHAT IT READS IS OF BULK AT MOST 1048576: true; the input reads as it did. -/
def plainGlueUptoRow : OpenClaim := { program := "ytodlpofpeoiedaa", sum := "20cb0d153b8c426e8defb8cbfb61649fd8a35d7d24ecb5b71f0e97dda2a9dad9", func := "mirador/miradorlaw16.PlainGlue", spec := "plainGlue", inPlace := ["internal/abi.NoEscape"], unfollowed := true, recurses := true, apart := false, narrowed := true }
def PlainGlueUptoSaid : Prop := plainGlueUptoRow.holds Try.pinned (OpenSpec.upto plainGlueSpec)

/-- 'miradorlaw13.FormatOrder', WHERE WHAT IT READS IS OF BULK AT MOST 1048576: true; the input reads as it did. -/
def formatOrderUptoRow : OpenClaim := { program := "ytodlpofpeoiedaa", sum := "20cb0d153b8c426e8defb8cbfb61649fd8a35d7d24ecb5b71f0e97dda2a9dad9", func := "mirador/miradorlaw13.FormatOrder", spec := "formatOrder", unfollowed := true, recurses := true, apart := false, narrowed := true }
def FormatOrderUptoSaid : Prop := formatOrderUptoRow.holds Try.pinned (OpenSpec.upto formatOrderSpec)

/-- 'miradorlaw13.FormatBack', WHERE WHAT IT READS IS OF BULK AT MOST 1048576: true; the input reads as it did. -/
def formatBackUptoRow : OpenClaim := { program := "ytodlpofpeoiedaa", sum := "20cb0d153b8c426e8defb8cbfb61649fd8a35d7d24ecb5b71f0e97dda2a9dad9", func := "mirador/miradorlaw13.FormatBack", spec := "formatBack", unfollowed := true, recurses := true, apart := false, narrowed := true }
def FormatBackUptoSaid : Prop := formatBackUptoRow.holds Try.pinned (OpenSpec.upto formatBackSpec)

/-- 'miradorlaw16.PlainCopies', WHERE WHAT IT READS IS OF BULK AT MOST 1048576: true; the input reads as it did. -/
def plainCopiesUptoRow : OpenClaim := { program := "ytodlpofpeoiedaa", sum := "20cb0d153b8c426e8defb8cbfb61649fd8a35d7d24ecb5b71f0e97dda2a9dad9", func := "mirador/miradorlaw16.PlainCopies", spec := "plainCopies", inPlace := ["internal/abi.NoEscape"], unfollowed := true, recurses := true, apart := false, narrowed := true }
def PlainCopiesUptoSaid : Prop := plainCopiesUptoRow.holds Try.pinned (OpenSpec.upto plainCopiesSpec)

/-- 'miradorlaw23.ServermsgWrites', WHERE WHAT IT READS IS OF BULK AT MOST 1048576: true; the input reads as it did. -/
def servermsgWritesUptoRow : OpenClaim := { program := "ytodlpofpeoiedaa", sum := "20cb0d153b8c426e8defb8cbfb61649fd8a35d7d24ecb5b71f0e97dda2a9dad9", func := "mirador/miradorlaw23.ServermsgWrites", spec := "servermsgWrites", inPlace := ["internal/abi.NoEscape"], unfollowed := true, recurses := true, apart := false, narrowed := true }
def ServermsgWritesUptoSaid : Prop := servermsgWritesUptoRow.holds Try.pinned (OpenSpec.upto servermsgWritesSpec)

/-- 'miradorlaw23.ServermsgMany', WHERE WHAT IT READS IS OF BULK AT MOST 1048576: true; the input reads as it did. -/
def servermsgManyUptoRow : OpenClaim := { program := "ytodlpofpeoiedaa", sum := "20cb0d153b8c426e8defb8cbfb61649fd8a35d7d24ecb5b71f0e97dda2a9dad9", func := "mirador/miradorlaw23.ServermsgMany", spec := "servermsgMany", inPlace := ["internal/abi.NoEscape"], unfollowed := true, recurses := true, apart := false, narrowed := true }
def ServermsgManyUptoSaid : Prop := servermsgManyUptoRow.holds Try.pinned (OpenSpec.upto servermsgManySpec)

/-- 'miradorlaw23.ServermsgReads', WHERE WHAT IT READS IS OF BULK AT MOST 1048576: true; the input reads as it did. -/
def servermsgReadsUptoRow : OpenClaim := { program := "ytodlpofpeoiedaa", sum := "20cb0d153b8c426e8defb8cbfb61649fd8a35d7d24ecb5b71f0e97dda2a9dad9", func := "mirador/miradorlaw23.ServermsgReads", spec := "servermsgReads", inPlace := ["internal/abi.NoEscape"], unfollowed := true, recurses := true, apart := false, narrowed := true }
def ServermsgReadsUptoSaid : Prop := servermsgReadsUptoRow.holds Try.pinned (OpenSpec.upto servermsgReadsSpec)

/-- 'miradorlaw23.ServermsgMore', WHERE WHAT IT READS IS OF BULK AT MOST 1048576: true; the input reads as it did. -/
def servermsgMoreUptoRow : OpenClaim := { program := "ytodlpofpeoiedaa", sum := "20cb0d153b8c426e8defb8cbfb61649fd8a35d7d24ecb5b71f0e97dda2a9dad9", func := "mirador/miradorlaw23.ServermsgMore", spec := "servermsgMore", inPlace := ["internal/abi.NoEscape"], unfollowed := true, recurses := true, apart := false, narrowed := true }
def ServermsgMoreUptoSaid : Prop := servermsgMoreUptoRow.holds Try.pinned (OpenSpec.upto servermsgMoreSpec)

end Rows
end Go.Proofs.Ytodlpofpeoiedaa
