/-
  No cell of these rows narrows 'for every input' (looked for: loops, veiled, ifaces, maps, wideKeys, modest, calm, conditions, laid).
  DERIVED. THE GIVEN ROWS OF THIS SEAT. 10 by the template 'for every input the law returns true; each argument reads behind the call as it read before'; 0 by the template 'total and deterministic' (their statements: YtfglbdkfnphjgaaTotals.lean).
  GIVEN WITH THE SEED: the statements are not yours to turn. If you find one false, say at which input.
  Laid BY PROGRAM, IN A SANDBOX (cutbox-rows.mjs): the forced cells as the released guide's own fill.sh prints them over the translation d99e25177a5647f3… (all of the seat's roots in one cut). By AI agents, Wed Nov 11 2026. No macro, syntax, notation, axiom, sorry.
-/
import Derived.Test.YtfglbdkfnphjgaaChecked
import GoSem.Claim
import GoSem.ClaimJoined
import GoSem.ClaimMapViews
import Derived.JoinedTies
import Derived.KernelRfl
namespace Go.Proofs.Ytfglbdkfnphjgaa
/- THE CELL 'sum', in the pinned program and in every row, IS THE sha256 OF THE DUMP (.gsa) THAT YtfglbdkfnphjgaaProg.lean LOADS. Nothing in Lean hashes anything: it is a label: what it is worth is what the hold of that sum in a sandbox is worth. -/
noncomputable def Try.pinned : Pinned := { name := "ytfglbdkfnphjgaa", sum := "d99e25177a5647f31b16abd1da9345f5995182638cfeeb535d8db349ae0e6309", checked := Try.checked }
namespace Rows
def none {H : Type} : Left H := { results := [], args := [] }

/-- 'debuggerlaw05.InterpWindows': WHATEVER THE INPUT: true; the input reads as it did. -/
def interpWindowsSpec : ChangeSpec := { name := "interpWindows", fn := fun _ => fun
  | [d1, d2, d3, d4, d5] => { results := [.lit (.bool true)], args := [d1, d2, d3, d4, d5] }
  | _ => none }
def interpWindowsRow : OpenClaim := { program := "ytfglbdkfnphjgaa", sum := "d99e25177a5647f31b16abd1da9345f5995182638cfeeb535d8db349ae0e6309", func := "debugger/debuggerlaw05.InterpWindows", spec := "interpWindows", unfollowed := true, recurses := true, apart := false }
def InterpWindowsSaid : Prop := interpWindowsRow.holds Try.pinned (OpenSpec.ofChange interpWindowsSpec)

/-- ITS FALSE NEIGHBOUR: 'it returns false'. Refute it at one input. -/
def interpWindowsWrong : ChangeSpec := { name := "interpWindows", fn := fun _ => fun
  | [d1, d2, d3, d4, d5] => { results := [.lit (.bool false)], args := [d1, d2, d3, d4, d5] }
  | _ => none }
def InterpWindowsWrongFalsely : Prop := interpWindowsRow.holds Try.pinned (OpenSpec.ofChange interpWindowsWrong)

/-- 'debuggerlaw05.InterpSteps': WHATEVER THE INPUT: true; the input reads as it did. -/
def interpStepsSpec : ChangeSpec := { name := "interpSteps", fn := fun _ => fun
  | [d1, d2, d3, d4] => { results := [.lit (.bool true)], args := [d1, d2, d3, d4] }
  | _ => none }
def interpStepsRow : OpenClaim := { program := "ytfglbdkfnphjgaa", sum := "d99e25177a5647f31b16abd1da9345f5995182638cfeeb535d8db349ae0e6309", func := "debugger/debuggerlaw05.InterpSteps", spec := "interpSteps", unfollowed := true, recurses := true, apart := false }
def InterpStepsSaid : Prop := interpStepsRow.holds Try.pinned (OpenSpec.ofChange interpStepsSpec)

/-- ITS FALSE NEIGHBOUR: 'it returns false'. Refute it at one input. -/
def interpStepsWrong : ChangeSpec := { name := "interpSteps", fn := fun _ => fun
  | [d1, d2, d3, d4] => { results := [.lit (.bool false)], args := [d1, d2, d3, d4] }
  | _ => none }
def InterpStepsWrongFalsely : Prop := interpStepsRow.holds Try.pinned (OpenSpec.ofChange interpStepsWrong)

/-- 'debuggerlaw05.InterpKnown': WHATEVER THE INPUT: true; the input reads as it did. -/
def interpKnownSpec : ChangeSpec := { name := "interpKnown", fn := fun _ => fun
  | [d1, d2, d3] => { results := [.lit (.bool true)], args := [d1, d2, d3] }
  | _ => none }
def interpKnownRow : OpenClaim := { program := "ytfglbdkfnphjgaa", sum := "d99e25177a5647f31b16abd1da9345f5995182638cfeeb535d8db349ae0e6309", func := "debugger/debuggerlaw05.InterpKnown", spec := "interpKnown", unfollowed := true, recurses := true, apart := false }
def InterpKnownSaid : Prop := interpKnownRow.holds Try.pinned (OpenSpec.ofChange interpKnownSpec)

/-- ITS FALSE NEIGHBOUR: 'it returns false'. Refute it at one input. -/
def interpKnownWrong : ChangeSpec := { name := "interpKnown", fn := fun _ => fun
  | [d1, d2, d3] => { results := [.lit (.bool false)], args := [d1, d2, d3] }
  | _ => none }
def InterpKnownWrongFalsely : Prop := interpKnownRow.holds Try.pinned (OpenSpec.ofChange interpKnownWrong)

/-- 'debuggerlaw05.InterpStays': WHATEVER THE INPUT: true; the input reads as it did. -/
def interpStaysSpec : ChangeSpec := { name := "interpStays", fn := fun _ => fun
  | [d1, d2, d3] => { results := [.lit (.bool true)], args := [d1, d2, d3] }
  | _ => none }
def interpStaysRow : OpenClaim := { program := "ytfglbdkfnphjgaa", sum := "d99e25177a5647f31b16abd1da9345f5995182638cfeeb535d8db349ae0e6309", func := "debugger/debuggerlaw05.InterpStays", spec := "interpStays", unfollowed := true, recurses := true, apart := false }
def InterpStaysSaid : Prop := interpStaysRow.holds Try.pinned (OpenSpec.ofChange interpStaysSpec)

/-- ITS FALSE NEIGHBOUR: 'it returns false'. Refute it at one input. -/
def interpStaysWrong : ChangeSpec := { name := "interpStays", fn := fun _ => fun
  | [d1, d2, d3] => { results := [.lit (.bool false)], args := [d1, d2, d3] }
  | _ => none }
def InterpStaysWrongFalsely : Prop := interpStaysRow.holds Try.pinned (OpenSpec.ofChange interpStaysWrong)

/-- 'debuggerlaw04.CheckerChecks': WHATEVER THE INPUT: true; the input reads as it did. -/
def checkerChecksSpec : ChangeSpec := { name := "checkerChecks", fn := fun _ => fun
  | [d1, d2] => { results := [.lit (.bool true)], args := [d1, d2] }
  | _ => none }
def checkerChecksRow : OpenClaim := { program := "ytfglbdkfnphjgaa", sum := "d99e25177a5647f31b16abd1da9345f5995182638cfeeb535d8db349ae0e6309", func := "debugger/debuggerlaw04.CheckerChecks", spec := "checkerChecks", recurses := true, apart := false }
def CheckerChecksSaid : Prop := checkerChecksRow.holds Try.pinned (OpenSpec.ofChange checkerChecksSpec)

/-- ITS FALSE NEIGHBOUR: 'it returns false'. Refute it at one input. -/
def checkerChecksWrong : ChangeSpec := { name := "checkerChecks", fn := fun _ => fun
  | [d1, d2] => { results := [.lit (.bool false)], args := [d1, d2] }
  | _ => none }
def CheckerChecksWrongFalsely : Prop := checkerChecksRow.holds Try.pinned (OpenSpec.ofChange checkerChecksWrong)

/-- 'debuggerlaw04.CheckerSpoilt': WHATEVER THE INPUT: true; the input reads as it did. -/
def checkerSpoiltSpec : ChangeSpec := { name := "checkerSpoilt", fn := fun _ => fun
  | [d1, d2, d3] => { results := [.lit (.bool true)], args := [d1, d2, d3] }
  | _ => none }
def checkerSpoiltRow : OpenClaim := { program := "ytfglbdkfnphjgaa", sum := "d99e25177a5647f31b16abd1da9345f5995182638cfeeb535d8db349ae0e6309", func := "debugger/debuggerlaw04.CheckerSpoilt", spec := "checkerSpoilt", recurses := true, apart := false }
def CheckerSpoiltSaid : Prop := checkerSpoiltRow.holds Try.pinned (OpenSpec.ofChange checkerSpoiltSpec)

/-- ITS FALSE NEIGHBOUR: 'it returns false'. Refute it at one input. -/
def checkerSpoiltWrong : ChangeSpec := { name := "checkerSpoilt", fn := fun _ => fun
  | [d1, d2, d3] => { results := [.lit (.bool false)], args := [d1, d2, d3] }
  | _ => none }
def CheckerSpoiltWrongFalsely : Prop := checkerSpoiltRow.holds Try.pinned (OpenSpec.ofChange checkerSpoiltWrong)

/-- 'debuggerlaw04.CheckerVisible': WHATEVER THE INPUT: true; the input reads as it did. -/
def checkerVisibleSpec : ChangeSpec := { name := "checkerVisible", fn := fun _ => fun
  | [d1, d2, d3, d4] => { results := [.lit (.bool true)], args := [d1, d2, d3, d4] }
  | _ => none }
def checkerVisibleRow : OpenClaim := { program := "ytfglbdkfnphjgaa", sum := "d99e25177a5647f31b16abd1da9345f5995182638cfeeb535d8db349ae0e6309", func := "debugger/debuggerlaw04.CheckerVisible", spec := "checkerVisible", recurses := true, apart := false }
def CheckerVisibleSaid : Prop := checkerVisibleRow.holds Try.pinned (OpenSpec.ofChange checkerVisibleSpec)

/-- ITS FALSE NEIGHBOUR: 'it returns false'. Refute it at one input. -/
def checkerVisibleWrong : ChangeSpec := { name := "checkerVisible", fn := fun _ => fun
  | [d1, d2, d3, d4] => { results := [.lit (.bool false)], args := [d1, d2, d3, d4] }
  | _ => none }
def CheckerVisibleWrongFalsely : Prop := checkerVisibleRow.holds Try.pinned (OpenSpec.ofChange checkerVisibleWrong)

/-- 'debuggerlaw04.CheckerNumbers': WHATEVER THE INPUT: true; the input reads as it did. -/
def checkerNumbersSpec : ChangeSpec := { name := "checkerNumbers", fn := fun _ => fun
  | [d] => { results := [.lit (.bool true)], args := [d] }
  | _ => none }
def checkerNumbersRow : OpenClaim := { program := "ytfglbdkfnphjgaa", sum := "d99e25177a5647f31b16abd1da9345f5995182638cfeeb535d8db349ae0e6309", func := "debugger/debuggerlaw04.CheckerNumbers", spec := "checkerNumbers", recurses := true, apart := false }
def CheckerNumbersSaid : Prop := checkerNumbersRow.holds Try.pinned (OpenSpec.ofChange checkerNumbersSpec)

/-- ITS FALSE NEIGHBOUR: 'it returns false'. Refute it at one input. -/
def checkerNumbersWrong : ChangeSpec := { name := "checkerNumbers", fn := fun _ => fun
  | [d] => { results := [.lit (.bool false)], args := [d] }
  | _ => none }
def CheckerNumbersWrongFalsely : Prop := checkerNumbersRow.holds Try.pinned (OpenSpec.ofChange checkerNumbersWrong)

/-- 'debuggerlaw04.CheckerNames': WHATEVER THE INPUT: true; the input reads as it did. -/
def checkerNamesSpec : ChangeSpec := { name := "checkerNames", fn := fun _ => fun
  | [d] => { results := [.lit (.bool true)], args := [d] }
  | _ => none }
def checkerNamesRow : OpenClaim := { program := "ytfglbdkfnphjgaa", sum := "d99e25177a5647f31b16abd1da9345f5995182638cfeeb535d8db349ae0e6309", func := "debugger/debuggerlaw04.CheckerNames", spec := "checkerNames", recurses := true, apart := false }
def CheckerNamesSaid : Prop := checkerNamesRow.holds Try.pinned (OpenSpec.ofChange checkerNamesSpec)

/-- ITS FALSE NEIGHBOUR: 'it returns false'. Refute it at one input. -/
def checkerNamesWrong : ChangeSpec := { name := "checkerNames", fn := fun _ => fun
  | [d] => { results := [.lit (.bool false)], args := [d] }
  | _ => none }
def CheckerNamesWrongFalsely : Prop := checkerNamesRow.holds Try.pinned (OpenSpec.ofChange checkerNamesWrong)

/-- 'debuggerlaw04.CheckerResolves': WHATEVER THE INPUT: true; the input reads as it did. -/
def checkerResolvesSpec : ChangeSpec := { name := "checkerResolves", fn := fun _ => fun
  | [d] => { results := [.lit (.bool true)], args := [d] }
  | _ => none }
def checkerResolvesRow : OpenClaim := { program := "ytfglbdkfnphjgaa", sum := "d99e25177a5647f31b16abd1da9345f5995182638cfeeb535d8db349ae0e6309", func := "debugger/debuggerlaw04.CheckerResolves", spec := "checkerResolves", recurses := true, apart := false }
def CheckerResolvesSaid : Prop := checkerResolvesRow.holds Try.pinned (OpenSpec.ofChange checkerResolvesSpec)

/-- ITS FALSE NEIGHBOUR: 'it returns false'. Refute it at one input. -/
def checkerResolvesWrong : ChangeSpec := { name := "checkerResolves", fn := fun _ => fun
  | [d] => { results := [.lit (.bool false)], args := [d] }
  | _ => none }
def CheckerResolvesWrongFalsely : Prop := checkerResolvesRow.holds Try.pinned (OpenSpec.ofChange checkerResolvesWrong)

/- THE SECOND FORM. 'bulk': how many values and letters a reading holds, each counted each time it is reached (what is shared counts as often as it is met; a slice's spare places count too). A statement '..UptoSaid' is the law's where the arguments, and the package variables that the reading takes, are together of bulk at most 1048576: NARROWER than '..Said'. Prove '..Said' where nothing that the law and all that it calls make is longer than what came in: it says more and counts as full. Else prove '..UptoSaid'. A law counts once. -/
mutual
def uptoBulk {H : Type} : DataW H → Nat
  | .lit (.string bytes) => bytes.length + 1
  | .lit _ => 1
  | .nil => 1
  | .ptr d => uptoBulk d + 1
  | .slice elems spare => uptoBulkAll elems + uptoBulkAll spare + 1
  | .agg parts => uptoBulkAll parts + 1
  | .iface _ d => uptoBulk d + 1
  | .map entries => uptoBulkEntries entries + 1
  | .held _ => 1
def uptoBulkAll {H : Type} : List (DataW H) → Nat
  | [] => 0
  | d :: r => uptoBulk d + uptoBulkAll r
def uptoBulkEntries {H : Type} : List (Lit × DataW H) → Nat
  | [] => 0
  | x :: r => uptoBulkEntry x + uptoBulkEntries r
def uptoBulkEntry {H : Type} : Lit × DataW H → Nat
  | (.string bytes, d) => bytes.length + uptoBulk d + 1
  | (_, d) => uptoBulk d + 1
 end
def uptoSmall : (H : Type) → List (DataW H) → Bool := fun _ ds => decide (uptoBulkAll ds ≤ 1048576)
def OpenSpec.upto (s : _root_.Go.ChangeSpec) : _root_.Go.OpenSpec := { _root_.Go.OpenSpec.ofChange s with cond := some uptoSmall }

/-- 'debuggerlaw05.InterpWindows', WHERE WHAT IT READS IS OF BULK AT MOST 1048576: true; the input reads as it did. -/
def interpWindowsUptoRow : OpenClaim := { program := "ytfglbdkfnphjgaa", sum := "d99e25177a5647f31b16abd1da9345f5995182638cfeeb535d8db349ae0e6309", func := "debugger/debuggerlaw05.InterpWindows", spec := "interpWindows", unfollowed := true, recurses := true, apart := false, narrowed := true }
def InterpWindowsUptoSaid : Prop := interpWindowsUptoRow.holds Try.pinned (OpenSpec.upto interpWindowsSpec)

/-- 'debuggerlaw05.InterpSteps', WHERE WHAT IT READS IS OF BULK AT MOST 1048576: true; the input reads as it did. -/
def interpStepsUptoRow : OpenClaim := { program := "ytfglbdkfnphjgaa", sum := "d99e25177a5647f31b16abd1da9345f5995182638cfeeb535d8db349ae0e6309", func := "debugger/debuggerlaw05.InterpSteps", spec := "interpSteps", unfollowed := true, recurses := true, apart := false, narrowed := true }
def InterpStepsUptoSaid : Prop := interpStepsUptoRow.holds Try.pinned (OpenSpec.upto interpStepsSpec)

/-- 'debuggerlaw05.InterpKnown', WHERE WHAT IT READS IS OF BULK AT MOST 1048576: true; the input reads as it did. -/
def interpKnownUptoRow : OpenClaim := { program := "ytfglbdkfnphjgaa", sum := "d99e25177a5647f31b16abd1da9345f5995182638cfeeb535d8db349ae0e6309", func := "debugger/debuggerlaw05.InterpKnown", spec := "interpKnown", unfollowed := true, recurses := true, apart := false, narrowed := true }
def InterpKnownUptoSaid : Prop := interpKnownUptoRow.holds Try.pinned (OpenSpec.upto interpKnownSpec)

/-- 'debuggerlaw05.InterpStays', WHERE WHAT IT READS IS OF BULK AT MOST 1048576: true; the input reads as it did. -/
def interpStaysUptoRow : OpenClaim := { program := "ytfglbdkfnphjgaa", sum := "d99e25177a5647f31b16abd1da9345f5995182638cfeeb535d8db349ae0e6309", func := "debugger/debuggerlaw05.InterpStays", spec := "interpStays", unfollowed := true, recurses := true, apart := false, narrowed := true }
def InterpStaysUptoSaid : Prop := interpStaysUptoRow.holds Try.pinned (OpenSpec.upto interpStaysSpec)

/-- 'debuggerlaw04.CheckerChecks', WHERE WHAT IT READS IS OF BULK AT MOST 1048576: true; the input reads as it did. -/
def checkerChecksUptoRow : OpenClaim := { program := "ytfglbdkfnphjgaa", sum := "d99e25177a5647f31b16abd1da9345f5995182638cfeeb535d8db349ae0e6309", func := "debugger/debuggerlaw04.CheckerChecks", spec := "checkerChecks", recurses := true, apart := false, narrowed := true }
def CheckerChecksUptoSaid : Prop := checkerChecksUptoRow.holds Try.pinned (OpenSpec.upto checkerChecksSpec)

/-- 'debuggerlaw04.CheckerSpoilt', WHERE WHAT IT READS IS OF BULK AT MOST 1048576: true; the input reads as it did. -/
def checkerSpoiltUptoRow : OpenClaim := { program := "ytfglbdkfnphjgaa", sum := "d99e25177a5647f31b16abd1da9345f5995182638cfeeb535d8db349ae0e6309", func := "debugger/debuggerlaw04.CheckerSpoilt", spec := "checkerSpoilt", recurses := true, apart := false, narrowed := true }
def CheckerSpoiltUptoSaid : Prop := checkerSpoiltUptoRow.holds Try.pinned (OpenSpec.upto checkerSpoiltSpec)

/-- 'debuggerlaw04.CheckerVisible', WHERE WHAT IT READS IS OF BULK AT MOST 1048576: true; the input reads as it did. -/
def checkerVisibleUptoRow : OpenClaim := { program := "ytfglbdkfnphjgaa", sum := "d99e25177a5647f31b16abd1da9345f5995182638cfeeb535d8db349ae0e6309", func := "debugger/debuggerlaw04.CheckerVisible", spec := "checkerVisible", recurses := true, apart := false, narrowed := true }
def CheckerVisibleUptoSaid : Prop := checkerVisibleUptoRow.holds Try.pinned (OpenSpec.upto checkerVisibleSpec)

/-- 'debuggerlaw04.CheckerNumbers', WHERE WHAT IT READS IS OF BULK AT MOST 1048576: true; the input reads as it did. -/
def checkerNumbersUptoRow : OpenClaim := { program := "ytfglbdkfnphjgaa", sum := "d99e25177a5647f31b16abd1da9345f5995182638cfeeb535d8db349ae0e6309", func := "debugger/debuggerlaw04.CheckerNumbers", spec := "checkerNumbers", recurses := true, apart := false, narrowed := true }
def CheckerNumbersUptoSaid : Prop := checkerNumbersUptoRow.holds Try.pinned (OpenSpec.upto checkerNumbersSpec)

/-- 'debuggerlaw04.CheckerNames', WHERE WHAT IT READS IS OF BULK AT MOST 1048576: true; the input reads as it did. -/
def checkerNamesUptoRow : OpenClaim := { program := "ytfglbdkfnphjgaa", sum := "d99e25177a5647f31b16abd1da9345f5995182638cfeeb535d8db349ae0e6309", func := "debugger/debuggerlaw04.CheckerNames", spec := "checkerNames", recurses := true, apart := false, narrowed := true }
def CheckerNamesUptoSaid : Prop := checkerNamesUptoRow.holds Try.pinned (OpenSpec.upto checkerNamesSpec)

/-- 'debuggerlaw04.CheckerResolves', WHERE WHAT IT READS IS OF BULK AT MOST 1048576: true; the input reads as it did. -/
def checkerResolvesUptoRow : OpenClaim := { program := "ytfglbdkfnphjgaa", sum := "d99e25177a5647f31b16abd1da9345f5995182638cfeeb535d8db349ae0e6309", func := "debugger/debuggerlaw04.CheckerResolves", spec := "checkerResolves", recurses := true, apart := false, narrowed := true }
def CheckerResolvesUptoSaid : Prop := checkerResolvesUptoRow.holds Try.pinned (OpenSpec.upto checkerResolvesSpec)

end Rows
end Go.Proofs.Ytfglbdkfnphjgaa
