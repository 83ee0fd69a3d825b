/-
  No cell of these rows narrows 'for every input' (looked for: loops, veiled, ifaces, maps, wideKeys, modest, calm, conditions, laid).
  DERIVED. THE GIVEN ROWS OF THIS SEAT. 5 by the template 'for every input the law returns true; each argument reads behind the call as it read before'; 0 by the template 'total and deterministic' (their statements: YtgnomdhaibigiaaTotals.lean).
  GIVEN WITH THE SEED: the statements are not yours to turn. If you find one false, say at which input.
  Laid BY PROGRAM, IN A SANDBOX (cutbox-rows.mjs): the forced cells as the released guide's own fill.sh prints them over the translation 3771942695fedf57… (all of the seat's roots in one cut). By AI agents, Wed Nov 11 2026. No macro, syntax, notation, axiom, sorry.
-/
import Derived.Test.YtgnomdhaibigiaaChecked
import GoSem.Claim
import GoSem.ClaimJoined
import GoSem.ClaimMapViews
import Derived.JoinedTies
import Derived.KernelRfl
namespace Go.Proofs.Ytgnomdhaibigiaa
/- THE CELL 'sum', in the pinned program and in every row, IS THE sha256 OF THE DUMP (.gsa) THAT YtgnomdhaibigiaaProg.lean LOADS. Nothing in Lean hashes anything: it is a label: what it is worth is what the hold of that sum in a sandbox is worth. -/
noncomputable def Try.pinned : Pinned := { name := "ytgnomdhaibigiaa", sum := "3771942695fedf577ba494bceac8e80c77170f92cbe4569c5e3b6a865cd52584", checked := Try.checked }
namespace Rows
def none {H : Type} : Left H := { results := [], args := [] }

/-- 'debuggerlaw08.FoldBinary': WHATEVER THE INPUT: true; the input reads as it did. -/
def foldBinarySpec : ChangeSpec := { name := "foldBinary", fn := fun _ => fun
  | [d1, d2, d3] => { results := [.lit (.bool true)], args := [d1, d2, d3] }
  | _ => none }
def foldBinaryRow : OpenClaim := { program := "ytgnomdhaibigiaa", sum := "3771942695fedf577ba494bceac8e80c77170f92cbe4569c5e3b6a865cd52584", func := "debugger/debuggerlaw08.FoldBinary", spec := "foldBinary", unfollowed := true, recurses := true, plainKeys := false, apart := false }
def FoldBinarySaid : Prop := foldBinaryRow.holds Try.pinned (OpenSpec.ofChange foldBinarySpec)

/-- ITS FALSE NEIGHBOUR: 'it returns false'. Refute it at one input. -/
def foldBinaryWrong : ChangeSpec := { name := "foldBinary", fn := fun _ => fun
  | [d1, d2, d3] => { results := [.lit (.bool false)], args := [d1, d2, d3] }
  | _ => none }
def FoldBinaryWrongFalsely : Prop := foldBinaryRow.holds Try.pinned (OpenSpec.ofChange foldBinaryWrong)

/-- 'debuggerlaw08.FoldBranch': WHATEVER THE INPUT: true; the input reads as it did. -/
def foldBranchSpec : ChangeSpec := { name := "foldBranch", fn := fun _ => fun
  | [d1, d2] => { results := [.lit (.bool true)], args := [d1, d2] }
  | _ => none }
def foldBranchRow : OpenClaim := { program := "ytgnomdhaibigiaa", sum := "3771942695fedf577ba494bceac8e80c77170f92cbe4569c5e3b6a865cd52584", func := "debugger/debuggerlaw08.FoldBranch", spec := "foldBranch", unfollowed := true, recurses := true, plainKeys := false, apart := false }
def FoldBranchSaid : Prop := foldBranchRow.holds Try.pinned (OpenSpec.ofChange foldBranchSpec)

/-- ITS FALSE NEIGHBOUR: 'it returns false'. Refute it at one input. -/
def foldBranchWrong : ChangeSpec := { name := "foldBranch", fn := fun _ => fun
  | [d1, d2] => { results := [.lit (.bool false)], args := [d1, d2] }
  | _ => none }
def FoldBranchWrongFalsely : Prop := foldBranchRow.holds Try.pinned (OpenSpec.ofChange foldBranchWrong)

/-- 'debuggerlaw10.DeadSalvages': WHATEVER THE INPUT: true; the input reads as it did. -/
def deadSalvagesSpec : ChangeSpec := { name := "deadSalvages", fn := fun _ => fun
  | [d1, d2] => { results := [.lit (.bool true)], args := [d1, d2] }
  | _ => none }
def deadSalvagesRow : OpenClaim := { program := "ytgnomdhaibigiaa", sum := "3771942695fedf577ba494bceac8e80c77170f92cbe4569c5e3b6a865cd52584", func := "debugger/debuggerlaw10.DeadSalvages", spec := "deadSalvages", unfollowed := true, recurses := true, plainKeys := false, apart := false }
def DeadSalvagesSaid : Prop := deadSalvagesRow.holds Try.pinned (OpenSpec.ofChange deadSalvagesSpec)

/-- ITS FALSE NEIGHBOUR: 'it returns false'. Refute it at one input. -/
def deadSalvagesWrong : ChangeSpec := { name := "deadSalvages", fn := fun _ => fun
  | [d1, d2] => { results := [.lit (.bool false)], args := [d1, d2] }
  | _ => none }
def DeadSalvagesWrongFalsely : Prop := deadSalvagesRow.holds Try.pinned (OpenSpec.ofChange deadSalvagesWrong)

/-- 'debuggerlaw10.DeadEntry': WHATEVER THE INPUT: true; the input reads as it did. -/
def deadEntrySpec : ChangeSpec := { name := "deadEntry", fn := fun _ => fun
  | [d] => { results := [.lit (.bool true)], args := [d] }
  | _ => none }
def deadEntryRow : OpenClaim := { program := "ytgnomdhaibigiaa", sum := "3771942695fedf577ba494bceac8e80c77170f92cbe4569c5e3b6a865cd52584", func := "debugger/debuggerlaw10.DeadEntry", spec := "deadEntry", unfollowed := true, recurses := true, plainKeys := false, apart := false }
def DeadEntrySaid : Prop := deadEntryRow.holds Try.pinned (OpenSpec.ofChange deadEntrySpec)

/-- ITS FALSE NEIGHBOUR: 'it returns false'. Refute it at one input. -/
def deadEntryWrong : ChangeSpec := { name := "deadEntry", fn := fun _ => fun
  | [d] => { results := [.lit (.bool false)], args := [d] }
  | _ => none }
def DeadEntryWrongFalsely : Prop := deadEntryRow.holds Try.pinned (OpenSpec.ofChange deadEntryWrong)

/-- 'debuggerlaw06.IrShows': WHATEVER THE INPUT: true; the input reads as it did. -/
def irShowsSpec : ChangeSpec := { name := "irShows", fn := fun _ => fun
  | [d1, d2, d3, d4] => { results := [.lit (.bool true)], args := [d1, d2, d3, d4] }
  | _ => none }
def irShowsRow : OpenClaim := { program := "ytgnomdhaibigiaa", sum := "3771942695fedf577ba494bceac8e80c77170f92cbe4569c5e3b6a865cd52584", func := "debugger/debuggerlaw06.IrShows", spec := "irShows", unfollowed := true, recurses := true, plainKeys := false, apart := false }
def IrShowsSaid : Prop := irShowsRow.holds Try.pinned (OpenSpec.ofChange irShowsSpec)

/-- ITS FALSE NEIGHBOUR: 'it returns false'. Refute it at one input. -/
def irShowsWrong : ChangeSpec := { name := "irShows", fn := fun _ => fun
  | [d1, d2, d3, d4] => { results := [.lit (.bool false)], args := [d1, d2, d3, d4] }
  | _ => none }
def IrShowsWrongFalsely : Prop := irShowsRow.holds Try.pinned (OpenSpec.ofChange irShowsWrong)

/- THE SECOND FORM. 'bulk': how many values and letters a reading holds, each counted each time it is reached (what is shared counts as often as it is met; a slice's spare places count too). A statement '..UptoSaid' is the law's where the arguments, and the package variables that the reading takes, are together of bulk at most 1048576: NARROWER than '..Said'. Prove '..Said' where nothing that the law and all that it calls make is longer than what came in: it says more and counts as full. Else prove '..UptoSaid'. A law counts once. -/
mutual
def uptoBulk {H : Type} : DataW H → Nat
  | .lit (.string bytes) => bytes.length + 1
  | .lit _ => 1
  | .nil => 1
  | .ptr d => uptoBulk d + 1
  | .slice elems spare => uptoBulkAll elems + uptoBulkAll spare + 1
  | .agg parts => uptoBulkAll parts + 1
  | .iface _ d => uptoBulk d + 1
  | .map entries => uptoBulkEntries entries + 1
  | .held _ => 1
def uptoBulkAll {H : Type} : List (DataW H) → Nat
  | [] => 0
  | d :: r => uptoBulk d + uptoBulkAll r
def uptoBulkEntries {H : Type} : List (Lit × DataW H) → Nat
  | [] => 0
  | x :: r => uptoBulkEntry x + uptoBulkEntries r
def uptoBulkEntry {H : Type} : Lit × DataW H → Nat
  | (.string bytes, d) => bytes.length + uptoBulk d + 1
  | (_, d) => uptoBulk d + 1
 end
def uptoSmall : (H : Type) → List (DataW H) → Bool := fun _ ds => decide (uptoBulkAll ds ≤ 1048576)
def OpenSpec.upto (s : _root_.Go.ChangeSpec) : _root_.Go.OpenSpec := { _root_.Go.OpenSpec.ofChange s with cond := some uptoSmall }

/-- 'debuggerlaw08.FoldBinary', WHERE WHAT IT READS IS OF BULK AT MOST 1048576: true; the input reads as it did. -/
def foldBinaryUptoRow : OpenClaim := { program := "ytgnomdhaibigiaa", sum := "3771942695fedf577ba494bceac8e80c77170f92cbe4569c5e3b6a865cd52584", func := "debugger/debuggerlaw08.FoldBinary", spec := "foldBinary", unfollowed := true, recurses := true, plainKeys := false, apart := false, narrowed := true }
def FoldBinaryUptoSaid : Prop := foldBinaryUptoRow.holds Try.pinned (OpenSpec.upto foldBinarySpec)

/-- 'debuggerlaw08.FoldBranch', WHERE WHAT IT READS IS OF BULK AT MOST 1048576: true; the input reads as it did. -/
def foldBranchUptoRow : OpenClaim := { program := "ytgnomdhaibigiaa", sum := "3771942695fedf577ba494bceac8e80c77170f92cbe4569c5e3b6a865cd52584", func := "debugger/debuggerlaw08.FoldBranch", spec := "foldBranch", unfollowed := true, recurses := true, plainKeys := false, apart := false, narrowed := true }
def FoldBranchUptoSaid : Prop := foldBranchUptoRow.holds Try.pinned (OpenSpec.upto foldBranchSpec)

/-- 'debuggerlaw10.DeadSalvages', WHERE WHAT IT READS IS OF BULK AT MOST 1048576: true; the input reads as it did. -/
def deadSalvagesUptoRow : OpenClaim := { program := "ytgnomdhaibigiaa", sum := "3771942695fedf577ba494bceac8e80c77170f92cbe4569c5e3b6a865cd52584", func := "debugger/debuggerlaw10.DeadSalvages", spec := "deadSalvages", unfollowed := true, recurses := true, plainKeys := false, apart := false, narrowed := true }
def DeadSalvagesUptoSaid : Prop := deadSalvagesUptoRow.holds Try.pinned (OpenSpec.upto deadSalvagesSpec)

/-- 'debuggerlaw10.DeadEntry', WHERE WHAT IT READS IS OF BULK AT MOST 1048576: true; the input reads as it did. -/
def deadEntryUptoRow : OpenClaim := { program := "ytgnomdhaibigiaa", sum := "3771942695fedf577ba494bceac8e80c77170f92cbe4569c5e3b6a865cd52584", func := "debugger/debuggerlaw10.DeadEntry", spec := "deadEntry", unfollowed := true, recurses := true, plainKeys := false, apart := false, narrowed := true }
def DeadEntryUptoSaid : Prop := deadEntryUptoRow.holds Try.pinned (OpenSpec.upto deadEntrySpec)

/-- 'debuggerlaw06.IrShows', WHERE WHAT IT READS IS OF BULK AT MOST 1048576: true; the input reads as it did. -/
def irShowsUptoRow : OpenClaim := { program := "ytgnomdhaibigiaa", sum := "3771942695fedf577ba494bceac8e80c77170f92cbe4569c5e3b6a865cd52584", func := "debugger/debuggerlaw06.IrShows", spec := "irShows", unfollowed := true, recurses := true, plainKeys := false, apart := false, narrowed := true }
def IrShowsUptoSaid : Prop := irShowsUptoRow.holds Try.pinned (OpenSpec.upto irShowsSpec)

end Rows
end Go.Proofs.Ytgnomdhaibigiaa
