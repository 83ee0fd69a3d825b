/-
  No cell of these rows narrows 'for every input' (looked for: loops, veiled, ifaces, maps, wideKeys, modest, calm, conditions, laid).
  DERIVED. THE GIVEN ROWS OF THIS SEAT. 4 by the template 'for every input the law returns true; each argument reads behind the call as it read before'; 0 by the template 'total and deterministic' (their statements: YtiffdbdglpabjaaTotals.lean).
  GIVEN WITH THE SEED: the statements are not yours to turn. If you find one false, say at which input.
  Laid BY PROGRAM, IN A SANDBOX (cutbox-rows.mjs): the forced cells as the released guide's own fill.sh prints them over the translation caa0f6024a834344… (all of the seat's roots in one cut). By AI agents, Wed Nov 11 2026. No macro, syntax, notation, axiom, sorry.
-/
import Derived.Test.YtiffdbdglpabjaaChecked
import GoSem.Claim
import GoSem.ClaimJoined
import GoSem.ClaimMapViews
import Derived.JoinedTies
import Derived.KernelRfl
namespace Go.Proofs.Ytiffdbdglpabjaa
/- THE CELL 'sum', in the pinned program and in every row, IS THE sha256 OF THE DUMP (.gsa) THAT YtiffdbdglpabjaaProg.lean LOADS. Nothing in Lean hashes anything: it is a label: what it is worth is what the hold of that sum in a sandbox is worth. -/
noncomputable def Try.pinned : Pinned := { name := "ytiffdbdglpabjaa", sum := "caa0f6024a8343443b664b36d439c07c34b76e0599fbd5d080c82f8d7364f4ee", checked := Try.checked }
namespace Rows
def none {H : Type} : Left H := { results := [], args := [] }

/-- 'debuggerlaw05.InterpLoops': WHATEVER THE INPUT: true; the input reads as it did. -/
def interpLoopsSpec : ChangeSpec := { name := "interpLoops", fn := fun _ => fun
  | [d1, d2] => { results := [.lit (.bool true)], args := [d1, d2] }
  | _ => none }
def interpLoopsRow : OpenClaim := { program := "ytiffdbdglpabjaa", sum := "caa0f6024a8343443b664b36d439c07c34b76e0599fbd5d080c82f8d7364f4ee", func := "debugger/debuggerlaw05.InterpLoops", spec := "interpLoops", unfollowed := true, recurses := true, apart := false }
def InterpLoopsSaid : Prop := interpLoopsRow.holds Try.pinned (OpenSpec.ofChange interpLoopsSpec)

/-- ITS FALSE NEIGHBOUR: 'it returns false'. Refute it at one input. -/
def interpLoopsWrong : ChangeSpec := { name := "interpLoops", fn := fun _ => fun
  | [d1, d2] => { results := [.lit (.bool false)], args := [d1, d2] }
  | _ => none }
def InterpLoopsWrongFalsely : Prop := interpLoopsRow.holds Try.pinned (OpenSpec.ofChange interpLoopsWrong)

/-- 'debuggerlaw05.InterpCalls': WHATEVER THE INPUT: true; the input reads as it did. -/
def interpCallsSpec : ChangeSpec := { name := "interpCalls", fn := fun _ => fun
  | [d] => { results := [.lit (.bool true)], args := [d] }
  | _ => none }
def interpCallsRow : OpenClaim := { program := "ytiffdbdglpabjaa", sum := "caa0f6024a8343443b664b36d439c07c34b76e0599fbd5d080c82f8d7364f4ee", func := "debugger/debuggerlaw05.InterpCalls", spec := "interpCalls", unfollowed := true, recurses := true, apart := false }
def InterpCallsSaid : Prop := interpCallsRow.holds Try.pinned (OpenSpec.ofChange interpCallsSpec)

/-- ITS FALSE NEIGHBOUR: 'it returns false'. Refute it at one input. -/
def interpCallsWrong : ChangeSpec := { name := "interpCalls", fn := fun _ => fun
  | [d] => { results := [.lit (.bool false)], args := [d] }
  | _ => none }
def InterpCallsWrongFalsely : Prop := interpCallsRow.holds Try.pinned (OpenSpec.ofChange interpCallsWrong)

/-- 'debuggerlaw05.InterpThrows': WHATEVER THE INPUT: true; the input reads as it did. -/
def interpThrowsSpec : ChangeSpec := { name := "interpThrows", fn := fun _ => fun
  | [d1, d2] => { results := [.lit (.bool true)], args := [d1, d2] }
  | _ => none }
def interpThrowsRow : OpenClaim := { program := "ytiffdbdglpabjaa", sum := "caa0f6024a8343443b664b36d439c07c34b76e0599fbd5d080c82f8d7364f4ee", func := "debugger/debuggerlaw05.InterpThrows", spec := "interpThrows", unfollowed := true, recurses := true, apart := false }
def InterpThrowsSaid : Prop := interpThrowsRow.holds Try.pinned (OpenSpec.ofChange interpThrowsSpec)

/-- ITS FALSE NEIGHBOUR: 'it returns false'. Refute it at one input. -/
def interpThrowsWrong : ChangeSpec := { name := "interpThrows", fn := fun _ => fun
  | [d1, d2] => { results := [.lit (.bool false)], args := [d1, d2] }
  | _ => none }
def InterpThrowsWrongFalsely : Prop := interpThrowsRow.holds Try.pinned (OpenSpec.ofChange interpThrowsWrong)

/-- 'debuggerlaw05.InterpData': WHATEVER THE INPUT: true; the input reads as it did. -/
def interpDataSpec : ChangeSpec := { name := "interpData", fn := fun _ => fun
  | [d1, d2, d3] => { results := [.lit (.bool true)], args := [d1, d2, d3] }
  | _ => none }
def interpDataRow : OpenClaim := { program := "ytiffdbdglpabjaa", sum := "caa0f6024a8343443b664b36d439c07c34b76e0599fbd5d080c82f8d7364f4ee", func := "debugger/debuggerlaw05.InterpData", spec := "interpData", unfollowed := true, recurses := true, apart := false }
def InterpDataSaid : Prop := interpDataRow.holds Try.pinned (OpenSpec.ofChange interpDataSpec)

/-- ITS FALSE NEIGHBOUR: 'it returns false'. Refute it at one input. -/
def interpDataWrong : ChangeSpec := { name := "interpData", fn := fun _ => fun
  | [d1, d2, d3] => { results := [.lit (.bool false)], args := [d1, d2, d3] }
  | _ => none }
def InterpDataWrongFalsely : Prop := interpDataRow.holds Try.pinned (OpenSpec.ofChange interpDataWrong)

/- THE SECOND FORM. 'bulk': how many values and letters a reading holds, each counted each time it is reached (what is shared counts as often as it is met; a slice's spare places count too). A statement '..UptoSaid' is the law's where the arguments, and the package variables that the reading takes, are together of bulk at most 1048576: NARROWER than '..Said'. Prove '..Said' where nothing that the law and all that it calls make is longer than what came in: it says more and counts as full. Else prove '..UptoSaid'. A law counts once. -/
mutual
def uptoBulk {H : Type} : DataW H → Nat
  | .lit (.string bytes) => bytes.length + 1
  | .lit _ => 1
  | .nil => 1
  | .ptr d => uptoBulk d + 1
  | .slice elems spare => uptoBulkAll elems + uptoBulkAll spare + 1
  | .agg parts => uptoBulkAll parts + 1
  | .iface _ d => uptoBulk d + 1
  | .map entries => uptoBulkEntries entries + 1
  | .held _ => 1
def uptoBulkAll {H : Type} : List (DataW H) → Nat
  | [] => 0
  | d :: r => uptoBulk d + uptoBulkAll r
def uptoBulkEntries {H : Type} : List (Lit × DataW H) → Nat
  | [] => 0
  | x :: r => uptoBulkEntry x + uptoBulkEntries r
def uptoBulkEntry {H : Type} : Lit × DataW H → Nat
  | (.string bytes, d) => bytes.length + uptoBulk d + 1
  | (_, d) => uptoBulk d + 1
 end
def uptoSmall : (H : Type) → List (DataW H) → Bool := fun _ ds => decide (uptoBulkAll ds ≤ 1048576)
def OpenSpec.upto (s : _root_.Go.ChangeSpec) : _root_.Go.OpenSpec := { _root_.Go.OpenSpec.ofChange s with cond := some uptoSmall }

/-- 'debuggerlaw05.InterpLoops', WHERE WHAT IT READS IS OF BULK AT MOST 1048576: true; the input reads as it did. -/
def interpLoopsUptoRow : OpenClaim := { program := "ytiffdbdglpabjaa", sum := "caa0f6024a8343443b664b36d439c07c34b76e0599fbd5d080c82f8d7364f4ee", func := "debugger/debuggerlaw05.InterpLoops", spec := "interpLoops", unfollowed := true, recurses := true, apart := false, narrowed := true }
def InterpLoopsUptoSaid : Prop := interpLoopsUptoRow.holds Try.pinned (OpenSpec.upto interpLoopsSpec)

/-- 'debuggerlaw05.InterpCalls', WHERE WHAT IT READS IS OF BULK AT MOST 1048576: true; the input reads as it did. -/
def interpCallsUptoRow : OpenClaim := { program := "ytiffdbdglpabjaa", sum := "caa0f6024a8343443b664b36d439c07c34b76e0599fbd5d080c82f8d7364f4ee", func := "debugger/debuggerlaw05.InterpCalls", spec := "interpCalls", unfollowed := true, recurses := true, apart := false, narrowed := true }
def InterpCallsUptoSaid : Prop := interpCallsUptoRow.holds Try.pinned (OpenSpec.upto interpCallsSpec)

/-- 'debuggerlaw05.InterpThrows', WHERE WHAT IT READS IS OF BULK AT MOST 1048576: true; the input reads as it did. -/
def interpThrowsUptoRow : OpenClaim := { program := "ytiffdbdglpabjaa", sum := "caa0f6024a8343443b664b36d439c07c34b76e0599fbd5d080c82f8d7364f4ee", func := "debugger/debuggerlaw05.InterpThrows", spec := "interpThrows", unfollowed := true, recurses := true, apart := false, narrowed := true }
def InterpThrowsUptoSaid : Prop := interpThrowsUptoRow.holds Try.pinned (OpenSpec.upto interpThrowsSpec)

/-- 'debuggerlaw05.InterpData', WHERE WHAT IT READS IS OF BULK AT MOST 1048576: true; the input reads as it did. -/
def interpDataUptoRow : OpenClaim := { program := "ytiffdbdglpabjaa", sum := "caa0f6024a8343443b664b36d439c07c34b76e0599fbd5d080c82f8d7364f4ee", func := "debugger/debuggerlaw05.InterpData", spec := "interpData", unfollowed := true, recurses := true, apart := false, narrowed := true }
def InterpDataUptoSaid : Prop := interpDataUptoRow.holds Try.pinned (OpenSpec.upto interpDataSpec)

end Rows
end Go.Proofs.Ytiffdbdglpabjaa
