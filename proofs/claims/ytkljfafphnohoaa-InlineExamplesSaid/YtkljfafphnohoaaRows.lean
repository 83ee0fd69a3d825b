/-
  No cell of these rows narrows 'for every input' (looked for: loops, veiled, ifaces, maps, wideKeys, modest, calm, conditions, laid).
  DERIVED. THE GIVEN ROWS OF THIS SEAT. 3 by the template 'for every input the law returns true; each argument reads behind the call as it read before'; 0 by the template 'total and deterministic' (their statements: YtkljfafphnohoaaTotals.lean).
  GIVEN WITH THE SEED: the statements are not yours to turn. If you find one false, say at which input.
  Laid BY PROGRAM, IN A SANDBOX (cutbox-rows.mjs): the forced cells as the released guide's own fill.sh prints them over the translation 47962fc15f6a82c4… (all of the seat's roots in one cut). By AI agents, Wed Nov 11 2026. No macro, syntax, notation, axiom, sorry.
-/
import Derived.Test.YtkljfafphnohoaaChecked
import GoSem.Claim
import GoSem.ClaimJoined
import GoSem.ClaimMapViews
import Derived.JoinedTies
import Derived.KernelRfl
namespace Go.Proofs.Ytkljfafphnohoaa
/- THE CELL 'sum', in the pinned program and in every row, IS THE sha256 OF THE DUMP (.gsa) THAT YtkljfafphnohoaaProg.lean LOADS. Nothing in Lean hashes anything: it is a label: what it is worth is what the hold of that sum in a sandbox is worth. -/
noncomputable def Try.pinned : Pinned := { name := "ytkljfafphnohoaa", sum := "47962fc15f6a82c4da7748f59fbb472eac8bfafd4314dcce172dee2811fed62a", checked := Try.checked }
namespace Rows
def none {H : Type} : Left H := { results := [], args := [] }

/-- 'debuggerlaw04.CheckerErrors': WHATEVER THE INPUT: true; the input reads as it did. -/
def checkerErrorsSpec : ChangeSpec := { name := "checkerErrors", fn := fun _ => fun
  | [d1, d2] => { results := [.lit (.bool true)], args := [d1, d2] }
  | _ => none }
def checkerErrorsRow : OpenClaim := { program := "ytkljfafphnohoaa", sum := "47962fc15f6a82c4da7748f59fbb472eac8bfafd4314dcce172dee2811fed62a", func := "debugger/debuggerlaw04.CheckerErrors", spec := "checkerErrors", recurses := true, plainKeys := false, apart := false }
def CheckerErrorsSaid : Prop := checkerErrorsRow.holds Try.pinned (OpenSpec.ofChange checkerErrorsSpec)

/-- ITS FALSE NEIGHBOUR: 'it returns false'. Refute it at one input. -/
def checkerErrorsWrong : ChangeSpec := { name := "checkerErrors", fn := fun _ => fun
  | [d1, d2] => { results := [.lit (.bool false)], args := [d1, d2] }
  | _ => none }
def CheckerErrorsWrongFalsely : Prop := checkerErrorsRow.holds Try.pinned (OpenSpec.ofChange checkerErrorsWrong)

/-- 'debuggerlaw07.LowerExamples': WHATEVER THE INPUT: true; the input reads as it did. -/
def lowerExamplesSpec : ChangeSpec := { name := "lowerExamples", fn := fun _ => fun
  | [] => { results := [.lit (.bool true)], args := [] }
  | _ => none }
def lowerExamplesRow : OpenClaim := { program := "ytkljfafphnohoaa", sum := "47962fc15f6a82c4da7748f59fbb472eac8bfafd4314dcce172dee2811fed62a", func := "debugger/debuggerlaw07.LowerExamples", spec := "lowerExamples", unfollowed := true, recurses := true, plainKeys := false, apart := false }
def LowerExamplesSaid : Prop := lowerExamplesRow.holds Try.pinned (OpenSpec.ofChange lowerExamplesSpec)

/-- ITS FALSE NEIGHBOUR: 'it returns false'. Refute it at one input. -/
def lowerExamplesWrong : ChangeSpec := { name := "lowerExamples", fn := fun _ => fun
  | [] => { results := [.lit (.bool false)], args := [] }
  | _ => none }
def LowerExamplesWrongFalsely : Prop := lowerExamplesRow.holds Try.pinned (OpenSpec.ofChange lowerExamplesWrong)

/-- 'debuggerlaw11.InlineExamples': WHATEVER THE INPUT: true; the input reads as it did. -/
def inlineExamplesSpec : ChangeSpec := { name := "inlineExamples", fn := fun _ => fun
  | [d] => { results := [.lit (.bool true)], args := [d] }
  | _ => none }
def inlineExamplesRow : OpenClaim := { program := "ytkljfafphnohoaa", sum := "47962fc15f6a82c4da7748f59fbb472eac8bfafd4314dcce172dee2811fed62a", func := "debugger/debuggerlaw11.InlineExamples", spec := "inlineExamples", unfollowed := true, recurses := true, plainKeys := false, apart := false }
def InlineExamplesSaid : Prop := inlineExamplesRow.holds Try.pinned (OpenSpec.ofChange inlineExamplesSpec)

/-- ITS FALSE NEIGHBOUR: 'it returns false'. Refute it at one input. -/
def inlineExamplesWrong : ChangeSpec := { name := "inlineExamples", fn := fun _ => fun
  | [d] => { results := [.lit (.bool false)], args := [d] }
  | _ => none }
def InlineExamplesWrongFalsely : Prop := inlineExamplesRow.holds Try.pinned (OpenSpec.ofChange inlineExamplesWrong)

/- THE SECOND FORM. 'bulk': how many values and letters a reading holds, each counted each time it is reached (what is shared counts as often as it is met; a slice's spare places count too). A statement '..UptoSaid' is the law's where the arguments, and the package variables that the reading takes, are together of bulk at most 1048576: NARROWER than '..Said'. Prove '..Said' where nothing that the law and all that it calls make is longer than what came in: it says more and counts as full. Else prove '..UptoSaid'. A law counts once. -/
mutual
def uptoBulk {H : Type} : DataW H → Nat
  | .lit (.string bytes) => bytes.length + 1
  | .lit _ => 1
  | .nil => 1
  | .ptr d => uptoBulk d + 1
  | .slice elems spare => uptoBulkAll elems + uptoBulkAll spare + 1
  | .agg parts => uptoBulkAll parts + 1
  | .iface _ d => uptoBulk d + 1
  | .map entries => uptoBulkEntries entries + 1
  | .held _ => 1
def uptoBulkAll {H : Type} : List (DataW H) → Nat
  | [] => 0
  | d :: r => uptoBulk d + uptoBulkAll r
def uptoBulkEntries {H : Type} : List (Lit × DataW H) → Nat
  | [] => 0
  | x :: r => uptoBulkEntry x + uptoBulkEntries r
def uptoBulkEntry {H : Type} : Lit × DataW H → Nat
  | (.string bytes, d) => bytes.length + uptoBulk d + 1
  | (_, d) => uptoBulk d + 1
 end
def uptoSmall : (H : Type) → List (DataW H) → Bool := fun _ ds => decide (uptoBulkAll ds ≤ 1048576)
def OpenSpec.upto (s : _root_.Go.ChangeSpec) : _root_.Go.OpenSpec := { _root_.Go.OpenSpec.ofChange s with cond := some uptoSmall }

/-- 'debuggerlaw04.CheckerErrors', WHERE WHAT IT READS IS OF BULK AT MOST 1048576: true; the input reads as it did. -/
def checkerErrorsUptoRow : OpenClaim := { program := "ytkljfafphnohoaa", sum := "47962fc15f6a82c4da7748f59fbb472eac8bfafd4314dcce172dee2811fed62a", func := "debugger/debuggerlaw04.CheckerErrors", spec := "checkerErrors", recurses := true, plainKeys := false, apart := false, narrowed := true }
def CheckerErrorsUptoSaid : Prop := checkerErrorsUptoRow.holds Try.pinned (OpenSpec.upto checkerErrorsSpec)

/-- 'debuggerlaw07.LowerExamples', WHERE WHAT IT READS IS OF BULK AT MOST 1048576: true; the input reads as it did. -/
def lowerExamplesUptoRow : OpenClaim := { program := "ytkljfafphnohoaa", sum := "47962fc15f6a82c4da7748f59fbb472eac8bfafd4314dcce172dee2811fed62a", func := "debugger/debuggerlaw07.LowerExamples", spec := "lowerExamples", unfollowed := true, recurses := true, plainKeys := false, apart := false, narrowed := true }
def LowerExamplesUptoSaid : Prop := lowerExamplesUptoRow.holds Try.pinned (OpenSpec.upto lowerExamplesSpec)

/-- 'debuggerlaw11.InlineExamples', WHERE WHAT IT READS IS OF BULK AT MOST 1048576: true; the input reads as it did. -/
def inlineExamplesUptoRow : OpenClaim := { program := "ytkljfafphnohoaa", sum := "47962fc15f6a82c4da7748f59fbb472eac8bfafd4314dcce172dee2811fed62a", func := "debugger/debuggerlaw11.InlineExamples", spec := "inlineExamples", unfollowed := true, recurses := true, plainKeys := false, apart := false, narrowed := true }
def InlineExamplesUptoSaid : Prop := inlineExamplesUptoRow.holds Try.pinned (OpenSpec.upto inlineExamplesSpec)

end Rows
end Go.Proofs.Ytkljfafphnohoaa
