/-
  No cell of these rows narrows 'for every input' (looked for: loops, veiled, ifaces, maps, wideKeys, modest, calm, conditions, laid).
  DERIVED. THE GIVEN ROWS OF THIS SEAT. 5 by the template 'for every input the law returns true; each argument reads behind the call as it read before'; 0 by the template 'total and deterministic' (their statements: YtbpccmnalhdpmaaTotals.lean).
  GIVEN WITH THE SEED: the statements are not yours to turn. If you find one false, say at which input.
  Laid BY PROGRAM, IN A SANDBOX (cutbox-rows.mjs): the forced cells as the released guide's own fill.sh prints them over the translation b7ddc8e2a1e97e00… (all of the seat's roots in one cut). By AI agents, Wed Nov 11 2026. No macro, syntax, notation, axiom, sorry.
-/
import Derived.Test.YtbpccmnalhdpmaaChecked
import GoSem.Claim
import GoSem.ClaimJoined
import GoSem.ClaimMapViews
import Derived.JoinedTies
import Derived.KernelRfl
namespace Go.Proofs.Ytbpccmnalhdpmaa
/- THE CELL 'sum', in the pinned program and in every row, IS THE sha256 OF THE DUMP (.gsa) THAT YtbpccmnalhdpmaaProg.lean LOADS. Nothing in Lean hashes anything: it is a label: what it is worth is what the hold of that sum in a sandbox is worth. -/
noncomputable def Try.pinned : Pinned := { name := "ytbpccmnalhdpmaa", sum := "b7ddc8e2a1e97e0080eeb1988f3d02fac54ef413a987a22ef09d594b19febb88", checked := Try.checked }
namespace Rows
def none {H : Type} : Left H := { results := [], args := [] }

/-- 'debuggerlaw08.FoldRaw': WHATEVER THE INPUT: true; the input reads as it did. -/
def foldRawSpec : ChangeSpec := { name := "foldRaw", fn := fun _ => fun
  | [d] => { results := [.lit (.bool true)], args := [d] }
  | _ => none }
def foldRawRow : OpenClaim := { program := "ytbpccmnalhdpmaa", sum := "b7ddc8e2a1e97e0080eeb1988f3d02fac54ef413a987a22ef09d594b19febb88", func := "debugger/debuggerlaw08.FoldRaw", spec := "foldRaw", unfollowed := true, recurses := true, plainKeys := false, apart := false }
def FoldRawSaid : Prop := foldRawRow.holds Try.pinned (OpenSpec.ofChange foldRawSpec)

/-- ITS FALSE NEIGHBOUR: 'it returns false'. Refute it at one input. -/
def foldRawWrong : ChangeSpec := { name := "foldRaw", fn := fun _ => fun
  | [d] => { results := [.lit (.bool false)], args := [d] }
  | _ => none }
def FoldRawWrongFalsely : Prop := foldRawRow.holds Try.pinned (OpenSpec.ofChange foldRawWrong)

/-- 'debuggerlaw10.DeadRaw': WHATEVER THE INPUT: true; the input reads as it did. -/
def deadRawSpec : ChangeSpec := { name := "deadRaw", fn := fun _ => fun
  | [d] => { results := [.lit (.bool true)], args := [d] }
  | _ => none }
def deadRawRow : OpenClaim := { program := "ytbpccmnalhdpmaa", sum := "b7ddc8e2a1e97e0080eeb1988f3d02fac54ef413a987a22ef09d594b19febb88", func := "debugger/debuggerlaw10.DeadRaw", spec := "deadRaw", unfollowed := true, recurses := true, plainKeys := false, apart := false }
def DeadRawSaid : Prop := deadRawRow.holds Try.pinned (OpenSpec.ofChange deadRawSpec)

/-- ITS FALSE NEIGHBOUR: 'it returns false'. Refute it at one input. -/
def deadRawWrong : ChangeSpec := { name := "deadRaw", fn := fun _ => fun
  | [d] => { results := [.lit (.bool false)], args := [d] }
  | _ => none }
def DeadRawWrongFalsely : Prop := deadRawRow.holds Try.pinned (OpenSpec.ofChange deadRawWrong)

/-- 'debuggerlaw06.IrChecks': WHATEVER THE INPUT: true; the input reads as it did. -/
def irChecksSpec : ChangeSpec := { name := "irChecks", fn := fun _ => fun
  | [d] => { results := [.lit (.bool true)], args := [d] }
  | _ => none }
def irChecksRow : OpenClaim := { program := "ytbpccmnalhdpmaa", sum := "b7ddc8e2a1e97e0080eeb1988f3d02fac54ef413a987a22ef09d594b19febb88", func := "debugger/debuggerlaw06.IrChecks", spec := "irChecks", unfollowed := true, recurses := true, plainKeys := false, apart := false }
def IrChecksSaid : Prop := irChecksRow.holds Try.pinned (OpenSpec.ofChange irChecksSpec)

/-- ITS FALSE NEIGHBOUR: 'it returns false'. Refute it at one input. -/
def irChecksWrong : ChangeSpec := { name := "irChecks", fn := fun _ => fun
  | [d] => { results := [.lit (.bool false)], args := [d] }
  | _ => none }
def IrChecksWrongFalsely : Prop := irChecksRow.holds Try.pinned (OpenSpec.ofChange irChecksWrong)

/-- 'debuggerlaw06.IrRaw': WHATEVER THE INPUT: true; the input reads as it did. -/
def irRawSpec : ChangeSpec := { name := "irRaw", fn := fun _ => fun
  | [d1, d2, d3, d4, d5, d6] => { results := [.lit (.bool true)], args := [d1, d2, d3, d4, d5, d6] }
  | _ => none }
def irRawRow : OpenClaim := { program := "ytbpccmnalhdpmaa", sum := "b7ddc8e2a1e97e0080eeb1988f3d02fac54ef413a987a22ef09d594b19febb88", func := "debugger/debuggerlaw06.IrRaw", spec := "irRaw", unfollowed := true, recurses := true, plainKeys := false, apart := false }
def IrRawSaid : Prop := irRawRow.holds Try.pinned (OpenSpec.ofChange irRawSpec)

/-- ITS FALSE NEIGHBOUR: 'it returns false'. Refute it at one input. -/
def irRawWrong : ChangeSpec := { name := "irRaw", fn := fun _ => fun
  | [d1, d2, d3, d4, d5, d6] => { results := [.lit (.bool false)], args := [d1, d2, d3, d4, d5, d6] }
  | _ => none }
def IrRawWrongFalsely : Prop := irRawRow.holds Try.pinned (OpenSpec.ofChange irRawWrong)

/-- 'debuggerlaw11.InlineRaw': WHATEVER THE INPUT: true; the input reads as it did. -/
def inlineRawSpec : ChangeSpec := { name := "inlineRaw", fn := fun _ => fun
  | [d] => { results := [.lit (.bool true)], args := [d] }
  | _ => none }
def inlineRawRow : OpenClaim := { program := "ytbpccmnalhdpmaa", sum := "b7ddc8e2a1e97e0080eeb1988f3d02fac54ef413a987a22ef09d594b19febb88", func := "debugger/debuggerlaw11.InlineRaw", spec := "inlineRaw", unfollowed := true, recurses := true, plainKeys := false, apart := false }
def InlineRawSaid : Prop := inlineRawRow.holds Try.pinned (OpenSpec.ofChange inlineRawSpec)

/-- ITS FALSE NEIGHBOUR: 'it returns false'. Refute it at one input. -/
def inlineRawWrong : ChangeSpec := { name := "inlineRaw", fn := fun _ => fun
  | [d] => { results := [.lit (.bool false)], args := [d] }
  | _ => none }
def InlineRawWrongFalsely : Prop := inlineRawRow.holds Try.pinned (OpenSpec.ofChange inlineRawWrong)

/- THE SECOND FORM. 'bulk': how many values and letters a reading holds, each counted each time it is reached (what is shared counts as often as it is met; a slice's spare places count too). A statement '..UptoSaid' is the law's where the arguments, and the package variables that the reading takes, are together of bulk at most 1048576: NARROWER than '..Said'. Prove '..Said' where nothing that the law and all that it calls make is longer than what came in: it says more and counts as full. Else prove '..UptoSaid'. A law counts once. -/
mutual
def uptoBulk {H : Type} : DataW H → Nat
  | .lit (.string bytes) => bytes.length + 1
  | .lit _ => 1
  | .nil => 1
  | .ptr d => uptoBulk d + 1
  | .slice elems spare => uptoBulkAll elems + uptoBulkAll spare + 1
  | .agg parts => uptoBulkAll parts + 1
  | .iface _ d => uptoBulk d + 1
  | .map entries => uptoBulkEntries entries + 1
  | .held _ => 1
def uptoBulkAll {H : Type} : List (DataW H) → Nat
  | [] => 0
  | d :: r => uptoBulk d + uptoBulkAll r
def uptoBulkEntries {H : Type} : List (Lit × DataW H) → Nat
  | [] => 0
  | x :: r => uptoBulkEntry x + uptoBulkEntries r
def uptoBulkEntry {H : Type} : Lit × DataW H → Nat
  | (.string bytes, d) => bytes.length + uptoBulk d + 1
  | (_, d) => uptoBulk d + 1
 end
def uptoSmall : (H : Type) → List (DataW H) → Bool := fun _ ds => decide (uptoBulkAll ds ≤ 1048576)
def OpenSpec.upto (s : _root_.Go.ChangeSpec) : _root_.Go.OpenSpec := { _root_.Go.OpenSpec.ofChange s with cond := some uptoSmall }

/-- 'debuggerlaw08.FoldRaw', WHERE WHAT IT READS IS OF BULK AT MOST 1048576: true; the input reads as it did. -/
def foldRawUptoRow : OpenClaim := { program := "ytbpccmnalhdpmaa", sum := "b7ddc8e2a1e97e0080eeb1988f3d02fac54ef413a987a22ef09d594b19febb88", func := "debugger/debuggerlaw08.FoldRaw", spec := "foldRaw", unfollowed := true, recurses := true, plainKeys := false, apart := false, narrowed := true }
def FoldRawUptoSaid : Prop := foldRawUptoRow.holds Try.pinned (OpenSpec.upto foldRawSpec)

/-- 'debuggerlaw10.DeadRaw', WHERE WHAT IT READS IS OF BULK AT MOST 1048576: true; the input reads as it did. -/
def deadRawUptoRow : OpenClaim := { program := "ytbpccmnalhdpmaa", sum := "b7ddc8e2a1e97e0080eeb1988f3d02fac54ef413a987a22ef09d594b19febb88", func := "debugger/debuggerlaw10.DeadRaw", spec := "deadRaw", unfollowed := true, recurses := true, plainKeys := false, apart := false, narrowed := true }
def DeadRawUptoSaid : Prop := deadRawUptoRow.holds Try.pinned (OpenSpec.upto deadRawSpec)

/-- 'debuggerlaw06.IrChecks', WHERE WHAT IT READS IS OF BULK AT MOST 1048576: true; the input reads as it did. -/
def irChecksUptoRow : OpenClaim := { program := "ytbpccmnalhdpmaa", sum := "b7ddc8e2a1e97e0080eeb1988f3d02fac54ef413a987a22ef09d594b19febb88", func := "debugger/debuggerlaw06.IrChecks", spec := "irChecks", unfollowed := true, recurses := true, plainKeys := false, apart := false, narrowed := true }
def IrChecksUptoSaid : Prop := irChecksUptoRow.holds Try.pinned (OpenSpec.upto irChecksSpec)

/-- 'debuggerlaw06.IrRaw', WHERE WHAT IT READS IS OF BULK AT MOST 1048576: true; the input reads as it did. -/
def irRawUptoRow : OpenClaim := { program := "ytbpccmnalhdpmaa", sum := "b7ddc8e2a1e97e0080eeb1988f3d02fac54ef413a987a22ef09d594b19febb88", func := "debugger/debuggerlaw06.IrRaw", spec := "irRaw", unfollowed := true, recurses := true, plainKeys := false, apart := false, narrowed := true }
def IrRawUptoSaid : Prop := irRawUptoRow.holds Try.pinned (OpenSpec.upto irRawSpec)

/-- 'debuggerlaw11.InlineRaw', WHERE WHAT IT READS IS OF BULK AT MOST 1048576: true; the input reads as it did. -/
def inlineRawUptoRow : OpenClaim := { program := "ytbpccmnalhdpmaa", sum := "b7ddc8e2a1e97e0080eeb1988f3d02fac54ef413a987a22ef09d594b19febb88", func := "debugger/debuggerlaw11.InlineRaw", spec := "inlineRaw", unfollowed := true, recurses := true, plainKeys := false, apart := false, narrowed := true }
def InlineRawUptoSaid : Prop := inlineRawUptoRow.holds Try.pinned (OpenSpec.upto inlineRawSpec)

end Rows
end Go.Proofs.Ytbpccmnalhdpmaa
