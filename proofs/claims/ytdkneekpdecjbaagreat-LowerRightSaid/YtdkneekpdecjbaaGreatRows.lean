/-
  No cell of these rows narrows 'for every input' (looked for: loops, veiled, ifaces, maps, wideKeys, modest, calm, conditions, laid).
  DERIVED. THE GIVEN ROWS OF THIS SEAT. 6 by the template 'for every input the law returns true; each argument reads behind the call as it read before'; 0 by the template 'total and deterministic' (their statements: YtdkneekpdecjbaaGreatTotals.lean).
  GIVEN WITH THE SEED: the statements are not yours to turn. If you find one false, say at which input.
  Laid BY PROGRAM, IN A SANDBOX (cutbox-rows.mjs): the forced cells as the released guide's own fill.sh prints them over the translation 8271c668474f7e1b… (all of the seat's roots in one cut). By AI agents, Wed Nov 11 2026. No macro, syntax, notation, axiom, sorry.
-/
import Derived.Test.YtdkneekpdecjbaaGreatChecked
import GoSem.Claim
import GoSem.ClaimJoined
import GoSem.ClaimMapViews
import Derived.JoinedTies
import Derived.KernelRfl
namespace Go.Proofs.YtdkneekpdecjbaaGreat
/- THE CELL 'sum', in the pinned program and in every row, IS THE sha256 OF THE DUMP (.gsa) THAT YtdkneekpdecjbaaGreatProg.lean LOADS. Nothing in Lean hashes anything: it is a label: what it is worth is what the hold of that sum in a sandbox is worth. -/
noncomputable def Tryz.pinned : Pinned := { name := "ytdkneekpdecjbaagreat", sum := "8271c668474f7e1bfe5f2f76526ce7bffb56f3d5c129440dabb0ed59e2caacbb", checked := Tryz.checked }
namespace Rows
def none {H : Type} : Left H := { results := [], args := [] }

/-- 'debuggerlaw07.LowerLowers': WHATEVER THE INPUT: true; the input reads as it did. -/
def lowerLowersSpec : ChangeSpec := { name := "lowerLowers", fn := fun _ => fun
  | [d] => { results := [.lit (.bool true)], args := [d] }
  | _ => none }
def lowerLowersRow : OpenClaim := { program := "ytdkneekpdecjbaagreat", sum := "8271c668474f7e1bfe5f2f76526ce7bffb56f3d5c129440dabb0ed59e2caacbb", func := "debugger/debuggerlaw07.LowerLowers", spec := "lowerLowers", unfollowed := true, recurses := true, plainKeys := false, apart := false }
def LowerLowersSaid : Prop := lowerLowersRow.holds Tryz.pinned (OpenSpec.ofChange lowerLowersSpec)

/-- ITS FALSE NEIGHBOUR: 'it returns false'. Refute it at one input. -/
def lowerLowersWrong : ChangeSpec := { name := "lowerLowers", fn := fun _ => fun
  | [d] => { results := [.lit (.bool false)], args := [d] }
  | _ => none }
def LowerLowersWrongFalsely : Prop := lowerLowersRow.holds Tryz.pinned (OpenSpec.ofChange lowerLowersWrong)

/-- 'debuggerlaw07.LowerTexts': WHATEVER THE INPUT: true; the input reads as it did. -/
def lowerTextsSpec : ChangeSpec := { name := "lowerTexts", fn := fun _ => fun
  | [d] => { results := [.lit (.bool true)], args := [d] }
  | _ => none }
def lowerTextsRow : OpenClaim := { program := "ytdkneekpdecjbaagreat", sum := "8271c668474f7e1bfe5f2f76526ce7bffb56f3d5c129440dabb0ed59e2caacbb", func := "debugger/debuggerlaw07.LowerTexts", spec := "lowerTexts", unfollowed := true, recurses := true, plainKeys := false, apart := false }
def LowerTextsSaid : Prop := lowerTextsRow.holds Tryz.pinned (OpenSpec.ofChange lowerTextsSpec)

/-- ITS FALSE NEIGHBOUR: 'it returns false'. Refute it at one input. -/
def lowerTextsWrong : ChangeSpec := { name := "lowerTexts", fn := fun _ => fun
  | [d] => { results := [.lit (.bool false)], args := [d] }
  | _ => none }
def LowerTextsWrongFalsely : Prop := lowerTextsRow.holds Tryz.pinned (OpenSpec.ofChange lowerTextsWrong)

/-- 'debuggerlaw07.LowerRight': WHATEVER THE INPUT: true; the input reads as it did. -/
def lowerRightSpec : ChangeSpec := { name := "lowerRight", fn := fun _ => fun
  | [d] => { results := [.lit (.bool true)], args := [d] }
  | _ => none }
def lowerRightRow : OpenClaim := { program := "ytdkneekpdecjbaagreat", sum := "8271c668474f7e1bfe5f2f76526ce7bffb56f3d5c129440dabb0ed59e2caacbb", func := "debugger/debuggerlaw07.LowerRight", spec := "lowerRight", unfollowed := true, recurses := true, plainKeys := false, apart := false }
def LowerRightSaid : Prop := lowerRightRow.holds Tryz.pinned (OpenSpec.ofChange lowerRightSpec)

/-- ITS FALSE NEIGHBOUR: 'it returns false'. Refute it at one input. -/
def lowerRightWrong : ChangeSpec := { name := "lowerRight", fn := fun _ => fun
  | [d] => { results := [.lit (.bool false)], args := [d] }
  | _ => none }
def LowerRightWrongFalsely : Prop := lowerRightRow.holds Tryz.pinned (OpenSpec.ofChange lowerRightWrong)

/-- 'debuggerlaw07.LowerOwn': WHATEVER THE INPUT: true; the input reads as it did. -/
def lowerOwnSpec : ChangeSpec := { name := "lowerOwn", fn := fun _ => fun
  | [d] => { results := [.lit (.bool true)], args := [d] }
  | _ => none }
def lowerOwnRow : OpenClaim := { program := "ytdkneekpdecjbaagreat", sum := "8271c668474f7e1bfe5f2f76526ce7bffb56f3d5c129440dabb0ed59e2caacbb", func := "debugger/debuggerlaw07.LowerOwn", spec := "lowerOwn", unfollowed := true, recurses := true, plainKeys := false, apart := false }
def LowerOwnSaid : Prop := lowerOwnRow.holds Tryz.pinned (OpenSpec.ofChange lowerOwnSpec)

/-- ITS FALSE NEIGHBOUR: 'it returns false'. Refute it at one input. -/
def lowerOwnWrong : ChangeSpec := { name := "lowerOwn", fn := fun _ => fun
  | [d] => { results := [.lit (.bool false)], args := [d] }
  | _ => none }
def LowerOwnWrongFalsely : Prop := lowerOwnRow.holds Tryz.pinned (OpenSpec.ofChange lowerOwnWrong)

/-- 'debuggerlaw07.LowerBinds': WHATEVER THE INPUT: true; the input reads as it did. -/
def lowerBindsSpec : ChangeSpec := { name := "lowerBinds", fn := fun _ => fun
  | [d] => { results := [.lit (.bool true)], args := [d] }
  | _ => none }
def lowerBindsRow : OpenClaim := { program := "ytdkneekpdecjbaagreat", sum := "8271c668474f7e1bfe5f2f76526ce7bffb56f3d5c129440dabb0ed59e2caacbb", func := "debugger/debuggerlaw07.LowerBinds", spec := "lowerBinds", unfollowed := true, recurses := true, plainKeys := false, apart := false }
def LowerBindsSaid : Prop := lowerBindsRow.holds Tryz.pinned (OpenSpec.ofChange lowerBindsSpec)

/-- ITS FALSE NEIGHBOUR: 'it returns false'. Refute it at one input. -/
def lowerBindsWrong : ChangeSpec := { name := "lowerBinds", fn := fun _ => fun
  | [d] => { results := [.lit (.bool false)], args := [d] }
  | _ => none }
def LowerBindsWrongFalsely : Prop := lowerBindsRow.holds Tryz.pinned (OpenSpec.ofChange lowerBindsWrong)

/-- 'debuggerlaw07.LowerMarks': WHATEVER THE INPUT: true; the input reads as it did. -/
def lowerMarksSpec : ChangeSpec := { name := "lowerMarks", fn := fun _ => fun
  | [d] => { results := [.lit (.bool true)], args := [d] }
  | _ => none }
def lowerMarksRow : OpenClaim := { program := "ytdkneekpdecjbaagreat", sum := "8271c668474f7e1bfe5f2f76526ce7bffb56f3d5c129440dabb0ed59e2caacbb", func := "debugger/debuggerlaw07.LowerMarks", spec := "lowerMarks", unfollowed := true, recurses := true, plainKeys := false, apart := false }
def LowerMarksSaid : Prop := lowerMarksRow.holds Tryz.pinned (OpenSpec.ofChange lowerMarksSpec)

/-- ITS FALSE NEIGHBOUR: 'it returns false'. Refute it at one input. -/
def lowerMarksWrong : ChangeSpec := { name := "lowerMarks", fn := fun _ => fun
  | [d] => { results := [.lit (.bool false)], args := [d] }
  | _ => none }
def LowerMarksWrongFalsely : Prop := lowerMarksRow.holds Tryz.pinned (OpenSpec.ofChange lowerMarksWrong)

/- THE SECOND FORM. 'bulk': how many values and letters a reading holds, each counted each time it is reached (what is shared counts as often as it is met; a slice's spare places count too). A statement '..UptoSaid' is the law's where the arguments, and the package variables that the reading takes, are together of bulk at most 1048576: NARROWER than '..Said'. Prove '..Said' where nothing that the law and all that it calls make is longer than what came in: it says more and counts as full. Else prove '..UptoSaid'. A law counts once. -/
mutual
def uptoBulk {H : Type} : DataW H → Nat
  | .lit (.string bytes) => bytes.length + 1
  | .lit _ => 1
  | .nil => 1
  | .ptr d => uptoBulk d + 1
  | .slice elems spare => uptoBulkAll elems + uptoBulkAll spare + 1
  | .agg parts => uptoBulkAll parts + 1
  | .iface _ d => uptoBulk d + 1
  | .map entries => uptoBulkEntries entries + 1
  | .held _ => 1
def uptoBulkAll {H : Type} : List (DataW H) → Nat
  | [] => 0
  | d :: r => uptoBulk d + uptoBulkAll r
def uptoBulkEntries {H : Type} : List (Lit × DataW H) → Nat
  | [] => 0
  | x :: r => uptoBulkEntry x + uptoBulkEntries r
def uptoBulkEntry {H : Type} : Lit × DataW H → Nat
  | (.string bytes, d) => bytes.length + uptoBulk d + 1
  | (_, d) => uptoBulk d + 1
 end
def uptoSmall : (H : Type) → List (DataW H) → Bool := fun _ ds => decide (uptoBulkAll ds ≤ 1048576)
def OpenSpec.upto (s : _root_.Go.ChangeSpec) : _root_.Go.OpenSpec := { _root_.Go.OpenSpec.ofChange s with cond := some uptoSmall }

/-- 'debuggerlaw07.LowerLowers', WHERE WHAT IT READS IS OF BULK AT MOST 1048576: true; the input reads as it did. -/
def lowerLowersUptoRow : OpenClaim := { program := "ytdkneekpdecjbaagreat", sum := "8271c668474f7e1bfe5f2f76526ce7bffb56f3d5c129440dabb0ed59e2caacbb", func := "debugger/debuggerlaw07.LowerLowers", spec := "lowerLowers", unfollowed := true, recurses := true, plainKeys := false, apart := false, narrowed := true }
def LowerLowersUptoSaid : Prop := lowerLowersUptoRow.holds Tryz.pinned (OpenSpec.upto lowerLowersSpec)

/-- 'debuggerlaw07.LowerTexts', WHERE WHAT IT READS IS OF BULK AT MOST 1048576: true; the input reads as it did. -/
def lowerTextsUptoRow : OpenClaim := { program := "ytdkneekpdecjbaagreat", sum := "8271c668474f7e1bfe5f2f76526ce7bffb56f3d5c129440dabb0ed59e2caacbb", func := "debugger/debuggerlaw07.LowerTexts", spec := "lowerTexts", unfollowed := true, recurses := true, plainKeys := false, apart := false, narrowed := true }
def LowerTextsUptoSaid : Prop := lowerTextsUptoRow.holds Tryz.pinned (OpenSpec.upto lowerTextsSpec)

/-- 'debuggerlaw07.LowerRight', WHERE WHAT IT READS IS OF BULK AT MOST 1048576: true; the input reads as it did. -/
def lowerRightUptoRow : OpenClaim := { program := "ytdkneekpdecjbaagreat", sum := "8271c668474f7e1bfe5f2f76526ce7bffb56f3d5c129440dabb0ed59e2caacbb", func := "debugger/debuggerlaw07.LowerRight", spec := "lowerRight", unfollowed := true, recurses := true, plainKeys := false, apart := false, narrowed := true }
def LowerRightUptoSaid : Prop := lowerRightUptoRow.holds Tryz.pinned (OpenSpec.upto lowerRightSpec)

/-- 'debuggerlaw07.LowerOwn', WHERE WHAT IT READS IS OF BULK AT MOST 1048576: true; the input reads as it did. -/
def lowerOwnUptoRow : OpenClaim := { program := "ytdkneekpdecjbaagreat", sum := "8271c668474f7e1bfe5f2f76526ce7bffb56f3d5c129440dabb0ed59e2caacbb", func := "debugger/debuggerlaw07.LowerOwn", spec := "lowerOwn", unfollowed := true, recurses := true, plainKeys := false, apart := false, narrowed := true }
def LowerOwnUptoSaid : Prop := lowerOwnUptoRow.holds Tryz.pinned (OpenSpec.upto lowerOwnSpec)

/-- 'debuggerlaw07.LowerBinds', WHERE WHAT IT READS IS OF BULK AT MOST 1048576: true; the input reads as it did. -/
def lowerBindsUptoRow : OpenClaim := { program := "ytdkneekpdecjbaagreat", sum := "8271c668474f7e1bfe5f2f76526ce7bffb56f3d5c129440dabb0ed59e2caacbb", func := "debugger/debuggerlaw07.LowerBinds", spec := "lowerBinds", unfollowed := true, recurses := true, plainKeys := false, apart := false, narrowed := true }
def LowerBindsUptoSaid : Prop := lowerBindsUptoRow.holds Tryz.pinned (OpenSpec.upto lowerBindsSpec)

/-- 'debuggerlaw07.LowerMarks', WHERE WHAT IT READS IS OF BULK AT MOST 1048576: true; the input reads as it did. -/
def lowerMarksUptoRow : OpenClaim := { program := "ytdkneekpdecjbaagreat", sum := "8271c668474f7e1bfe5f2f76526ce7bffb56f3d5c129440dabb0ed59e2caacbb", func := "debugger/debuggerlaw07.LowerMarks", spec := "lowerMarks", unfollowed := true, recurses := true, plainKeys := false, apart := false, narrowed := true }
def LowerMarksUptoSaid : Prop := lowerMarksUptoRow.holds Tryz.pinned (OpenSpec.upto lowerMarksSpec)

end Rows
end Go.Proofs.YtdkneekpdecjbaaGreat
