/-
  No cell of these rows narrows 'for every input' (looked for: loops, veiled, ifaces, maps, wideKeys, modest, calm, conditions, laid).
  DERIVED. THE GIVEN ROWS OF THIS SEAT. 5 by the template 'for every input the law returns true; each argument reads behind the call as it read before'; 0 by the template 'total and deterministic' (their statements: YtnppmdhgelfloaaTotals.lean).
  GIVEN WITH THE SEED: the statements are not yours to turn. If you find one false, say at which input.
  Laid BY PROGRAM, IN A SANDBOX (cutbox-rows.mjs): the forced cells as the released guide's own fill.sh prints them over the translation 46e005514167eb4f… (all of the seat's roots in one cut). By AI agents, Wed Nov 11 2026. No macro, syntax, notation, axiom, sorry.
-/
import Derived.Test.YtnppmdhgelfloaaChecked
import GoSem.Claim
import GoSem.ClaimJoined
import GoSem.ClaimMapViews
import Derived.JoinedTies
import Derived.KernelRfl
namespace Go.Proofs.Ytnppmdhgelfloaa
/- THE CELL 'sum', in the pinned program and in every row, IS THE sha256 OF THE DUMP (.gsa) THAT YtnppmdhgelfloaaProg.lean LOADS. Nothing in Lean hashes anything: it is a label: what it is worth is what the hold of that sum in a sandbox is worth. -/
noncomputable def Try.pinned : Pinned := { name := "ytnppmdhgelfloaa", sum := "46e005514167eb4f5b1ddfcf93bae485f281724d9d26f6e211f1166867c3c2ab", checked := Try.checked }
namespace Rows
def none {H : Type} : Left H := { results := [], args := [] }

/-- 'debuggerlaw34.LinkSends': WHATEVER THE INPUT: true; the input reads as it did. -/
def linkSendsSpec : ChangeSpec := { name := "linkSends", fn := fun _ => fun
  | [d1, d2, d3, d4, d5, d6, d7] => { results := [.lit (.bool true)], args := [d1, d2, d3, d4, d5, d6, d7] }
  | _ => none }
def linkSendsRow : OpenClaim := { program := "ytnppmdhgelfloaa", sum := "46e005514167eb4f5b1ddfcf93bae485f281724d9d26f6e211f1166867c3c2ab", func := "debugger/debuggerlaw34.LinkSends", spec := "linkSends", unfollowed := true, recurses := true, apart := false }
def LinkSendsSaid : Prop := linkSendsRow.holds Try.pinned (OpenSpec.ofChange linkSendsSpec)

/-- ITS FALSE NEIGHBOUR: 'it returns false'. Refute it at one input. -/
def linkSendsWrong : ChangeSpec := { name := "linkSends", fn := fun _ => fun
  | [d1, d2, d3, d4, d5, d6, d7] => { results := [.lit (.bool false)], args := [d1, d2, d3, d4, d5, d6, d7] }
  | _ => none }
def LinkSendsWrongFalsely : Prop := linkSendsRow.holds Try.pinned (OpenSpec.ofChange linkSendsWrong)

/-- 'debuggerlaw34.LinkArrives': WHATEVER THE INPUT: true; the input reads as it did. -/
def linkArrivesSpec : ChangeSpec := { name := "linkArrives", fn := fun _ => fun
  | [d1, d2] => { results := [.lit (.bool true)], args := [d1, d2] }
  | _ => none }
def linkArrivesRow : OpenClaim := { program := "ytnppmdhgelfloaa", sum := "46e005514167eb4f5b1ddfcf93bae485f281724d9d26f6e211f1166867c3c2ab", func := "debugger/debuggerlaw34.LinkArrives", spec := "linkArrives", unfollowed := true, recurses := true, apart := false }
def LinkArrivesSaid : Prop := linkArrivesRow.holds Try.pinned (OpenSpec.ofChange linkArrivesSpec)

/-- ITS FALSE NEIGHBOUR: 'it returns false'. Refute it at one input. -/
def linkArrivesWrong : ChangeSpec := { name := "linkArrives", fn := fun _ => fun
  | [d1, d2] => { results := [.lit (.bool false)], args := [d1, d2] }
  | _ => none }
def LinkArrivesWrongFalsely : Prop := linkArrivesRow.holds Try.pinned (OpenSpec.ofChange linkArrivesWrong)

/-- 'debuggerlaw34.LinkKeeps': WHATEVER THE INPUT: true; the input reads as it did. -/
def linkKeepsSpec : ChangeSpec := { name := "linkKeeps", fn := fun _ => fun
  | [d] => { results := [.lit (.bool true)], args := [d] }
  | _ => none }
def linkKeepsRow : OpenClaim := { program := "ytnppmdhgelfloaa", sum := "46e005514167eb4f5b1ddfcf93bae485f281724d9d26f6e211f1166867c3c2ab", func := "debugger/debuggerlaw34.LinkKeeps", spec := "linkKeeps", unfollowed := true, recurses := true, apart := false }
def LinkKeepsSaid : Prop := linkKeepsRow.holds Try.pinned (OpenSpec.ofChange linkKeepsSpec)

/-- ITS FALSE NEIGHBOUR: 'it returns false'. Refute it at one input. -/
def linkKeepsWrong : ChangeSpec := { name := "linkKeeps", fn := fun _ => fun
  | [d] => { results := [.lit (.bool false)], args := [d] }
  | _ => none }
def LinkKeepsWrongFalsely : Prop := linkKeepsRow.holds Try.pinned (OpenSpec.ofChange linkKeepsWrong)

/-- 'debuggerlaw34.LinkOrder': WHATEVER THE INPUT: true; the input reads as it did. -/
def linkOrderSpec : ChangeSpec := { name := "linkOrder", fn := fun _ => fun
  | [d1, d2, d3] => { results := [.lit (.bool true)], args := [d1, d2, d3] }
  | _ => none }
def linkOrderRow : OpenClaim := { program := "ytnppmdhgelfloaa", sum := "46e005514167eb4f5b1ddfcf93bae485f281724d9d26f6e211f1166867c3c2ab", func := "debugger/debuggerlaw34.LinkOrder", spec := "linkOrder", unfollowed := true, recurses := true, apart := false }
def LinkOrderSaid : Prop := linkOrderRow.holds Try.pinned (OpenSpec.ofChange linkOrderSpec)

/-- ITS FALSE NEIGHBOUR: 'it returns false'. Refute it at one input. -/
def linkOrderWrong : ChangeSpec := { name := "linkOrder", fn := fun _ => fun
  | [d1, d2, d3] => { results := [.lit (.bool false)], args := [d1, d2, d3] }
  | _ => none }
def LinkOrderWrongFalsely : Prop := linkOrderRow.holds Try.pinned (OpenSpec.ofChange linkOrderWrong)

/-- 'debuggerlaw34.LinkDamages': WHATEVER THE INPUT: true; the input reads as it did. -/
def linkDamagesSpec : ChangeSpec := { name := "linkDamages", fn := fun _ => fun
  | [d1, d2] => { results := [.lit (.bool true)], args := [d1, d2] }
  | _ => none }
def linkDamagesRow : OpenClaim := { program := "ytnppmdhgelfloaa", sum := "46e005514167eb4f5b1ddfcf93bae485f281724d9d26f6e211f1166867c3c2ab", func := "debugger/debuggerlaw34.LinkDamages", spec := "linkDamages", unfollowed := true, recurses := true, apart := false }
def LinkDamagesSaid : Prop := linkDamagesRow.holds Try.pinned (OpenSpec.ofChange linkDamagesSpec)

/-- ITS FALSE NEIGHBOUR: 'it returns false'. Refute it at one input. -/
def linkDamagesWrong : ChangeSpec := { name := "linkDamages", fn := fun _ => fun
  | [d1, d2] => { results := [.lit (.bool false)], args := [d1, d2] }
  | _ => none }
def LinkDamagesWrongFalsely : Prop := linkDamagesRow.holds Try.pinned (OpenSpec.ofChange linkDamagesWrong)

/- THE SECOND FORM. 'bulk': how many values and letters a reading holds, each counted each time it is reached (what is shared counts as often as it is met; a slice's spare places count too). A statement '..UptoSaid' is the law's where the arguments, and the package variables that the reading takes, are together of bulk at most 1048576: NARROWER than '..Said'. Prove '..Said' where nothing that the law and all that it calls make is longer than what came in: it says more and counts as full. Else prove '..UptoSaid'. A law counts once. -/
mutual
def uptoBulk {H : Type} : DataW H → Nat
  | .lit (.string bytes) => bytes.length + 1
  | .lit _ => 1
  | .nil => 1
  | .ptr d => uptoBulk d + 1
  | .slice elems spare => uptoBulkAll elems + uptoBulkAll spare + 1
  | .agg parts => uptoBulkAll parts + 1
  | .iface _ d => uptoBulk d + 1
  | .map entries => uptoBulkEntries entries + 1
  | .held _ => 1
def uptoBulkAll {H : Type} : List (DataW H) → Nat
  | [] => 0
  | d :: r => uptoBulk d + uptoBulkAll r
def uptoBulkEntries {H : Type} : List (Lit × DataW H) → Nat
  | [] => 0
  | x :: r => uptoBulkEntry x + uptoBulkEntries r
def uptoBulkEntry {H : Type} : Lit × DataW H → Nat
  | (.string bytes, d) => bytes.length + uptoBulk d + 1
  | (_, d) => uptoBulk d + 1
 end
def uptoSmall : (H : Type) → List (DataW H) → Bool := fun _ ds => decide (uptoBulkAll ds ≤ 1048576)
def OpenSpec.upto (s : _root_.Go.ChangeSpec) : _root_.Go.OpenSpec := { _root_.Go.OpenSpec.ofChange s with cond := some uptoSmall }

/-- 'debuggerlaw34.LinkSends', WHERE WHAT IT READS IS OF BULK AT MOST 1048576: true; the input reads as it did. -/
def linkSendsUptoRow : OpenClaim := { program := "ytnppmdhgelfloaa", sum := "46e005514167eb4f5b1ddfcf93bae485f281724d9d26f6e211f1166867c3c2ab", func := "debugger/debuggerlaw34.LinkSends", spec := "linkSends", unfollowed := true, recurses := true, apart := false, narrowed := true }
def LinkSendsUptoSaid : Prop := linkSendsUptoRow.holds Try.pinned (OpenSpec.upto linkSendsSpec)

/-- 'debuggerlaw34.LinkArrives', WHERE WHAT IT READS IS OF BULK AT MOST 1048576: true; the input reads as it did. -/
def linkArrivesUptoRow : OpenClaim := { program := "ytnppmdhgelfloaa", sum := "46e005514167eb4f5b1ddfcf93bae485f281724d9d26f6e211f1166867c3c2ab", func := "debugger/debuggerlaw34.LinkArrives", spec := "linkArrives", unfollowed := true, recurses := true, apart := false, narrowed := true }
def LinkArrivesUptoSaid : Prop := linkArrivesUptoRow.holds Try.pinned (OpenSpec.upto linkArrivesSpec)

/-- 'debuggerlaw34.LinkKeeps', WHERE WHAT IT READS IS OF BULK AT MOST 1048576: true; the input reads as it did. -/
def linkKeepsUptoRow : OpenClaim := { program := "ytnppmdhgelfloaa", sum := "46e005514167eb4f5b1ddfcf93bae485f281724d9d26f6e211f1166867c3c2ab", func := "debugger/debuggerlaw34.LinkKeeps", spec := "linkKeeps", unfollowed := true, recurses := true, apart := false, narrowed := true }
def LinkKeepsUptoSaid : Prop := linkKeepsUptoRow.holds Try.pinned (OpenSpec.upto linkKeepsSpec)

/-- 'debuggerlaw34.LinkOrder', WHERE WHAT IT READS IS OF BULK AT MOST 1048576: true; the input reads as it did. -/
def linkOrderUptoRow : OpenClaim := { program := "ytnppmdhgelfloaa", sum := "46e005514167eb4f5b1ddfcf93bae485f281724d9d26f6e211f1166867c3c2ab", func := "debugger/debuggerlaw34.LinkOrder", spec := "linkOrder", unfollowed := true, recurses := true, apart := false, narrowed := true }
def LinkOrderUptoSaid : Prop := linkOrderUptoRow.holds Try.pinned (OpenSpec.upto linkOrderSpec)

/-- 'debuggerlaw34.LinkDamages', WHERE WHAT IT READS IS OF BULK AT MOST 1048576: true; the input reads as it did. -/
def linkDamagesUptoRow : OpenClaim := { program := "ytnppmdhgelfloaa", sum := "46e005514167eb4f5b1ddfcf93bae485f281724d9d26f6e211f1166867c3c2ab", func := "debugger/debuggerlaw34.LinkDamages", spec := "linkDamages", unfollowed := true, recurses := true, apart := false, narrowed := true }
def LinkDamagesUptoSaid : Prop := linkDamagesUptoRow.holds Try.pinned (OpenSpec.upto linkDamagesSpec)

end Rows
end Go.Proofs.Ytnppmdhgelfloaa
