/-
  No cell of these rows narrows 'for every input' (looked for: loops, veiled, ifaces, maps, wideKeys, modest, calm, conditions, laid).
  DERIVED. THE GIVEN ROWS OF THIS SEAT. 2 by the template 'for every input the law returns true; each argument reads behind the call as it read before'; 0 by the template 'total and deterministic' (their statements: YtikafojlhinonaaTotals.lean).
  GIVEN WITH THE SEED: the statements are not yours to turn. If you find one false, say at which input.
  Laid BY PROGRAM, IN A SANDBOX (cutbox-rows.mjs): the forced cells as the released guide's own fill.sh prints them over the translation 91a8e4d154ea04cb… (all of the seat's roots in one cut). By AI agents, Wed Nov 11 2026. No macro, syntax, notation, axiom, sorry.
-/
import Derived.Test.YtikafojlhinonaaChecked
import GoSem.Claim
import GoSem.ClaimJoined
import GoSem.ClaimMapViews
import Derived.JoinedTies
import Derived.KernelRfl
namespace Go.Proofs.Ytikafojlhinonaa
/- THE CELL 'sum', in the pinned program and in every row, IS THE sha256 OF THE DUMP (.gsa) THAT YtikafojlhinonaaProg.lean LOADS. Nothing in Lean hashes anything: it is a label: what it is worth is what the hold of that sum in a sandbox is worth. -/
noncomputable def Try.pinned : Pinned := { name := "ytikafojlhinonaa", sum := "91a8e4d154ea04cb56afec5cc2ae2b38aed6920aa96e025ed11f1f9b0e4cc348", checked := Try.checked }
namespace Rows
def none {H : Type} : Left H := { results := [], args := [] }

/-- 'debuggerlaw04.CheckerLimits': WHATEVER THE INPUT: true; the input reads as it did. -/
def checkerLimitsSpec : ChangeSpec := { name := "checkerLimits", fn := fun _ => fun
  | [d] => { results := [.lit (.bool true)], args := [d] }
  | _ => none }
def checkerLimitsRow : OpenClaim := { program := "ytikafojlhinonaa", sum := "91a8e4d154ea04cb56afec5cc2ae2b38aed6920aa96e025ed11f1f9b0e4cc348", func := "debugger/debuggerlaw04.CheckerLimits", spec := "checkerLimits", recurses := true, plainKeys := false, apart := false }
def CheckerLimitsSaid : Prop := checkerLimitsRow.holds Try.pinned (OpenSpec.ofChange checkerLimitsSpec)

/-- ITS FALSE NEIGHBOUR: 'it returns false'. Refute it at one input. -/
def checkerLimitsWrong : ChangeSpec := { name := "checkerLimits", fn := fun _ => fun
  | [d] => { results := [.lit (.bool false)], args := [d] }
  | _ => none }
def CheckerLimitsWrongFalsely : Prop := checkerLimitsRow.holds Try.pinned (OpenSpec.ofChange checkerLimitsWrong)

/-- 'debuggerlaw10.DeadSalvages': WHATEVER THE INPUT: true; the input reads as it did. -/
def deadSalvagesSpec : ChangeSpec := { name := "deadSalvages", fn := fun _ => fun
  | [d1, d2] => { results := [.lit (.bool true)], args := [d1, d2] }
  | _ => none }
def deadSalvagesRow : OpenClaim := { program := "ytikafojlhinonaa", sum := "91a8e4d154ea04cb56afec5cc2ae2b38aed6920aa96e025ed11f1f9b0e4cc348", func := "debugger/debuggerlaw10.DeadSalvages", spec := "deadSalvages", unfollowed := true, recurses := true, plainKeys := false, apart := false }
def DeadSalvagesSaid : Prop := deadSalvagesRow.holds Try.pinned (OpenSpec.ofChange deadSalvagesSpec)

/-- ITS FALSE NEIGHBOUR: 'it returns false'. Refute it at one input. -/
def deadSalvagesWrong : ChangeSpec := { name := "deadSalvages", fn := fun _ => fun
  | [d1, d2] => { results := [.lit (.bool false)], args := [d1, d2] }
  | _ => none }
def DeadSalvagesWrongFalsely : Prop := deadSalvagesRow.holds Try.pinned (OpenSpec.ofChange deadSalvagesWrong)

/- THE SECOND FORM. 'bulk': how many values and letters a reading holds, each counted each time it is reached (what is shared counts as often as it is met; a slice's spare places count too). A statement '..UptoSaid' is the law's where the arguments, and the package variables that the reading takes, are together of bulk at most 1048576: NARROWER than '..Said'. Prove '..Said' where nothing that the law and all that it calls make is longer than what came in: it says more and counts as full. Else prove '..UptoSaid'. A law counts once. -/
mutual
def uptoBulk {H : Type} : DataW H → Nat
  | .lit (.string bytes) => bytes.length + 1
  | .lit _ => 1
  | .nil => 1
  | .ptr d => uptoBulk d + 1
  | .slice elems spare => uptoBulkAll elems + uptoBulkAll spare + 1
  | .agg parts => uptoBulkAll parts + 1
  | .iface _ d => uptoBulk d + 1
  | .map entries => uptoBulkEntries entries + 1
  | .held _ => 1
def uptoBulkAll {H : Type} : List (DataW H) → Nat
  | [] => 0
  | d :: r => uptoBulk d + uptoBulkAll r
def uptoBulkEntries {H : Type} : List (Lit × DataW H) → Nat
  | [] => 0
  | x :: r => uptoBulkEntry x + uptoBulkEntries r
def uptoBulkEntry {H : Type} : Lit × DataW H → Nat
  | (.string bytes, d) => bytes.length + uptoBulk d + 1
  | (_, d) => uptoBulk d + 1
 end
def uptoSmall : (H : Type) → List (DataW H) → Bool := fun _ ds => decide (uptoBulkAll ds ≤ 1048576)
def OpenSpec.upto (s : _root_.Go.ChangeSpec) : _root_.Go.OpenSpec := { _root_.Go.OpenSpec.ofChange s with cond := some uptoSmall }

/-- 'debuggerlaw04.CheckerLimits', WHERE WHAT IT READS IS OF BULK AT MOST 1048576: true; the input reads as it did. -/
def checkerLimitsUptoRow : OpenClaim := { program := "ytikafojlhinonaa", sum := "91a8e4d154ea04cb56afec5cc2ae2b38aed6920aa96e025ed11f1f9b0e4cc348", func := "debugger/debuggerlaw04.CheckerLimits", spec := "checkerLimits", recurses := true, plainKeys := false, apart := false, narrowed := true }
def CheckerLimitsUptoSaid : Prop := checkerLimitsUptoRow.holds Try.pinned (OpenSpec.upto checkerLimitsSpec)

/-- 'debuggerlaw10.DeadSalvages', WHERE WHAT IT READS IS OF BULK AT MOST 1048576: true; the input reads as it did. -/
def deadSalvagesUptoRow : OpenClaim := { program := "ytikafojlhinonaa", sum := "91a8e4d154ea04cb56afec5cc2ae2b38aed6920aa96e025ed11f1f9b0e4cc348", func := "debugger/debuggerlaw10.DeadSalvages", spec := "deadSalvages", unfollowed := true, recurses := true, plainKeys := false, apart := false, narrowed := true }
def DeadSalvagesUptoSaid : Prop := deadSalvagesUptoRow.holds Try.pinned (OpenSpec.upto deadSalvagesSpec)

end Rows
end Go.Proofs.Ytikafojlhinonaa
