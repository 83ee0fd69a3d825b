/- FoldBinary: the runs. -/
import Derived.Test.YtgnomdhaibigiaaFn
set_option linter.unusedVariables false
set_option maxRecDepth 100000
namespace Go.Proofs.Ytgnomdhaibigiaa
open Go.Ev Go.RowKit Go.Fw

noncomputable def Γb (r : SE) (l e : Bool) : Env := ⟨tab, sites, [(.b .rem .i64 (.v 2) (.n 12), r)], [(.eql, .v 0, .n 0, e), (.neq, .v 0, .n 0, !e), (.lss, .v 0, .n 0, l), (.leq, .v 0, .n 0, l || e), (.gtr, .v 0, .n 0, !(l || e)), (.geq, .v 0, .n 0, !l)]⟩
noncomputable def asb : List V := [.a (.i .i64 (.v 0)), .a (.i .i64 (.n 0)), .a (.i .i64 (.v 2))]
theorem fb_lt_n0 : Yes (Γb (.n 0) true false) 2000 (.l (.l .h)) asb := by unfold Yes; kernel_rfl
theorem fb_lt_n1 : Yes (Γb (.n 1) true false) 2000 (.l (.l .h)) asb := by unfold Yes; kernel_rfl
theorem fb_lt_n2 : Yes (Γb (.n 2) true false) 2000 (.l (.l .h)) asb := by unfold Yes; kernel_rfl
theorem fb_lt_n3 : Yes (Γb (.n 3) true false) 2000 (.l (.l .h)) asb := by unfold Yes; kernel_rfl
theorem fb_lt_n4 : Yes (Γb (.n 4) true false) 2000 (.l (.l .h)) asb := by unfold Yes; kernel_rfl
theorem fb_lt_n5 : Yes (Γb (.n 5) true false) 2000 (.l (.l .h)) asb := by unfold Yes; kernel_rfl
theorem fb_lt_n6 : Yes (Γb (.n 6) true false) 2000 (.l (.l .h)) asb := by unfold Yes; kernel_rfl
theorem fb_lt_n7 : Yes (Γb (.n 7) true false) 2000 (.l (.l .h)) asb := by unfold Yes; kernel_rfl
theorem fb_lt_n8 : Yes (Γb (.n 8) true false) 2000 (.l (.l .h)) asb := by unfold Yes; kernel_rfl
theorem fb_lt_n9 : Yes (Γb (.n 9) true false) 2000 (.l (.l .h)) asb := by unfold Yes; kernel_rfl
theorem fb_lt_n10 : Yes (Γb (.n 10) true false) 2000 (.l (.l .h)) asb := by unfold Yes; kernel_rfl
theorem fb_lt_n11 : Yes (Γb (.n 11) true false) 2000 (.l (.l .h)) asb := by unfold Yes; kernel_rfl
theorem fb_lt_g0 : Yes (Γb (.g 0) true false) 2000 (.l (.l .h)) asb := by unfold Yes; kernel_rfl
theorem fb_lt_g1 : Yes (Γb (.g 1) true false) 2000 (.l (.l .h)) asb := by unfold Yes; kernel_rfl
theorem fb_lt_g2 : Yes (Γb (.g 2) true false) 2000 (.l (.l .h)) asb := by unfold Yes; kernel_rfl
theorem fb_lt_g3 : Yes (Γb (.g 3) true false) 2000 (.l (.l .h)) asb := by unfold Yes; kernel_rfl
theorem fb_lt_g4 : Yes (Γb (.g 4) true false) 2000 (.l (.l .h)) asb := by unfold Yes; kernel_rfl
theorem fb_lt_g5 : Yes (Γb (.g 5) true false) 2000 (.l (.l .h)) asb := by unfold Yes; kernel_rfl
theorem fb_lt_g6 : Yes (Γb (.g 6) true false) 2000 (.l (.l .h)) asb := by unfold Yes; kernel_rfl
theorem fb_lt_g7 : Yes (Γb (.g 7) true false) 2000 (.l (.l .h)) asb := by unfold Yes; kernel_rfl
theorem fb_lt_g8 : Yes (Γb (.g 8) true false) 2000 (.l (.l .h)) asb := by unfold Yes; kernel_rfl
theorem fb_lt_g9 : Yes (Γb (.g 9) true false) 2000 (.l (.l .h)) asb := by unfold Yes; kernel_rfl
theorem fb_lt_g10 : Yes (Γb (.g 10) true false) 2000 (.l (.l .h)) asb := by unfold Yes; kernel_rfl
theorem fb_eq_n0 : Yes (Γb (.n 0) false true) 2000 (.l (.l .h)) asb := by unfold Yes; kernel_rfl
theorem fb_eq_n1 : Yes (Γb (.n 1) false true) 2000 (.l (.l .h)) asb := by unfold Yes; kernel_rfl
theorem fb_eq_n2 : Yes (Γb (.n 2) false true) 2000 (.l (.l .h)) asb := by unfold Yes; kernel_rfl
theorem fb_eq_n3 : Yes (Γb (.n 3) false true) 2000 (.l (.l .h)) asb := by unfold Yes; kernel_rfl
theorem fb_eq_n4 : Yes (Γb (.n 4) false true) 2000 (.l (.l .h)) asb := by unfold Yes; kernel_rfl
theorem fb_eq_n5 : Yes (Γb (.n 5) false true) 2000 (.l (.l .h)) asb := by unfold Yes; kernel_rfl
theorem fb_eq_n6 : Yes (Γb (.n 6) false true) 2000 (.l (.l .h)) asb := by unfold Yes; kernel_rfl
theorem fb_eq_n7 : Yes (Γb (.n 7) false true) 2000 (.l (.l .h)) asb := by unfold Yes; kernel_rfl
theorem fb_eq_n8 : Yes (Γb (.n 8) false true) 2000 (.l (.l .h)) asb := by unfold Yes; kernel_rfl
theorem fb_eq_n9 : Yes (Γb (.n 9) false true) 2000 (.l (.l .h)) asb := by unfold Yes; kernel_rfl
theorem fb_eq_n10 : Yes (Γb (.n 10) false true) 2000 (.l (.l .h)) asb := by unfold Yes; kernel_rfl
theorem fb_eq_n11 : Yes (Γb (.n 11) false true) 2000 (.l (.l .h)) asb := by unfold Yes; kernel_rfl
theorem fb_eq_g0 : Yes (Γb (.g 0) false true) 2000 (.l (.l .h)) asb := by unfold Yes; kernel_rfl
theorem fb_eq_g1 : Yes (Γb (.g 1) false true) 2000 (.l (.l .h)) asb := by unfold Yes; kernel_rfl
theorem fb_eq_g2 : Yes (Γb (.g 2) false true) 2000 (.l (.l .h)) asb := by unfold Yes; kernel_rfl
theorem fb_eq_g3 : Yes (Γb (.g 3) false true) 2000 (.l (.l .h)) asb := by unfold Yes; kernel_rfl
theorem fb_eq_g4 : Yes (Γb (.g 4) false true) 2000 (.l (.l .h)) asb := by unfold Yes; kernel_rfl
theorem fb_eq_g5 : Yes (Γb (.g 5) false true) 2000 (.l (.l .h)) asb := by unfold Yes; kernel_rfl
theorem fb_eq_g6 : Yes (Γb (.g 6) false true) 2000 (.l (.l .h)) asb := by unfold Yes; kernel_rfl
theorem fb_eq_g7 : Yes (Γb (.g 7) false true) 2000 (.l (.l .h)) asb := by unfold Yes; kernel_rfl
theorem fb_eq_g8 : Yes (Γb (.g 8) false true) 2000 (.l (.l .h)) asb := by unfold Yes; kernel_rfl
theorem fb_eq_g9 : Yes (Γb (.g 9) false true) 2000 (.l (.l .h)) asb := by unfold Yes; kernel_rfl
theorem fb_eq_g10 : Yes (Γb (.g 10) false true) 2000 (.l (.l .h)) asb := by unfold Yes; kernel_rfl
theorem fb_gt_n0 : Yes (Γb (.n 0) false false) 2000 (.l (.l .h)) asb := by unfold Yes; kernel_rfl
theorem fb_gt_n1 : Yes (Γb (.n 1) false false) 2000 (.l (.l .h)) asb := by unfold Yes; kernel_rfl
theorem fb_gt_n2 : Yes (Γb (.n 2) false false) 2000 (.l (.l .h)) asb := by unfold Yes; kernel_rfl
theorem fb_gt_n3 : Yes (Γb (.n 3) false false) 2000 (.l (.l .h)) asb := by unfold Yes; kernel_rfl
theorem fb_gt_n4 : Yes (Γb (.n 4) false false) 2000 (.l (.l .h)) asb := by unfold Yes; kernel_rfl
theorem fb_gt_n5 : Yes (Γb (.n 5) false false) 2000 (.l (.l .h)) asb := by unfold Yes; kernel_rfl
theorem fb_gt_n6 : Yes (Γb (.n 6) false false) 2000 (.l (.l .h)) asb := by unfold Yes; kernel_rfl
theorem fb_gt_n7 : Yes (Γb (.n 7) false false) 2000 (.l (.l .h)) asb := by unfold Yes; kernel_rfl
theorem fb_gt_n8 : Yes (Γb (.n 8) false false) 2000 (.l (.l .h)) asb := by unfold Yes; kernel_rfl
theorem fb_gt_n9 : Yes (Γb (.n 9) false false) 2000 (.l (.l .h)) asb := by unfold Yes; kernel_rfl
theorem fb_gt_n10 : Yes (Γb (.n 10) false false) 2000 (.l (.l .h)) asb := by unfold Yes; kernel_rfl
theorem fb_gt_n11 : Yes (Γb (.n 11) false false) 2000 (.l (.l .h)) asb := by unfold Yes; kernel_rfl
theorem fb_gt_g0 : Yes (Γb (.g 0) false false) 2000 (.l (.l .h)) asb := by unfold Yes; kernel_rfl
theorem fb_gt_g1 : Yes (Γb (.g 1) false false) 2000 (.l (.l .h)) asb := by unfold Yes; kernel_rfl
theorem fb_gt_g2 : Yes (Γb (.g 2) false false) 2000 (.l (.l .h)) asb := by unfold Yes; kernel_rfl
theorem fb_gt_g3 : Yes (Γb (.g 3) false false) 2000 (.l (.l .h)) asb := by unfold Yes; kernel_rfl
theorem fb_gt_g4 : Yes (Γb (.g 4) false false) 2000 (.l (.l .h)) asb := by unfold Yes; kernel_rfl
theorem fb_gt_g5 : Yes (Γb (.g 5) false false) 2000 (.l (.l .h)) asb := by unfold Yes; kernel_rfl
theorem fb_gt_g6 : Yes (Γb (.g 6) false false) 2000 (.l (.l .h)) asb := by unfold Yes; kernel_rfl
theorem fb_gt_g7 : Yes (Γb (.g 7) false false) 2000 (.l (.l .h)) asb := by unfold Yes; kernel_rfl
theorem fb_gt_g8 : Yes (Γb (.g 8) false false) 2000 (.l (.l .h)) asb := by unfold Yes; kernel_rfl
theorem fb_gt_g9 : Yes (Γb (.g 9) false false) 2000 (.l (.l .h)) asb := by unfold Yes; kernel_rfl
theorem fb_gt_g10 : Yes (Γb (.g 10) false false) 2000 (.l (.l .h)) asb := by unfold Yes; kernel_rfl
theorem fb_lt (r : Int) (h1 : -11 ≤ r) (h2 : r ≤ 11) : ∃ x : SE, (∀ σ, r = x.den σ) ∧ Yes (Γb x true false) 2000 (.l (.l .h)) asb := by
  have h : r = 0 ∨ r = 1 ∨ r = 2 ∨ r = 3 ∨ r = 4 ∨ r = 5 ∨ r = 6 ∨ r = 7 ∨ r = 8 ∨ r = 9 ∨ r = 10 ∨ r = 11 ∨ r = -1 ∨ r = -2 ∨ r = -3 ∨ r = -4 ∨ r = -5 ∨ r = -6 ∨ r = -7 ∨ r = -8 ∨ r = -9 ∨ r = -10 ∨ r = -11 := by omega
  rcases h with rfl | rfl | rfl | rfl | rfl | rfl | rfl | rfl | rfl | rfl | rfl | rfl | rfl | rfl | rfl | rfl | rfl | rfl | rfl | rfl | rfl | rfl | rfl
  · exact ⟨.n 0, fun _ => rfl, fb_lt_n0⟩
  · exact ⟨.n 1, fun _ => rfl, fb_lt_n1⟩
  · exact ⟨.n 2, fun _ => rfl, fb_lt_n2⟩
  · exact ⟨.n 3, fun _ => rfl, fb_lt_n3⟩
  · exact ⟨.n 4, fun _ => rfl, fb_lt_n4⟩
  · exact ⟨.n 5, fun _ => rfl, fb_lt_n5⟩
  · exact ⟨.n 6, fun _ => rfl, fb_lt_n6⟩
  · exact ⟨.n 7, fun _ => rfl, fb_lt_n7⟩
  · exact ⟨.n 8, fun _ => rfl, fb_lt_n8⟩
  · exact ⟨.n 9, fun _ => rfl, fb_lt_n9⟩
  · exact ⟨.n 10, fun _ => rfl, fb_lt_n10⟩
  · exact ⟨.n 11, fun _ => rfl, fb_lt_n11⟩
  · exact ⟨.g 0, fun _ => rfl, fb_lt_g0⟩
  · exact ⟨.g 1, fun _ => rfl, fb_lt_g1⟩
  · exact ⟨.g 2, fun _ => rfl, fb_lt_g2⟩
  · exact ⟨.g 3, fun _ => rfl, fb_lt_g3⟩
  · exact ⟨.g 4, fun _ => rfl, fb_lt_g4⟩
  · exact ⟨.g 5, fun _ => rfl, fb_lt_g5⟩
  · exact ⟨.g 6, fun _ => rfl, fb_lt_g6⟩
  · exact ⟨.g 7, fun _ => rfl, fb_lt_g7⟩
  · exact ⟨.g 8, fun _ => rfl, fb_lt_g8⟩
  · exact ⟨.g 9, fun _ => rfl, fb_lt_g9⟩
  · exact ⟨.g 10, fun _ => rfl, fb_lt_g10⟩
theorem fb_eq (r : Int) (h1 : -11 ≤ r) (h2 : r ≤ 11) : ∃ x : SE, (∀ σ, r = x.den σ) ∧ Yes (Γb x false true) 2000 (.l (.l .h)) asb := by
  have h : r = 0 ∨ r = 1 ∨ r = 2 ∨ r = 3 ∨ r = 4 ∨ r = 5 ∨ r = 6 ∨ r = 7 ∨ r = 8 ∨ r = 9 ∨ r = 10 ∨ r = 11 ∨ r = -1 ∨ r = -2 ∨ r = -3 ∨ r = -4 ∨ r = -5 ∨ r = -6 ∨ r = -7 ∨ r = -8 ∨ r = -9 ∨ r = -10 ∨ r = -11 := by omega
  rcases h with rfl | rfl | rfl | rfl | rfl | rfl | rfl | rfl | rfl | rfl | rfl | rfl | rfl | rfl | rfl | rfl | rfl | rfl | rfl | rfl | rfl | rfl | rfl
  · exact ⟨.n 0, fun _ => rfl, fb_eq_n0⟩
  · exact ⟨.n 1, fun _ => rfl, fb_eq_n1⟩
  · exact ⟨.n 2, fun _ => rfl, fb_eq_n2⟩
  · exact ⟨.n 3, fun _ => rfl, fb_eq_n3⟩
  · exact ⟨.n 4, fun _ => rfl, fb_eq_n4⟩
  · exact ⟨.n 5, fun _ => rfl, fb_eq_n5⟩
  · exact ⟨.n 6, fun _ => rfl, fb_eq_n6⟩
  · exact ⟨.n 7, fun _ => rfl, fb_eq_n7⟩
  · exact ⟨.n 8, fun _ => rfl, fb_eq_n8⟩
  · exact ⟨.n 9, fun _ => rfl, fb_eq_n9⟩
  · exact ⟨.n 10, fun _ => rfl, fb_eq_n10⟩
  · exact ⟨.n 11, fun _ => rfl, fb_eq_n11⟩
  · exact ⟨.g 0, fun _ => rfl, fb_eq_g0⟩
  · exact ⟨.g 1, fun _ => rfl, fb_eq_g1⟩
  · exact ⟨.g 2, fun _ => rfl, fb_eq_g2⟩
  · exact ⟨.g 3, fun _ => rfl, fb_eq_g3⟩
  · exact ⟨.g 4, fun _ => rfl, fb_eq_g4⟩
  · exact ⟨.g 5, fun _ => rfl, fb_eq_g5⟩
  · exact ⟨.g 6, fun _ => rfl, fb_eq_g6⟩
  · exact ⟨.g 7, fun _ => rfl, fb_eq_g7⟩
  · exact ⟨.g 8, fun _ => rfl, fb_eq_g8⟩
  · exact ⟨.g 9, fun _ => rfl, fb_eq_g9⟩
  · exact ⟨.g 10, fun _ => rfl, fb_eq_g10⟩
theorem fb_gt (r : Int) (h1 : -11 ≤ r) (h2 : r ≤ 11) : ∃ x : SE, (∀ σ, r = x.den σ) ∧ Yes (Γb x false false) 2000 (.l (.l .h)) asb := by
  have h : r = 0 ∨ r = 1 ∨ r = 2 ∨ r = 3 ∨ r = 4 ∨ r = 5 ∨ r = 6 ∨ r = 7 ∨ r = 8 ∨ r = 9 ∨ r = 10 ∨ r = 11 ∨ r = -1 ∨ r = -2 ∨ r = -3 ∨ r = -4 ∨ r = -5 ∨ r = -6 ∨ r = -7 ∨ r = -8 ∨ r = -9 ∨ r = -10 ∨ r = -11 := by omega
  rcases h with rfl | rfl | rfl | rfl | rfl | rfl | rfl | rfl | rfl | rfl | rfl | rfl | rfl | rfl | rfl | rfl | rfl | rfl | rfl | rfl | rfl | rfl | rfl
  · exact ⟨.n 0, fun _ => rfl, fb_gt_n0⟩
  · exact ⟨.n 1, fun _ => rfl, fb_gt_n1⟩
  · exact ⟨.n 2, fun _ => rfl, fb_gt_n2⟩
  · exact ⟨.n 3, fun _ => rfl, fb_gt_n3⟩
  · exact ⟨.n 4, fun _ => rfl, fb_gt_n4⟩
  · exact ⟨.n 5, fun _ => rfl, fb_gt_n5⟩
  · exact ⟨.n 6, fun _ => rfl, fb_gt_n6⟩
  · exact ⟨.n 7, fun _ => rfl, fb_gt_n7⟩
  · exact ⟨.n 8, fun _ => rfl, fb_gt_n8⟩
  · exact ⟨.n 9, fun _ => rfl, fb_gt_n9⟩
  · exact ⟨.n 10, fun _ => rfl, fb_gt_n10⟩
  · exact ⟨.n 11, fun _ => rfl, fb_gt_n11⟩
  · exact ⟨.g 0, fun _ => rfl, fb_gt_g0⟩
  · exact ⟨.g 1, fun _ => rfl, fb_gt_g1⟩
  · exact ⟨.g 2, fun _ => rfl, fb_gt_g2⟩
  · exact ⟨.g 3, fun _ => rfl, fb_gt_g3⟩
  · exact ⟨.g 4, fun _ => rfl, fb_gt_g4⟩
  · exact ⟨.g 5, fun _ => rfl, fb_gt_g5⟩
  · exact ⟨.g 6, fun _ => rfl, fb_gt_g6⟩
  · exact ⟨.g 7, fun _ => rfl, fb_gt_g7⟩
  · exact ⟨.g 8, fun _ => rfl, fb_gt_g8⟩
  · exact ⟨.g 9, fun _ => rfl, fb_gt_g9⟩
  · exact ⟨.g 10, fun _ => rfl, fb_gt_g10⟩
end Go.Proofs.Ytgnomdhaibigiaa
