/- Contracts, printed by gen4.py. -/
import Derived.Test.YtbpccmnalhdpmaaGf
import Derived.Test.YtbpccmnalhdpmaaOz
set_option linter.unusedVariables false
set_option linter.unusedSimpArgs false
set_option maxRecDepth 4000
namespace Go.Proofs.Ytbpccmnalhdpmaa
open Go.RowKit Go.Fw
def m_fold_operands1 (φ : Int → Int) (x : GOp) : GOp :=
 if (((decide (x.Kind = (2 : Int))) || (decide (x.Kind = (15 : Int)))) || (decide (x.Kind = (18 : Int)))) = true then
  if (((decide ((3 : Int) ≤ x.Kind)) && (decide (x.Kind ≤ (14 : Int)))) || (decide (x.Kind = (16 : Int)))) = true then
   (⟨x.Kind, x.Dst, (φ x.A), (φ x.B), x.N, x.Ctx, x.Var, x.Piece, x.Src⟩ : GOp)
  else
   (⟨x.Kind, x.Dst, (φ x.A), x.B, x.N, x.Ctx, x.Var, x.Piece, x.Src⟩ : GOp)
 else
  if (((decide ((3 : Int) ≤ x.Kind)) && (decide (x.Kind ≤ (14 : Int)))) || (decide (x.Kind = (16 : Int)))) = true then
   (⟨x.Kind, x.Dst, (φ x.A), (φ x.B), x.N, x.Ctx, x.Var, x.Piece, x.Src⟩ : GOp)
  else
   x
set_option maxHeartbeats 12800000 in
theorem sp_operands1 (w0 w : World) (L0 : List It) (l : Nat) (φ : Int → Int) (j0 j1 j2 j3 : It) (hY : ∀ (T : List Value → It) (b o : Nat) (hT : Slot T b o) (v : Int) (L : List It) (w : World), Bx w0 w (T [.int .i64 v] :: j0 :: j1 :: j2 :: j3 :: L) → YieldAt Fence.wide 0 Try.prog l #[.pointer (some ⟨b, o, none⟩)] w (Ret fun u w' => u = .bool true ∧ Bx w0 w' (T [.int .i64 (φ v)] :: j0 :: j1 :: j2 :: j3 :: L))) (T : List Value → It) (b o : Nat) (hT : Slot T b o) (x : GOp) (B : Nat) (hL : Bx w0 w (T (GOp.cells x) :: .box B 138 #[.pointer (some ⟨b, o, none⟩)] :: j0 :: j1 :: j2 :: j3 :: L0)) : Calls Try.prog 158 #[.func (.yield l) #[] #[], .pointer (some ⟨B, 0, none⟩)] w (Ret fun v w => v = .tuple #[] ∧ Bx w0 w (T (GOp.cells (m_fold_operands1 φ x)) :: .box B 138 #[.pointer (some ⟨b, o, none⟩)] :: j0 :: j1 :: j2 :: j3 :: L0)) := by
  obtain ⟨X, hM⟩ : ∃ X, m_fold_operands1 φ x = X := ⟨_, rfl⟩
  rw [hM]
  unfold m_fold_operands1 at hM
  try simp only [er1, er2, er3, er4, er5, er6, er7, er8, er9, er10, er11, er12, er13, er14, er15, er16, er17, List.length_map] at hM
  refine calls_of Try.func158 rfl (Nat.le_of_ble_eq_true rfl) (by kernel_rfl) ?_
  refine wCut [(0, .func (.yield l) #[] #[]), (1, .pointer (some ⟨B, 0, none⟩))] ⟨rfl, rfl, trivial⟩ fun g => ?_
  refine wSeq ?_
  obtain ⟨E1, hE1⟩ : ∃ E, (((decide ((3 : Int) ≤ x.Kind)) && (decide (x.Kind ≤ (14 : Int)))) || (decide (x.Kind = (16 : Int)))) = E := ⟨_, rfl⟩
  refine wJ (fun f w => Has f [(0, .func (.yield l) #[] #[]), (1, .pointer (some ⟨B, 0, none⟩)), (3, .bool E1)] ∧ Bx w0 w (T (GOp.cells x) :: .box B 138 #[.pointer (some ⟨b, o, none⟩)] :: j0 :: j1 :: j2 :: j3 :: L0)) ?_ ?_
  ·refine wReg (sRun (xLoad Try.underlying138 rfl rfl ((hL.bk 1 rfl).cell (i := 0) rfl)) (sRun (xNilCk rfl) (sRun (xFld0 Try.underlying66 rfl rfl ti3 (by decide) rfl) (sRun (xLoad Try.underlying3 rfl rfl ((hL.sget 0 hT rfl) 0 _ rfl)) (sRun (xGeq rfl rfl) (sRun (xMvB rfl) ?_))))))
   by_cases h2 : (3 : Int) ≤ x.Kind
   ·try rw [decide_eq_true h2]
    refine sGo rfl (sRun (xLoad Try.underlying138 rfl rfl ((hL.bk 1 rfl).cell (i := 0) rfl)) (sGo rfl (sRun (xNilCk rfl) (sGo rfl (sRun (xFld0 Try.underlying66 rfl rfl ti3 (by decide) rfl) (sGo rfl (sRun (xLoad Try.underlying3 rfl rfl ((hL.sget 0 hT rfl) 0 _ rfl)) (sGo rfl (sRun (xLeq rfl rfl) (sRun (xPkTB rfl rfl) (sRun (xMvB rfl) ?_)))))))))))
    by_cases h3 : x.Kind ≤ (14 : Int)
    ·try rw [decide_eq_true h3]
     refine sNo rfl (sNo rfl (sNo rfl (sNo rfl (sNo rfl (sRun (xPkTB rfl rfl) (sRun (xAsB rfl) (sNil ?_)))))))
     exact ⟨⟨rfl, rfl, (congrArg Value.bool (by rw [← hE1]; first | (simp [h2, h3]; done) | (simp only [decide_eq_true h2, decide_eq_true h3]; done) | grind)), trivial⟩, hL⟩
    ·try rw [decide_eq_false h3]
     refine sGo rfl (sRun (xLoad Try.underlying138 rfl rfl ((hL.bk 1 rfl).cell (i := 0) rfl)) (sGo rfl (sRun (xNilCk rfl) (sGo rfl (sRun (xFld0 Try.underlying66 rfl rfl ti3 (by decide) rfl) (sGo rfl (sRun (xLoad Try.underlying3 rfl rfl ((hL.sget 0 hT rfl) 0 _ rfl)) (sGo rfl (sRun (xEqlD rfl rfl) (sRun (xPkFB rfl rfl) (sRun (xAsB rfl) (sNil ?_))))))))))))
     exact ⟨⟨rfl, rfl, (congrArg Value.bool (by rw [← hE1]; first | (simp [h2, h3]; done) | (simp only [decide_eq_true h2, decide_eq_false h3]; done) | grind)), trivial⟩, hL⟩
   ·try rw [decide_eq_false h2]
    refine sNo rfl (sNo rfl (sNo rfl (sNo rfl (sNo rfl (sRun (xPkFB rfl rfl) (sRun (xMvB rfl) (sGo rfl (sRun (xLoad Try.underlying138 rfl rfl ((hL.bk 1 rfl).cell (i := 0) rfl)) (sGo rfl (sRun (xNilCk rfl) (sGo rfl (sRun (xFld0 Try.underlying66 rfl rfl ti3 (by decide) rfl) (sGo rfl ?_)))))))))))))
    refine sRun (xLoad Try.underlying3 rfl rfl ((hL.sget 0 hT rfl) 0 _ rfl)) (sGo rfl (sRun (xEqlF rfl rfl (by omega)) (sRun (xPkFB rfl rfl) (sRun (xAsB rfl) (sNil ?_)))))
    exact ⟨⟨rfl, rfl, (congrArg Value.bool (by rw [← hE1]; first | (simp [h2]; done) | (simp only [decide_eq_false h2, decide_eq_false (show ¬ (x.Kind = (16 : Int)) by omega)]; done) | grind)), trivial⟩, hL⟩
  ·clear hL
   subst hE1
   rintro f w ⟨hf, hL⟩
   obtain ⟨g, rfl⟩ := has_updL _ _ hf
   clear hf
   refine wSeq ?_
   obtain ⟨E4, hE4⟩ : ∃ E, (((decide (x.Kind = (2 : Int))) || (decide (x.Kind = (15 : Int)))) || (decide (x.Kind = (18 : Int)))) = E := ⟨_, rfl⟩
   refine wJ (fun f w => Has f [(0, .func (.yield l) #[] #[]), (1, .pointer (some ⟨B, 0, none⟩)), (3, .bool (((decide ((3 : Int) ≤ x.Kind)) && (decide (x.Kind ≤ (14 : Int)))) || (decide (x.Kind = (16 : Int))))), (4, .bool E4)] ∧ Bx w0 w (T (GOp.cells x) :: .box B 138 #[.pointer (some ⟨b, o, none⟩)] :: j0 :: j1 :: j2 :: j3 :: L0)) ?_ ?_
   ·refine wReg (sRun (xLoad Try.underlying138 rfl rfl ((hL.bk 1 rfl).cell (i := 0) rfl)) (sRun (xNilCk rfl) (sRun (xFld0 Try.underlying66 rfl rfl ti3 (by decide) rfl) (sRun (xLoad Try.underlying3 rfl rfl ((hL.sget 0 hT rfl) 0 _ rfl)) (sRun (xEqlD rfl rfl) (sRun (xMvB rfl) ?_))))))
    by_cases h5 : x.Kind = (2 : Int)
    ·try rw [decide_eq_true h5]
     refine sNo rfl (sNo rfl (sNo rfl (sNo rfl (sNo rfl (sRun (xPkTB rfl rfl) (sRun (xMvB rfl) (sNo rfl (sNo rfl (sNo rfl (sNo rfl (sNo rfl (sRun (xPkTB rfl rfl) (sRun (xAsB rfl) ?_)))))))))))))
     refine sNil ?_
     exact ⟨⟨rfl, rfl, rfl, (congrArg Value.bool (by rw [← hE4]; first | (simp [h5]; done) | (simp only [decide_eq_true h5]; done) | grind)), trivial⟩, hL⟩
    ·try rw [decide_eq_false h5]
     refine sGo rfl (sRun (xLoad Try.underlying138 rfl rfl ((hL.bk 1 rfl).cell (i := 0) rfl)) (sGo rfl (sRun (xNilCk rfl) (sGo rfl (sRun (xFld0 Try.underlying66 rfl rfl ti3 (by decide) rfl) (sGo rfl (sRun (xLoad Try.underlying3 rfl rfl ((hL.sget 0 hT rfl) 0 _ rfl)) (sGo rfl (sRun (xEqlD rfl rfl) (sRun (xPkFB rfl rfl) (sRun (xMvB rfl) ?_)))))))))))
     by_cases h6 : x.Kind = (15 : Int)
     ·try rw [decide_eq_true h6]
      refine sNo rfl (sNo rfl (sNo rfl (sNo rfl (sNo rfl (sRun (xPkTB rfl rfl) (sRun (xAsB rfl) (sNil ?_)))))))
      exact ⟨⟨rfl, rfl, rfl, (congrArg Value.bool (by rw [← hE4]; first | (simp [h5, h6]; done) | (simp only [decide_eq_false h5, decide_eq_true h6]; done) | grind)), trivial⟩, hL⟩
     ·try rw [decide_eq_false h6]
      refine sGo rfl (sRun (xLoad Try.underlying138 rfl rfl ((hL.bk 1 rfl).cell (i := 0) rfl)) (sGo rfl (sRun (xNilCk rfl) (sGo rfl (sRun (xFld0 Try.underlying66 rfl rfl ti3 (by decide) rfl) (sGo rfl (sRun (xLoad Try.underlying3 rfl rfl ((hL.sget 0 hT rfl) 0 _ rfl)) (sGo rfl (sRun (xEqlD rfl rfl) (sRun (xPkFB rfl rfl) (sRun (xAsB rfl) (sNil ?_))))))))))))
      exact ⟨⟨rfl, rfl, rfl, (congrArg Value.bool (by rw [← hE4]; first | (simp [h5, h6]; done) | (simp only [decide_eq_false h5, decide_eq_false h6]; done) | grind)), trivial⟩, hL⟩
   ·clear hL
    subst hE4
    rintro f w ⟨hf, hL⟩
    obtain ⟨g, rfl⟩ := has_updL _ _ hf
    clear hf
    refine wSeq (wSeq (wRegY (yRun Wd.wide (fun c h => by cases h) (xMvB rfl) (yRun Wd.wide (fun c h => by cases h) (xMvB rfl) ?_))))
    by_cases h7 : (((decide (x.Kind = (2 : Int))) || (decide (x.Kind = (15 : Int)))) || (decide (x.Kind = (18 : Int)))) = true
    ·try rw [h7]
     rw [if_pos h7] at hM
     refine yNo Wd.wide rfl (yRun Wd.wide (fun c h => by cases h) (xPkTB rfl rfl) (yRun Wd.wide (fun c h => by cases h) (xMvB rfl) (yGo rfl (yRun Wd.wide (fun c h => by cases h) (xMvF rfl) (yGo rfl (yRun Wd.wide (fun c h => by cases h) (xLoad Try.underlying138 rfl rfl ((hL.bk 1 rfl).cell (i := 0) rfl)) (yGo rfl (yRun Wd.wide (fun c h => by cases h) (xNilCk rfl) (yGo rfl (yRun Wd.wide (fun c h => by cases h) (xFld (k := 2) Try.underlying66 rfl rfl ti3 (by decide) rfl) (yGo rfl ?_)))))))))))
     replace hL : Bx w0 _ (T (GOp.cells x) :: j0 :: j1 :: j2 :: j3 :: .box B 138 #[.pointer (some ⟨b, o, none⟩)] :: L0) := ((((((hL.front 1 rfl).front 5 rfl).front 5 rfl).front 5 rfl).front 5 rfl).front 5 rfl)
     refine yYield rfl rfl (hY (sub T (GOp.cells x) 2 1) b (o + 2) (Slot.sub hT 2 1 (Nat.le_of_ble_eq_true rfl)) x.A _ _ hL) ?_
     rintro _ w8 ⟨rfl, hL8⟩
     replace hL : Bx w0 w8 (T [.int .i64 x.Kind, .int .i64 x.Dst, .int .i64 (φ x.A), .int .i64 x.B, .int .i64 x.N, .int .i64 x.Ctx, .int .i64 x.Var, .int .i64 x.Piece, .int .i64 x.Src.Kind, .int .i64 x.Src.Val, .int .i64 x.Src.Add] :: j0 :: j1 :: j2 :: j3 :: .box B 138 #[.pointer (some ⟨b, o, none⟩)] :: L0) := hL8
     refine yGo rfl (yRun Wd.wide (fun c h => by cases h) (xNot rfl) (yRun Wd.wide (fun c h => by cases h) (xPkTB rfl rfl) (yNil (wIfF rfl (wSkip (wSeq (wReg (sRun (xMvB rfl) (sNil ?_)))))))))
     by_cases h9 : (((decide ((3 : Int) ≤ x.Kind)) && (decide (x.Kind ≤ (14 : Int)))) || (decide (x.Kind = (16 : Int)))) = true
     ·try rw [h9]
      rw [if_pos h9] at hM
      refine wIfT rfl (wRegY (yRun Wd.wide (fun c h => by cases h) (xMvF rfl) (yRun Wd.wide (fun c h => by cases h) (xLoad Try.underlying138 rfl rfl ((hL.bk 5 rfl).cell (i := 0) rfl)) (yRun Wd.wide (fun c h => by cases h) (xNilCk rfl) (yRun Wd.wide (fun c h => by cases h) (xFld (k := 3) Try.underlying66 rfl rfl ti3 (by decide) rfl) (yYield rfl rfl (hY (sub T [.int .i64 x.Kind, .int .i64 x.Dst, .int .i64 (φ x.A), .int .i64 x.B, .int .i64 x.N, .int .i64 x.Ctx, .int .i64 x.Var, .int .i64 x.Piece, .int .i64 x.Src.Kind, .int .i64 x.Src.Val, .int .i64 x.Src.Add] 3 1) b (o + 3) (Slot.sub hT 3 1 (Nat.le_of_ble_eq_true rfl)) x.B _ _ hL) ?_))))))
      rintro _ w10 ⟨rfl, hL10⟩
      replace hL : Bx w0 w10 (T [.int .i64 x.Kind, .int .i64 x.Dst, .int .i64 (φ x.A), .int .i64 (φ x.B), .int .i64 x.N, .int .i64 x.Ctx, .int .i64 x.Var, .int .i64 x.Piece, .int .i64 x.Src.Kind, .int .i64 x.Src.Val, .int .i64 x.Src.Add] :: j0 :: j1 :: j2 :: j3 :: .box B 138 #[.pointer (some ⟨b, o, none⟩)] :: L0) := hL10
      refine yNil ?_
      subst hM
      refine res0 (P := Try.prog) (fn := Try.f158) rfl ?_
      exact ⟨rfl, ((((((hL.front 4 rfl).front 4 rfl).front 4 rfl).front 4 rfl).front 5 rfl).front 5 rfl)⟩
     ·have h9n : (((decide ((3 : Int) ≤ x.Kind)) && (decide (x.Kind ≤ (14 : Int)))) || (decide (x.Kind = (16 : Int)))) = false := Bool.eq_false_iff.2 h9
      try rw [h9n]
      rw [if_neg h9] at hM
      have h11 : ¬ (x.Kind = (16 : Int)) := fun hq => by rw [decide_eq_true hq] at h9; simp at h9
      refine wIfF rfl (wSkip ?_)
      subst hM
      refine res0 (P := Try.prog) (fn := Try.f158) rfl ?_
      exact ⟨rfl, ((((((hL.front 4 rfl).front 4 rfl).front 4 rfl).front 4 rfl).front 5 rfl).front 5 rfl)⟩
    ·have h7n : (((decide (x.Kind = (2 : Int))) || (decide (x.Kind = (15 : Int)))) || (decide (x.Kind = (18 : Int)))) = false := Bool.eq_false_iff.2 h7
     try rw [h7n]
     rw [if_neg h7] at hM
     have h12 : ¬ (x.Kind = (2 : Int)) := fun hq => by rw [decide_eq_true hq] at h7; simp at h7
     have h13 : ¬ (x.Kind = (15 : Int)) := fun hq => by rw [decide_eq_true hq] at h7; simp at h7
     have h14 : ¬ (x.Kind = (18 : Int)) := fun hq => by rw [decide_eq_true hq] at h7; simp at h7
     refine yGo rfl (yRun Wd.wide (fun c h => by cases h) (xMvB rfl) (yRun Wd.wide (fun c h => by cases h) (xPkFB rfl rfl) (yRun Wd.wide (fun c h => by cases h) (xMvB rfl) ?_)))
     by_cases h15 : (((decide ((3 : Int) ≤ x.Kind)) && (decide (x.Kind ≤ (14 : Int)))) || (decide (x.Kind = (16 : Int)))) = true
     ·try rw [h15]
      rw [if_pos h15] at hM
      refine yGo rfl (yRun Wd.wide (fun c h => by cases h) (xMvF rfl) (yGo rfl (yRun Wd.wide (fun c h => by cases h) (xLoad Try.underlying138 rfl rfl ((hL.bk 1 rfl).cell (i := 0) rfl)) (yGo rfl (yRun Wd.wide (fun c h => by cases h) (xNilCk rfl) (yGo rfl (yRun Wd.wide (fun c h => by cases h) (xFld (k := 2) Try.underlying66 rfl rfl ti3 (by decide) rfl) (yGo rfl ?_))))))))
      replace hL : Bx w0 _ (T (GOp.cells x) :: j0 :: j1 :: j2 :: j3 :: .box B 138 #[.pointer (some ⟨b, o, none⟩)] :: L0) := ((((((hL.front 1 rfl).front 5 rfl).front 5 rfl).front 5 rfl).front 5 rfl).front 5 rfl)
      refine yYield rfl rfl (hY (sub T (GOp.cells x) 2 1) b (o + 2) (Slot.sub hT 2 1 (Nat.le_of_ble_eq_true rfl)) x.A _ _ hL) ?_
      rintro _ w16 ⟨rfl, hL16⟩
      replace hL : Bx w0 w16 (T [.int .i64 x.Kind, .int .i64 x.Dst, .int .i64 (φ x.A), .int .i64 x.B, .int .i64 x.N, .int .i64 x.Ctx, .int .i64 x.Var, .int .i64 x.Piece, .int .i64 x.Src.Kind, .int .i64 x.Src.Val, .int .i64 x.Src.Add] :: j0 :: j1 :: j2 :: j3 :: .box B 138 #[.pointer (some ⟨b, o, none⟩)] :: L0) := hL16
      refine yGo rfl (yRun Wd.wide (fun c h => by cases h) (xNot rfl) (yRun Wd.wide (fun c h => by cases h) (xPkTB rfl rfl) (yNil (wIfF rfl (wSkip (wSeq (wReg (sRun (xMvB rfl) ?_))))))))
      try rw [h15]
      refine sNil (wIfT rfl (wRegY (yRun Wd.wide (fun c h => by cases h) (xMvF rfl) (yRun Wd.wide (fun c h => by cases h) (xLoad Try.underlying138 rfl rfl ((hL.bk 5 rfl).cell (i := 0) rfl)) (yRun Wd.wide (fun c h => by cases h) (xNilCk rfl) (yRun Wd.wide (fun c h => by cases h) (xFld (k := 3) Try.underlying66 rfl rfl ti3 (by decide) rfl) (yYield rfl rfl (hY (sub T [.int .i64 x.Kind, .int .i64 x.Dst, .int .i64 (φ x.A), .int .i64 x.B, .int .i64 x.N, .int .i64 x.Ctx, .int .i64 x.Var, .int .i64 x.Piece, .int .i64 x.Src.Kind, .int .i64 x.Src.Val, .int .i64 x.Src.Add] 3 1) b (o + 3) (Slot.sub hT 3 1 (Nat.le_of_ble_eq_true rfl)) x.B _ _ hL) ?_)))))))
      rintro _ w17 ⟨rfl, hL17⟩
      replace hL : Bx w0 w17 (T [.int .i64 x.Kind, .int .i64 x.Dst, .int .i64 (φ x.A), .int .i64 (φ x.B), .int .i64 x.N, .int .i64 x.Ctx, .int .i64 x.Var, .int .i64 x.Piece, .int .i64 x.Src.Kind, .int .i64 x.Src.Val, .int .i64 x.Src.Add] :: j0 :: j1 :: j2 :: j3 :: .box B 138 #[.pointer (some ⟨b, o, none⟩)] :: L0) := hL17
      refine yNil ?_
      subst hM
      refine res0 (P := Try.prog) (fn := Try.f158) rfl ?_
      exact ⟨rfl, ((((((hL.front 4 rfl).front 4 rfl).front 4 rfl).front 4 rfl).front 5 rfl).front 5 rfl)⟩
     ·have h15n : (((decide ((3 : Int) ≤ x.Kind)) && (decide (x.Kind ≤ (14 : Int)))) || (decide (x.Kind = (16 : Int)))) = false := Bool.eq_false_iff.2 h15
      try rw [h15n]
      rw [if_neg h15] at hM
      have h18 : ¬ (x.Kind = (16 : Int)) := fun hq => by rw [decide_eq_true hq] at h15; simp at h15
      refine yNo Wd.wide rfl (yNo Wd.wide rfl (yNo Wd.wide rfl (yNo Wd.wide rfl (yNo Wd.wide rfl (yNo Wd.wide rfl (yRun Wd.wide (fun c h => by cases h) (xPkFB rfl rfl) (yNil (wIfF rfl (wSkip (wSeq (wReg (sRun (xMvB rfl) ?_))))))))))))
      try rw [h15n]
      refine sNil (wIfF rfl (wSkip ?_))
      subst hM
      refine res0 (P := Try.prog) (fn := Try.f158) rfl ?_
      exact ⟨rfl, hL⟩

end Go.Proofs.Ytbpccmnalhdpmaa
