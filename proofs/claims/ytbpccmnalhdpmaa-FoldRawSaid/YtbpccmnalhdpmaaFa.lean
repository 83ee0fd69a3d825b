/- Contracts, printed by gen4.py. -/
import Derived.Test.YtbpccmnalhdpmaaGf
set_option linter.unusedVariables false
set_option linter.unusedSimpArgs false
set_option maxRecDepth 4000
namespace Go.Proofs.Ytbpccmnalhdpmaa
open Go.RowKit Go.Fw
def m_fold_truth (a0 : Bool) : Int :=
 if a0 = true then
  (1 : Int)
 else
  (0 : Int)
set_option maxHeartbeats 12800000 in
theorem sp_m_fold_truth (w0 : World) (a0 : Bool) : Calls Try.prog 181 #[.bool a0] w0 (Ret fun v w => v = .int .i64 (m_fold_truth a0) ∧ Ext w0 w) := by
  obtain ⟨X, hM⟩ : ∃ X, m_fold_truth a0 = X := ⟨_, rfl⟩
  rw [hM]
  unfold m_fold_truth at hM
  try simp only [er1, er2, er3, er4, er5, er6, er7, er8, er9, er10, er11, er12, er13, er14, er15, er16, er17, List.length_map] at hM
  have hL : Bx w0 w0 [] := Bx.nil
  refine calls_of Try.func181 rfl (Nat.le_of_ble_eq_true rfl) (by kernel_rfl) ?_
  refine wCut [(0, .bool a0)] ⟨rfl, trivial⟩ fun g => ?_
  refine wSeq (wReg (sRun (xAsI rfl) (sNil (wSeq (wSeq (wReg (sRun (xMvB rfl) (sNil ?_))))))))
  by_cases h1 : a0 = true
  ·try rw [h1]
   rw [if_pos h1] at hM
   refine wIfT rfl (wSeq (wReg (sRun (xAsI rfl) (sNil (wRet ?_)))))
   subst hM
   refine res1 (P := Try.prog) (fn := Try.f181) rfl ?_
   exact ⟨rfl, hL.1⟩
  ·have h1n : a0 = false := Bool.eq_false_iff.2 h1
   try rw [h1n]
   rw [if_neg h1] at hM
   refine wIfF rfl (wSkip (wSeq (wReg (sRun (xAsI rfl) (sNil (wRet ?_))))))
   subst hM
   refine res1 (P := Try.prog) (fn := Try.f181) rfl ?_
   exact ⟨rfl, hL.1⟩

def m_fold_binary (a0 : Int) (a1 : Int) (a2 : Int) : Int × Bool :=
 if a0 = (3 : Int) then
  ((wr (a1 + a2)), true)
 else
  if a0 = (4 : Int) then
   ((wr (a1 - a2)), true)
  else
   if a0 = (5 : Int) then
    ((wr (a1 * a2)), true)
   else
    if ((decide (a0 = (6 : Int))) || (decide (a0 = (7 : Int)))) = true then
     if a2 = (0 : Int) then
      ((0 : Int), false)
     else
      if a0 = (6 : Int) then
       ((wr (a1.tdiv a2)), true)
      else
       ((a1.tmod a2), true)
    else
     if a0 = (8 : Int) then
      ((bwAnd a1 a2), true)
     else
      if a0 = (9 : Int) then
       ((bwOr a1 a2), true)
      else
       if a0 = (10 : Int) then
        ((bwXor a1 a2), true)
       else
        if a0 = (11 : Int) then
         ((m_fold_truth (decide (a1 < a2))), true)
        else
         if a0 = (12 : Int) then
          ((m_fold_truth (decide (a1 ≤ a2))), true)
         else
          if a0 = (13 : Int) then
           ((m_fold_truth (decide (a1 = a2))), true)
          else
           ((m_fold_truth (decide (a1 ≠ a2))), true)
set_option maxHeartbeats 12800000 in
theorem sp_m_fold_binary (w0 : World) (a0 : Int) (a1 : Int) (a2 : Int) : Calls Try.prog 159 #[.int .i64 a0, .int .i64 a1, .int .i64 a2] w0 (Ret fun v w => v = .tuple #[.int .i64 ((m_fold_binary a0 a1 a2).1), .bool ((m_fold_binary a0 a1 a2).2)] ∧ Ext w0 w) := by
  obtain ⟨X, hM⟩ : ∃ X, m_fold_binary a0 a1 a2 = X := ⟨_, rfl⟩
  rw [hM]
  unfold m_fold_binary at hM
  try simp only [er1, er2, er3, er4, er5, er6, er7, er8, er9, er10, er11, er12, er13, er14, er15, er16, er17, List.length_map] at hM
  have hL : Bx w0 w0 [] := Bx.nil
  refine calls_of Try.func159 rfl (Nat.le_of_ble_eq_true rfl) (by kernel_rfl) ?_
  refine wCut [(0, .int .i64 a0), (1, .int .i64 a1), (2, .int .i64 a2)] ⟨rfl, rfl, rfl, trivial⟩ fun g => ?_
  refine wSeq (wReg (sRun (xAsI rfl) (sRun (xAsB rfl) (sNil (wSeq (wSeq (wReg (sRun (xMvI rfl) (sNil (wBlock (wSeq (wReg (sRun (xEqlD rfl rfl) ?_)))))))))))))
  refine sRun (xAsB rfl) (sNil ?_)
  by_cases h1 : a0 = (3 : Int)
  ·try rw [decide_eq_true h1]
   rw [if_pos h1] at hM
   refine wIfT rfl (wSeq (wReg (sRun (xMvI rfl) (sRun (xMvI rfl) (sRun (xAddW rfl rfl) (sRun (xAsI rfl) (sRun (xAsB rfl) (sNil (wRet ?_)))))))))
   subst hM
   refine res2 (P := Try.prog) (fn := Try.f159) rfl ?_
   exact ⟨rfl, hL.1⟩
  ·try rw [decide_eq_false h1]
   rw [if_neg h1] at hM
   refine wIfF rfl (wSeq (wReg (sRun (xEqlD rfl rfl) (sRun (xAsB rfl) (sNil ?_)))))
   by_cases h2 : a0 = (4 : Int)
   ·try rw [decide_eq_true h2]
    rw [if_pos h2] at hM
    refine wIfT rfl (wSeq (wReg (sRun (xMvI rfl) (sRun (xMvI rfl) (sRun (xSubW rfl rfl) (sRun (xAsI rfl) (sRun (xAsB rfl) (sNil (wRet ?_)))))))))
    subst hM
    refine res2 (P := Try.prog) (fn := Try.f159) rfl ?_
    exact ⟨rfl, hL.1⟩
   ·try rw [decide_eq_false h2]
    rw [if_neg h2] at hM
    refine wIfF rfl (wSeq (wReg (sRun (xEqlD rfl rfl) (sRun (xAsB rfl) (sNil ?_)))))
    by_cases h3 : a0 = (5 : Int)
    ·try rw [decide_eq_true h3]
     rw [if_pos h3] at hM
     refine wIfT rfl (wSeq (wReg (sRun (xMvI rfl) (sRun (xMvI rfl) (sRun (xMulW rfl rfl) (sRun (xAsI rfl) (sRun (xAsB rfl) (sNil (wRet ?_)))))))))
     subst hM
     refine res2 (P := Try.prog) (fn := Try.f159) rfl ?_
     exact ⟨rfl, hL.1⟩
    ·try rw [decide_eq_false h3]
     rw [if_neg h3] at hM
     refine wIfF rfl (wSeq (wSeq (wReg (sRun (xEqlD rfl rfl) (sRun (xAsB rfl) (sNil ?_))))))
     obtain ⟨E4, hE4⟩ : ∃ E, ((decide (a0 = (6 : Int))) || (decide (a0 = (7 : Int)))) = E := ⟨_, rfl⟩
     refine wJ (fun f w => Has f [(0, .int .i64 a0), (1, .int .i64 a1), (2, .int .i64 a2), (8, .int .i64 a0), (24, .bool E4)] ∧ Bx w0 w []) ?_ ?_
     ·by_cases h5 : a0 = (6 : Int)
      ·try rw [decide_eq_true h5]
       refine wIfT rfl (wSkip ?_)
       exact ⟨⟨rfl, rfl, rfl, rfl, (congrArg Value.bool (by rw [← hE4]; first | (simp [h5]; done) | (simp only [decide_eq_true h5]; done) | grind)), trivial⟩, hL⟩
      ·try rw [decide_eq_false h5]
       refine wIfF rfl (wReg (sRun (xEqlD rfl rfl) (sRun (xAsB rfl) (sNil ?_))))
       exact ⟨⟨rfl, rfl, rfl, rfl, (congrArg Value.bool (by rw [← hE4]; first | (simp [h5]; done) | (simp only [decide_eq_false h5]; done) | grind)), trivial⟩, hL⟩
     ·clear hL
      subst hE4
      rintro f w ⟨hf, hL⟩
      obtain ⟨g, rfl⟩ := has_updL _ _ hf
      clear hf
      by_cases h6 : ((decide (a0 = (6 : Int))) || (decide (a0 = (7 : Int)))) = true
      ·try rw [h6]
       rw [if_pos h6] at hM
       refine wIfT rfl (wSeq (wSeq (wReg (sRun (xMvI rfl) (sRun (xEqlD rfl rfl) (sNil ?_))))))
       by_cases h7 : a2 = (0 : Int)
       ·try rw [decide_eq_true h7]
        rw [if_pos h7] at hM
        refine wIfT rfl (wSeq (wReg (sRun (xAsI rfl) (sRun (xAsB rfl) (sNil (wRet ?_))))))
        subst hM
        refine res2 (P := Try.prog) (fn := Try.f159) rfl ?_
        exact ⟨rfl, hL.1⟩
       ·try rw [decide_eq_false h7]
        rw [if_neg h7] at hM
        refine wIfF rfl (wSkip (wSeq (wSeq (wReg (sRun (xMvI rfl) (sRun (xEqlD rfl rfl) (sNil ?_)))))))
        by_cases h8 : a0 = (6 : Int)
        ·try rw [decide_eq_true h8]
         rw [if_pos h8] at hM
         refine wIfT rfl (wSeq (wReg (sRun (xMvI rfl) (sRun (xMvI rfl) (sRun (xQuoW rfl rfl (by omega)) (sRun (xAsI rfl) (sRun (xAsB rfl) (sNil (wRet ?_)))))))))
         subst hM
         refine res2 (P := Try.prog) (fn := Try.f159) rfl ?_
         exact ⟨rfl, hL.1⟩
        ·try rw [decide_eq_false h8]
         rw [if_neg h8] at hM
         refine wIfF rfl (wSkip (wSeq (wReg (sRun (xMvI rfl) (sRun (xMvI rfl) (sRun (xRemW rfl rfl (by omega)) (sRun (xAsI rfl) (sRun (xAsB rfl) (sNil (wRet ?_))))))))))
         subst hM
         refine res2 (P := Try.prog) (fn := Try.f159) rfl ?_
         exact ⟨rfl, hL.1⟩
      ·have h6n : ((decide (a0 = (6 : Int))) || (decide (a0 = (7 : Int)))) = false := Bool.eq_false_iff.2 h6
       try rw [h6n]
       rw [if_neg h6] at hM
       have h9 : ¬ (a0 = (6 : Int)) := fun hq => by rw [decide_eq_true hq] at h6; simp at h6
       have h10 : ¬ (a0 = (7 : Int)) := fun hq => by rw [decide_eq_true hq] at h6; simp at h6
       refine wIfF rfl (wSeq (wReg (sRun (xEqlD rfl rfl) (sRun (xAsB rfl) (sNil ?_)))))
       by_cases h11 : a0 = (8 : Int)
       ·try rw [decide_eq_true h11]
        rw [if_pos h11] at hM
        refine wIfT rfl (wSeq (wReg (sRun (xMvI rfl) (sRun (xMvI rfl) (sRun (xAndW rfl rfl) (sRun (xAsI rfl) (sRun (xAsB rfl) (sNil (wRet ?_)))))))))
        subst hM
        refine res2 (P := Try.prog) (fn := Try.f159) rfl ?_
        exact ⟨rfl, hL.1⟩
       ·try rw [decide_eq_false h11]
        rw [if_neg h11] at hM
        refine wIfF rfl (wSeq (wReg (sRun (xEqlD rfl rfl) (sRun (xAsB rfl) (sNil ?_)))))
        by_cases h12 : a0 = (9 : Int)
        ·try rw [decide_eq_true h12]
         rw [if_pos h12] at hM
         refine wIfT rfl (wSeq (wReg (sRun (xMvI rfl) (sRun (xMvI rfl) (sRun (xOrW rfl rfl) (sRun (xAsI rfl) (sRun (xAsB rfl) (sNil (wRet ?_)))))))))
         subst hM
         refine res2 (P := Try.prog) (fn := Try.f159) rfl ?_
         exact ⟨rfl, hL.1⟩
        ·try rw [decide_eq_false h12]
         rw [if_neg h12] at hM
         refine wIfF rfl (wSeq (wReg (sRun (xEqlD rfl rfl) (sRun (xAsB rfl) (sNil ?_)))))
         by_cases h13 : a0 = (10 : Int)
         ·try rw [decide_eq_true h13]
          rw [if_pos h13] at hM
          refine wIfT rfl (wSeq (wReg (sRun (xMvI rfl) (sRun (xMvI rfl) (sRun (xXorW rfl rfl) (sRun (xAsI rfl) (sRun (xAsB rfl) (sNil (wRet ?_)))))))))
          subst hM
          refine res2 (P := Try.prog) (fn := Try.f159) rfl ?_
          exact ⟨rfl, hL.1⟩
         ·try rw [decide_eq_false h13]
          rw [if_neg h13] at hM
          refine wIfF rfl (wSeq (wReg (sRun (xEqlD rfl rfl) (sRun (xAsB rfl) (sNil ?_)))))
          by_cases h14 : a0 = (11 : Int)
          ·try rw [decide_eq_true h14]
           rw [if_pos h14] at hM
           refine wIfT rfl (wSeq (wReg (sRun (xMvI rfl) (sRun (xMvI rfl) (sRun (xLss rfl rfl) (sCall (eCall cal181 rfl) (sp_m_fold_truth _ (decide (a1 < a2))) ?_))))))
           rintro _ w15 ⟨rfl, he15⟩
           replace hL := hL.ext he15
           refine sRun (xAsI rfl) (sRun (xAsB rfl) (sNil (wRet ?_)))
           subst hM
           refine res2 (P := Try.prog) (fn := Try.f159) rfl ?_
           exact ⟨rfl, hL.1⟩
          ·try rw [decide_eq_false h14]
           rw [if_neg h14] at hM
           refine wIfF rfl (wSeq (wReg (sRun (xEqlD rfl rfl) (sRun (xAsB rfl) (sNil ?_)))))
           by_cases h16 : a0 = (12 : Int)
           ·try rw [decide_eq_true h16]
            rw [if_pos h16] at hM
            refine wIfT rfl (wSeq (wReg (sRun (xMvI rfl) (sRun (xMvI rfl) (sRun (xLeq rfl rfl) (sCall (eCall cal181 rfl) (sp_m_fold_truth _ (decide (a1 ≤ a2))) ?_))))))
            rintro _ w17 ⟨rfl, he17⟩
            replace hL := hL.ext he17
            refine sRun (xAsI rfl) (sRun (xAsB rfl) (sNil (wRet ?_)))
            subst hM
            refine res2 (P := Try.prog) (fn := Try.f159) rfl ?_
            exact ⟨rfl, hL.1⟩
           ·try rw [decide_eq_false h16]
            rw [if_neg h16] at hM
            refine wIfF rfl (wSeq (wReg (sRun (xEqlD rfl rfl) (sRun (xAsB rfl) (sNil ?_)))))
            by_cases h18 : a0 = (13 : Int)
            ·try rw [decide_eq_true h18]
             rw [if_pos h18] at hM
             refine wIfT rfl (wSeq (wReg (sRun (xMvI rfl) (sRun (xMvI rfl) (sRun (xEqlD rfl rfl) (sCall (eCall cal181 rfl) (sp_m_fold_truth _ (decide (a1 = a2))) ?_))))))
             rintro _ w19 ⟨rfl, he19⟩
             replace hL := hL.ext he19
             refine sRun (xAsI rfl) (sRun (xAsB rfl) (sNil (wRet ?_)))
             subst hM
             refine res2 (P := Try.prog) (fn := Try.f159) rfl ?_
             exact ⟨rfl, hL.1⟩
            ·try rw [decide_eq_false h18]
             rw [if_neg h18] at hM
             refine wIfF rfl (wSkip (wSeq (wReg (sRun (xMvI rfl) (sRun (xMvI rfl) (sRun (xNeqD rfl rfl) (sCall (eCall cal181 rfl) (sp_m_fold_truth _ (decide (a1 ≠ a2))) ?_)))))))
             rintro _ w20 ⟨rfl, he20⟩
             replace hL := hL.ext he20
             refine sRun (xAsI rfl) (sRun (xAsB rfl) (sNil (wRet ?_)))
             subst hM
             refine res2 (P := Try.prog) (fn := Try.f159) rfl ?_
             exact ⟨rfl, hL.1⟩

def m_fold_neutralRight (a0 : Int) (a1 : Int) : Bool :=
 if ((decide (a0 = (3 : Int))) || ((decide (a0 = (4 : Int))) || ((decide (a0 = (9 : Int))) || (decide (a0 = (10 : Int)))))) = true then
  (decide (a1 = (0 : Int)))
 else
  if ((decide (a0 = (5 : Int))) || (decide (a0 = (6 : Int)))) = true then
   (decide (a1 = (1 : Int)))
  else
   false
set_option maxHeartbeats 12800000 in
theorem sp_m_fold_neutralRight (w0 : World) (a0 : Int) (a1 : Int) : Calls Try.prog 160 #[.int .i64 a0, .int .i64 a1] w0 (Ret fun v w => v = .bool (m_fold_neutralRight a0 a1) ∧ Ext w0 w) := by
  obtain ⟨X, hM⟩ : ∃ X, m_fold_neutralRight a0 a1 = X := ⟨_, rfl⟩
  rw [hM]
  unfold m_fold_neutralRight at hM
  try simp only [er1, er2, er3, er4, er5, er6, er7, er8, er9, er10, er11, er12, er13, er14, er15, er16, er17, List.length_map] at hM
  have hL : Bx w0 w0 [] := Bx.nil
  refine calls_of Try.func160 rfl (Nat.le_of_ble_eq_true rfl) (by kernel_rfl) ?_
  refine wCut [(0, .int .i64 a0), (1, .int .i64 a1)] ⟨rfl, rfl, trivial⟩ fun g => ?_
  refine wSeq (wReg (sRun (xAsB rfl) (sNil (wSeq (wSeq (wReg (sRun (xMvI rfl) (sNil (wBlock (wSeq (wSeq (wReg (sRun (xEqlD rfl rfl) ?_)))))))))))))
  refine sRun (xAsB rfl) (sNil ?_)
  obtain ⟨E1, hE1⟩ : ∃ E, ((decide (a0 = (3 : Int))) || ((decide (a0 = (4 : Int))) || ((decide (a0 = (9 : Int))) || (decide (a0 = (10 : Int)))))) = E := ⟨_, rfl⟩
  refine wJ (fun f w => Has f [(1, .int .i64 a1), (5, .int .i64 a0), (6, .bool E1)] ∧ Bx w0 w []) ?_ ?_
  ·by_cases h2 : a0 = (3 : Int)
   ·try rw [decide_eq_true h2]
    refine wIfT rfl (wSkip ?_)
    exact ⟨⟨rfl, rfl, (congrArg Value.bool (by rw [← hE1]; first | (simp [h2]; done) | (simp only [decide_eq_true h2]; done) | grind)), trivial⟩, hL⟩
   ·try rw [decide_eq_false h2]
    refine wIfF rfl (wSeq (wReg (sRun (xEqlD rfl rfl) (sRun (xAsB rfl) (sNil ?_)))))
    obtain ⟨E3, hE3⟩ : ∃ E, ((decide (a0 = (4 : Int))) || ((decide (a0 = (9 : Int))) || (decide (a0 = (10 : Int))))) = E := ⟨_, rfl⟩
    refine wJ (fun f w => Has f [(1, .int .i64 a1), (5, .int .i64 a0), (6, .bool E3)] ∧ Bx w0 w []) ?_ ?_
    ·by_cases h4 : a0 = (4 : Int)
     ·try rw [decide_eq_true h4]
      refine wIfT rfl (wSkip ?_)
      exact ⟨⟨rfl, rfl, (congrArg Value.bool (by rw [← hE3]; first | (simp [h4]; done) | (simp only [decide_eq_true h4]; done) | grind)), trivial⟩, hL⟩
     ·try rw [decide_eq_false h4]
      refine wIfF rfl (wSeq (wReg (sRun (xEqlD rfl rfl) (sRun (xAsB rfl) (sNil ?_)))))
      obtain ⟨E5, hE5⟩ : ∃ E, ((decide (a0 = (9 : Int))) || (decide (a0 = (10 : Int)))) = E := ⟨_, rfl⟩
      refine wJ (fun f w => Has f [(1, .int .i64 a1), (5, .int .i64 a0), (6, .bool E5)] ∧ Bx w0 w []) ?_ ?_
      ·by_cases h6 : a0 = (9 : Int)
       ·try rw [decide_eq_true h6]
        refine wIfT rfl (wSkip ?_)
        exact ⟨⟨rfl, rfl, (congrArg Value.bool (by rw [← hE5]; first | (simp [h6]; done) | (simp only [decide_eq_true h6]; done) | grind)), trivial⟩, hL⟩
       ·try rw [decide_eq_false h6]
        refine wIfF rfl (wReg (sRun (xEqlD rfl rfl) (sRun (xAsB rfl) (sNil ?_))))
        exact ⟨⟨rfl, rfl, (congrArg Value.bool (by rw [← hE5]; first | (simp [h6]; done) | (simp only [decide_eq_false h6]; done) | grind)), trivial⟩, hL⟩
      ·clear hL
       subst hE5
       rintro f w ⟨hf, hL⟩
       obtain ⟨g, rfl⟩ := has_updL _ _ hf
       clear hf
       exact ⟨⟨rfl, rfl, (congrArg Value.bool (by rw [← hE3]; first | (simp [h4]; done) | (simp only [decide_eq_false h4]; done) | grind)), trivial⟩, hL⟩
    ·clear hL
     subst hE3
     rintro f w ⟨hf, hL⟩
     obtain ⟨g, rfl⟩ := has_updL _ _ hf
     clear hf
     exact ⟨⟨rfl, rfl, (congrArg Value.bool (by rw [← hE1]; first | (simp [h2]; done) | (simp only [decide_eq_false h2]; done) | grind)), trivial⟩, hL⟩
  ·clear hL
   subst hE1
   rintro f w ⟨hf, hL⟩
   obtain ⟨g, rfl⟩ := has_updL _ _ hf
   clear hf
   by_cases h7 : ((decide (a0 = (3 : Int))) || ((decide (a0 = (4 : Int))) || ((decide (a0 = (9 : Int))) || (decide (a0 = (10 : Int)))))) = true
   ·try rw [h7]
    rw [if_pos h7] at hM
    refine wIfT rfl (wSeq (wReg (sRun (xMvI rfl) (sRun (xEqlD rfl rfl) (sRun (xAsB rfl) (sNil (wRet ?_)))))))
    subst hM
    refine res1 (P := Try.prog) (fn := Try.f160) rfl ?_
    exact ⟨rfl, hL.1⟩
   ·have h7n : ((decide (a0 = (3 : Int))) || ((decide (a0 = (4 : Int))) || ((decide (a0 = (9 : Int))) || (decide (a0 = (10 : Int)))))) = false := Bool.eq_false_iff.2 h7
    try rw [h7n]
    rw [if_neg h7] at hM
    have h8 : ¬ (a0 = (3 : Int)) := fun hq => by rw [decide_eq_true hq] at h7; simp at h7
    have h9 : ¬ (a0 = (4 : Int)) := fun hq => by rw [decide_eq_true hq] at h7; simp at h7
    have h10 : ¬ (a0 = (9 : Int)) := fun hq => by rw [decide_eq_true hq] at h7; simp at h7
    have h11 : ¬ (a0 = (10 : Int)) := fun hq => by rw [decide_eq_true hq] at h7; simp at h7
    refine wIfF rfl (wSeq (wSeq (wReg (sRun (xEqlD rfl rfl) (sRun (xAsB rfl) (sNil ?_))))))
    obtain ⟨E12, hE12⟩ : ∃ E, ((decide (a0 = (5 : Int))) || (decide (a0 = (6 : Int)))) = E := ⟨_, rfl⟩
    refine wJ (fun f w => Has f [(1, .int .i64 a1), (13, .bool E12)] ∧ Bx w0 w []) ?_ ?_
    ·by_cases h13 : a0 = (5 : Int)
     ·try rw [decide_eq_true h13]
      refine wIfT rfl (wSkip ?_)
      exact ⟨⟨rfl, (congrArg Value.bool (by rw [← hE12]; first | (simp [h13]; done) | (simp only [decide_eq_true h13]; done) | grind)), trivial⟩, hL⟩
     ·try rw [decide_eq_false h13]
      refine wIfF rfl (wReg (sRun (xEqlD rfl rfl) (sRun (xAsB rfl) (sNil ?_))))
      exact ⟨⟨rfl, (congrArg Value.bool (by rw [← hE12]; first | (simp [h13]; done) | (simp only [decide_eq_false h13]; done) | grind)), trivial⟩, hL⟩
    ·clear hL
     subst hE12
     rintro f w ⟨hf, hL⟩
     obtain ⟨g, rfl⟩ := has_updL _ _ hf
     clear hf
     by_cases h14 : ((decide (a0 = (5 : Int))) || (decide (a0 = (6 : Int)))) = true
     ·try rw [h14]
      rw [if_pos h14] at hM
      refine wIfT rfl (wSeq (wReg (sRun (xMvI rfl) (sRun (xEqlD rfl rfl) (sRun (xAsB rfl) (sNil (wRet ?_)))))))
      subst hM
      refine res1 (P := Try.prog) (fn := Try.f160) rfl ?_
      exact ⟨rfl, hL.1⟩
     ·have h14n : ((decide (a0 = (5 : Int))) || (decide (a0 = (6 : Int)))) = false := Bool.eq_false_iff.2 h14
      try rw [h14n]
      rw [if_neg h14] at hM
      have h15 : ¬ (a0 = (5 : Int)) := fun hq => by rw [decide_eq_true hq] at h14; simp at h14
      have h16 : ¬ (a0 = (6 : Int)) := fun hq => by rw [decide_eq_true hq] at h14; simp at h14
      refine wIfF rfl (wSkip (wSeq (wReg (sRun (xAsB rfl) (sNil (wRet ?_))))))
      subst hM
      refine res1 (P := Try.prog) (fn := Try.f160) rfl ?_
      exact ⟨rfl, hL.1⟩

def m_fold_neutralLeft (a0 : Int) (a1 : Int) : Bool :=
 if ((decide (a0 = (3 : Int))) || ((decide (a0 = (9 : Int))) || (decide (a0 = (10 : Int))))) = true then
  (decide (a1 = (0 : Int)))
 else
  if a0 = (5 : Int) then
   (decide (a1 = (1 : Int)))
  else
   false
set_option maxHeartbeats 12800000 in
theorem sp_m_fold_neutralLeft (w0 : World) (a0 : Int) (a1 : Int) : Calls Try.prog 162 #[.int .i64 a0, .int .i64 a1] w0 (Ret fun v w => v = .bool (m_fold_neutralLeft a0 a1) ∧ Ext w0 w) := by
  obtain ⟨X, hM⟩ : ∃ X, m_fold_neutralLeft a0 a1 = X := ⟨_, rfl⟩
  rw [hM]
  unfold m_fold_neutralLeft at hM
  try simp only [er1, er2, er3, er4, er5, er6, er7, er8, er9, er10, er11, er12, er13, er14, er15, er16, er17, List.length_map] at hM
  have hL : Bx w0 w0 [] := Bx.nil
  refine calls_of Try.func162 rfl (Nat.le_of_ble_eq_true rfl) (by kernel_rfl) ?_
  refine wCut [(0, .int .i64 a0), (1, .int .i64 a1)] ⟨rfl, rfl, trivial⟩ fun g => ?_
  refine wSeq (wReg (sRun (xAsB rfl) (sNil (wSeq (wSeq (wReg (sRun (xMvI rfl) (sNil (wBlock (wSeq (wSeq (wReg (sRun (xEqlD rfl rfl) ?_)))))))))))))
  refine sRun (xAsB rfl) (sNil ?_)
  obtain ⟨E1, hE1⟩ : ∃ E, ((decide (a0 = (3 : Int))) || ((decide (a0 = (9 : Int))) || (decide (a0 = (10 : Int))))) = E := ⟨_, rfl⟩
  refine wJ (fun f w => Has f [(1, .int .i64 a1), (5, .int .i64 a0), (6, .bool E1)] ∧ Bx w0 w []) ?_ ?_
  ·by_cases h2 : a0 = (3 : Int)
   ·try rw [decide_eq_true h2]
    refine wIfT rfl (wSkip ?_)
    exact ⟨⟨rfl, rfl, (congrArg Value.bool (by rw [← hE1]; first | (simp [h2]; done) | (simp only [decide_eq_true h2]; done) | grind)), trivial⟩, hL⟩
   ·try rw [decide_eq_false h2]
    refine wIfF rfl (wSeq (wReg (sRun (xEqlD rfl rfl) (sRun (xAsB rfl) (sNil ?_)))))
    obtain ⟨E3, hE3⟩ : ∃ E, ((decide (a0 = (9 : Int))) || (decide (a0 = (10 : Int)))) = E := ⟨_, rfl⟩
    refine wJ (fun f w => Has f [(1, .int .i64 a1), (5, .int .i64 a0), (6, .bool E3)] ∧ Bx w0 w []) ?_ ?_
    ·by_cases h4 : a0 = (9 : Int)
     ·try rw [decide_eq_true h4]
      refine wIfT rfl (wSkip ?_)
      exact ⟨⟨rfl, rfl, (congrArg Value.bool (by rw [← hE3]; first | (simp [h4]; done) | (simp only [decide_eq_true h4]; done) | grind)), trivial⟩, hL⟩
     ·try rw [decide_eq_false h4]
      refine wIfF rfl (wReg (sRun (xEqlD rfl rfl) (sRun (xAsB rfl) (sNil ?_))))
      exact ⟨⟨rfl, rfl, (congrArg Value.bool (by rw [← hE3]; first | (simp [h4]; done) | (simp only [decide_eq_false h4]; done) | grind)), trivial⟩, hL⟩
    ·clear hL
     subst hE3
     rintro f w ⟨hf, hL⟩
     obtain ⟨g, rfl⟩ := has_updL _ _ hf
     clear hf
     exact ⟨⟨rfl, rfl, (congrArg Value.bool (by rw [← hE1]; first | (simp [h2]; done) | (simp only [decide_eq_false h2]; done) | grind)), trivial⟩, hL⟩
  ·clear hL
   subst hE1
   rintro f w ⟨hf, hL⟩
   obtain ⟨g, rfl⟩ := has_updL _ _ hf
   clear hf
   by_cases h5 : ((decide (a0 = (3 : Int))) || ((decide (a0 = (9 : Int))) || (decide (a0 = (10 : Int))))) = true
   ·try rw [h5]
    rw [if_pos h5] at hM
    refine wIfT rfl (wSeq (wReg (sRun (xMvI rfl) (sRun (xEqlD rfl rfl) (sRun (xAsB rfl) (sNil (wRet ?_)))))))
    subst hM
    refine res1 (P := Try.prog) (fn := Try.f162) rfl ?_
    exact ⟨rfl, hL.1⟩
   ·have h5n : ((decide (a0 = (3 : Int))) || ((decide (a0 = (9 : Int))) || (decide (a0 = (10 : Int))))) = false := Bool.eq_false_iff.2 h5
    try rw [h5n]
    rw [if_neg h5] at hM
    have h6 : ¬ (a0 = (3 : Int)) := fun hq => by rw [decide_eq_true hq] at h5; simp at h5
    have h7 : ¬ (a0 = (9 : Int)) := fun hq => by rw [decide_eq_true hq] at h5; simp at h5
    have h8 : ¬ (a0 = (10 : Int)) := fun hq => by rw [decide_eq_true hq] at h5; simp at h5
    refine wIfF rfl (wSeq (wReg (sRun (xEqlD rfl rfl) (sRun (xAsB rfl) (sNil ?_)))))
    by_cases h9 : a0 = (5 : Int)
    ·try rw [decide_eq_true h9]
     rw [if_pos h9] at hM
     refine wIfT rfl (wSeq (wReg (sRun (xMvI rfl) (sRun (xEqlD rfl rfl) (sRun (xAsB rfl) (sNil (wRet ?_)))))))
     subst hM
     refine res1 (P := Try.prog) (fn := Try.f162) rfl ?_
     exact ⟨rfl, hL.1⟩
    ·try rw [decide_eq_false h9]
     rw [if_neg h9] at hM
     refine wIfF rfl (wSkip (wSeq (wReg (sRun (xAsB rfl) (sNil (wRet ?_))))))
     subst hM
     refine res1 (P := Try.prog) (fn := Try.f162) rfl ?_
     exact ⟨rfl, hL.1⟩

def m_fold_facts_replace (a0_constants : List (Int × Int)) (a0_representatives : List (Int × Int)) (a1 : Int) : Int :=
 if ((mget a0_representatives a1).isSome) = true then
  ((mget a0_representatives a1).getD (0 : Int))
 else
  a1
set_option maxHeartbeats 12800000 in
theorem sp_m_fold_facts_replace (w0 w : World) (L0 : List It) (a0_constantsb : Nat) (a0_constants : List (Int × Int)) (a0_representativesb : Nat) (a0_representatives : List (Int × Int)) (a1T : List Value → It) (a1b a1o : Nat) (a1h : Slot a1T a1b a1o) (a1 : Int) (hL : Bx w0 w (.map ekI evI a0_constantsb a0_constants :: .map ekI evI a0_representativesb a0_representatives :: a1T [.int .i64 a1] :: L0)) : Calls Try.prog 126 #[.agg #[.map (some a0_constantsb), .map (some a0_representativesb)], .pointer (some ⟨a1b, a1o, none⟩)] w (Ret fun v w => v = .tuple #[] ∧ Bx w0 w (.map ekI evI a0_constantsb a0_constants :: .map ekI evI a0_representativesb a0_representatives :: a1T [.int .i64 (m_fold_facts_replace a0_constants a0_representatives a1)] :: L0)) := by
  obtain ⟨X, hM⟩ : ∃ X, m_fold_facts_replace a0_constants a0_representatives a1 = X := ⟨_, rfl⟩
  rw [hM]
  unfold m_fold_facts_replace at hM
  try simp only [er1, er2, er3, er4, er5, er6, er7, er8, er9, er10, er11, er12, er13, er14, er15, er16, er17, List.length_map] at hM
  refine calls_of Try.func126 rfl (Nat.le_of_ble_eq_true rfl) (by kernel_rfl) ?_
  refine wCut [(0, .agg #[.map (some a0_constantsb), .map (some a0_representativesb)]), (1, .pointer (some ⟨a1b, a1o, none⟩))] ⟨rfl, rfl, trivial⟩ fun g => ?_
  refine wSeq (wReg (sTo (aNew (mBox rfl)) ?_))
  rintro _ w1 ⟨b1, rfl, hge1, hB1, he1⟩
  replace hL := hL.new hge1 hB1 he1
  refine sNil (wSeq ?_)
  replace hL := hL.drew
  refine wDraw (fun wS => Bx w0 wS (.box b1 135 #[.map (some a0_constantsb), .map (some a0_representativesb)] :: .map ekI evI a0_constantsb a0_constants :: .map ekI evI a0_representativesb a0_representatives :: a1T [.int .i64 a1] :: L0)) [] (by kernel_rfl) (hTake 0 rfl (by kernel_rfl) rfl (fun wS => (xFld (k := 1) Try.underlying135 rfl rfl ti79 (by decide) rfl)) (sl_of hL) (hTakeS 1 rfl (by kernel_rfl) (by kernel_rfl) rfl (fun wS hS => (xLoad Try.underlying79 rfl rfl ((hS.bk 0 rfl).cell (i := 1) rfl))) (sl_of hL) (hTake 2 rfl (by kernel_rfl) rfl (fun wS => (xMvP rfl)) (sl_of hL) (hTake 3 rfl (by kernel_rfl) rfl (fun wS => (xNilCk rfl)) (sl_of hL) (hTakeS 4 rfl (by kernel_rfl) (by kernel_rfl) rfl (fun wS hS => (xLoad Try.underlying3 rfl rfl ((hS.sget 3 a1h rfl) 0 _ rfl))) (sl_of hL) (hTakeS 5 rfl (by kernel_rfl) (by kernel_rfl) rfl (fun wS hS => (xLook (ek := ekI) (ev := evI) (l := a0_representatives) (k := a1) (z := (0 : Int)) Try.underlying79 (fk_int Try.underlying3) (zv_of ti3) (hS.mp 2 rfl) rfl rfl)) (sl_of hL) (hTake 6 rfl (by kernel_rfl) rfl (fun wS => xMove) (sl_of hL) (hTake 7 rfl (by kernel_rfl) rfl (fun wS => (xExtract rfl rfl)) (sl_of hL) (hTake 8 rfl (by kernel_rfl) rfl (fun wS => (xExtract rfl rfl)) (sl_of hL) (hTake 9 rfl (by kernel_rfl) rfl (fun wS => (xAsI rfl)) (sl_of hL) (hTake 10 rfl (by kernel_rfl) rfl (fun wS => (xAsB rfl)) (sl_of hL) (hDone (by kernel_rfl) (wSeq ?_)))))))))))))
  refine wReg (sRun (xMvB rfl) (sNil ?_))
  by_cases h2 : ((mget a0_representatives a1).isSome) = true
  ·try rw [h2]
   rw [if_pos h2] at hM
   refine wIfT rfl (wReg (sRun (xMvP rfl) (sRun (xMvI rfl) (sRun (xNilCk rfl) (sSl1 3 (T := a1T) (b := a1b) (o := a1o) (k := 0) (cs := [.int .i64 a1]) a1h ti3 rfl rfl rfl rfl hL rfl rfl ?_)))))
   intro w3 hL3
   replace hL : Bx w0 w3 (.box b1 135 #[.map (some a0_constantsb), .map (some a0_representativesb)] :: .map ekI evI a0_constantsb a0_constants :: .map ekI evI a0_representativesb a0_representatives :: a1T [.int .i64 ((mget a0_representatives a1).getD (0 : Int))] :: L0) := hL3
   refine sNil ?_
   subst hM
   refine res0 (P := Try.prog) (fn := Try.f126) rfl ?_
   exact ⟨rfl, hL.tl⟩
  ·have h2n : ((mget a0_representatives a1).isSome) = false := Bool.eq_false_iff.2 h2
   try rw [h2n]
   rw [if_neg h2] at hM
   refine wIfF rfl (wSkip ?_)
   subst hM
   refine res0 (P := Try.prog) (fn := Try.f126) rfl ?_
   exact ⟨rfl, hL.tl⟩

def m_fold_facts_become (a0_constants : List (Int × Int)) (a0_representatives : List (Int × Int)) (a1 : GOp) (a2 : Int) : GOp × List (Int × Int) :=
 ((⟨(1 : Int), a1.Dst, (0 : Int), (0 : Int), a2, (0 : Int), (0 : Int), (0 : Int), (⟨(0 : Int), (0 : Int), (0 : Int)⟩ : GSrc)⟩ : GOp), (mput a0_constants a1.Dst a2))
theorem bd127_12 {ρ : Operand → Value} {w : World} {d : Option Nat} {ty : TypeId} {pos : String} {af : Array Edge} {g : Option (Nat × Bool)} {x0 : Int} {x1 : Int} {x4 : Int} {o0 : Operand} {o1 : Operand} {o4 : Operand} (h0 : ρ o0 = .int .i64 x0) (h1 : ρ o1 = .int .i64 x1) (h4 : ρ o4 = .int .i64 x4) : Yl Try.prog ρ (.build 66 #[(0, o0), (1, o1), (4, o4)]) d ty pos af g w (.agg #[.int .i64 x0, .int .i64 x1, .int .i64 0, .int .i64 0, .int .i64 x4, .int .i64 0, .int .i64 0, .int .i64 0, .int .i64 0, .int .i64 0, .int .i64 0]) := by
  have e : (Instr.build 66 #[(0, .int .i64 x0), (1, .int .i64 x1), (4, .int .i64 x4)]).run Try.prog w = .ok (.agg #[.int .i64 x0, .int .i64 x1, .int .i64 0, .int .i64 0, .int .i64 x4, .int .i64 0, .int .i64 0, .int .i64 0, .int .i64 0, .int .i64 0, .int .i64 0]) w := by kernel_rfl
  simp [Yl, execOp, h0, h1, h4, e]
set_option maxHeartbeats 12800000 in
theorem sp_m_fold_facts_become (w0 w : World) (L0 : List It) (a0_constantsb : Nat) (a0_constants : List (Int × Int)) (a0_representativesb : Nat) (a0_representatives : List (Int × Int)) (a1T : List Value → It) (a1b a1o : Nat) (a1h : Slot a1T a1b a1o) (a1 : GOp) (a2 : Int) (hL : Bx w0 w (.map ekI evI a0_constantsb a0_constants :: .map ekI evI a0_representativesb a0_representatives :: a1T (GOp.cells a1) :: L0)) : Calls Try.prog 127 #[.agg #[.map (some a0_constantsb), .map (some a0_representativesb)], .pointer (some ⟨a1b, a1o, none⟩), .int .i64 a2] w (Ret fun v w => v = .tuple #[] ∧ Bx w0 w (.map ekI evI a0_constantsb ((m_fold_facts_become a0_constants a0_representatives a1 a2).2) :: .map ekI evI a0_representativesb a0_representatives :: a1T [.int .i64 ((m_fold_facts_become a0_constants a0_representatives a1 a2).1.Kind), .int .i64 ((m_fold_facts_become a0_constants a0_representatives a1 a2).1.Dst), .int .i64 ((m_fold_facts_become a0_constants a0_representatives a1 a2).1.A), .int .i64 ((m_fold_facts_become a0_constants a0_representatives a1 a2).1.B), .int .i64 ((m_fold_facts_become a0_constants a0_representatives a1 a2).1.N), .int .i64 ((m_fold_facts_become a0_constants a0_representatives a1 a2).1.Ctx), .int .i64 ((m_fold_facts_become a0_constants a0_representatives a1 a2).1.Var), .int .i64 ((m_fold_facts_become a0_constants a0_representatives a1 a2).1.Piece), .int .i64 ((m_fold_facts_become a0_constants a0_representatives a1 a2).1.Src.Kind), .int .i64 ((m_fold_facts_become a0_constants a0_representatives a1 a2).1.Src.Val), .int .i64 ((m_fold_facts_become a0_constants a0_representatives a1 a2).1.Src.Add)] :: L0)) := by
  obtain ⟨X, hM⟩ : ∃ X, m_fold_facts_become a0_constants a0_representatives a1 a2 = X := ⟨_, rfl⟩
  rw [hM]
  unfold m_fold_facts_become at hM
  try simp only [er1, er2, er3, er4, er5, er6, er7, er8, er9, er10, er11, er12, er13, er14, er15, er16, er17, List.length_map] at hM
  refine calls_of Try.func127 rfl (Nat.le_of_ble_eq_true rfl) (by kernel_rfl) ?_
  refine wCut [(0, .agg #[.map (some a0_constantsb), .map (some a0_representativesb)]), (1, .pointer (some ⟨a1b, a1o, none⟩)), (2, .int .i64 a2)] ⟨rfl, rfl, rfl, trivial⟩ fun g => ?_
  refine wSeq (wReg (sTo (aNew (mBox rfl)) ?_))
  rintro _ w1 ⟨b1, rfl, hge1, hB1, he1⟩
  replace hL := hL.new hge1 hB1 he1
  refine sNil (wSeq (wReg (sRun (xMvP rfl) (sRun (xMvP rfl) (sRun (xNilCk rfl) (sRun (xFld (k := 1) Try.underlying66 rfl rfl ti3 (by decide) rfl) (sRun (xLoad Try.underlying3 rfl rfl ((hL.sget 3 a1h rfl) 1 _ rfl)) (sRun (xMvI rfl) (sRun (bd127_12 rfl rfl rfl) (sRun (xNilCk rfl) (sSlS 3 (T := a1T) (b := a1b) (o := a1o) (k := 0) (cs := (GOp.cells a1)) a1h ti66 rfl rfl rfl rfl (by simp [Value.oneCell', Dat.cells, GOp.cells]) hL rfl rfl ?_)))))))))))
  intro w2 hL2
  replace hL : Bx w0 w2 (.box b1 135 #[.map (some a0_constantsb), .map (some a0_representativesb)] :: .map ekI evI a0_constantsb a0_constants :: .map ekI evI a0_representativesb a0_representatives :: a1T [.int .i64 (1 : Int), .int .i64 a1.Dst, .int .i64 (0 : Int), .int .i64 (0 : Int), .int .i64 a2, .int .i64 (0 : Int), .int .i64 (0 : Int), .int .i64 (0 : Int), .int .i64 (0 : Int), .int .i64 (0 : Int), .int .i64 (0 : Int)] :: L0) := hL2
  refine sNil ?_
  replace hL := hL.drew
  refine wDraw (fun wS => Bx w0 wS (.box b1 135 #[.map (some a0_constantsb), .map (some a0_representativesb)] :: .map ekI evI a0_constantsb a0_constants :: .map ekI evI a0_representativesb a0_representatives :: a1T [.int .i64 (1 : Int), .int .i64 a1.Dst, .int .i64 (0 : Int), .int .i64 (0 : Int), .int .i64 a2, .int .i64 (0 : Int), .int .i64 (0 : Int), .int .i64 (0 : Int), .int .i64 (0 : Int), .int .i64 (0 : Int), .int .i64 (0 : Int)] :: L0)) [7] (by kernel_rfl) (hTake 0 rfl (by kernel_rfl) rfl (fun wS => (xFld0 Try.underlying135 rfl rfl ti79 (by decide) rfl)) (sl_of hL) (hTakeS 1 rfl (by kernel_rfl) (by kernel_rfl) rfl (fun wS hS => (xLoad Try.underlying79 rfl rfl ((hS.bk 0 rfl).cell (i := 0) rfl))) (sl_of hL) (hTake 2 rfl (by kernel_rfl) rfl (fun wS => (xMvP rfl)) (sl_of hL) (hTake 3 rfl (by kernel_rfl) rfl (fun wS => (xNilCk rfl)) (sl_of hL) (hTake 4 rfl (by kernel_rfl) rfl (fun wS => (xFld (k := 1) Try.underlying66 rfl rfl ti3 (by decide) rfl)) (sl_of hL) (hTakeS 5 rfl (by kernel_rfl) (by kernel_rfl) rfl (fun wS hS => (xLoad Try.underlying3 rfl rfl ((hS.sget 3 a1h rfl) 1 _ rfl))) (sl_of hL) (hTake 6 rfl (by kernel_rfl) rfl (fun wS => (xMvI rfl)) (sl_of hL) ?_)))))))
  refine hOne 7 (by kernel_rfl) (oUpd (ek := ekI) (ev' := evI) (l := a0_constants) (k := a1.Dst) (u := a2) rfl rfl Try.underlying79 (fk_int Try.underlying3) (hL.mp 1 rfl) rfl rfl rfl ?_)
  intro w3 hB3 hC3
  replace hL : Bx w0 w3 (.box b1 135 #[.map (some a0_constantsb), .map (some a0_representativesb)] :: .map ekI evI a0_constantsb (mput a0_constants a1.Dst a2) :: .map ekI evI a0_representativesb a0_representatives :: a1T [.int .i64 (1 : Int), .int .i64 a1.Dst, .int .i64 (0 : Int), .int .i64 (0 : Int), .int .i64 a2, .int .i64 (0 : Int), .int .i64 (0 : Int), .int .i64 (0 : Int), .int .i64 (0 : Int), .int .i64 (0 : Int), .int .i64 (0 : Int)] :: L0) := hL.upd 1 rfl hC3 hB3
  refine ⟨(sl_late 7 rfl), ?_⟩
  refine hDone (by kernel_rfl) ?_
  subst hM
  refine res0 (P := Try.prog) (fn := Try.f127) rfl ?_
  exact ⟨rfl, hL.tl⟩

def m_fold_facts_copyOf (a0_constants : List (Int × Int)) (a0_representatives : List (Int × Int)) (a1 : GOp) (a2 : Int) : GOp × List (Int × Int) :=
 ((⟨(2 : Int), a1.Dst, a2, (0 : Int), (0 : Int), (0 : Int), (0 : Int), (0 : Int), (⟨(0 : Int), (0 : Int), (0 : Int)⟩ : GSrc)⟩ : GOp), (mput a0_representatives a1.Dst a2))
theorem bd161_12 {ρ : Operand → Value} {w : World} {d : Option Nat} {ty : TypeId} {pos : String} {af : Array Edge} {g : Option (Nat × Bool)} {x0 : Int} {x1 : Int} {x2 : Int} {o0 : Operand} {o1 : Operand} {o2 : Operand} (h0 : ρ o0 = .int .i64 x0) (h1 : ρ o1 = .int .i64 x1) (h2 : ρ o2 = .int .i64 x2) : Yl Try.prog ρ (.build 66 #[(0, o0), (1, o1), (2, o2)]) d ty pos af g w (.agg #[.int .i64 x0, .int .i64 x1, .int .i64 x2, .int .i64 0, .int .i64 0, .int .i64 0, .int .i64 0, .int .i64 0, .int .i64 0, .int .i64 0, .int .i64 0]) := by
  have e : (Instr.build 66 #[(0, .int .i64 x0), (1, .int .i64 x1), (2, .int .i64 x2)]).run Try.prog w = .ok (.agg #[.int .i64 x0, .int .i64 x1, .int .i64 x2, .int .i64 0, .int .i64 0, .int .i64 0, .int .i64 0, .int .i64 0, .int .i64 0, .int .i64 0, .int .i64 0]) w := by kernel_rfl
  simp [Yl, execOp, h0, h1, h2, e]
set_option maxHeartbeats 12800000 in
theorem sp_m_fold_facts_copyOf (w0 w : World) (L0 : List It) (a0_constantsb : Nat) (a0_constants : List (Int × Int)) (a0_representativesb : Nat) (a0_representatives : List (Int × Int)) (a1T : List Value → It) (a1b a1o : Nat) (a1h : Slot a1T a1b a1o) (a1 : GOp) (a2 : Int) (hL : Bx w0 w (.map ekI evI a0_constantsb a0_constants :: .map ekI evI a0_representativesb a0_representatives :: a1T (GOp.cells a1) :: L0)) : Calls Try.prog 161 #[.agg #[.map (some a0_constantsb), .map (some a0_representativesb)], .pointer (some ⟨a1b, a1o, none⟩), .int .i64 a2] w (Ret fun v w => v = .tuple #[] ∧ Bx w0 w (.map ekI evI a0_constantsb a0_constants :: .map ekI evI a0_representativesb ((m_fold_facts_copyOf a0_constants a0_representatives a1 a2).2) :: a1T [.int .i64 ((m_fold_facts_copyOf a0_constants a0_representatives a1 a2).1.Kind), .int .i64 ((m_fold_facts_copyOf a0_constants a0_representatives a1 a2).1.Dst), .int .i64 ((m_fold_facts_copyOf a0_constants a0_representatives a1 a2).1.A), .int .i64 ((m_fold_facts_copyOf a0_constants a0_representatives a1 a2).1.B), .int .i64 ((m_fold_facts_copyOf a0_constants a0_representatives a1 a2).1.N), .int .i64 ((m_fold_facts_copyOf a0_constants a0_representatives a1 a2).1.Ctx), .int .i64 ((m_fold_facts_copyOf a0_constants a0_representatives a1 a2).1.Var), .int .i64 ((m_fold_facts_copyOf a0_constants a0_representatives a1 a2).1.Piece), .int .i64 ((m_fold_facts_copyOf a0_constants a0_representatives a1 a2).1.Src.Kind), .int .i64 ((m_fold_facts_copyOf a0_constants a0_representatives a1 a2).1.Src.Val), .int .i64 ((m_fold_facts_copyOf a0_constants a0_representatives a1 a2).1.Src.Add)] :: L0)) := by
  obtain ⟨X, hM⟩ : ∃ X, m_fold_facts_copyOf a0_constants a0_representatives a1 a2 = X := ⟨_, rfl⟩
  rw [hM]
  unfold m_fold_facts_copyOf at hM
  try simp only [er1, er2, er3, er4, er5, er6, er7, er8, er9, er10, er11, er12, er13, er14, er15, er16, er17, List.length_map] at hM
  refine calls_of Try.func161 rfl (Nat.le_of_ble_eq_true rfl) (by kernel_rfl) ?_
  refine wCut [(0, .agg #[.map (some a0_constantsb), .map (some a0_representativesb)]), (1, .pointer (some ⟨a1b, a1o, none⟩)), (2, .int .i64 a2)] ⟨rfl, rfl, rfl, trivial⟩ fun g => ?_
  refine wSeq (wReg (sTo (aNew (mBox rfl)) ?_))
  rintro _ w1 ⟨b1, rfl, hge1, hB1, he1⟩
  replace hL := hL.new hge1 hB1 he1
  refine sNil (wSeq (wReg (sRun (xMvP rfl) (sRun (xMvP rfl) (sRun (xNilCk rfl) (sRun (xFld (k := 1) Try.underlying66 rfl rfl ti3 (by decide) rfl) (sRun (xLoad Try.underlying3 rfl rfl ((hL.sget 3 a1h rfl) 1 _ rfl)) (sRun (xMvI rfl) (sRun (bd161_12 rfl rfl rfl) (sRun (xNilCk rfl) (sSlS 3 (T := a1T) (b := a1b) (o := a1o) (k := 0) (cs := (GOp.cells a1)) a1h ti66 rfl rfl rfl rfl (by simp [Value.oneCell', Dat.cells, GOp.cells]) hL rfl rfl ?_)))))))))))
  intro w2 hL2
  replace hL : Bx w0 w2 (.box b1 135 #[.map (some a0_constantsb), .map (some a0_representativesb)] :: .map ekI evI a0_constantsb a0_constants :: .map ekI evI a0_representativesb a0_representatives :: a1T [.int .i64 (2 : Int), .int .i64 a1.Dst, .int .i64 a2, .int .i64 (0 : Int), .int .i64 (0 : Int), .int .i64 (0 : Int), .int .i64 (0 : Int), .int .i64 (0 : Int), .int .i64 (0 : Int), .int .i64 (0 : Int), .int .i64 (0 : Int)] :: L0) := hL2
  refine sNil ?_
  replace hL := hL.drew
  refine wDraw (fun wS => Bx w0 wS (.box b1 135 #[.map (some a0_constantsb), .map (some a0_representativesb)] :: .map ekI evI a0_constantsb a0_constants :: .map ekI evI a0_representativesb a0_representatives :: a1T [.int .i64 (2 : Int), .int .i64 a1.Dst, .int .i64 a2, .int .i64 (0 : Int), .int .i64 (0 : Int), .int .i64 (0 : Int), .int .i64 (0 : Int), .int .i64 (0 : Int), .int .i64 (0 : Int), .int .i64 (0 : Int), .int .i64 (0 : Int)] :: L0)) [7] (by kernel_rfl) (hTake 0 rfl (by kernel_rfl) rfl (fun wS => (xFld (k := 1) Try.underlying135 rfl rfl ti79 (by decide) rfl)) (sl_of hL) (hTakeS 1 rfl (by kernel_rfl) (by kernel_rfl) rfl (fun wS hS => (xLoad Try.underlying79 rfl rfl ((hS.bk 0 rfl).cell (i := 1) rfl))) (sl_of hL) (hTake 2 rfl (by kernel_rfl) rfl (fun wS => (xMvP rfl)) (sl_of hL) (hTake 3 rfl (by kernel_rfl) rfl (fun wS => (xNilCk rfl)) (sl_of hL) (hTake 4 rfl (by kernel_rfl) rfl (fun wS => (xFld (k := 1) Try.underlying66 rfl rfl ti3 (by decide) rfl)) (sl_of hL) (hTakeS 5 rfl (by kernel_rfl) (by kernel_rfl) rfl (fun wS hS => (xLoad Try.underlying3 rfl rfl ((hS.sget 3 a1h rfl) 1 _ rfl))) (sl_of hL) (hTake 6 rfl (by kernel_rfl) rfl (fun wS => (xMvI rfl)) (sl_of hL) ?_)))))))
  refine hOne 7 (by kernel_rfl) (oUpd (ek := ekI) (ev' := evI) (l := a0_representatives) (k := a1.Dst) (u := a2) rfl rfl Try.underlying79 (fk_int Try.underlying3) (hL.mp 2 rfl) rfl rfl rfl ?_)
  intro w3 hB3 hC3
  replace hL : Bx w0 w3 (.box b1 135 #[.map (some a0_constantsb), .map (some a0_representativesb)] :: .map ekI evI a0_constantsb a0_constants :: .map ekI evI a0_representativesb (mput a0_representatives a1.Dst a2) :: a1T [.int .i64 (2 : Int), .int .i64 a1.Dst, .int .i64 a2, .int .i64 (0 : Int), .int .i64 (0 : Int), .int .i64 (0 : Int), .int .i64 (0 : Int), .int .i64 (0 : Int), .int .i64 (0 : Int), .int .i64 (0 : Int), .int .i64 (0 : Int)] :: L0) := hL.upd 2 rfl hC3 hB3
  refine ⟨(sl_late 7 rfl), ?_⟩
  refine hDone (by kernel_rfl) ?_
  subst hM
  refine res0 (P := Try.prog) (fn := Try.f161) rfl ?_
  exact ⟨rfl, hL.tl⟩

def m_fold_facts_combine (a0_constants : List (Int × Int)) (a0_representatives : List (Int × Int)) (a1 : GOp) : GOp × List (Int × Int) × List (Int × Int) :=
 if ((mget a0_constants a1.A).isSome) = true then
  if ((mget a0_constants a1.B).isSome) = true then
   if ((m_fold_binary a1.Kind ((mget a0_constants a1.A).getD (0 : Int)) ((mget a0_constants a1.B).getD (0 : Int))).2) = true then
    lt (m_fold_facts_become a0_constants a0_representatives a1 ((m_fold_binary a1.Kind ((mget a0_constants a1.A).getD (0 : Int)) ((mget a0_constants a1.B).getD (0 : Int))).1)) fun y6 =>
     (y6.1, y6.2, a0_representatives)
   else
    (a1, a0_constants, a0_representatives)
  else
   if (m_fold_neutralLeft a1.Kind ((mget a0_constants a1.A).getD (0 : Int))) = true then
    lt (m_fold_facts_copyOf a0_constants a0_representatives a1 a1.B) fun y9 =>
     (y9.1, a0_constants, y9.2)
   else
    if a1.Kind = (5 : Int) then
     if ((mget a0_constants a1.A).getD (0 : Int)) = (0 : Int) then
      lt (m_fold_facts_become a0_constants a0_representatives a1 (0 : Int)) fun y13 =>
       (y13.1, y13.2, a0_representatives)
     else
      (a1, a0_constants, a0_representatives)
    else
     if a1.Kind = (8 : Int) then
      if ((mget a0_constants a1.A).getD (0 : Int)) = (0 : Int) then
       lt (m_fold_facts_become a0_constants a0_representatives a1 (0 : Int)) fun y17 =>
        (y17.1, y17.2, a0_representatives)
      else
       (a1, a0_constants, a0_representatives)
     else
      (a1, a0_constants, a0_representatives)
 else
  if ((mget a0_constants a1.B).isSome) = true then
   if (m_fold_neutralRight a1.Kind ((mget a0_constants a1.B).getD (0 : Int))) = true then
    lt (m_fold_facts_copyOf a0_constants a0_representatives a1 a1.A) fun y21 =>
     (y21.1, a0_constants, y21.2)
   else
    if a1.Kind = (5 : Int) then
     if ((mget a0_constants a1.B).getD (0 : Int)) = (0 : Int) then
      lt (m_fold_facts_become a0_constants a0_representatives a1 (0 : Int)) fun y24 =>
       (y24.1, y24.2, a0_representatives)
     else
      (a1, a0_constants, a0_representatives)
    else
     if a1.Kind = (8 : Int) then
      if ((mget a0_constants a1.B).getD (0 : Int)) = (0 : Int) then
       lt (m_fold_facts_become a0_constants a0_representatives a1 (0 : Int)) fun y27 =>
        (y27.1, y27.2, a0_representatives)
      else
       (a1, a0_constants, a0_representatives)
     else
      (a1, a0_constants, a0_representatives)
  else
   if a1.Kind = (5 : Int) then
    (a1, a0_constants, a0_representatives)
   else
    (a1, a0_constants, a0_representatives)
set_option maxHeartbeats 12800000 in
theorem sp_m_fold_facts_combine (w0 w : World) (L0 : List It) (a0_constantsb : Nat) (a0_constants : List (Int × Int)) (a0_representativesb : Nat) (a0_representatives : List (Int × Int)) (a1T : List Value → It) (a1b a1o : Nat) (a1h : Slot a1T a1b a1o) (a1 : GOp) (hL : Bx w0 w (.map ekI evI a0_constantsb a0_constants :: .map ekI evI a0_representativesb a0_representatives :: a1T (GOp.cells a1) :: L0)) : Calls Try.prog 128 #[.agg #[.map (some a0_constantsb), .map (some a0_representativesb)], .pointer (some ⟨a1b, a1o, none⟩)] w (Ret fun v w => v = .tuple #[] ∧ Bx w0 w (.map ekI evI a0_constantsb ((m_fold_facts_combine a0_constants a0_representatives a1).2.1) :: .map ekI evI a0_representativesb ((m_fold_facts_combine a0_constants a0_representatives a1).2.2) :: a1T [.int .i64 ((m_fold_facts_combine a0_constants a0_representatives a1).1.Kind), .int .i64 ((m_fold_facts_combine a0_constants a0_representatives a1).1.Dst), .int .i64 ((m_fold_facts_combine a0_constants a0_representatives a1).1.A), .int .i64 ((m_fold_facts_combine a0_constants a0_representatives a1).1.B), .int .i64 ((m_fold_facts_combine a0_constants a0_representatives a1).1.N), .int .i64 ((m_fold_facts_combine a0_constants a0_representatives a1).1.Ctx), .int .i64 ((m_fold_facts_combine a0_constants a0_representatives a1).1.Var), .int .i64 ((m_fold_facts_combine a0_constants a0_representatives a1).1.Piece), .int .i64 ((m_fold_facts_combine a0_constants a0_representatives a1).1.Src.Kind), .int .i64 ((m_fold_facts_combine a0_constants a0_representatives a1).1.Src.Val), .int .i64 ((m_fold_facts_combine a0_constants a0_representatives a1).1.Src.Add)] :: L0)) := by
  obtain ⟨X, hM⟩ : ∃ X, m_fold_facts_combine a0_constants a0_representatives a1 = X := ⟨_, rfl⟩
  rw [hM]
  unfold m_fold_facts_combine at hM
  try simp only [er1, er2, er3, er4, er5, er6, er7, er8, er9, er10, er11, er12, er13, er14, er15, er16, er17, List.length_map] at hM
  refine calls_of Try.func128 rfl (Nat.le_of_ble_eq_true rfl) (by kernel_rfl) ?_
  refine wCut [(0, .agg #[.map (some a0_constantsb), .map (some a0_representativesb)]), (1, .pointer (some ⟨a1b, a1o, none⟩))] ⟨rfl, rfl, trivial⟩ fun g => ?_
  refine wSeq (wReg (sTo (aNew (mBox rfl)) ?_))
  rintro _ w1 ⟨b1, rfl, hge1, hB1, he1⟩
  replace hL := hL.new hge1 hB1 he1
  refine sNil (wSeq ?_)
  replace hL := hL.drew
  refine wDraw (fun wS => Bx w0 wS (.box b1 135 #[.map (some a0_constantsb), .map (some a0_representativesb)] :: .map ekI evI a0_constantsb a0_constants :: .map ekI evI a0_representativesb a0_representatives :: a1T (GOp.cells a1) :: L0)) [] (by kernel_rfl) (hTake 0 rfl (by kernel_rfl) rfl (fun wS => (xFld0 Try.underlying135 rfl rfl ti79 (by decide) rfl)) (sl_of hL) (hTakeS 1 rfl (by kernel_rfl) (by kernel_rfl) rfl (fun wS hS => (xLoad Try.underlying79 rfl rfl ((hS.bk 0 rfl).cell (i := 0) rfl))) (sl_of hL) (hTake 2 rfl (by kernel_rfl) rfl (fun wS => (xMvP rfl)) (sl_of hL) (hTake 3 rfl (by kernel_rfl) rfl (fun wS => (xNilCk rfl)) (sl_of hL) (hTake 4 rfl (by kernel_rfl) rfl (fun wS => (xFld (k := 2) Try.underlying66 rfl rfl ti3 (by decide) rfl)) (sl_of hL) (hTakeS 5 rfl (by kernel_rfl) (by kernel_rfl) rfl (fun wS hS => (xLoad Try.underlying3 rfl rfl ((hS.sget 3 a1h rfl) 2 _ rfl))) (sl_of hL) (hTakeS 6 rfl (by kernel_rfl) (by kernel_rfl) rfl (fun wS hS => (xLook (ek := ekI) (ev := evI) (l := a0_constants) (k := a1.A) (z := (0 : Int)) Try.underlying79 (fk_int Try.underlying3) (zv_of ti3) (hS.mp 1 rfl) rfl rfl)) (sl_of hL) (hTake 7 rfl (by kernel_rfl) rfl (fun wS => xMove) (sl_of hL) (hTake 8 rfl (by kernel_rfl) rfl (fun wS => (xExtract rfl rfl)) (sl_of hL) (hTake 9 rfl (by kernel_rfl) rfl (fun wS => (xExtract rfl rfl)) (sl_of hL) (hTake 10 rfl (by kernel_rfl) rfl (fun wS => (xAsI rfl)) (sl_of hL) (hTake 11 rfl (by kernel_rfl) rfl (fun wS => (xAsB rfl)) (sl_of hL) (hDone (by kernel_rfl) ?_)))))))))))))
  refine wSeq ?_
  replace hL := hL.drew
  refine wDraw (fun wS => Bx w0 wS (.box b1 135 #[.map (some a0_constantsb), .map (some a0_representativesb)] :: .map ekI evI a0_constantsb a0_constants :: .map ekI evI a0_representativesb a0_representatives :: a1T (GOp.cells a1) :: L0)) [] (by kernel_rfl) (hTake 0 rfl (by kernel_rfl) rfl (fun wS => (xFld0 Try.underlying135 rfl rfl ti79 (by decide) rfl)) (sl_of hL) (hTakeS 1 rfl (by kernel_rfl) (by kernel_rfl) rfl (fun wS hS => (xLoad Try.underlying79 rfl rfl ((hS.bk 0 rfl).cell (i := 0) rfl))) (sl_of hL) (hTake 2 rfl (by kernel_rfl) rfl (fun wS => (xMvP rfl)) (sl_of hL) (hTake 3 rfl (by kernel_rfl) rfl (fun wS => (xNilCk rfl)) (sl_of hL) (hTake 4 rfl (by kernel_rfl) rfl (fun wS => (xFld (k := 3) Try.underlying66 rfl rfl ti3 (by decide) rfl)) (sl_of hL) (hTakeS 5 rfl (by kernel_rfl) (by kernel_rfl) rfl (fun wS hS => (xLoad Try.underlying3 rfl rfl ((hS.sget 3 a1h rfl) 3 _ rfl))) (sl_of hL) (hTakeS 6 rfl (by kernel_rfl) (by kernel_rfl) rfl (fun wS hS => (xLook (ek := ekI) (ev := evI) (l := a0_constants) (k := a1.B) (z := (0 : Int)) Try.underlying79 (fk_int Try.underlying3) (zv_of ti3) (hS.mp 1 rfl) rfl rfl)) (sl_of hL) (hTake 7 rfl (by kernel_rfl) rfl (fun wS => xMove) (sl_of hL) (hTake 8 rfl (by kernel_rfl) rfl (fun wS => (xExtract rfl rfl)) (sl_of hL) (hTake 9 rfl (by kernel_rfl) rfl (fun wS => (xExtract rfl rfl)) (sl_of hL) (hTake 10 rfl (by kernel_rfl) rfl (fun wS => (xAsI rfl)) (sl_of hL) (hTake 11 rfl (by kernel_rfl) rfl (fun wS => (xAsB rfl)) (sl_of hL) (hDone (by kernel_rfl) ?_)))))))))))))
  refine wBlock (wSeq (wReg (sRun (xMvB rfl) (sRun (xMvB rfl) ?_))))
  by_cases h2 : ((mget a0_constants a1.A).isSome) = true
  ·try rw [h2]
   rw [if_pos h2] at hM
   refine sGo rfl (sRun (xMvB rfl) (sRun (xPkTB rfl rfl) (sRun (xAsB rfl) (sNil ?_))))
   by_cases h3 : ((mget a0_constants a1.B).isSome) = true
   ·try rw [h3]
    rw [if_pos h3] at hM
    refine wIfT rfl (wSeq (wReg (sRun (xMvP rfl) (sRun (xNilCk rfl) (sRun (xFld0 Try.underlying66 rfl rfl ti3 (by decide) rfl) (sRun (xLoad Try.underlying3 rfl rfl ((hL.sget 3 a1h rfl) 0 _ rfl)) (sRun (xMvI rfl) (sRun (xMvI rfl) (sCall (eCall cal159 rfl) (sp_m_fold_binary _ a1.Kind ((mget a0_constants a1.A).getD (0 : Int)) ((mget a0_constants a1.B).getD (0 : Int))) ?_)))))))))
    rintro _ w4 ⟨rfl, he4⟩
    replace hL := hL.ext he4
    refine sRun xMove (sRun (xExtract rfl rfl) (sRun (xExtract rfl rfl) (sRun (xAsI rfl) (sRun (xAsB rfl) (sNil (wSeq (wReg (sRun (xMvB rfl) (sNil ?_)))))))))
    by_cases h5 : ((m_fold_binary a1.Kind ((mget a0_constants a1.A).getD (0 : Int)) ((mget a0_constants a1.B).getD (0 : Int))).2) = true
    ·try rw [h5]
     rw [if_pos h5] at hM
     refine wIfT rfl (wReg (sRun (xLoadS [.map (some a0_constantsb), .map (some a0_representativesb)] Try.underlying135 rfl ti135 rfl rfl ((hL.bk 0 rfl).part rfl)) (sRun (xMvP rfl) (sRun (xMvI rfl) ?_))))
     replace hL : Bx w0 _ (.map ekI evI a0_constantsb a0_constants :: .map ekI evI a0_representativesb a0_representatives :: a1T (GOp.cells a1) :: .box b1 135 #[.map (some a0_constantsb), .map (some a0_representativesb)] :: L0) := (((hL.front 3 rfl).front 3 rfl).front 3 rfl)
     refine sCall (eCall cal127 rfl) (sp_m_fold_facts_become w0 _ (.box b1 135 #[.map (some a0_constantsb), .map (some a0_representativesb)] :: L0) a0_constantsb a0_constants a0_representativesb a0_representatives a1T a1b a1o a1h a1 ((m_fold_binary a1.Kind ((mget a0_constants a1.A).getD (0 : Int)) ((mget a0_constants a1.B).getD (0 : Int))).1) hL) ?_
     rintro _ w6 ⟨rfl, hL6⟩
     obtain ⟨y6, hy6⟩ : ∃ y, (m_fold_facts_become a0_constants a0_representatives a1 ((m_fold_binary a1.Kind ((mget a0_constants a1.A).getD (0 : Int)) ((mget a0_constants a1.B).getD (0 : Int))).1)) = y := ⟨_, rfl⟩
     rw [hy6] at hL6
     rw [hy6, lt_eq] at hM
     try dsimp only at hM
     replace hL : Bx w0 w6 (.map ekI evI a0_constantsb y6.2 :: .map ekI evI a0_representativesb a0_representatives :: a1T (GOp.cells y6.1) :: .box b1 135 #[.map (some a0_constantsb), .map (some a0_representativesb)] :: L0) := hL6
     refine sNil ?_
     subst hM
     refine res0 (P := Try.prog) (fn := Try.f128) rfl ?_
     exact ⟨rfl, ((((hL.front 2 rfl).front 2 rfl).front 2 rfl).front 3 rfl).tl⟩
    ·have h5n : ((m_fold_binary a1.Kind ((mget a0_constants a1.A).getD (0 : Int)) ((mget a0_constants a1.B).getD (0 : Int))).2) = false := Bool.eq_false_iff.2 h5
     try rw [h5n]
     rw [if_neg h5] at hM
     refine wIfF rfl (wSkip ?_)
     subst hM
     refine res0 (P := Try.prog) (fn := Try.f128) rfl ?_
     exact ⟨rfl, hL.tl⟩
   ·have h3n : ((mget a0_constants a1.B).isSome) = false := Bool.eq_false_iff.2 h3
    try rw [h3n]
    rw [if_neg h3] at hM
    refine wIfF rfl (wSeq (wReg (sRun (xMvB rfl) ?_)))
    try rw [h3n]
    refine sRun (xMvB rfl) ?_
    try rw [h3n]
    refine sNo rfl (sNo rfl (sNo rfl (sNo rfl (sNo rfl (sNo rfl (sRun (xPkFB rfl rfl) (sRun (xAsB rfl) (sNil (wIfF rfl (wSeq (wReg (sRun (xMvB rfl) ?_))))))))))))
    try rw [h2]
    refine sRun (xMvB rfl) ?_
    try rw [h2]
    refine sGo rfl (sRun (xMvP rfl) (sGo rfl (sRun (xNilCk rfl) (sGo rfl (sRun (xFld0 Try.underlying66 rfl rfl ti3 (by decide) rfl) (sGo rfl (sRun (xLoad Try.underlying3 rfl rfl ((hL.sget 3 a1h rfl) 0 _ rfl)) (sGo rfl (sRun (xMvI rfl) (sGo rfl (sCall (eCall cal162 rfl) (sp_m_fold_neutralLeft _ a1.Kind ((mget a0_constants a1.A).getD (0 : Int))) ?_)))))))))))
    rintro _ w7 ⟨rfl, he7⟩
    replace hL := hL.ext he7
    refine sRun (xPkTB rfl rfl) (sRun (xAsB rfl) (sNil ?_))
    by_cases h8 : (m_fold_neutralLeft a1.Kind ((mget a0_constants a1.A).getD (0 : Int))) = true
    ·try rw [h8]
     rw [if_pos h8] at hM
     refine wIfT rfl ?_
     replace hL := hL.drew
     refine wDraw (fun wS => Bx w0 wS (.box b1 135 #[.map (some a0_constantsb), .map (some a0_representativesb)] :: .map ekI evI a0_constantsb a0_constants :: .map ekI evI a0_representativesb a0_representatives :: a1T (GOp.cells a1) :: L0)) [6] (by kernel_rfl) (hTakeS 0 rfl (by kernel_rfl) (by kernel_rfl) rfl (fun wS hS => (xLoadS [.map (some a0_constantsb), .map (some a0_representativesb)] Try.underlying135 rfl ti135 rfl rfl ((hS.bk 0 rfl).part rfl))) (sl_of hL) (hTake 1 rfl (by kernel_rfl) rfl (fun wS => (xMvP rfl)) (sl_of hL) (hTake 2 rfl (by kernel_rfl) rfl (fun wS => (xMvP rfl)) (sl_of hL) (hTake 3 rfl (by kernel_rfl) rfl (fun wS => (xNilCk rfl)) (sl_of hL) (hTake 4 rfl (by kernel_rfl) rfl (fun wS => (xFld (k := 3) Try.underlying66 rfl rfl ti3 (by decide) rfl)) (sl_of hL) (hTakeS 5 rfl (by kernel_rfl) (by kernel_rfl) rfl (fun wS hS => (xLoad Try.underlying3 rfl rfl ((hS.sget 3 a1h rfl) 3 _ rfl))) (sl_of hL) ?_))))))
     replace hL : Bx w0 _ (.map ekI evI a0_constantsb a0_constants :: .map ekI evI a0_representativesb a0_representatives :: a1T (GOp.cells a1) :: .box b1 135 #[.map (some a0_constantsb), .map (some a0_representativesb)] :: L0) := (((hL.front 3 rfl).front 3 rfl).front 3 rfl)
     refine hOne 6 (by kernel_rfl) (oCall rfl rfl (eCall cal161 rfl) (sp_m_fold_facts_copyOf w0 _ (.box b1 135 #[.map (some a0_constantsb), .map (some a0_representativesb)] :: L0) a0_constantsb a0_constants a0_representativesb a0_representatives a1T a1b a1o a1h a1 a1.B hL) ?_)
     rintro _ w9 ⟨rfl, hL9⟩
     obtain ⟨y9, hy9⟩ : ∃ y, (m_fold_facts_copyOf a0_constants a0_representatives a1 a1.B) = y := ⟨_, rfl⟩
     rw [hy9] at hL9
     rw [hy9, lt_eq] at hM
     try dsimp only at hM
     replace hL : Bx w0 w9 (.map ekI evI a0_constantsb a0_constants :: .map ekI evI a0_representativesb y9.2 :: a1T (GOp.cells y9.1) :: .box b1 135 #[.map (some a0_constantsb), .map (some a0_representativesb)] :: L0) := hL9
     refine ⟨(sl_late 6 rfl), ?_⟩
     refine hDone (by kernel_rfl) ?_
     subst hM
     refine res0 (P := Try.prog) (fn := Try.f128) rfl ?_
     exact ⟨rfl, ((((hL.front 2 rfl).front 2 rfl).front 2 rfl).front 3 rfl).tl⟩
    ·have h8n : (m_fold_neutralLeft a1.Kind ((mget a0_constants a1.A).getD (0 : Int))) = false := Bool.eq_false_iff.2 h8
     try rw [h8n]
     rw [if_neg h8] at hM
     refine wIfF rfl (wSeq (wReg (sRun (xMvP rfl) (sRun (xNilCk rfl) (sRun (xFld0 Try.underlying66 rfl rfl ti3 (by decide) rfl) (sRun (xLoad Try.underlying3 rfl rfl ((hL.sget 3 a1h rfl) 0 _ rfl)) (sRun (xEqlD rfl rfl) (sRun (xMvB rfl) ?_))))))))
     by_cases h10 : a1.Kind = (5 : Int)
     ·try rw [decide_eq_true h10]
      rw [if_pos h10] at hM
      refine sNo rfl (sNo rfl (sNo rfl (sNo rfl (sNo rfl (sRun (xPkTB rfl rfl) (sRun (xAsB rfl) (sNil (wIfT rfl (wSeq (wJ (fun f w => Has f [(1, .pointer (some ⟨a1b, a1o, none⟩)), (2, .pointer (some ⟨b1, 0, none⟩)), (108, .bool (decide (((mget a0_constants a1.A).getD (0 : Int)) = (0 : Int))))] ∧ Bx w0 w (.box b1 135 #[.map (some a0_constantsb), .map (some a0_representativesb)] :: .map ekI evI a0_constantsb a0_constants :: .map ekI evI a0_representativesb a0_representatives :: a1T (GOp.cells a1) :: L0)) ?_ ?_))))))))))
      ·refine wReg (sRun (xMvB rfl) ?_)
       try rw [h2]
       refine sRun (xMvB rfl) ?_
       try rw [h2]
       refine sGo rfl (sRun (xMvI rfl) (sGo rfl (sRun (xEqlD rfl rfl) (sRun (xPkTB rfl rfl) (sRun (xMvB rfl) ?_)))))
       by_cases h11 : ((mget a0_constants a1.A).getD (0 : Int)) = (0 : Int)
       ·try rw [decide_eq_true h11]
        refine sNo rfl (sNo rfl (sNo rfl (sNo rfl (sNo rfl (sRun (xPkTB rfl rfl) (sNil ?_))))))
        exact ⟨⟨rfl, rfl, (by first | rfl | exact (congrArg Value.bool (show true = (decide (((mget a0_constants a1.A).getD (0 : Int)) = (0 : Int))) by simp [h11]))), trivial⟩, hL⟩
       ·try rw [decide_eq_false h11]
        refine sGo rfl (sRun (xMvB rfl) ?_)
        try rw [h3n]
        refine sGo rfl (sRun (xMvB rfl) ?_)
        try rw [h3n]
        refine sNo rfl (sNo rfl (sGo rfl (sRun (xPkFB rfl rfl) (sRun (xPkFB rfl rfl) (sNil ?_)))))
        exact ⟨⟨rfl, rfl, (by first | rfl | exact (congrArg Value.bool (show false = (decide (((mget a0_constants a1.A).getD (0 : Int)) = (0 : Int))) by simp [h11]))), trivial⟩, hL⟩
      ·clear hL
       rintro f w ⟨hf, hL⟩
       obtain ⟨g, rfl⟩ := has_updL _ _ hf
       clear hf
       by_cases h12 : ((mget a0_constants a1.A).getD (0 : Int)) = (0 : Int)
       ·try rw [decide_eq_true h12]
        rw [if_pos h12] at hM
        refine wIfT rfl (wReg (sRun (xLoadS [.map (some a0_constantsb), .map (some a0_representativesb)] Try.underlying135 rfl ti135 rfl rfl ((hL.bk 0 rfl).part rfl)) (sRun (xMvP rfl) ?_)))
        replace hL : Bx w0 _ (.map ekI evI a0_constantsb a0_constants :: .map ekI evI a0_representativesb a0_representatives :: a1T (GOp.cells a1) :: .box b1 135 #[.map (some a0_constantsb), .map (some a0_representativesb)] :: L0) := (((hL.front 3 rfl).front 3 rfl).front 3 rfl)
        refine sCall (eCall cal127 rfl) (sp_m_fold_facts_become w0 _ (.box b1 135 #[.map (some a0_constantsb), .map (some a0_representativesb)] :: L0) a0_constantsb a0_constants a0_representativesb a0_representatives a1T a1b a1o a1h a1 (0 : Int) hL) ?_
        rintro _ w13 ⟨rfl, hL13⟩
        obtain ⟨y13, hy13⟩ : ∃ y, (m_fold_facts_become a0_constants a0_representatives a1 (0 : Int)) = y := ⟨_, rfl⟩
        rw [hy13] at hL13
        rw [hy13, lt_eq] at hM
        try dsimp only at hM
        replace hL : Bx w0 w13 (.map ekI evI a0_constantsb y13.2 :: .map ekI evI a0_representativesb a0_representatives :: a1T (GOp.cells y13.1) :: .box b1 135 #[.map (some a0_constantsb), .map (some a0_representativesb)] :: L0) := hL13
        refine sNil ?_
        subst hM
        refine res0 (P := Try.prog) (fn := Try.f128) rfl ?_
        exact ⟨rfl, ((((hL.front 2 rfl).front 2 rfl).front 2 rfl).front 3 rfl).tl⟩
       ·try rw [decide_eq_false h12]
        rw [if_neg h12] at hM
        refine wIfF rfl (wSkip ?_)
        subst hM
        refine res0 (P := Try.prog) (fn := Try.f128) rfl ?_
        exact ⟨rfl, hL.tl⟩
     ·try rw [decide_eq_false h10]
      rw [if_neg h10] at hM
      refine sGo rfl (sRun (xMvP rfl) (sGo rfl (sRun (xNilCk rfl) (sGo rfl (sRun (xFld0 Try.underlying66 rfl rfl ti3 (by decide) rfl) (sGo rfl (sRun (xLoad Try.underlying3 rfl rfl ((hL.sget 3 a1h rfl) 0 _ rfl)) (sGo rfl (sRun (xEqlD rfl rfl) (sRun (xPkFB rfl rfl) (sRun (xAsB rfl) (sNil ?_))))))))))))
      by_cases h14 : a1.Kind = (8 : Int)
      ·try rw [decide_eq_true h14]
       rw [if_pos h14] at hM
       refine wIfT rfl (wSeq (wJ (fun f w => Has f [(1, .pointer (some ⟨a1b, a1o, none⟩)), (2, .pointer (some ⟨b1, 0, none⟩)), (108, .bool (decide (((mget a0_constants a1.A).getD (0 : Int)) = (0 : Int))))] ∧ Bx w0 w (.box b1 135 #[.map (some a0_constantsb), .map (some a0_representativesb)] :: .map ekI evI a0_constantsb a0_constants :: .map ekI evI a0_representativesb a0_representatives :: a1T (GOp.cells a1) :: L0)) ?_ ?_))
       ·refine wReg (sRun (xMvB rfl) ?_)
        try rw [h2]
        refine sRun (xMvB rfl) ?_
        try rw [h2]
        refine sGo rfl (sRun (xMvI rfl) (sGo rfl (sRun (xEqlD rfl rfl) (sRun (xPkTB rfl rfl) (sRun (xMvB rfl) ?_)))))
        by_cases h15 : ((mget a0_constants a1.A).getD (0 : Int)) = (0 : Int)
        ·try rw [decide_eq_true h15]
         refine sNo rfl (sNo rfl (sNo rfl (sNo rfl (sNo rfl (sRun (xPkTB rfl rfl) (sNil ?_))))))
         exact ⟨⟨rfl, rfl, (by first | rfl | exact (congrArg Value.bool (show true = (decide (((mget a0_constants a1.A).getD (0 : Int)) = (0 : Int))) by simp [h15]))), trivial⟩, hL⟩
        ·try rw [decide_eq_false h15]
         refine sGo rfl (sRun (xMvB rfl) ?_)
         try rw [h3n]
         refine sGo rfl (sRun (xMvB rfl) ?_)
         try rw [h3n]
         refine sNo rfl (sNo rfl (sGo rfl (sRun (xPkFB rfl rfl) (sRun (xPkFB rfl rfl) (sNil ?_)))))
         exact ⟨⟨rfl, rfl, (by first | rfl | exact (congrArg Value.bool (show false = (decide (((mget a0_constants a1.A).getD (0 : Int)) = (0 : Int))) by simp [h15]))), trivial⟩, hL⟩
       ·clear hL
        rintro f w ⟨hf, hL⟩
        obtain ⟨g, rfl⟩ := has_updL _ _ hf
        clear hf
        by_cases h16 : ((mget a0_constants a1.A).getD (0 : Int)) = (0 : Int)
        ·try rw [decide_eq_true h16]
         rw [if_pos h16] at hM
         refine wIfT rfl (wReg (sRun (xLoadS [.map (some a0_constantsb), .map (some a0_representativesb)] Try.underlying135 rfl ti135 rfl rfl ((hL.bk 0 rfl).part rfl)) (sRun (xMvP rfl) ?_)))
         replace hL : Bx w0 _ (.map ekI evI a0_constantsb a0_constants :: .map ekI evI a0_representativesb a0_representatives :: a1T (GOp.cells a1) :: .box b1 135 #[.map (some a0_constantsb), .map (some a0_representativesb)] :: L0) := (((hL.front 3 rfl).front 3 rfl).front 3 rfl)
         refine sCall (eCall cal127 rfl) (sp_m_fold_facts_become w0 _ (.box b1 135 #[.map (some a0_constantsb), .map (some a0_representativesb)] :: L0) a0_constantsb a0_constants a0_representativesb a0_representatives a1T a1b a1o a1h a1 (0 : Int) hL) ?_
         rintro _ w17 ⟨rfl, hL17⟩
         obtain ⟨y17, hy17⟩ : ∃ y, (m_fold_facts_become a0_constants a0_representatives a1 (0 : Int)) = y := ⟨_, rfl⟩
         rw [hy17] at hL17
         rw [hy17, lt_eq] at hM
         try dsimp only at hM
         replace hL : Bx w0 w17 (.map ekI evI a0_constantsb y17.2 :: .map ekI evI a0_representativesb a0_representatives :: a1T (GOp.cells y17.1) :: .box b1 135 #[.map (some a0_constantsb), .map (some a0_representativesb)] :: L0) := hL17
         refine sNil ?_
         subst hM
         refine res0 (P := Try.prog) (fn := Try.f128) rfl ?_
         exact ⟨rfl, ((((hL.front 2 rfl).front 2 rfl).front 2 rfl).front 3 rfl).tl⟩
        ·try rw [decide_eq_false h16]
         rw [if_neg h16] at hM
         refine wIfF rfl (wSkip ?_)
         subst hM
         refine res0 (P := Try.prog) (fn := Try.f128) rfl ?_
         exact ⟨rfl, hL.tl⟩
      ·try rw [decide_eq_false h14]
       rw [if_neg h14] at hM
       refine wIfF rfl (wSkip ?_)
       subst hM
       refine res0 (P := Try.prog) (fn := Try.f128) rfl ?_
       exact ⟨rfl, hL.tl⟩
  ·have h2n : ((mget a0_constants a1.A).isSome) = false := Bool.eq_false_iff.2 h2
   try rw [h2n]
   rw [if_neg h2] at hM
   refine sNo rfl (sRun (xPkFB rfl rfl) (sRun (xAsB rfl) (sNil (wIfF rfl (wSeq (wReg (sRun (xMvB rfl) (sRun (xMvB rfl) ?_))))))))
   by_cases h18 : ((mget a0_constants a1.B).isSome) = true
   ·try rw [h18]
    rw [if_pos h18] at hM
    refine sGo rfl (sRun (xMvP rfl) (sGo rfl (sRun (xNilCk rfl) (sGo rfl (sRun (xFld0 Try.underlying66 rfl rfl ti3 (by decide) rfl) (sGo rfl (sRun (xLoad Try.underlying3 rfl rfl ((hL.sget 3 a1h rfl) 0 _ rfl)) (sGo rfl (sRun (xMvI rfl) (sGo rfl (sCall (eCall cal160 rfl) (sp_m_fold_neutralRight _ a1.Kind ((mget a0_constants a1.B).getD (0 : Int))) ?_)))))))))))
    rintro _ w19 ⟨rfl, he19⟩
    replace hL := hL.ext he19
    refine sRun (xPkTB rfl rfl) (sRun (xAsB rfl) (sNil ?_))
    by_cases h20 : (m_fold_neutralRight a1.Kind ((mget a0_constants a1.B).getD (0 : Int))) = true
    ·try rw [h20]
     rw [if_pos h20] at hM
     refine wIfT rfl ?_
     replace hL := hL.drew
     refine wDraw (fun wS => Bx w0 wS (.box b1 135 #[.map (some a0_constantsb), .map (some a0_representativesb)] :: .map ekI evI a0_constantsb a0_constants :: .map ekI evI a0_representativesb a0_representatives :: a1T (GOp.cells a1) :: L0)) [6] (by kernel_rfl) (hTakeS 0 rfl (by kernel_rfl) (by kernel_rfl) rfl (fun wS hS => (xLoadS [.map (some a0_constantsb), .map (some a0_representativesb)] Try.underlying135 rfl ti135 rfl rfl ((hS.bk 0 rfl).part rfl))) (sl_of hL) (hTake 1 rfl (by kernel_rfl) rfl (fun wS => (xMvP rfl)) (sl_of hL) (hTake 2 rfl (by kernel_rfl) rfl (fun wS => (xMvP rfl)) (sl_of hL) (hTake 3 rfl (by kernel_rfl) rfl (fun wS => (xNilCk rfl)) (sl_of hL) (hTake 4 rfl (by kernel_rfl) rfl (fun wS => (xFld (k := 2) Try.underlying66 rfl rfl ti3 (by decide) rfl)) (sl_of hL) (hTakeS 5 rfl (by kernel_rfl) (by kernel_rfl) rfl (fun wS hS => (xLoad Try.underlying3 rfl rfl ((hS.sget 3 a1h rfl) 2 _ rfl))) (sl_of hL) ?_))))))
     replace hL : Bx w0 _ (.map ekI evI a0_constantsb a0_constants :: .map ekI evI a0_representativesb a0_representatives :: a1T (GOp.cells a1) :: .box b1 135 #[.map (some a0_constantsb), .map (some a0_representativesb)] :: L0) := (((hL.front 3 rfl).front 3 rfl).front 3 rfl)
     refine hOne 6 (by kernel_rfl) (oCall rfl rfl (eCall cal161 rfl) (sp_m_fold_facts_copyOf w0 _ (.box b1 135 #[.map (some a0_constantsb), .map (some a0_representativesb)] :: L0) a0_constantsb a0_constants a0_representativesb a0_representatives a1T a1b a1o a1h a1 a1.A hL) ?_)
     rintro _ w21 ⟨rfl, hL21⟩
     obtain ⟨y21, hy21⟩ : ∃ y, (m_fold_facts_copyOf a0_constants a0_representatives a1 a1.A) = y := ⟨_, rfl⟩
     rw [hy21] at hL21
     rw [hy21, lt_eq] at hM
     try dsimp only at hM
     replace hL : Bx w0 w21 (.map ekI evI a0_constantsb a0_constants :: .map ekI evI a0_representativesb y21.2 :: a1T (GOp.cells y21.1) :: .box b1 135 #[.map (some a0_constantsb), .map (some a0_representativesb)] :: L0) := hL21
     refine ⟨(sl_late 6 rfl), ?_⟩
     refine hDone (by kernel_rfl) ?_
     subst hM
     refine res0 (P := Try.prog) (fn := Try.f128) rfl ?_
     exact ⟨rfl, ((((hL.front 2 rfl).front 2 rfl).front 2 rfl).front 3 rfl).tl⟩
    ·have h20n : (m_fold_neutralRight a1.Kind ((mget a0_constants a1.B).getD (0 : Int))) = false := Bool.eq_false_iff.2 h20
     try rw [h20n]
     rw [if_neg h20] at hM
     refine wIfF rfl (wSeq (wReg (sRun (xMvB rfl) ?_)))
     try rw [h2n]
     refine sRun (xMvB rfl) ?_
     try rw [h2n]
     refine sNo rfl (sNo rfl (sNo rfl (sNo rfl (sNo rfl (sNo rfl (sRun (xPkFB rfl rfl) (sRun (xAsB rfl) (sNil (wIfF rfl (wSeq (wReg (sRun (xMvP rfl) (sRun (xNilCk rfl) ?_)))))))))))))
     refine sRun (xFld0 Try.underlying66 rfl rfl ti3 (by decide) rfl) (sRun (xLoad Try.underlying3 rfl rfl ((hL.sget 3 a1h rfl) 0 _ rfl)) (sRun (xEqlD rfl rfl) (sRun (xMvB rfl) ?_)))
     by_cases h22 : a1.Kind = (5 : Int)
     ·try rw [decide_eq_true h22]
      rw [if_pos h22] at hM
      refine sNo rfl (sNo rfl (sNo rfl (sNo rfl (sNo rfl (sRun (xPkTB rfl rfl) (sRun (xAsB rfl) (sNil (wIfT rfl (wSeq (wReg (sRun (xMvB rfl) ?_)))))))))))
      try rw [h2n]
      refine sRun (xMvB rfl) ?_
      try rw [h2n]
      refine sNo rfl (sNo rfl (sRun (xPkFB rfl rfl) (sRun (xMvB rfl) (sGo rfl (sRun (xMvB rfl) ?_)))))
      try rw [h18]
      refine sGo rfl (sRun (xMvB rfl) ?_)
      try rw [h18]
      refine sGo rfl (sRun (xMvI rfl) (sGo rfl (sRun (xEqlD rfl rfl) (sGo rfl (sRun (xPkTB rfl rfl) (sRun (xPkFB rfl rfl) (sNil ?_)))))))
      by_cases h23 : ((mget a0_constants a1.B).getD (0 : Int)) = (0 : Int)
      ·try rw [decide_eq_true h23]
       rw [if_pos h23] at hM
       refine wIfT rfl (wReg (sRun (xLoadS [.map (some a0_constantsb), .map (some a0_representativesb)] Try.underlying135 rfl ti135 rfl rfl ((hL.bk 0 rfl).part rfl)) (sRun (xMvP rfl) ?_)))
       replace hL : Bx w0 _ (.map ekI evI a0_constantsb a0_constants :: .map ekI evI a0_representativesb a0_representatives :: a1T (GOp.cells a1) :: .box b1 135 #[.map (some a0_constantsb), .map (some a0_representativesb)] :: L0) := (((hL.front 3 rfl).front 3 rfl).front 3 rfl)
       refine sCall (eCall cal127 rfl) (sp_m_fold_facts_become w0 _ (.box b1 135 #[.map (some a0_constantsb), .map (some a0_representativesb)] :: L0) a0_constantsb a0_constants a0_representativesb a0_representatives a1T a1b a1o a1h a1 (0 : Int) hL) ?_
       rintro _ w24 ⟨rfl, hL24⟩
       obtain ⟨y24, hy24⟩ : ∃ y, (m_fold_facts_become a0_constants a0_representatives a1 (0 : Int)) = y := ⟨_, rfl⟩
       rw [hy24] at hL24
       rw [hy24, lt_eq] at hM
       try dsimp only at hM
       replace hL : Bx w0 w24 (.map ekI evI a0_constantsb y24.2 :: .map ekI evI a0_representativesb a0_representatives :: a1T (GOp.cells y24.1) :: .box b1 135 #[.map (some a0_constantsb), .map (some a0_representativesb)] :: L0) := hL24
       refine sNil ?_
       subst hM
       refine res0 (P := Try.prog) (fn := Try.f128) rfl ?_
       exact ⟨rfl, ((((hL.front 2 rfl).front 2 rfl).front 2 rfl).front 3 rfl).tl⟩
      ·try rw [decide_eq_false h23]
       rw [if_neg h23] at hM
       refine wIfF rfl (wSkip ?_)
       subst hM
       refine res0 (P := Try.prog) (fn := Try.f128) rfl ?_
       exact ⟨rfl, hL.tl⟩
     ·try rw [decide_eq_false h22]
      rw [if_neg h22] at hM
      refine sGo rfl (sRun (xMvP rfl) (sGo rfl (sRun (xNilCk rfl) (sGo rfl (sRun (xFld0 Try.underlying66 rfl rfl ti3 (by decide) rfl) (sGo rfl (sRun (xLoad Try.underlying3 rfl rfl ((hL.sget 3 a1h rfl) 0 _ rfl)) (sGo rfl (sRun (xEqlD rfl rfl) (sRun (xPkFB rfl rfl) (sRun (xAsB rfl) (sNil ?_))))))))))))
      by_cases h25 : a1.Kind = (8 : Int)
      ·try rw [decide_eq_true h25]
       rw [if_pos h25] at hM
       refine wIfT rfl (wSeq (wReg (sRun (xMvB rfl) ?_)))
       try rw [h2n]
       refine sRun (xMvB rfl) ?_
       try rw [h2n]
       refine sNo rfl (sNo rfl (sRun (xPkFB rfl rfl) (sRun (xMvB rfl) (sGo rfl (sRun (xMvB rfl) ?_)))))
       try rw [h18]
       refine sGo rfl (sRun (xMvB rfl) ?_)
       try rw [h18]
       refine sGo rfl (sRun (xMvI rfl) (sGo rfl (sRun (xEqlD rfl rfl) (sGo rfl (sRun (xPkTB rfl rfl) (sRun (xPkFB rfl rfl) (sNil ?_)))))))
       by_cases h26 : ((mget a0_constants a1.B).getD (0 : Int)) = (0 : Int)
       ·try rw [decide_eq_true h26]
        rw [if_pos h26] at hM
        refine wIfT rfl (wReg (sRun (xLoadS [.map (some a0_constantsb), .map (some a0_representativesb)] Try.underlying135 rfl ti135 rfl rfl ((hL.bk 0 rfl).part rfl)) (sRun (xMvP rfl) ?_)))
        replace hL : Bx w0 _ (.map ekI evI a0_constantsb a0_constants :: .map ekI evI a0_representativesb a0_representatives :: a1T (GOp.cells a1) :: .box b1 135 #[.map (some a0_constantsb), .map (some a0_representativesb)] :: L0) := (((hL.front 3 rfl).front 3 rfl).front 3 rfl)
        refine sCall (eCall cal127 rfl) (sp_m_fold_facts_become w0 _ (.box b1 135 #[.map (some a0_constantsb), .map (some a0_representativesb)] :: L0) a0_constantsb a0_constants a0_representativesb a0_representatives a1T a1b a1o a1h a1 (0 : Int) hL) ?_
        rintro _ w27 ⟨rfl, hL27⟩
        obtain ⟨y27, hy27⟩ : ∃ y, (m_fold_facts_become a0_constants a0_representatives a1 (0 : Int)) = y := ⟨_, rfl⟩
        rw [hy27] at hL27
        rw [hy27, lt_eq] at hM
        try dsimp only at hM
        replace hL : Bx w0 w27 (.map ekI evI a0_constantsb y27.2 :: .map ekI evI a0_representativesb a0_representatives :: a1T (GOp.cells y27.1) :: .box b1 135 #[.map (some a0_constantsb), .map (some a0_representativesb)] :: L0) := hL27
        refine sNil ?_
        subst hM
        refine res0 (P := Try.prog) (fn := Try.f128) rfl ?_
        exact ⟨rfl, ((((hL.front 2 rfl).front 2 rfl).front 2 rfl).front 3 rfl).tl⟩
       ·try rw [decide_eq_false h26]
        rw [if_neg h26] at hM
        refine wIfF rfl (wSkip ?_)
        subst hM
        refine res0 (P := Try.prog) (fn := Try.f128) rfl ?_
        exact ⟨rfl, hL.tl⟩
      ·try rw [decide_eq_false h25]
       rw [if_neg h25] at hM
       refine wIfF rfl (wSkip ?_)
       subst hM
       refine res0 (P := Try.prog) (fn := Try.f128) rfl ?_
       exact ⟨rfl, hL.tl⟩
   ·have h18n : ((mget a0_constants a1.B).isSome) = false := Bool.eq_false_iff.2 h18
    try rw [h18n]
    rw [if_neg h18] at hM
    refine sNo rfl (sNo rfl (sNo rfl (sNo rfl (sNo rfl (sNo rfl (sRun (xPkFB rfl rfl) (sRun (xAsB rfl) (sNil (wIfF rfl (wSeq (wReg (sRun (xMvB rfl) ?_))))))))))))
    try rw [h2n]
    refine sRun (xMvB rfl) ?_
    try rw [h2n]
    refine sNo rfl (sNo rfl (sNo rfl (sNo rfl (sNo rfl (sNo rfl (sRun (xPkFB rfl rfl) (sRun (xAsB rfl) (sNil (wIfF rfl (wSeq (wReg (sRun (xMvP rfl) (sRun (xNilCk rfl) ?_)))))))))))))
    refine sRun (xFld0 Try.underlying66 rfl rfl ti3 (by decide) rfl) (sRun (xLoad Try.underlying3 rfl rfl ((hL.sget 3 a1h rfl) 0 _ rfl)) (sRun (xEqlD rfl rfl) (sRun (xMvB rfl) ?_)))
    by_cases h28 : a1.Kind = (5 : Int)
    ·try rw [decide_eq_true h28]
     rw [if_pos h28] at hM
     refine sNo rfl (sNo rfl (sNo rfl (sNo rfl (sNo rfl (sRun (xPkTB rfl rfl) (sRun (xAsB rfl) (sNil (wIfT rfl (wSeq (wReg (sRun (xMvB rfl) ?_)))))))))))
     try rw [h2n]
     refine sRun (xMvB rfl) ?_
     try rw [h2n]
     refine sNo rfl (sNo rfl (sRun (xPkFB rfl rfl) (sRun (xMvB rfl) (sGo rfl (sRun (xMvB rfl) ?_)))))
     try rw [h18n]
     refine sGo rfl (sRun (xMvB rfl) ?_)
     try rw [h18n]
     refine sNo rfl (sNo rfl (sGo rfl (sRun (xPkFB rfl rfl) (sRun (xPkFB rfl rfl) (sNil (wIfF rfl (wSkip ?_)))))))
     subst hM
     refine res0 (P := Try.prog) (fn := Try.f128) rfl ?_
     exact ⟨rfl, hL.tl⟩
    ·try rw [decide_eq_false h28]
     rw [if_neg h28] at hM
     refine sGo rfl (sRun (xMvP rfl) (sGo rfl (sRun (xNilCk rfl) (sGo rfl (sRun (xFld0 Try.underlying66 rfl rfl ti3 (by decide) rfl) (sGo rfl (sRun (xLoad Try.underlying3 rfl rfl ((hL.sget 3 a1h rfl) 0 _ rfl)) (sGo rfl (sRun (xEqlD rfl rfl) (sRun (xPkFB rfl rfl) (sRun (xAsB rfl) (sNil (wJ (fun f w => Has f [] ∧ Bx w0 w (.box b1 135 #[.map (some a0_constantsb), .map (some a0_representativesb)] :: .map ekI evI a0_constantsb a0_constants :: .map ekI evI a0_representativesb a0_representatives :: a1T (GOp.cells a1) :: L0)) ?_ ?_)))))))))))))
     ·by_cases h29 : a1.Kind = (8 : Int)
      ·try rw [decide_eq_true h29]
       refine wIfT rfl (wSeq (wReg (sRun (xMvB rfl) ?_)))
       try rw [h2n]
       refine sRun (xMvB rfl) ?_
       try rw [h2n]
       refine sNo rfl (sNo rfl (sRun (xPkFB rfl rfl) (sRun (xMvB rfl) (sGo rfl (sRun (xMvB rfl) ?_)))))
       try rw [h18n]
       refine sGo rfl (sRun (xMvB rfl) ?_)
       try rw [h18n]
       refine sNo rfl (sNo rfl (sGo rfl (sRun (xPkFB rfl rfl) (sRun (xPkFB rfl rfl) (sNil (wIfF rfl (wSkip ?_)))))))
       exact ⟨trivial, hL⟩
      ·try rw [decide_eq_false h29]
       refine wIfF rfl (wSkip ?_)
       exact ⟨trivial, hL⟩
     ·clear hL
      rintro f w ⟨hf, hL⟩
      obtain ⟨g, rfl⟩ := has_updL _ _ hf
      clear hf
      subst hM
      refine res0 (P := Try.prog) (fn := Try.f128) rfl ?_
      exact ⟨rfl, hL.tl⟩

end Go.Proofs.Ytbpccmnalhdpmaa
