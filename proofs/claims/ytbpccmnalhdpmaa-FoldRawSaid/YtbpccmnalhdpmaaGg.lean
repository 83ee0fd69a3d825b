/- Contracts, printed by gen2.py. -/
import Derived.Test.YtbpccmnalhdpmaaGt
set_option linter.unusedVariables false
set_option linter.unusedSimpArgs false
set_option maxRecDepth 4000
namespace Go.Proofs.Ytbpccmnalhdpmaa
open Go.RowKit Go.Fw
def m_ir_within (a0 : Int) (a1 : Int) : Bool :=
 if (0 : Int) ≤ a0 then
  (decide (a0 ≤ a1))
 else
  false
set_option maxHeartbeats 12800000 in
theorem sp_m_ir_within (w0 : World) (a0 : Int) (a1 : Int) : Calls Try.prog 73 #[.int .i64 a0, .int .i64 a1] w0 (Ret fun v w => v = .bool (m_ir_within a0 a1) ∧ Ext w0 w) := by
  obtain ⟨X, hM⟩ : ∃ X, m_ir_within a0 a1 = X := ⟨_, rfl⟩
  rw [hM]
  unfold m_ir_within at hM
  try simp only [er1, er2, er3, er4, er5, er6, er7, er8, er9, er10, er11, er12, er13, er14, er15, er16, er17, List.length_map] at hM
  have hL : Bx w0 w0 [] := Bx.nil
  refine calls_of Try.func73 rfl (Nat.le_of_ble_eq_true rfl) (by kernel_rfl) ?_
  refine wCut [(0, .int .i64 a0), (1, .int .i64 a1)] ⟨rfl, rfl, trivial⟩ fun g => ?_
  refine wSeq (wReg (sRun (xAsB rfl) (sNil (wSeq (wReg (sRun (xMvI rfl) (sRun (xGeq rfl rfl) (sRun (xMvB rfl) ?_))))))))
  by_cases h1 : (0 : Int) ≤ a0
  ·try rw [decide_eq_true h1]
   rw [if_pos h1] at hM
   refine sGo rfl (sRun (xMvI rfl) (sGo rfl (sRun (xMvI rfl) (sGo rfl (sRun (xLeq rfl rfl) (sRun (xPkTB rfl rfl) (sRun (xAsB rfl) (sNil (wRet ?_)))))))))
   subst hM
   refine res1 (P := Try.prog) (fn := Try.f73) rfl ?_
   exact ⟨rfl, hL.1⟩
  ·try rw [decide_eq_false h1]
   rw [if_neg h1] at hM
   refine sNo rfl (sNo rfl (sNo rfl (sRun (xPkFB rfl rfl) (sRun (xAsB rfl) (sNil (wRet ?_))))))
   subst hM
   refine res1 (P := Try.prog) (fn := Try.f73) rfl ?_
   exact ⟨rfl, hL.1⟩

def m_ir_fields (a0 : Int) : Int :=
 if a0 = (1 : Int) then
  (9 : Int)
 else
  if a0 = (2 : Int) then
   (3 : Int)
  else
   if (3 : Int) ≤ a0 then
    if a0 ≤ (14 : Int) then
     (7 : Int)
    else
     if a0 = (15 : Int) then
      (11 : Int)
     else
      if a0 = (16 : Int) then
       (14 : Int)
      else
       if a0 = (17 : Int) then
        (8 : Int)
       else
        if a0 = (18 : Int) then
         (2 : Int)
        else
         if a0 = (19 : Int) then
          (24 : Int)
         else
          if a0 = (20 : Int) then
           (24 : Int)
          else
           if a0 = (21 : Int) then
            (48 : Int)
           else
            (0 : Int)
   else
    (0 : Int)
set_option maxHeartbeats 12800000 in
theorem sp_m_ir_fields (w0 : World) (a0 : Int) : Calls Try.prog 120 #[.int .i64 a0] w0 (Ret fun v w => v = .int .i64 (m_ir_fields a0) ∧ Ext w0 w) := by
  obtain ⟨X, hM⟩ : ∃ X, m_ir_fields a0 = X := ⟨_, rfl⟩
  rw [hM]
  unfold m_ir_fields at hM
  try simp only [er1, er2, er3, er4, er5, er6, er7, er8, er9, er10, er11, er12, er13, er14, er15, er16, er17, List.length_map] at hM
  have hL : Bx w0 w0 [] := Bx.nil
  refine calls_of Try.func120 rfl (Nat.le_of_ble_eq_true rfl) (by kernel_rfl) ?_
  refine wCut [(0, .int .i64 a0)] ⟨rfl, trivial⟩ fun g => ?_
  refine wSeq (wReg (sRun (xAsI rfl) (sNil (wSeq (wBlock (wSeq (wReg (sRun (xMvI rfl) (sRun (xEqlD rfl rfl) (sRun (xAsB rfl) (sNil ?_)))))))))))
  by_cases h1 : a0 = (1 : Int)
  ·try rw [decide_eq_true h1]
   rw [if_pos h1] at hM
   refine wIfT rfl (wSeq (wReg (sRun (xAsI rfl) (sNil (wRet ?_)))))
   subst hM
   refine res1 (P := Try.prog) (fn := Try.f120) rfl ?_
   exact ⟨rfl, hL.1⟩
  ·try rw [decide_eq_false h1]
   rw [if_neg h1] at hM
   refine wIfF rfl (wSeq (wReg (sRun (xMvI rfl) (sRun (xEqlD rfl rfl) (sRun (xAsB rfl) (sNil ?_))))))
   by_cases h2 : a0 = (2 : Int)
   ·try rw [decide_eq_true h2]
    rw [if_pos h2] at hM
    refine wIfT rfl (wSeq (wReg (sRun (xAsI rfl) (sNil (wRet ?_)))))
    subst hM
    refine res1 (P := Try.prog) (fn := Try.f120) rfl ?_
    exact ⟨rfl, hL.1⟩
   ·try rw [decide_eq_false h2]
    rw [if_neg h2] at hM
    refine wIfF rfl (wSeq (wReg (sRun (xMvI rfl) (sRun (xGeq rfl rfl) (sRun (xMvB rfl) ?_)))))
    by_cases h3 : (3 : Int) ≤ a0
    ·try rw [decide_eq_true h3]
     rw [if_pos h3] at hM
     refine sGo rfl (sRun (xMvI rfl) (sGo rfl (sRun (xLeq rfl rfl) (sRun (xPkTB rfl rfl) (sRun (xAsB rfl) (sNil ?_))))))
     by_cases h4 : a0 ≤ (14 : Int)
     ·try rw [decide_eq_true h4]
      rw [if_pos h4] at hM
      refine wIfT rfl (wSeq (wReg (sRun (xAsI rfl) (sNil (wRet ?_)))))
      subst hM
      refine res1 (P := Try.prog) (fn := Try.f120) rfl ?_
      exact ⟨rfl, hL.1⟩
     ·try rw [decide_eq_false h4]
      rw [if_neg h4] at hM
      refine wIfF rfl (wSeq (wReg (sRun (xMvI rfl) (sRun (xEqlD rfl rfl) (sRun (xAsB rfl) (sNil ?_))))))
      by_cases h5 : a0 = (15 : Int)
      ·try rw [decide_eq_true h5]
       rw [if_pos h5] at hM
       refine wIfT rfl (wSeq (wReg (sRun (xAsI rfl) (sNil (wRet ?_)))))
       subst hM
       refine res1 (P := Try.prog) (fn := Try.f120) rfl ?_
       exact ⟨rfl, hL.1⟩
      ·try rw [decide_eq_false h5]
       rw [if_neg h5] at hM
       refine wIfF rfl (wSeq (wReg (sRun (xMvI rfl) (sRun (xEqlD rfl rfl) (sRun (xAsB rfl) (sNil ?_))))))
       by_cases h6 : a0 = (16 : Int)
       ·try rw [decide_eq_true h6]
        rw [if_pos h6] at hM
        refine wIfT rfl (wSeq (wReg (sRun (xAsI rfl) (sNil (wRet ?_)))))
        subst hM
        refine res1 (P := Try.prog) (fn := Try.f120) rfl ?_
        exact ⟨rfl, hL.1⟩
       ·try rw [decide_eq_false h6]
        rw [if_neg h6] at hM
        refine wIfF rfl (wSeq (wReg (sRun (xMvI rfl) (sRun (xEqlD rfl rfl) (sRun (xAsB rfl) (sNil ?_))))))
        by_cases h7 : a0 = (17 : Int)
        ·try rw [decide_eq_true h7]
         rw [if_pos h7] at hM
         refine wIfT rfl (wSeq (wReg (sRun (xAsI rfl) (sNil (wRet ?_)))))
         subst hM
         refine res1 (P := Try.prog) (fn := Try.f120) rfl ?_
         exact ⟨rfl, hL.1⟩
        ·try rw [decide_eq_false h7]
         rw [if_neg h7] at hM
         refine wIfF rfl (wSeq (wReg (sRun (xMvI rfl) (sRun (xEqlD rfl rfl) (sRun (xAsB rfl) (sNil ?_))))))
         by_cases h8 : a0 = (18 : Int)
         ·try rw [decide_eq_true h8]
          rw [if_pos h8] at hM
          refine wIfT rfl (wSeq (wReg (sRun (xAsI rfl) (sNil (wRet ?_)))))
          subst hM
          refine res1 (P := Try.prog) (fn := Try.f120) rfl ?_
          exact ⟨rfl, hL.1⟩
         ·try rw [decide_eq_false h8]
          rw [if_neg h8] at hM
          refine wIfF rfl (wSeq (wReg (sRun (xMvI rfl) (sRun (xEqlD rfl rfl) (sRun (xMvB rfl) ?_)))))
          by_cases h9 : a0 = (19 : Int)
          ·try rw [decide_eq_true h9]
           rw [if_pos h9] at hM
           refine sNo rfl (sNo rfl (sRun (xPkTB rfl rfl) (sRun (xAsB rfl) (sNil (wIfT rfl (wSeq (wReg (sRun (xAsI rfl) (sNil (wRet ?_))))))))))
           subst hM
           refine res1 (P := Try.prog) (fn := Try.f120) rfl ?_
           exact ⟨rfl, hL.1⟩
          ·try rw [decide_eq_false h9]
           rw [if_neg h9] at hM
           refine sGo rfl (sRun (xMvI rfl) (sGo rfl (sRun (xEqlD rfl rfl) (sRun (xPkFB rfl rfl) (sRun (xAsB rfl) (sNil ?_))))))
           by_cases h10 : a0 = (20 : Int)
           ·try rw [decide_eq_true h10]
            rw [if_pos h10] at hM
            refine wIfT rfl (wSeq (wReg (sRun (xAsI rfl) (sNil (wRet ?_)))))
            subst hM
            refine res1 (P := Try.prog) (fn := Try.f120) rfl ?_
            exact ⟨rfl, hL.1⟩
           ·try rw [decide_eq_false h10]
            rw [if_neg h10] at hM
            refine wIfF rfl (wSeq (wReg (sRun (xMvI rfl) (sRun (xEqlD rfl rfl) (sRun (xAsB rfl) (sNil ?_))))))
            by_cases h11 : a0 = (21 : Int)
            ·try rw [decide_eq_true h11]
             rw [if_pos h11] at hM
             refine wIfT rfl (wSeq (wReg (sRun (xAsI rfl) (sNil (wRet ?_)))))
             subst hM
             refine res1 (P := Try.prog) (fn := Try.f120) rfl ?_
             exact ⟨rfl, hL.1⟩
            ·try rw [decide_eq_false h11]
             rw [if_neg h11] at hM
             refine wIfF rfl (wSkip (wSeq (wReg (sRun (xAsI rfl) (sNil (wRet ?_))))))
             subst hM
             refine res1 (P := Try.prog) (fn := Try.f120) rfl ?_
             exact ⟨rfl, hL.1⟩
    ·try rw [decide_eq_false h3]
     rw [if_neg h3] at hM
     refine sNo rfl (sNo rfl (sRun (xPkFB rfl rfl) (sRun (xAsB rfl) (sNil (wIfF rfl (wSeq (wReg (sRun (xMvI rfl) (sRun (xEqlF rfl rfl (by omega)) (sRun (xAsB rfl) (sNil (wIfF rfl (wSeq ?_)))))))))))))
     refine wReg (sRun (xMvI rfl) (sRun (xEqlF rfl rfl (by omega)) (sRun (xAsB rfl) (sNil (wIfF rfl (wSeq (wReg (sRun (xMvI rfl) (sRun (xEqlF rfl rfl (by omega)) (sRun (xAsB rfl) (sNil (wIfF rfl (wSeq ?_)))))))))))))
     refine wReg (sRun (xMvI rfl) (sRun (xEqlF rfl rfl (by omega)) (sRun (xAsB rfl) (sNil (wIfF rfl (wSeq (wReg (sRun (xMvI rfl) (sRun (xEqlF rfl rfl (by omega)) (sRun (xMvB rfl) (sGo rfl (sRun (xMvI rfl) (sGo rfl ?_)))))))))))))
     refine sRun (xEqlF rfl rfl (by omega)) (sRun (xPkFB rfl rfl) (sRun (xAsB rfl) (sNil (wIfF rfl (wSeq (wReg (sRun (xMvI rfl) (sRun (xEqlF rfl rfl (by omega)) (sRun (xAsB rfl) (sNil (wIfF rfl (wSkip (wSeq ?_)))))))))))))
     refine wReg (sRun (xAsI rfl) (sNil (wRet ?_)))
     subst hM
     refine res1 (P := Try.prog) (fn := Try.f120) rfl ?_
     exact ⟨rfl, hL.1⟩

def m_ir_clean_1 (a0 : Int) (a1 : Int) (c0 : Int) : Bool :=
 if (bwAnd c0 a0) = (0 : Int) then
  (decide (a1 ≠ (0 : Int)))
 else
  false
set_option maxHeartbeats 12800000 in
theorem sp_m_ir_clean_1 (w0 : World) (a0 : Int) (a1 : Int) (c0b c0o : Nat) (c0 : Int) (c0h : w0.cell? ⟨c0b, c0o, none⟩ = some (.int .i64 c0)) : Calls Try.prog 153 #[.int .i64 a0, .int .i64 a1, .pointer (some ⟨c0b, c0o, none⟩)] w0 (Ret fun v w => v = .bool (m_ir_clean_1 a0 a1 c0) ∧ Ext w0 w) := by
  obtain ⟨X, hM⟩ : ∃ X, m_ir_clean_1 a0 a1 c0 = X := ⟨_, rfl⟩
  rw [hM]
  unfold m_ir_clean_1 at hM
  try simp only [er1, er2, er3, er4, er5, er6, er7, er8, er9, er10, er11, er12, er13, er14, er15, er16, er17, List.length_map] at hM
  have hL : Bx w0 w0 [] := Bx.nil
  refine calls_of Try.func153 rfl (Nat.le_of_ble_eq_true rfl) (by kernel_rfl) ?_
  refine wCut [(0, .int .i64 a0), (1, .int .i64 a1), (2, .pointer (some ⟨c0b, c0o, none⟩))] ⟨rfl, rfl, rfl, trivial⟩ fun g => ?_
  refine wSeq (wReg (sRun (xAsB rfl) (sNil (wSeq (wReg (sRun (xLoad Try.underlying3 rfl rfl (hL.1.cellS c0h)) (sRun (xMvI rfl) (sRun (xAndW rfl rfl) (sRun (xEqlD rfl rfl) (sRun (xMvB rfl) ?_))))))))))
  by_cases h1 : (bwAnd c0 a0) = (0 : Int)
  ·try rw [decide_eq_true h1]
   rw [if_pos h1] at hM
   refine sGo rfl (sRun (xMvI rfl) (sGo rfl (sRun (xNeqD rfl rfl) (sRun (xPkTB rfl rfl) (sRun (xAsB rfl) (sNil (wRet ?_)))))))
   subst hM
   refine res1 (P := Try.prog) (fn := Try.f153) rfl ?_
   exact ⟨rfl, hL.1⟩
  ·try rw [decide_eq_false h1]
   rw [if_neg h1] at hM
   refine sNo rfl (sNo rfl (sRun (xPkFB rfl rfl) (sRun (xAsB rfl) (sNil (wRet ?_)))))
   subst hM
   refine res1 (P := Try.prog) (fn := Try.f153) rfl ?_
   exact ⟨rfl, hL.1⟩

def m_ir_clean (a0 : GOp) : Bool :=
 if (m_ir_fields a0.Kind) = (0 : Int) then
  false
 else
  (!((((((((m_ir_clean_1 (1 : Int) a0.Dst (m_ir_fields a0.Kind)) || (m_ir_clean_1 (2 : Int) a0.A (m_ir_fields a0.Kind))) || (m_ir_clean_1 (4 : Int) a0.B (m_ir_fields a0.Kind))) || (m_ir_clean_1 (8 : Int) a0.N (m_ir_fields a0.Kind))) || (m_ir_clean_1 (16 : Int) a0.Ctx (m_ir_fields a0.Kind))) || (m_ir_clean_1 (32 : Int) a0.Var (m_ir_fields a0.Kind))) || (m_ir_clean_1 (32 : Int) a0.Piece (m_ir_fields a0.Kind))) || ((decide ((bwAnd (m_ir_fields a0.Kind) (32 : Int)) = (0 : Int))) && (decide (¬ [a0.Src.Kind, a0.Src.Val, a0.Src.Add] = [(0 : Int), (0 : Int), (0 : Int)])))))
theorem bd121_58 {ρ : Operand → Value} {w : World} {d : Option Nat} {ty : TypeId} {pos : String} {af : Array Edge} {g : Option (Nat × Bool)} : Yl Try.prog ρ (.build 64 #[]) d ty pos af g w (.agg #[.int .i64 0, .int .i64 0, .int .i64 0]) := by
  have e : (Instr.build 64 #[]).run Try.prog w = .ok (.agg #[.int .i64 0, .int .i64 0, .int .i64 0]) w := by kernel_rfl
  simp [Yl, execOp, e]
set_option maxHeartbeats 12800000 in
theorem sp_m_ir_clean (w0 : World) (a0 : GOp) : Calls Try.prog 121 #[.agg (GOp.cells a0).toArray] w0 (Ret fun v w => v = .bool (m_ir_clean a0) ∧ Ext w0 w) := by
  obtain ⟨X, hM⟩ : ∃ X, m_ir_clean a0 = X := ⟨_, rfl⟩
  rw [hM]
  unfold m_ir_clean at hM
  try simp only [er1, er2, er3, er4, er5, er6, er7, er8, er9, er10, er11, er12, er13, er14, er15, er16, er17, List.length_map] at hM
  have hL : Bx w0 w0 [] := Bx.nil
  refine calls_of Try.func121 rfl (Nat.le_of_ble_eq_true rfl) (by kernel_rfl) ?_
  refine wCut [(0, .agg (GOp.cells a0).toArray)] ⟨rfl, trivial⟩ fun g => ?_
  refine wSeq (wReg (sTo (aNew (mBox rfl)) ?_))
  rintro _ w1 ⟨b1, rfl, hge1, hB1, he1⟩
  replace hL := hL.new hge1 hB1 he1
  refine sRun (xAsB rfl) (sNil (wSeq (wReg (sRun (xFld0 Try.underlying66 rfl rfl ti3 (by decide) rfl) (sRun (xLoad Try.underlying3 rfl rfl ((hL.bk 0 rfl).cell (i := 0) rfl)) (sCall (eCall cal120 rfl) (sp_m_ir_fields _ a0.Kind) ?_))))))
  rintro _ w2 ⟨rfl, he2⟩
  replace hL := hL.ext he2
  refine sTo (aNew (mAlloc ti3)) ?_
  rintro _ w3 ⟨b3, rfl, hge3, hB3, he3⟩
  replace hL := hL.new hge3 hB3 he3
  refine sSt1 ti3 rfl rfl rfl (hL.bk 0 rfl) (Nat.le_of_ble_eq_true rfl) ?_
  intro w4 hB4 hC4
  replace hL : Bx w0 w4 [.box b3 3 #[.int .i64 (m_ir_fields a0.Kind)], .box b1 66 (GOp.cells a0).toArray] := hL.wr 0 rfl hC4 hB4
  refine sNil (wSeq (wSeq (wReg (sRun (xLoad Try.underlying3 rfl rfl ((hL.bk 0 rfl).cell (i := 0) rfl)) (sRun (xEqlD rfl rfl) (sNil ?_))))))
  by_cases h5 : (m_ir_fields a0.Kind) = (0 : Int)
  ·try rw [decide_eq_true h5]
   rw [if_pos h5] at hM
   refine wIfT rfl (wSeq (wReg (sRun (xAsB rfl) (sNil (wRet ?_)))))
   subst hM
   refine res1 (P := Try.prog) (fn := Try.f121) rfl ?_
   exact ⟨rfl, hL.1⟩
  ·try rw [decide_eq_false h5]
   rw [if_neg h5] at hM
   refine wIfF rfl (wSkip (wSeq (wReg (sRun xMkFunc (sRun (xAsF rfl) (sNil (wSeq ?_)))))))
   obtain ⟨E6, hE6⟩ : ∃ E, (!((((((((m_ir_clean_1 (1 : Int) a0.Dst (m_ir_fields a0.Kind)) || (m_ir_clean_1 (2 : Int) a0.A (m_ir_fields a0.Kind))) || (m_ir_clean_1 (4 : Int) a0.B (m_ir_fields a0.Kind))) || (m_ir_clean_1 (8 : Int) a0.N (m_ir_fields a0.Kind))) || (m_ir_clean_1 (16 : Int) a0.Ctx (m_ir_fields a0.Kind))) || (m_ir_clean_1 (32 : Int) a0.Var (m_ir_fields a0.Kind))) || (m_ir_clean_1 (32 : Int) a0.Piece (m_ir_fields a0.Kind))) || ((decide ((bwAnd (m_ir_fields a0.Kind) (32 : Int)) = (0 : Int))) && (decide (¬ [a0.Src.Kind, a0.Src.Val, a0.Src.Add] = [(0 : Int), (0 : Int), (0 : Int)]))))) = E := ⟨_, rfl⟩
   refine wJ (fun f w => Has f [(2, .bool E6)] ∧ Bx w0 w [.box b3 3 #[.int .i64 (m_ir_fields a0.Kind)], .box b1 66 (GOp.cells a0).toArray]) ?_ ?_
   ·refine wReg (sRun (xMvF rfl) (sRun (xFld (k := 1) Try.underlying66 rfl rfl ti3 (by decide) rfl) (sRun (xLoad Try.underlying3 rfl rfl ((hL.bk 1 rfl).cell (i := 1) rfl)) (sCall (eClos cal153 rfl) (sp_m_ir_clean_1 _ (1 : Int) a0.Dst b3 0 (m_ir_fields a0.Kind) ((hL.bk 0 rfl).cell (i := 0) rfl)) ?_))))
    rintro _ w7 ⟨rfl, he7⟩
    replace hL := hL.ext he7
    refine sRun (xMvB rfl) ?_
    by_cases h8 : (m_ir_clean_1 (1 : Int) a0.Dst (m_ir_fields a0.Kind)) = true
    ·try rw [h8]
     refine sNo rfl (sNo rfl (sNo rfl (sNo rfl (sRun (xPkTB rfl rfl) (sRun (xMvB rfl) (sNo rfl (sNo rfl (sNo rfl (sNo rfl (sRun (xPkTB rfl rfl) (sRun (xMvB rfl) (sNo rfl (sNo rfl ?_)))))))))))))
     refine sNo rfl (sNo rfl (sRun (xPkTB rfl rfl) (sRun (xMvB rfl) (sNo rfl (sNo rfl (sNo rfl (sNo rfl (sRun (xPkTB rfl rfl) (sRun (xMvB rfl) (sNo rfl (sNo rfl (sNo rfl (sNo rfl ?_)))))))))))))
     refine sRun (xPkTB rfl rfl) (sRun (xMvB rfl) (sNo rfl (sNo rfl (sNo rfl (sNo rfl (sRun (xPkTB rfl rfl) (sRun (xMvB rfl) (sNo rfl (sNo rfl (sNo rfl (sNo rfl (sNo rfl (sNo rfl ?_)))))))))))))
     refine sNo rfl (sNo rfl (sNo rfl (sRun (xPkTB rfl rfl) (sRun (xNot rfl) (sRun (xAsB rfl) (sNil ?_))))))
     exact ⟨⟨(congrArg Value.bool (by rw [← hE6]; first | (simp [h8]; done) | (simp only [h8]; done) | grind)), trivial⟩, hL⟩
    ·have h8n : (m_ir_clean_1 (1 : Int) a0.Dst (m_ir_fields a0.Kind)) = false := Bool.eq_false_iff.2 h8
     try rw [h8n]
     refine sGo rfl (sRun (xMvF rfl) (sGo rfl (sRun (xFld (k := 2) Try.underlying66 rfl rfl ti3 (by decide) rfl) (sGo rfl (sRun (xLoad Try.underlying3 rfl rfl ((hL.bk 1 rfl).cell (i := 2) rfl)) (sGo rfl (sCall (eClos cal153 rfl) (sp_m_ir_clean_1 _ (2 : Int) a0.A b3 0 (m_ir_fields a0.Kind) ((hL.bk 0 rfl).cell (i := 0) rfl)) ?_)))))))
     rintro _ w9 ⟨rfl, he9⟩
     replace hL := hL.ext he9
     refine sRun (xPkFB rfl rfl) (sRun (xMvB rfl) ?_)
     by_cases h10 : (m_ir_clean_1 (2 : Int) a0.A (m_ir_fields a0.Kind)) = true
     ·try rw [h10]
      refine sNo rfl (sNo rfl (sNo rfl (sNo rfl (sRun (xPkTB rfl rfl) (sRun (xMvB rfl) (sNo rfl (sNo rfl (sNo rfl (sNo rfl (sRun (xPkTB rfl rfl) (sRun (xMvB rfl) (sNo rfl (sNo rfl ?_)))))))))))))
      refine sNo rfl (sNo rfl (sRun (xPkTB rfl rfl) (sRun (xMvB rfl) (sNo rfl (sNo rfl (sNo rfl (sNo rfl (sRun (xPkTB rfl rfl) (sRun (xMvB rfl) (sNo rfl (sNo rfl (sNo rfl (sNo rfl ?_)))))))))))))
      refine sRun (xPkTB rfl rfl) (sRun (xMvB rfl) (sNo rfl (sNo rfl (sNo rfl (sNo rfl (sNo rfl (sNo rfl (sNo rfl (sNo rfl (sNo rfl (sRun (xPkTB rfl rfl) (sRun (xNot rfl) (sRun (xAsB rfl) ?_)))))))))))))
      refine sNil ?_
      exact ⟨⟨(congrArg Value.bool (by rw [← hE6]; first | (simp [h8n, h10]; done) | (simp only [h8n, h10]; done) | grind)), trivial⟩, hL⟩
     ·have h10n : (m_ir_clean_1 (2 : Int) a0.A (m_ir_fields a0.Kind)) = false := Bool.eq_false_iff.2 h10
      try rw [h10n]
      refine sGo rfl (sRun (xMvF rfl) (sGo rfl (sRun (xFld (k := 3) Try.underlying66 rfl rfl ti3 (by decide) rfl) (sGo rfl (sRun (xLoad Try.underlying3 rfl rfl ((hL.bk 1 rfl).cell (i := 3) rfl)) (sGo rfl (sCall (eClos cal153 rfl) (sp_m_ir_clean_1 _ (4 : Int) a0.B b3 0 (m_ir_fields a0.Kind) ((hL.bk 0 rfl).cell (i := 0) rfl)) ?_)))))))
      rintro _ w11 ⟨rfl, he11⟩
      replace hL := hL.ext he11
      refine sRun (xPkFB rfl rfl) (sRun (xMvB rfl) ?_)
      by_cases h12 : (m_ir_clean_1 (4 : Int) a0.B (m_ir_fields a0.Kind)) = true
      ·try rw [h12]
       refine sNo rfl (sNo rfl (sNo rfl (sNo rfl (sRun (xPkTB rfl rfl) (sRun (xMvB rfl) (sNo rfl (sNo rfl (sNo rfl (sNo rfl (sRun (xPkTB rfl rfl) (sRun (xMvB rfl) (sNo rfl (sNo rfl ?_)))))))))))))
       refine sNo rfl (sNo rfl (sRun (xPkTB rfl rfl) (sRun (xMvB rfl) (sNo rfl (sNo rfl (sNo rfl (sNo rfl (sRun (xPkTB rfl rfl) (sRun (xMvB rfl) (sNo rfl (sNo rfl (sNo rfl (sNo rfl ?_)))))))))))))
       refine sNo rfl (sNo rfl (sNo rfl (sNo rfl (sNo rfl (sRun (xPkTB rfl rfl) (sRun (xNot rfl) (sRun (xAsB rfl) (sNil ?_))))))))
       exact ⟨⟨(congrArg Value.bool (by rw [← hE6]; first | (simp [h8n, h10n, h12]; done) | (simp only [h8n, h10n, h12]; done) | grind)), trivial⟩, hL⟩
      ·have h12n : (m_ir_clean_1 (4 : Int) a0.B (m_ir_fields a0.Kind)) = false := Bool.eq_false_iff.2 h12
       try rw [h12n]
       refine sGo rfl (sRun (xMvF rfl) (sGo rfl (sRun (xFld (k := 4) Try.underlying66 rfl rfl ti3 (by decide) rfl) (sGo rfl (sRun (xLoad Try.underlying3 rfl rfl ((hL.bk 1 rfl).cell (i := 4) rfl)) (sGo rfl (sCall (eClos cal153 rfl) (sp_m_ir_clean_1 _ (8 : Int) a0.N b3 0 (m_ir_fields a0.Kind) ((hL.bk 0 rfl).cell (i := 0) rfl)) ?_)))))))
       rintro _ w13 ⟨rfl, he13⟩
       replace hL := hL.ext he13
       refine sRun (xPkFB rfl rfl) (sRun (xMvB rfl) ?_)
       by_cases h14 : (m_ir_clean_1 (8 : Int) a0.N (m_ir_fields a0.Kind)) = true
       ·try rw [h14]
        refine sNo rfl (sNo rfl (sNo rfl (sNo rfl (sRun (xPkTB rfl rfl) (sRun (xMvB rfl) (sNo rfl (sNo rfl (sNo rfl (sNo rfl (sRun (xPkTB rfl rfl) (sRun (xMvB rfl) (sNo rfl (sNo rfl ?_)))))))))))))
        refine sNo rfl (sNo rfl (sRun (xPkTB rfl rfl) (sRun (xMvB rfl) (sNo rfl (sNo rfl (sNo rfl (sNo rfl (sNo rfl (sNo rfl (sNo rfl (sNo rfl (sNo rfl (sRun (xPkTB rfl rfl) ?_)))))))))))))
        refine sRun (xNot rfl) (sRun (xAsB rfl) (sNil ?_))
        exact ⟨⟨(congrArg Value.bool (by rw [← hE6]; first | (simp [h8n, h10n, h12n, h14]; done) | (simp only [h8n, h10n, h12n, h14]; done) | grind)), trivial⟩, hL⟩
       ·have h14n : (m_ir_clean_1 (8 : Int) a0.N (m_ir_fields a0.Kind)) = false := Bool.eq_false_iff.2 h14
        try rw [h14n]
        refine sGo rfl (sRun (xMvF rfl) (sGo rfl (sRun (xFld (k := 5) Try.underlying66 rfl rfl ti3 (by decide) rfl) (sGo rfl (sRun (xLoad Try.underlying3 rfl rfl ((hL.bk 1 rfl).cell (i := 5) rfl)) (sGo rfl (sCall (eClos cal153 rfl) (sp_m_ir_clean_1 _ (16 : Int) a0.Ctx b3 0 (m_ir_fields a0.Kind) ((hL.bk 0 rfl).cell (i := 0) rfl)) ?_)))))))
        rintro _ w15 ⟨rfl, he15⟩
        replace hL := hL.ext he15
        refine sRun (xPkFB rfl rfl) (sRun (xMvB rfl) ?_)
        by_cases h16 : (m_ir_clean_1 (16 : Int) a0.Ctx (m_ir_fields a0.Kind)) = true
        ·try rw [h16]
         refine sNo rfl (sNo rfl (sNo rfl (sNo rfl (sRun (xPkTB rfl rfl) (sRun (xMvB rfl) (sNo rfl (sNo rfl (sNo rfl (sNo rfl (sRun (xPkTB rfl rfl) (sRun (xMvB rfl) (sNo rfl (sNo rfl ?_)))))))))))))
         refine sNo rfl (sNo rfl (sNo rfl (sNo rfl (sNo rfl (sNo rfl (sNo rfl (sRun (xPkTB rfl rfl) (sRun (xNot rfl) (sRun (xAsB rfl) (sNil ?_))))))))))
         exact ⟨⟨(congrArg Value.bool (by rw [← hE6]; first | (simp [h8n, h10n, h12n, h14n, h16]; done) | (simp only [h8n, h10n, h12n, h14n, h16]; done) | grind)), trivial⟩, hL⟩
        ·have h16n : (m_ir_clean_1 (16 : Int) a0.Ctx (m_ir_fields a0.Kind)) = false := Bool.eq_false_iff.2 h16
         try rw [h16n]
         refine sGo rfl (sRun (xMvF rfl) (sGo rfl (sRun (xFld (k := 6) Try.underlying66 rfl rfl ti3 (by decide) rfl) (sGo rfl (sRun (xLoad Try.underlying3 rfl rfl ((hL.bk 1 rfl).cell (i := 6) rfl)) (sGo rfl (sCall (eClos cal153 rfl) (sp_m_ir_clean_1 _ (32 : Int) a0.Var b3 0 (m_ir_fields a0.Kind) ((hL.bk 0 rfl).cell (i := 0) rfl)) ?_)))))))
         rintro _ w17 ⟨rfl, he17⟩
         replace hL := hL.ext he17
         refine sRun (xPkFB rfl rfl) (sRun (xMvB rfl) ?_)
         by_cases h18 : (m_ir_clean_1 (32 : Int) a0.Var (m_ir_fields a0.Kind)) = true
         ·try rw [h18]
          refine sNo rfl (sNo rfl (sNo rfl (sNo rfl (sRun (xPkTB rfl rfl) (sRun (xMvB rfl) (sNo rfl (sNo rfl (sNo rfl (sNo rfl (sNo rfl (sNo rfl (sNo rfl (sNo rfl ?_)))))))))))))
          refine sNo rfl (sRun (xPkTB rfl rfl) (sRun (xNot rfl) (sRun (xAsB rfl) (sNil ?_))))
          exact ⟨⟨(congrArg Value.bool (by rw [← hE6]; first | (simp [h8n, h10n, h12n, h14n, h16n, h18]; done) | (simp only [h8n, h10n, h12n, h14n, h16n, h18]; done) | grind)), trivial⟩, hL⟩
         ·have h18n : (m_ir_clean_1 (32 : Int) a0.Var (m_ir_fields a0.Kind)) = false := Bool.eq_false_iff.2 h18
          try rw [h18n]
          refine sGo rfl (sRun (xMvF rfl) (sGo rfl (sRun (xFld (k := 7) Try.underlying66 rfl rfl ti3 (by decide) rfl) (sGo rfl (sRun (xLoad Try.underlying3 rfl rfl ((hL.bk 1 rfl).cell (i := 7) rfl)) (sGo rfl (sCall (eClos cal153 rfl) (sp_m_ir_clean_1 _ (32 : Int) a0.Piece b3 0 (m_ir_fields a0.Kind) ((hL.bk 0 rfl).cell (i := 0) rfl)) ?_)))))))
          rintro _ w19 ⟨rfl, he19⟩
          replace hL := hL.ext he19
          refine sRun (xPkFB rfl rfl) (sRun (xMvB rfl) ?_)
          by_cases h20 : (m_ir_clean_1 (32 : Int) a0.Piece (m_ir_fields a0.Kind)) = true
          ·try rw [h20]
           refine sNo rfl (sNo rfl (sNo rfl (sNo rfl (sNo rfl (sNo rfl (sNo rfl (sNo rfl (sNo rfl (sRun (xPkTB rfl rfl) (sRun (xNot rfl) (sRun (xAsB rfl) (sNil ?_))))))))))))
           exact ⟨⟨(congrArg Value.bool (by rw [← hE6]; first | (simp [h8n, h10n, h12n, h14n, h16n, h18n, h20]; done) | (simp only [h8n, h10n, h12n, h14n, h16n, h18n, h20]; done) | grind)), trivial⟩, hL⟩
          ·have h20n : (m_ir_clean_1 (32 : Int) a0.Piece (m_ir_fields a0.Kind)) = false := Bool.eq_false_iff.2 h20
           try rw [h20n]
           refine sGo rfl (sRun (xLoad Try.underlying3 rfl rfl ((hL.bk 0 rfl).cell (i := 0) rfl)) (sGo rfl (sRun (xAndW rfl rfl) (sGo rfl (sRun (xEqlD rfl rfl) (sGo rfl (sRun (xMvB rfl) ?_)))))))
           by_cases h21 : (bwAnd (m_ir_fields a0.Kind) (32 : Int)) = (0 : Int)
           ·try rw [decide_eq_true h21]
            refine sGo rfl (sRun (xFld (k := 8) Try.underlying66 rfl rfl ti64 (by decide) rfl) (sGo rfl (sRun (xLoadS (GSrc.cells a0.Src) Try.underlying64 rfl ti64 rfl rfl ((hL.bk 1 rfl).part rfl)) (sGo rfl (sRun bd121_58 (sGo rfl (sRun (xAgNe3 Try.underlying64 (by kernel_rfl) (by kernel_rfl) (by kernel_rfl) rfl rfl) (sGo rfl (sRun (xPkTB rfl rfl) (sRun (xPkFB rfl rfl) ?_))))))))))
            by_cases h22 : ¬ [a0.Src.Kind, a0.Src.Val, a0.Src.Add] = [(0 : Int), (0 : Int), (0 : Int)]
            ·try rw [decide_eq_true h22]
             refine sRun (xNot rfl) (sRun (xAsB rfl) (sNil ?_))
             exact ⟨⟨(congrArg Value.bool (by rw [← hE6]; first | (simp [h8n, h10n, h12n, h14n, h16n, h18n, h20n, h21, h22]; done) | (simp only [h8n, h10n, h12n, h14n, h16n, h18n, h20n, decide_eq_true h21, decide_eq_true h22]; done) | grind)), trivial⟩, hL⟩
            ·try rw [decide_eq_false h22]
             refine sRun (xNot rfl) (sRun (xAsB rfl) (sNil ?_))
             exact ⟨⟨(congrArg Value.bool (by rw [← hE6]; first | (simp [h8n, h10n, h12n, h14n, h16n, h18n, h20n, h21, h22]; done) | (simp only [h8n, h10n, h12n, h14n, h16n, h18n, h20n, decide_eq_true h21, decide_eq_false h22]; done) | grind)), trivial⟩, hL⟩
           ·try rw [decide_eq_false h21]
            refine sNo rfl (sNo rfl (sNo rfl (sNo rfl (sGo rfl (sRun (xPkFB rfl rfl) (sRun (xPkFB rfl rfl) (sRun (xNot rfl) (sRun (xAsB rfl) (sNil ?_)))))))))
            exact ⟨⟨(congrArg Value.bool (by rw [← hE6]; first | (simp [h8n, h10n, h12n, h14n, h16n, h18n, h20n, h21]; done) | (simp only [h8n, h10n, h12n, h14n, h16n, h18n, h20n, decide_eq_false h21]; done) | grind)), trivial⟩, hL⟩
   ·clear hL
    subst hE6
    rintro f w ⟨hf, hL⟩
    obtain ⟨g, rfl⟩ := has_updL _ _ hf
    clear hf
    refine wRet ?_
    subst hM
    refine res1 (P := Try.prog) (fn := Try.f121) rfl ?_
    exact ⟨rfl, hL.1⟩

def m_ir_scope_has (a0_params : Int) (a0_defined : List (Int × Int)) (a1 : Int) (a2 : Int) : Bool :=
 if (m_ir_within a1 (wr (a0_params - (1 : Int)))) = true then
  true
 else
  if ((mget a0_defined a1).isSome) = true then
   (decide (((mget a0_defined a1).getD (0 : Int)) < a2))
  else
   false
set_option maxHeartbeats 12800000 in
theorem sp_m_ir_scope_has (w0 : World) (a0_params : Int) (a0_definedb : Nat) (a0_defined : List (Int × Int)) (a0_definedh : Mp ekI evI w0 a0_definedb a0_defined) (a1 : Int) (a2 : Int) : Calls Try.prog 154 #[.agg #[.int .i64 a0_params, .map (some a0_definedb)], .int .i64 a1, .int .i64 a2] w0 (Ret fun v w => v = .bool (m_ir_scope_has a0_params a0_defined a1 a2) ∧ Ext w0 w) := by
  obtain ⟨X, hM⟩ : ∃ X, m_ir_scope_has a0_params a0_defined a1 a2 = X := ⟨_, rfl⟩
  rw [hM]
  unfold m_ir_scope_has at hM
  try simp only [er1, er2, er3, er4, er5, er6, er7, er8, er9, er10, er11, er12, er13, er14, er15, er16, er17, List.length_map] at hM
  have hL : Bx w0 w0 [] := Bx.nil
  refine calls_of Try.func154 rfl (Nat.le_of_ble_eq_true rfl) (by kernel_rfl) ?_
  refine wCut [(0, .agg #[.int .i64 a0_params, .map (some a0_definedb)]), (1, .int .i64 a1), (2, .int .i64 a2)] ⟨rfl, rfl, rfl, trivial⟩ fun g => ?_
  refine wSeq (wReg (sTo (aNew (mBox rfl)) ?_))
  rintro _ w1 ⟨b1, rfl, hge1, hB1, he1⟩
  replace hL := hL.new hge1 hB1 he1
  refine sRun (xAsB rfl) (sNil (wSeq (wSeq (wReg (sRun (xMvI rfl) (sRun (xFld0 Try.underlying199 rfl rfl ti3 (by decide) rfl) (sRun (xLoad Try.underlying3 rfl rfl ((hL.bk 0 rfl).cell (i := 0) rfl)) (sRun (xSubW rfl rfl) (sCall (eCall cal73 rfl) (sp_m_ir_within _ a1 (wr (a0_params - (1 : Int)))) ?_)))))))))
  rintro _ w2 ⟨rfl, he2⟩
  replace hL := hL.ext he2
  refine sNil ?_
  by_cases h3 : (m_ir_within a1 (wr (a0_params - (1 : Int)))) = true
  ·try rw [h3]
   rw [if_pos h3] at hM
   refine wIfT rfl (wSeq (wReg (sRun (xAsB rfl) (sNil (wRet ?_)))))
   subst hM
   refine res1 (P := Try.prog) (fn := Try.f154) rfl ?_
   exact ⟨rfl, hL.1⟩
  ·have h3n : (m_ir_within a1 (wr (a0_params - (1 : Int)))) = false := Bool.eq_false_iff.2 h3
   try rw [h3n]
   rw [if_neg h3] at hM
   refine wIfF rfl (wSkip (wSeq (wReg (sRun (xFld (k := 1) Try.underlying199 rfl rfl ti79 (by decide) rfl) (sRun (xLoad Try.underlying79 rfl rfl ((hL.bk 0 rfl).cell (i := 1) rfl)) (sRun (xMvI rfl) (sRun (xLook (ek := ekI) (ev := evI) (l := a0_defined) (k := a1) (z := (0 : Int)) Try.underlying79 (fk_int Try.underlying3) (zv_of ti3) (a0_definedh.ext hL.1) rfl rfl) (sRun xMove (sRun (xExtract rfl rfl) (sRun (xExtract rfl rfl) (sRun (xAsI rfl) (sRun (xAsB rfl) (sNil ?_)))))))))))))
   refine wSeq (wReg (sRun (xMvB rfl) (sRun (xMvB rfl) ?_)))
   by_cases h4 : ((mget a0_defined a1).isSome) = true
   ·try rw [h4]
    rw [if_pos h4] at hM
    refine sGo rfl (sRun (xMvI rfl) (sGo rfl (sRun (xMvI rfl) (sGo rfl (sRun (xLss rfl rfl) (sRun (xPkTB rfl rfl) (sRun (xAsB rfl) (sNil (wRet ?_)))))))))
    subst hM
    refine res1 (P := Try.prog) (fn := Try.f154) rfl ?_
    exact ⟨rfl, hL.1⟩
   ·have h4n : ((mget a0_defined a1).isSome) = false := Bool.eq_false_iff.2 h4
    try rw [h4n]
    rw [if_neg h4] at hM
    refine sNo rfl (sNo rfl (sNo rfl (sRun (xPkFB rfl rfl) (sRun (xAsB rfl) (sNil (wRet ?_))))))
    subst hM
    refine res1 (P := Try.prog) (fn := Try.f154) rfl ?_
    exact ⟨rfl, hL.1⟩

def m_ir_scope_all_L0 (a0_params : Int) (a0_defined : List (Int × Int)) (a1 : Int) (a2 : (List Int)) : List Int → Nat → Lp (Unit) (Bool)
  | [], _ => .go ()
  | x3 :: r3, k3 =>
  if (m_ir_scope_has a0_params a0_defined x3 a1) = true then
   m_ir_scope_all_L0 a0_params a0_defined a1 a2 r3 (k3 + 1)
  else
   .out (false)
def m_ir_scope_all (a0_params : Int) (a0_defined : List (Int × Int)) (a1 : Int) (a2 : (List Int)) : Bool :=
 (m_ir_scope_all_L0 a0_params a0_defined a1 a2 a2 0).el (fun _ =>
  true
   ) (fun o => o)
set_option maxHeartbeats 12800000 in
theorem sp_m_ir_scope_all (w0 : World) (a0_params : Int) (a0_definedb : Nat) (a0_defined : List (Int × Int)) (a0_definedh : Mp ekI evI w0 a0_definedb a0_defined) (a1 : Int) (a2 : (Lst Int)) (h2 : Dat.ok (fun _ => True) w0 a2) : Calls Try.prog 155 #[.agg #[.int .i64 a0_params, .map (some a0_definedb)], .int .i64 a1, .slice a2.a a2.l.length a2.c] w0 (Ret fun v w => v = .bool (m_ir_scope_all a0_params a0_defined a1 a2.l) ∧ Ext w0 w) := by
  obtain ⟨X, hM⟩ : ∃ X, m_ir_scope_all a0_params a0_defined a1 a2.l = X := ⟨_, rfl⟩
  rw [hM]
  unfold m_ir_scope_all at hM
  try simp only [er1, er2, er3, er4, er5, er6, er7, er8, er9, er10, er11, er12, er13, er14, er15, er16, er17, List.length_map] at hM
  have hL : Bx w0 w0 [] := Bx.nil
  refine calls_of Try.func155 rfl (Nat.le_of_ble_eq_true rfl) (by kernel_rfl) ?_
  refine wCut [(0, .agg #[.int .i64 a0_params, .map (some a0_definedb)]), (1, .int .i64 a1), (2, .slice a2.a a2.l.length a2.c)] ⟨rfl, rfl, rfl, trivial⟩ fun g => ?_
  refine wSeq (wReg (sTo (aNew (mBox rfl)) ?_))
  rintro _ w1 ⟨b1, rfl, hge1, hB1, he1⟩
  replace hL := hL.new hge1 hB1 he1
  refine sRun (xAsB rfl) (sNil (wSeq (wSeq (wReg (sRun (xMvS rfl) ?_)))))
  have hl2 : a2.l.length * 8 ≤ 140737488355328 := Lst.bd h2
  refine sRun (xLnL (s := a2) Try.underlying37 rfl) (sRun (xMvI rfl) (sNil ?_))
  obtain ⟨Y3, hY3⟩ : ∃ Y, m_ir_scope_all_L0 a0_params a0_defined a1 a2.l a2.l 0 = Y := ⟨_, rfl⟩
  rw [hY3] at hM
  refine wJ (fun f w => Has f [(1, .int .i64 a1), (3, .pointer (some ⟨b1, 0, none⟩)), (9, .slice a2.a a2.l.length a2.c), (10, .int .i64 ((a2.l.length : Nat) : Int))] ∧ Bx w0 w [.box b1 199 #[.int .i64 a0_params, .map (some a0_definedb)]] ∧ Lp.go () = Y3) ?_ ?_
  ·refine wBlock (wLoopG (fun n f w => ∃ (k3 : Nat), n = a2.l.length - k3 ∧ k3 ≤ a2.l.length ∧ Has f [(11, .int .i64 ((k3 : Nat) : Int)), (1, .int .i64 a1), (3, .pointer (some ⟨b1, 0, none⟩)), (9, .slice a2.a a2.l.length a2.c), (10, .int .i64 ((a2.l.length : Nat) : Int))] ∧ Bx w0 w [.box b1 199 #[.int .i64 a0_params, .map (some a0_definedb)]] ∧ m_ir_scope_all_L0 a0_params a0_defined a1 a2.l (a2.l.drop k3) k3 = Y3) (a2.l.length) ⟨0, rfl, Nat.zero_le _, ⟨rfl, rfl, rfl, rfl, rfl, trivial⟩, hL, hY3⟩ ?_)
   clear hL hY3
   rintro n f w ⟨k3, rfl, hk3, hf, hL, hY3⟩
   obtain ⟨g, rfl⟩ := has_updL _ _ hf
   clear hf
   rcases Nat.lt_or_ge k3 a2.l.length with hk3b | hk3b
   ·obtain ⟨x3, hx3⟩ := get_ex (l := a2.l) hk3b
    rw [drop_id hx3, m_ir_scope_all_L0] at hY3
    try simp only [er1, er2, er3, er4, er5, er6, er7, er8, er9, er10, er11, er12, er13, er14, er15, er16, er17, List.length_map] at hY3
    refine wSeq (wReg (sRun (xLssT rfl rfl (by omega)) (sNil (wSeq (wIfT rfl (wSkip (wSeq (wBlock (wSeq (wReg (sRun (xIdL Try.underlying37 ti3 rfl rfl rfl h2 hx3) (sRun (xLoad Try.underlying3 rfl rfl (((Lst.el h2 hx3).ext hL.1) 0 _ rfl)) (sRun (xAsI rfl) ?_)))))))))))))
    refine sNil (wSeq (wReg (sRun (xLoadS [.int .i64 a0_params, .map (some a0_definedb)] Try.underlying199 rfl ti199 rfl rfl ((hL.bk 0 rfl).part rfl)) (sRun (xMvI rfl) (sRun (xMvI rfl) (sCall (eCall cal154 rfl) (sp_m_ir_scope_has _ a0_params a0_definedb a0_defined (a0_definedh.ext hL.1) x3 a1) ?_))))))
    rintro _ w4 ⟨rfl, he4⟩
    replace hL := hL.ext he4
    by_cases h5 : (m_ir_scope_has a0_params a0_defined x3 a1) = true
    ·try rw [h5]
     rw [if_pos h5] at hY3
     refine sRun (xNot rfl) (sNil (wIfF rfl (wSkip (wReg (sRun (xAdd64 rfl rfl (by omega) (by omega)) (sRun (xMvI rfl) (sNil ?_)))))))
     exact ⟨a2.l.length - (k3 + 1), by omega, k3 + 1, rfl, by omega, ⟨rfl, rfl, rfl, rfl, rfl, trivial⟩, hL, hY3⟩
    ·have h5n : (m_ir_scope_has a0_params a0_defined x3 a1) = false := Bool.eq_false_iff.2 h5
     try rw [h5n]
     rw [if_neg h5] at hY3
     refine sRun (xNot rfl) (sNil (wIfT rfl (wSeq (wReg (sRun (xAsB rfl) (sNil (wRet ?_)))))))
     subst hY3
     rw [Lp.el_out] at hM
     try dsimp only at hM
     subst hM
     refine res1 (P := Try.prog) (fn := Try.f155) rfl ?_
     exact ⟨rfl, hL.1⟩
   ·obtain rfl : k3 = a2.l.length := by omega
    rw [drop_end, m_ir_scope_all_L0] at hY3
    refine wSeq (wReg (sRun (xLssF rfl rfl (by omega)) (sNil (wSeq (wIfF rfl (wExit ?_))))))
    exact ⟨⟨rfl, rfl, rfl, rfl, trivial⟩, hL, hY3⟩
  ·clear hL
   rintro f w ⟨hf, hL, hZ3⟩
   obtain ⟨g, rfl⟩ := has_updL _ _ hf
   clear hf
   subst hZ3
   rw [Lp.el_go] at hM
   try dsimp only at hM
   refine wSeq (wReg (sRun (xAsB rfl) (sNil (wRet ?_))))
   subst hM
   refine res1 (P := Try.prog) (fn := Try.f155) rfl ?_
   exact ⟨rfl, hL.1⟩

def m_ir_absent (a0 : (GEdge List)) : Bool :=
 if a0.Block = (-1 : Int) then
  (decide (((a0.Args.length : Nat) : Int) = (0 : Int)))
 else
  false
set_option maxHeartbeats 12800000 in
theorem sp_m_ir_absent (w0 : World) (a0 : (GEdge Lst)) (h0 : Dat.ok (fun _ => True) w0 a0) : Calls Try.prog 156 #[.agg (GEdge.cells a0).toArray] w0 (Ret fun v w => v = .bool (m_ir_absent (GEdge.er a0)) ∧ Ext w0 w) := by
  obtain ⟨X, hM⟩ : ∃ X, m_ir_absent (GEdge.er a0) = X := ⟨_, rfl⟩
  rw [hM]
  unfold m_ir_absent at hM
  try simp only [er1, er2, er3, er4, er5, er6, er7, er8, er9, er10, er11, er12, er13, er14, er15, er16, er17, List.length_map] at hM
  have hL : Bx w0 w0 [] := Bx.nil
  refine calls_of Try.func156 rfl (Nat.le_of_ble_eq_true rfl) (by kernel_rfl) ?_
  refine wCut [(0, .agg (GEdge.cells a0).toArray)] ⟨rfl, trivial⟩ fun g => ?_
  refine wSeq (wReg (sTo (aNew (mBox rfl)) ?_))
  rintro _ w1 ⟨b1, rfl, hge1, hB1, he1⟩
  replace hL := hL.new hge1 hB1 he1
  refine sRun (xAsB rfl) (sNil (wSeq (wReg (sRun (xFld0 Try.underlying55 rfl rfl ti3 (by decide) rfl) (sRun (xLoad Try.underlying3 rfl rfl ((hL.bk 0 rfl).cell (i := 0) rfl)) (sRun (xEqlD rfl rfl) (sRun (xMvB rfl) ?_)))))))
  by_cases h2 : a0.Block = (-1 : Int)
  ·try rw [decide_eq_true h2]
   rw [if_pos h2] at hM
   refine sGo rfl (sRun (xFld (k := 1) Try.underlying55 rfl rfl ti37 (by decide) rfl) (sGo rfl (sRun (xLoad Try.underlying37 rfl rfl ((hL.bk 0 rfl).cell (i := 1) rfl)) (sGo rfl ?_))))
   have hl3 : a0.Args.l.length * 8 ≤ 140737488355328 := Lst.bd h0
   refine sRun (xLnL (s := a0.Args) Try.underlying37 rfl) (sGo rfl (sRun (xEqlD rfl rfl) (sRun (xPkTB rfl rfl) (sRun (xAsB rfl) (sNil (wRet ?_))))))
   subst hM
   refine res1 (P := Try.prog) (fn := Try.f156) rfl ?_
   exact ⟨rfl, hL.1⟩
  ·try rw [decide_eq_false h2]
   rw [if_neg h2] at hM
   refine sNo rfl (sNo rfl (sNo rfl (sNo rfl (sRun (xPkFB rfl rfl) (sRun (xAsB rfl) (sNil (wRet ?_)))))))
   subst hM
   refine res1 (P := Try.prog) (fn := Try.f156) rfl ?_
   exact ⟨rfl, hL.1⟩

def m_ir_rightEdge (a0 : (GCode List)) (a1 : (GEdge List)) (a2 : Int) : Bool :=
 if a1.Block < (1 : Int) then
  false
 else
  if ((a0.Blocks.length : Nat) : Int) ≤ a1.Block then
   false
  else
   (decide ((if a2 = (3 : Int) then (((a1.Args.length : Nat) : Int) + (1 : Int)) else ((a1.Args.length : Nat) : Int)) = (a0.Blocks[(a1.Block).toNat]?.getD (⟨(0 : Int), [], (⟨(0 : Int), (0 : Int), (0 : Int), [], (⟨(⟨(0 : Int), []⟩ : (GEdge List)), (⟨(0 : Int), []⟩ : (GEdge List))⟩ : (GArr56 List))⟩ : (GTerm List))⟩ : (GBlock List))).Params))
set_option maxHeartbeats 12800000 in
theorem sp_m_ir_rightEdge (w0 : World) (a0 : (GCode Lst)) (h0 : Dat.ok (fun _ => True) w0 a0) (a1 : (GEdge Lst)) (h1 : Dat.ok (fun _ => True) w0 a1) (a2 : Int) : Calls Try.prog 157 #[.agg (GCode.cells a0).toArray, .agg (GEdge.cells a1).toArray, .int .i64 a2] w0 (Ret fun v w => v = .bool (m_ir_rightEdge (GCode.er a0) (GEdge.er a1) a2) ∧ Ext w0 w) := by
  obtain ⟨X, hM⟩ : ∃ X, m_ir_rightEdge (GCode.er a0) (GEdge.er a1) a2 = X := ⟨_, rfl⟩
  rw [hM]
  unfold m_ir_rightEdge at hM
  try simp only [er1, er2, er3, er4, er5, er6, er7, er8, er9, er10, er11, er12, er13, er14, er15, er16, er17, List.length_map] at hM
  have hL : Bx w0 w0 [] := Bx.nil
  refine calls_of Try.func157 rfl (Nat.le_of_ble_eq_true rfl) (by kernel_rfl) ?_
  refine wCut [(0, .agg (GCode.cells a0).toArray), (1, .agg (GEdge.cells a1).toArray), (2, .int .i64 a2)] ⟨rfl, rfl, rfl, trivial⟩ fun g => ?_
  refine wSeq (wReg (sTo (aNew (mBox rfl)) ?_))
  rintro _ w1 ⟨b1, rfl, hge1, hB1, he1⟩
  replace hL := hL.new hge1 hB1 he1
  refine sTo (aNew (mBox rfl)) ?_
  rintro _ w2 ⟨b2, rfl, hge2, hB2, he2⟩
  replace hL := hL.new hge2 hB2 he2
  refine sRun (xAsB rfl) (sNil (wSeq (wSeq (wReg (sRun (xFld0 Try.underlying55 rfl rfl ti3 (by decide) rfl) (sRun (xLoad Try.underlying3 rfl rfl ((hL.bk 0 rfl).cell (i := 0) rfl)) (sRun (xLss rfl rfl) (sRun (xMvB rfl) ?_))))))))
  by_cases h3 : a1.Block < (1 : Int)
  ·try rw [decide_eq_true h3]
   rw [if_pos h3] at hM
   refine sNo rfl (sNo rfl (sNo rfl (sNo rfl (sNo rfl (sNo rfl (sRun (xPkTB rfl rfl) (sNil (wIfT rfl (wSeq (wReg (sRun (xAsB rfl) (sNil (wRet ?_)))))))))))))
   subst hM
   refine res1 (P := Try.prog) (fn := Try.f157) rfl ?_
   exact ⟨rfl, hL.1⟩
  ·try rw [decide_eq_false h3]
   rw [if_neg h3] at hM
   refine sGo rfl (sRun (xFld0 Try.underlying55 rfl rfl ti3 (by decide) rfl) (sGo rfl (sRun (xLoad Try.underlying3 rfl rfl ((hL.bk 0 rfl).cell (i := 0) rfl)) (sGo rfl (sRun (xFld (k := 1) Try.underlying26 rfl rfl ti22 (by decide) rfl) (sGo rfl (sRun (xLoad Try.underlying22 rfl rfl ((hL.bk 1 rfl).cell (i := 1) rfl)) (sGo rfl ?_))))))))
   have hl4 : a0.Blocks.l.length * 144 ≤ 140737488355328 := Lst.bd h0.1
   refine sRun (xLnL (s := a0.Blocks) Try.underlying22 rfl) (sGo rfl (sRun (xGeq rfl rfl) (sRun (xPkFB rfl rfl) (sNil ?_))))
   by_cases h5 : ((a0.Blocks.l.length : Nat) : Int) ≤ a1.Block
   ·try rw [decide_eq_true h5]
    rw [if_pos h5] at hM
    refine wIfT rfl (wSeq (wReg (sRun (xAsB rfl) (sNil (wRet ?_)))))
    subst hM
    refine res1 (P := Try.prog) (fn := Try.f157) rfl ?_
    exact ⟨rfl, hL.1⟩
   ·try rw [decide_eq_false h5]
    rw [if_neg h5] at hM
    refine wIfF rfl (wSkip (wSeq (wReg (sRun (xFld (k := 1) Try.underlying55 rfl rfl ti37 (by decide) rfl) (sRun (xLoad Try.underlying37 rfl rfl ((hL.bk 0 rfl).cell (i := 1) rfl)) ?_)))))
    have hl6 : a1.Args.l.length * 8 ≤ 140737488355328 := Lst.bd h1
    refine sRun (xLnL (s := a1.Args) Try.underlying37 rfl) (sRun (xAsI rfl) (sNil (wSeq (wSeq (wReg (sRun (xMvI rfl) (sRun (xEqlD rfl rfl) (sNil ?_))))))))
    obtain ⟨E7, hE7⟩ : ∃ E, (if a2 = (3 : Int) then (((a1.Args.l.length : Nat) : Int) + (1 : Int)) else ((a1.Args.l.length : Nat) : Int)) = E := ⟨_, rfl⟩
    refine wJ (fun f w => Has f [(3, .pointer (some ⟨b1, 0, none⟩)), (4, .pointer (some ⟨b2, 0, none⟩)), (7, .int .i64 E7)] ∧ Bx w0 w [.box b2 55 (GEdge.cells a1).toArray, .box b1 26 (GCode.cells a0).toArray]) ?_ ?_
    ·by_cases h8 : a2 = (3 : Int)
     ·try rw [decide_eq_true h8]
      refine wIfT rfl (wReg (sRun (xMvI rfl) (sRun (xAdd64 rfl rfl (by omega) (by omega)) (sRun (xAsI rfl) (sNil ?_)))))
      exact ⟨⟨rfl, rfl, (congrArg (Value.int .i64) (by rw [← hE7]; show (((a1.Args.l.length : Nat) : Int) + (1 : Int)) = _; first | (simp [h8]; done) | (simp [h8]; omega))), trivial⟩, hL⟩
     ·try rw [decide_eq_false h8]
      refine wIfF rfl (wSkip ?_)
      exact ⟨⟨rfl, rfl, (congrArg (Value.int .i64) (by rw [← hE7]; show ((a1.Args.l.length : Nat) : Int) = _; first | (simp [h8]; done) | (simp [h8]; omega))), trivial⟩, hL⟩
    ·clear hL
     subst hE7
     rintro f w ⟨hf, hL⟩
     obtain ⟨g, rfl⟩ := has_updL _ _ hf
     clear hf
     refine wSeq (wReg (sRun (xMvI rfl) (sRun (xFld (k := 1) Try.underlying26 rfl rfl ti22 (by decide) rfl) (sRun (xLoad Try.underlying22 rfl rfl ((hL.bk 1 rfl).cell (i := 1) rfl)) (sRun (xFld0 Try.underlying55 rfl rfl ti3 (by decide) rfl) (sRun (xLoad Try.underlying3 rfl rfl ((hL.bk 0 rfl).cell (i := 0) rfl)) ?_))))))
     obtain ⟨x9, hx9⟩ := get_ex (l := a0.Blocks.l) (k := (a1.Block).toNat) (by omega)
     try rw [show (a0.Blocks.l.map GBlock.er)[(a1.Block).toNat]?.getD (⟨(0 : Int), [], (⟨(0 : Int), (0 : Int), (0 : Int), [], (⟨(⟨(0 : Int), []⟩ : (GEdge List)), (⟨(0 : Int), []⟩ : (GEdge List))⟩ : (GArr56 List))⟩ : (GTerm List))⟩ : (GBlock List)) = GBlock.er x9 from getD_map hx9] at hM
     try simp only [er1, er2, er3, er4, er5, er6, er7, er8, er9, er10, er11, er12, er13, er14, er15, er16, er17, List.length_map] at hM
     refine sRun (xIdL Try.underlying22 ti60 rfl rfl (by omega) h0.1 hx9) (sRun (xFld0 Try.underlying60 rfl rfl ti3 (by decide) rfl) (sRun (xLoad Try.underlying3 rfl rfl (((Lst.el h0.1 hx9).ext hL.1) 0 _ rfl)) (sRun (xEqlD rfl rfl) (sRun (xAsB rfl) (sNil (wRet ?_))))))
     subst hM
     refine res1 (P := Try.prog) (fn := Try.f157) rfl ?_
     exact ⟨rfl, hL.1⟩

def m_ir_rightHead (a0 : (GCode List)) : Bool :=
 if (m_ir_within a0.Params (4 : Int)) = true then
  if (0 : Int) < ((a0.Blocks.length : Nat) : Int) then
   (decide ((a0.Blocks[0]?.getD (⟨(0 : Int), [], (⟨(0 : Int), (0 : Int), (0 : Int), [], (⟨(⟨(0 : Int), []⟩ : (GEdge List)), (⟨(0 : Int), []⟩ : (GEdge List))⟩ : (GArr56 List))⟩ : (GTerm List))⟩ : (GBlock List))).Params = a0.Params))
  else
   false
 else
  false
set_option maxHeartbeats 12800000 in
theorem sp_m_ir_rightHead (w0 : World) (a0 : (GCode Lst)) (h0 : Dat.ok (fun _ => True) w0 a0) : Calls Try.prog 70 #[.agg (GCode.cells a0).toArray] w0 (Ret fun v w => v = .bool (m_ir_rightHead (GCode.er a0)) ∧ Ext w0 w) := by
  obtain ⟨X, hM⟩ : ∃ X, m_ir_rightHead (GCode.er a0) = X := ⟨_, rfl⟩
  rw [hM]
  unfold m_ir_rightHead at hM
  try simp only [er1, er2, er3, er4, er5, er6, er7, er8, er9, er10, er11, er12, er13, er14, er15, er16, er17, List.length_map] at hM
  have hL : Bx w0 w0 [] := Bx.nil
  refine calls_of Try.func70 rfl (Nat.le_of_ble_eq_true rfl) (by kernel_rfl) ?_
  refine wCut [(0, .agg (GCode.cells a0).toArray)] ⟨rfl, trivial⟩ fun g => ?_
  refine wSeq (wReg (sTo (aNew (mBox rfl)) ?_))
  rintro _ w1 ⟨b1, rfl, hge1, hB1, he1⟩
  replace hL := hL.new hge1 hB1 he1
  refine sRun (xAsB rfl) (sNil (wSeq ?_))
  replace hL := hL.drew
  refine wDraw (fun wS => Bx w0 wS [.box b1 26 (GCode.cells a0).toArray]) [] (by kernel_rfl) (hTake 0 rfl (by kernel_rfl) rfl (fun wS => (xFld0 Try.underlying26 rfl rfl ti3 (by decide) rfl)) (sl_of hL) (hTakeS 1 rfl (by kernel_rfl) (by kernel_rfl) rfl (fun wS hS => (xLoad Try.underlying3 rfl rfl ((hS.bk 0 rfl).cell (i := 0) rfl))) (sl_of hL) ?_))
  refine hOne 2 (by kernel_rfl) (oCall rfl rfl (eCall cal73 rfl) (sp_m_ir_within _ a0.Params (4 : Int)) ?_)
  rintro _ w2 ⟨rfl, he2⟩
  replace hL := hL.ext he2
  refine ⟨(sl_of hL), ?_⟩
  refine hTake 3 rfl (by kernel_rfl) rfl (fun wS => (xMvB rfl)) (sl_of hL) ?_
  by_cases h3 : (m_ir_within a0.Params (4 : Int)) = true
  ·try rw [h3]
   rw [if_pos h3] at hM
   refine hTake 4 rfl (by kernel_rfl) rfl (fun wS => (xFld (k := 1) Try.underlying26 rfl rfl ti22 (by decide) rfl)) (sl_of hL) (hTakeS 5 rfl (by kernel_rfl) (by kernel_rfl) rfl (fun wS hS => (xLoad Try.underlying22 rfl rfl ((hS.bk 0 rfl).cell (i := 1) rfl))) (sl_of hL) ?_)
   have hl4 : a0.Blocks.l.length * 144 ≤ 140737488355328 := Lst.bd h0.1
   refine hTake 6 rfl (by kernel_rfl) rfl (fun wS => (xLnL (s := a0.Blocks) Try.underlying22 rfl)) (sl_of hL) (hTake 7 rfl (by kernel_rfl) rfl (fun wS => (xGtr rfl rfl)) (sl_of hL) (hTake 8 rfl (by kernel_rfl) rfl (fun wS => (xPkTB rfl rfl)) (sl_of hL) (hTake 9 rfl (by kernel_rfl) rfl (fun wS => (xMvB rfl)) (sl_of hL) ?_)))
   by_cases h5 : (0 : Int) < ((a0.Blocks.l.length : Nat) : Int)
   ·try rw [decide_eq_true h5]
    rw [if_pos h5] at hM
    refine hTake 10 rfl (by kernel_rfl) rfl (fun wS => (xFld (k := 1) Try.underlying26 rfl rfl ti22 (by decide) rfl)) (sl_of hL) (hTakeS 11 rfl (by kernel_rfl) (by kernel_rfl) rfl (fun wS hS => (xLoad Try.underlying22 rfl rfl ((hS.bk 0 rfl).cell (i := 1) rfl))) (sl_of hL) ?_)
    obtain ⟨x6, hx6⟩ := get_ex (l := a0.Blocks.l) (k := 0) (by omega)
    try rw [show (a0.Blocks.l.map GBlock.er)[0]?.getD (⟨(0 : Int), [], (⟨(0 : Int), (0 : Int), (0 : Int), [], (⟨(⟨(0 : Int), []⟩ : (GEdge List)), (⟨(0 : Int), []⟩ : (GEdge List))⟩ : (GArr56 List))⟩ : (GTerm List))⟩ : (GBlock List)) = GBlock.er x6 from getD_map hx6] at hM
    try simp only [er1, er2, er3, er4, er5, er6, er7, er8, er9, er10, er11, er12, er13, er14, er15, er16, er17, List.length_map] at hM
    refine hTake 12 rfl (by kernel_rfl) rfl (fun wS => (xIdL Try.underlying22 ti60 rfl rfl rfl h0.1 hx6)) (sl_of hL) (hTake 13 rfl (by kernel_rfl) rfl (fun wS => (xFld0 Try.underlying60 rfl rfl ti3 (by decide) rfl)) (sl_of hL) (hTakeS 14 rfl (by kernel_rfl) (by kernel_rfl) rfl (fun wS hS => (xLoad Try.underlying3 rfl rfl (((Lst.el h0.1 hx6).ext hS.1) 0 _ rfl))) (sl_of hL) (hTake 15 rfl (by kernel_rfl) rfl (fun wS => (xFld0 Try.underlying26 rfl rfl ti3 (by decide) rfl)) (sl_of hL) (hTakeS 16 rfl (by kernel_rfl) (by kernel_rfl) rfl (fun wS hS => (xLoad Try.underlying3 rfl rfl ((hS.bk 0 rfl).cell (i := 0) rfl))) (sl_of hL) (hTake 17 rfl (by kernel_rfl) rfl (fun wS => (xEqlD rfl rfl)) (sl_of hL) (hTake 18 rfl (by kernel_rfl) rfl (fun wS => (xPkTB rfl rfl)) (sl_of hL) (hTake 19 rfl (by kernel_rfl) rfl (fun wS => (xAsB rfl)) (sl_of hL) (hDone (by kernel_rfl) (wRet ?_)))))))))
    subst hM
    refine res1 (P := Try.prog) (fn := Try.f70) rfl ?_
    exact ⟨rfl, hL.1⟩
   ·try rw [decide_eq_false h5]
    rw [if_neg h5] at hM
    refine hSkip 10 rfl (by kernel_rfl) rfl (sl_of hL) (hSkip 11 rfl (by kernel_rfl) rfl (sl_of hL) (hSkip 12 rfl (by kernel_rfl) rfl (sl_of hL) (hSkip 13 rfl (by kernel_rfl) rfl (sl_of hL) (hSkip 14 rfl (by kernel_rfl) rfl (sl_of hL) (hSkip 15 rfl (by kernel_rfl) rfl (sl_of hL) (hSkip 16 rfl (by kernel_rfl) rfl (sl_of hL) (hSkip 17 rfl (by kernel_rfl) rfl (sl_of hL) (hTake 18 rfl (by kernel_rfl) rfl (fun wS => (xPkFB rfl rfl)) (sl_of hL) (hTake 19 rfl (by kernel_rfl) rfl (fun wS => (xAsB rfl)) (sl_of hL) (hDone (by kernel_rfl) (wRet ?_)))))))))))
    subst hM
    refine res1 (P := Try.prog) (fn := Try.f70) rfl ?_
    exact ⟨rfl, hL.1⟩
  ·have h3n : (m_ir_within a0.Params (4 : Int)) = false := Bool.eq_false_iff.2 h3
   try rw [h3n]
   rw [if_neg h3] at hM
   refine hSkip 4 rfl (by kernel_rfl) rfl (sl_of hL) (hSkip 5 rfl (by kernel_rfl) rfl (sl_of hL) (hSkip 6 rfl (by kernel_rfl) rfl (sl_of hL) (hSkip 7 rfl (by kernel_rfl) rfl (sl_of hL) (hTake 8 rfl (by kernel_rfl) rfl (fun wS => (xPkFB rfl rfl)) (sl_of hL) (hTake 9 rfl (by kernel_rfl) rfl (fun wS => (xMvB rfl)) (sl_of hL) (hSkip 10 rfl (by kernel_rfl) rfl (sl_of hL) (hSkip 11 rfl (by kernel_rfl) rfl (sl_of hL) (hSkip 12 rfl (by kernel_rfl) rfl (sl_of hL) (hSkip 13 rfl (by kernel_rfl) rfl (sl_of hL) (hSkip 14 rfl (by kernel_rfl) rfl (sl_of hL) (hSkip 15 rfl (by kernel_rfl) rfl (sl_of hL) (hSkip 16 rfl (by kernel_rfl) rfl (sl_of hL) (hSkip 17 rfl (by kernel_rfl) rfl (sl_of hL) ?_)))))))))))))
   refine hTake 18 rfl (by kernel_rfl) rfl (fun wS => (xPkFB rfl rfl)) (sl_of hL) (hTake 19 rfl (by kernel_rfl) rfl (fun wS => (xAsB rfl)) (sl_of hL) (hDone (by kernel_rfl) (wRet ?_)))
   subst hM
   refine res1 (P := Try.prog) (fn := Try.f70) rfl ?_
   exact ⟨rfl, hL.1⟩

def m_ir_rightContexts_L0 (a0 : (List GContext)) : List GContext → Nat → Lp (Unit) (Bool)
  | [], _ => .go ()
  | x6 :: r6, k6 =>
  if (m_ir_within x6.Func (7 : Int)) = true then
   if ((decide ((0 : Int) < ((k6 : Nat) : Int))) && ((!(m_ir_within x6.Parent (((k6 : Nat) : Int) - (1 : Int)))) || (!(m_ir_within x6.Stmt (9999 : Int))))) = true then
    .out (false)
   else
    m_ir_rightContexts_L0 a0 r6 (k6 + 1)
  else
   .out (false)
def m_ir_rightContexts (a0 : (List GContext)) : Bool :=
 if ((a0.length : Nat) : Int) = (0 : Int) then
  false
 else
  if (a0[0]?.getD (⟨(0 : Int), (0 : Int), (0 : Int)⟩ : GContext)).Parent ≠ (-1 : Int) then
   false
  else
   if (a0[0]?.getD (⟨(0 : Int), (0 : Int), (0 : Int)⟩ : GContext)).Stmt ≠ (-1 : Int) then
    false
   else
    (m_ir_rightContexts_L0 a0 a0 0).el (fun _ =>
     true
      ) (fun o => o)
set_option maxHeartbeats 12800000 in
theorem sp_m_ir_rightContexts (w0 : World) (a0 : (Lst GContext)) (h0 : Dat.ok (fun _ => True) w0 a0) : Calls Try.prog 71 #[.slice a0.a a0.l.length a0.c] w0 (Ret fun v w => v = .bool (m_ir_rightContexts a0.l) ∧ Ext w0 w) := by
  obtain ⟨X, hM⟩ : ∃ X, m_ir_rightContexts a0.l = X := ⟨_, rfl⟩
  rw [hM]
  unfold m_ir_rightContexts at hM
  try simp only [er1, er2, er3, er4, er5, er6, er7, er8, er9, er10, er11, er12, er13, er14, er15, er16, er17, List.length_map] at hM
  have hL : Bx w0 w0 [] := Bx.nil
  refine calls_of Try.func71 rfl (Nat.le_of_ble_eq_true rfl) (by kernel_rfl) ?_
  refine wCut [(0, .slice a0.a a0.l.length a0.c)] ⟨rfl, trivial⟩ fun g => ?_
  refine wSeq (wReg (sRun (xAsB rfl) (sNil (wSeq (wSeq (wReg (sRun (xMvS rfl) ?_)))))))
  have hl1 : a0.l.length * 24 ≤ 140737488355328 := Lst.bd h0
  refine sRun (xLnL (s := a0) Try.underlying23 rfl) (sRun (xEqlD rfl rfl) (sRun (xMvB rfl) ?_))
  by_cases h2 : ((a0.l.length : Nat) : Int) = (0 : Int)
  ·try rw [decide_eq_true h2]
   rw [if_pos h2] at hM
   refine sNo rfl (sNo rfl (sNo rfl (sNo rfl (sNo rfl (sRun (xPkTB rfl rfl) (sRun (xMvB rfl) (sNo rfl (sNo rfl (sNo rfl (sNo rfl (sNo rfl (sRun (xPkTB rfl rfl) (sNil ?_)))))))))))))
   refine wIfT rfl (wSeq (wReg (sRun (xAsB rfl) (sNil (wRet ?_)))))
   subst hM
   refine res1 (P := Try.prog) (fn := Try.f71) rfl ?_
   exact ⟨rfl, hL.1⟩
  ·try rw [decide_eq_false h2]
   rw [if_neg h2] at hM
   refine sGo rfl (sRun (xMvS rfl) (sGo rfl ?_))
   obtain ⟨x3, hx3⟩ := get_ex (l := a0.l) (k := 0) (by omega)
   try rw [show a0.l[0]?.getD (⟨(0 : Int), (0 : Int), (0 : Int)⟩ : GContext) = x3 from getD_of hx3] at hM
   try simp only [er1, er2, er3, er4, er5, er6, er7, er8, er9, er10, er11, er12, er13, er14, er15, er16, er17, List.length_map] at hM
   refine sRun (xIdL Try.underlying23 ti69 rfl rfl rfl h0 hx3) (sGo rfl (sRun (xFld0 Try.underlying69 rfl rfl ti3 (by decide) rfl) (sGo rfl (sRun (xLoad Try.underlying3 rfl rfl (((Lst.el h0 hx3).ext hL.1) 0 _ rfl)) (sGo rfl (sRun (xNeqD rfl rfl) (sRun (xPkFB rfl rfl) (sRun (xMvB rfl) ?_))))))))
   by_cases h4 : x3.Parent ≠ (-1 : Int)
   ·try rw [decide_eq_true h4]
    rw [if_pos h4] at hM
    refine sNo rfl (sNo rfl (sNo rfl (sNo rfl (sNo rfl (sRun (xPkTB rfl rfl) (sNil (wIfT rfl (wSeq (wReg (sRun (xAsB rfl) (sNil (wRet ?_))))))))))))
    subst hM
    refine res1 (P := Try.prog) (fn := Try.f71) rfl ?_
    exact ⟨rfl, hL.1⟩
   ·try rw [decide_eq_false h4]
    rw [if_neg h4] at hM
    refine sGo rfl (sRun (xMvS rfl) (sGo rfl (sRun (xIdL Try.underlying23 ti69 rfl rfl rfl h0 hx3) (sGo rfl (sRun (xFld (k := 1) Try.underlying69 rfl rfl ti3 (by decide) rfl) (sGo rfl (sRun (xLoad Try.underlying3 rfl rfl (((Lst.el h0 hx3).ext hL.1) 1 _ rfl)) (sGo rfl (sRun (xNeqD rfl rfl) (sRun (xPkFB rfl rfl) (sNil ?_)))))))))))
    by_cases h5 : x3.Stmt ≠ (-1 : Int)
    ·try rw [decide_eq_true h5]
     rw [if_pos h5] at hM
     refine wIfT rfl (wSeq (wReg (sRun (xAsB rfl) (sNil (wRet ?_)))))
     subst hM
     refine res1 (P := Try.prog) (fn := Try.f71) rfl ?_
     exact ⟨rfl, hL.1⟩
    ·try rw [decide_eq_false h5]
     rw [if_neg h5] at hM
     refine wIfF rfl (wSkip (wSeq (wSeq (wReg (sRun (xMvS rfl) (sRun (xLnL (s := a0) Try.underlying23 rfl) (sRun (xMvI rfl) (sNil ?_))))))))
     obtain ⟨Y6, hY6⟩ : ∃ Y, m_ir_rightContexts_L0 a0.l a0.l 0 = Y := ⟨_, rfl⟩
     rw [hY6] at hM
     refine wJ (fun f w => Has f [(22, .slice a0.a a0.l.length a0.c), (23, .int .i64 ((a0.l.length : Nat) : Int))] ∧ Bx w0 w [] ∧ Lp.go () = Y6) ?_ ?_
     ·refine wBlock (wLoopG (fun n f w => ∃ (k6 : Nat), n = a0.l.length - k6 ∧ k6 ≤ a0.l.length ∧ Has f [(24, .int .i64 ((k6 : Nat) : Int)), (22, .slice a0.a a0.l.length a0.c), (23, .int .i64 ((a0.l.length : Nat) : Int))] ∧ Bx w0 w [] ∧ m_ir_rightContexts_L0 a0.l (a0.l.drop k6) k6 = Y6) (a0.l.length) ⟨0, rfl, Nat.zero_le _, ⟨rfl, rfl, rfl, trivial⟩, hL, hY6⟩ ?_)
      clear hL hY6
      rintro n f w ⟨k6, rfl, hk6, hf, hL, hY6⟩
      obtain ⟨g, rfl⟩ := has_updL _ _ hf
      clear hf
      rcases Nat.lt_or_ge k6 a0.l.length with hk6b | hk6b
      ·obtain ⟨x6, hx6⟩ := get_ex (l := a0.l) hk6b
       rw [drop_id hx6, m_ir_rightContexts_L0] at hY6
       try simp only [er1, er2, er3, er4, er5, er6, er7, er8, er9, er10, er11, er12, er13, er14, er15, er16, er17, List.length_map] at hY6
       refine wSeq (wReg (sRun (xLssT rfl rfl (by omega)) (sNil (wSeq (wIfT rfl (wSkip (wSeq (wBlock (wSeq (wReg (sRun (xMvI rfl) (sRun (xIdL Try.underlying23 ti69 rfl rfl rfl h0 hx6) (sRun (xLoadS (GContext.cells x6) Try.underlying69 rfl ti69 rfl rfl ((Lst.el h0 hx6).ext hL.1)) ?_)))))))))))))
       refine sTo (aNew (mAlloc ti69)) ?_
       rintro _ w7 ⟨b7, rfl, hge7, hB7, he7⟩
       replace hL := hL.new hge7 hB7 he7
       refine sRun (xAsI rfl) (sStS ti69 rfl rfl rfl (by simp [Value.oneCell', Dat.cells, GContext.cells]) (hL.bk 0 rfl) rfl ?_)
       intro w8 hB8 hC8
       replace hL : Bx w0 w8 [.box b7 69 (GContext.cells x6).toArray] := hL.wr 0 rfl hC8 hB8
       refine sNil (wSeq (wSeq (wReg (sRun (xFld (k := 2) Try.underlying69 rfl rfl ti3 (by decide) rfl) (sRun (xLoad Try.underlying3 rfl rfl ((hL.bk 0 rfl).cell (i := 2) rfl)) (sCall (eCall cal73 rfl) (sp_m_ir_within _ x6.Func (7 : Int)) ?_))))))
       rintro _ w9 ⟨rfl, he9⟩
       replace hL := hL.ext he9
       by_cases h10 : (m_ir_within x6.Func (7 : Int)) = true
       ·try rw [h10]
        rw [if_pos h10] at hY6
        refine sRun (xNot rfl) (sNil (wIfF rfl (wSkip (wSeq ?_))))
        obtain ⟨E11, hE11⟩ : ∃ E, ((decide ((0 : Int) < ((k6 : Nat) : Int))) && ((!(m_ir_within x6.Parent (((k6 : Nat) : Int) - (1 : Int)))) || (!(m_ir_within x6.Stmt (9999 : Int))))) = E := ⟨_, rfl⟩
        refine wJ (fun f w => Has f [(22, .slice a0.a a0.l.length a0.c), (23, .int .i64 ((a0.l.length : Nat) : Int)), (24, .int .i64 ((k6 : Nat) : Int)), (48, .bool E11)] ∧ Bx w0 w [.box b7 69 (GContext.cells x6).toArray]) ?_ ?_
        ·refine wReg (sRun (xMvI rfl) (sRun (xGtr rfl rfl) (sRun (xMvB rfl) ?_)))
         by_cases h12 : (0 : Int) < ((k6 : Nat) : Int)
         ·try rw [decide_eq_true h12]
          refine sGo rfl (sRun (xFld0 Try.underlying69 rfl rfl ti3 (by decide) rfl) (sGo rfl (sRun (xLoad Try.underlying3 rfl rfl ((hL.bk 0 rfl).cell (i := 0) rfl)) (sGo rfl (sRun (xMvI rfl) (sGo rfl (sRun (xSub64 rfl rfl (by omega) (by omega)) (sGo rfl (sCall (eCall cal73 rfl) (sp_m_ir_within _ x6.Parent (((k6 : Nat) : Int) - (1 : Int))) ?_)))))))))
          rintro _ w13 ⟨rfl, he13⟩
          replace hL := hL.ext he13
          by_cases h14 : (m_ir_within x6.Parent (((k6 : Nat) : Int) - (1 : Int))) = true
          ·try rw [h14]
           refine sGo rfl (sRun (xNot rfl) (sGo rfl (sRun (xMvB rfl) (sGo rfl (sRun (xFld (k := 1) Try.underlying69 rfl rfl ti3 (by decide) rfl) (sGo rfl (sRun (xLoad Try.underlying3 rfl rfl ((hL.bk 0 rfl).cell (i := 1) rfl)) (sGo rfl (sCall (eCall cal73 rfl) (sp_m_ir_within _ x6.Stmt (9999 : Int)) ?_)))))))))
           rintro _ w15 ⟨rfl, he15⟩
           replace hL := hL.ext he15
           by_cases h16 : (m_ir_within x6.Stmt (9999 : Int)) = true
           ·try rw [h16]
            refine sGo rfl (sRun (xNot rfl) (sGo rfl (sRun (xPkFB rfl rfl) (sRun (xPkTB rfl rfl) (sNil ?_)))))
            exact ⟨⟨rfl, rfl, rfl, (congrArg Value.bool (by rw [← hE11]; first | (simp [h12, h14, h16]; done) | (simp only [decide_eq_true h12, h14, h16]; done) | grind)), trivial⟩, hL⟩
           ·have h16n : (m_ir_within x6.Stmt (9999 : Int)) = false := Bool.eq_false_iff.2 h16
            try rw [h16n]
            refine sGo rfl (sRun (xNot rfl) (sGo rfl (sRun (xPkFB rfl rfl) (sRun (xPkTB rfl rfl) (sNil ?_)))))
            exact ⟨⟨rfl, rfl, rfl, (congrArg Value.bool (by rw [← hE11]; first | (simp [h12, h14, h16n]; done) | (simp only [decide_eq_true h12, h14, h16n]; done) | grind)), trivial⟩, hL⟩
          ·have h14n : (m_ir_within x6.Parent (((k6 : Nat) : Int) - (1 : Int))) = false := Bool.eq_false_iff.2 h14
           try rw [h14n]
           refine sGo rfl (sRun (xNot rfl) (sGo rfl (sRun (xMvB rfl) (sNo rfl (sNo rfl (sNo rfl (sNo rfl (sGo rfl (sRun (xPkTB rfl rfl) (sRun (xPkTB rfl rfl) (sNil ?_)))))))))))
           exact ⟨⟨rfl, rfl, rfl, (congrArg Value.bool (by rw [← hE11]; first | (simp [h12, h14n]; done) | (simp only [decide_eq_true h12, h14n]; done) | grind)), trivial⟩, hL⟩
         ·try rw [decide_eq_false h12]
          refine sNo rfl (sNo rfl (sNo rfl (sNo rfl (sNo rfl (sNo rfl (sNo rfl (sNo rfl (sNo rfl (sNo rfl (sNo rfl (sNo rfl (sRun (xPkFB rfl rfl) (sNil ?_)))))))))))))
          exact ⟨⟨rfl, rfl, rfl, (congrArg Value.bool (by rw [← hE11]; first | (simp [h12]; done) | (simp only [decide_eq_false h12]; done) | grind)), trivial⟩, hL⟩
        ·clear hL
         subst hE11
         rintro f w ⟨hf, hL⟩
         obtain ⟨g, rfl⟩ := has_updL _ _ hf
         clear hf
         by_cases h17 : ((decide ((0 : Int) < ((k6 : Nat) : Int))) && ((!(m_ir_within x6.Parent (((k6 : Nat) : Int) - (1 : Int)))) || (!(m_ir_within x6.Stmt (9999 : Int))))) = true
         ·try rw [h17]
          rw [if_pos h17] at hY6
          have h18 : (0 : Int) < ((k6 : Nat) : Int) := Decidable.byContradiction fun hq => by rw [decide_eq_false hq] at h17; simp at h17
          refine wIfT rfl (wSeq (wReg (sRun (xAsB rfl) (sNil (wRet ?_)))))
          subst hY6
          rw [Lp.el_out] at hM
          try dsimp only at hM
          subst hM
          refine res1 (P := Try.prog) (fn := Try.f71) rfl ?_
          exact ⟨rfl, hL.1⟩
         ·have h17n : ((decide ((0 : Int) < ((k6 : Nat) : Int))) && ((!(m_ir_within x6.Parent (((k6 : Nat) : Int) - (1 : Int)))) || (!(m_ir_within x6.Stmt (9999 : Int))))) = false := Bool.eq_false_iff.2 h17
          try rw [h17n]
          rw [if_neg h17] at hY6
          refine wIfF rfl (wSkip (wReg (sRun (xAdd64 rfl rfl (by omega) (by omega)) (sRun (xMvI rfl) (sNil ?_)))))
          exact ⟨a0.l.length - (k6 + 1), by omega, k6 + 1, rfl, by omega, ⟨rfl, rfl, rfl, trivial⟩, hL.tl, hY6⟩
       ·have h10n : (m_ir_within x6.Func (7 : Int)) = false := Bool.eq_false_iff.2 h10
        try rw [h10n]
        rw [if_neg h10] at hY6
        refine sRun (xNot rfl) (sNil (wIfT rfl (wSeq (wReg (sRun (xAsB rfl) (sNil (wRet ?_)))))))
        subst hY6
        rw [Lp.el_out] at hM
        try dsimp only at hM
        subst hM
        refine res1 (P := Try.prog) (fn := Try.f71) rfl ?_
        exact ⟨rfl, hL.1⟩
      ·obtain rfl : k6 = a0.l.length := by omega
       rw [drop_end, m_ir_rightContexts_L0] at hY6
       refine wSeq (wReg (sRun (xLssF rfl rfl (by omega)) (sNil (wSeq (wIfF rfl (wExit ?_))))))
       exact ⟨⟨rfl, rfl, trivial⟩, hL, hY6⟩
     ·clear hL
      rintro f w ⟨hf, hL, hZ6⟩
      obtain ⟨g, rfl⟩ := has_updL _ _ hf
      clear hf
      subst hZ6
      rw [Lp.el_go] at hM
      try dsimp only at hM
      refine wSeq (wReg (sRun (xAsB rfl) (sNil (wRet ?_))))
      subst hM
      refine res1 (P := Try.prog) (fn := Try.f71) rfl ?_
      exact ⟨rfl, hL.1⟩

def m_ir_rightObjects_L0 (a0 : (GCode List)) : List GObject → Nat → (List ((Int × Int × Int) × Bool)) → Lp (List ((Int × Int × Int) × Bool)) (Bool)
  | [], _, s4_0 => .go s4_0
  | x4 :: r4, k4, s4_0 =>
  if (((((!(m_ir_within x4.Ctx (((a0.Contexts.length : Nat) : Int) - (1 : Int)))) || (!(m_ir_within x4.Var (23 : Int)))) || (decide (x4.Words < (1 : Int)))) || (decide ((8 : Int) < x4.Words))) || ((mget s4_0 (x4.Ctx, x4.Var, (0 : Int))).getD false)) = true then
   .out (false)
  else
   m_ir_rightObjects_L0 a0 r4 (k4 + 1) (mput s4_0 (x4.Ctx, x4.Var, (0 : Int)) true)
def m_ir_rightObjects (a0 : (GCode List)) : Bool :=
 (m_ir_rightObjects_L0 a0 a0.Objects 0 ([] : List ((Int × Int × Int) × Bool))).el (fun u4 =>
  true
   ) (fun o => o)
theorem bd72_19 {ρ : Operand → Value} {w : World} {d : Option Nat} {ty : TypeId} {pos : String} {af : Array Edge} {g : Option (Nat × Bool)} {x0 : Int} {x1 : Int} {o0 : Operand} {o1 : Operand} (h0 : ρ o0 = .int .i64 x0) (h1 : ρ o1 = .int .i64 x1) : Yl Try.prog ρ (.build 197 #[(0, o0), (1, o1)]) d ty pos af g w (.agg #[.int .i64 x0, .int .i64 x1, .int .i64 0]) := by
  have e : (Instr.build 197 #[(0, .int .i64 x0), (1, .int .i64 x1)]).run Try.prog w = .ok (.agg #[.int .i64 x0, .int .i64 x1, .int .i64 0]) w := by kernel_rfl
  simp [Yl, execOp, h0, h1, e]
set_option maxHeartbeats 12800000 in
theorem sp_m_ir_rightObjects (w0 : World) (a0 : (GCode Lst)) (h0 : Dat.ok (fun _ => True) w0 a0) : Calls Try.prog 72 #[.agg (GCode.cells a0).toArray] w0 (Ret fun v w => v = .bool (m_ir_rightObjects (GCode.er a0)) ∧ Ext w0 w) := by
  obtain ⟨X, hM⟩ : ∃ X, m_ir_rightObjects (GCode.er a0) = X := ⟨_, rfl⟩
  rw [hM]
  unfold m_ir_rightObjects at hM
  try simp only [er1, er2, er3, er4, er5, er6, er7, er8, er9, er10, er11, er12, er13, er14, er15, er16, er17, List.length_map] at hM
  have hL : Bx w0 w0 [] := Bx.nil
  refine calls_of Try.func72 rfl (Nat.le_of_ble_eq_true rfl) (by kernel_rfl) ?_
  refine wCut [(0, .agg (GCode.cells a0).toArray)] ⟨rfl, trivial⟩ fun g => ?_
  refine wSeq (wReg (sTo (aNew (mBox rfl)) ?_))
  rintro _ w1 ⟨b1, rfl, hge1, hB1, he1⟩
  replace hL := hL.new hge1 hB1 he1
  refine sRun (xAsB rfl) (sNil (wSeq (wReg (sTo (aMap (κ := (Int × Int × Int)) (ν := Bool) ek3 evB Try.underlying195) ?_))))
  rintro _ w2 ⟨b2, rfl, hge2, hB2, he2⟩
  replace hL := hL.mk (κ := (Int × Int × Int)) (ν := Bool) ek3 evB hge2 he2 hB2
  refine sRun (xAsM rfl) (sNil (wSeq (wSeq (wReg (sRun (xFld (k := 3) Try.underlying26 rfl rfl ti24 (by decide) rfl) (sRun (xLoad Try.underlying24 rfl rfl ((hL.bk 1 rfl).cell (i := 3) rfl)) ?_))))))
  have hl3 : a0.Objects.l.length * 24 ≤ 140737488355328 := Lst.bd h0.2.2
  refine sRun (xLnL (s := a0.Objects) Try.underlying24 rfl) (sRun (xMvI rfl) (sNil ?_))
  obtain ⟨Y4, hY4⟩ : ∃ Y, m_ir_rightObjects_L0 (GCode.er a0) a0.Objects.l 0 ([] : List ((Int × Int × Int) × Bool)) = Y := ⟨_, rfl⟩
  rw [hY4] at hM
  refine wJ (fun f w => ∃ (s4_0 : List ((Int × Int × Int) × Bool)), Has f [(1, .pointer (some ⟨b1, 0, none⟩)), (3, .map (some b2)), (9, .slice a0.Objects.a a0.Objects.l.length a0.Objects.c), (10, .int .i64 ((a0.Objects.l.length : Nat) : Int))] ∧ Bx w0 w [.map ek3 evB b2 s4_0, .box b1 26 (GCode.cells a0).toArray] ∧ Lp.go s4_0 = Y4) ?_ ?_
  ·refine wBlock (wLoopG (fun n f w => ∃ (k4 : Nat) (s4_0 : List ((Int × Int × Int) × Bool)), n = a0.Objects.l.length - k4 ∧ k4 ≤ a0.Objects.l.length ∧ Has f [(11, .int .i64 ((k4 : Nat) : Int)), (1, .pointer (some ⟨b1, 0, none⟩)), (3, .map (some b2)), (9, .slice a0.Objects.a a0.Objects.l.length a0.Objects.c), (10, .int .i64 ((a0.Objects.l.length : Nat) : Int))] ∧ Bx w0 w [.map ek3 evB b2 s4_0, .box b1 26 (GCode.cells a0).toArray] ∧ m_ir_rightObjects_L0 (GCode.er a0) (a0.Objects.l.drop k4) k4 s4_0 = Y4) (a0.Objects.l.length) ⟨0, ([] : List ((Int × Int × Int) × Bool)), rfl, Nat.zero_le _, ⟨rfl, rfl, rfl, rfl, rfl, trivial⟩, hL, hY4⟩ ?_)
   clear hL hY4
   rintro n f w ⟨k4, s4_0, rfl, hk4, hf, hL, hY4⟩
   obtain ⟨g, rfl⟩ := has_updL _ _ hf
   clear hf
   rcases Nat.lt_or_ge k4 a0.Objects.l.length with hk4b | hk4b
   ·obtain ⟨x4, hx4⟩ := get_ex (l := a0.Objects.l) hk4b
    rw [drop_id hx4, m_ir_rightObjects_L0] at hY4
    try simp only [er1, er2, er3, er4, er5, er6, er7, er8, er9, er10, er11, er12, er13, er14, er15, er16, er17, List.length_map] at hY4
    refine wSeq (wReg (sRun (xLssT rfl rfl (by omega)) (sNil (wSeq (wIfT rfl (wSkip (wSeq (wBlock (wSeq (wReg (sRun (xIdL Try.underlying24 ti72 rfl rfl rfl h0.2.2 hx4) (sRun (xLoadS (GObject.cells x4) Try.underlying72 rfl ti72 rfl rfl ((Lst.el h0.2.2 hx4).ext hL.1)) (sTo (aNew (mAlloc ti72)) ?_)))))))))))))
    rintro _ w6 ⟨b6, rfl, hge6, hB6, he6⟩
    replace hL := hL.new hge6 hB6 he6
    refine sStS ti72 rfl rfl rfl (by simp [Value.oneCell', Dat.cells, GObject.cells]) (hL.bk 0 rfl) rfl ?_
    intro w7 hB7 hC7
    replace hL : Bx w0 w7 [.box b6 72 (GObject.cells x4).toArray, .map ek3 evB b2 s4_0, .box b1 26 (GCode.cells a0).toArray] := hL.wr 0 rfl hC7 hB7
    refine sNil (wSeq (wReg (sRun (xFld0 Try.underlying72 rfl rfl ti3 (by decide) rfl) (sRun (xLoad Try.underlying3 rfl rfl ((hL.bk 0 rfl).cell (i := 0) rfl)) (sRun (xFld (k := 1) Try.underlying72 rfl rfl ti3 (by decide) rfl) (sRun (xLoad Try.underlying3 rfl rfl ((hL.bk 0 rfl).cell (i := 1) rfl)) (sRun (bd72_19 rfl rfl) (sTo (aNew (mAlloc ti197)) ?_))))))))
    rintro _ w8 ⟨b8, rfl, hge8, hB8, he8⟩
    replace hL := hL.new hge8 hB8 he8
    refine sStS ti197 rfl rfl rfl (by simp [Value.oneCell']) (hL.bk 0 rfl) rfl ?_
    intro w9 hB9 hC9
    replace hL : Bx w0 w9 [.box b8 197 #[.int .i64 x4.Ctx, .int .i64 x4.Var, .int .i64 (0 : Int)], .box b6 72 (GObject.cells x4).toArray, .map ek3 evB b2 s4_0, .box b1 26 (GCode.cells a0).toArray] := hL.wr 0 rfl hC9 hB9
    refine sNil (wSeq (wSeq ?_))
    obtain ⟨E10, hE10⟩ : ∃ E, (((((!(m_ir_within x4.Ctx (((a0.Contexts.l.length : Nat) : Int) - (1 : Int)))) || (!(m_ir_within x4.Var (23 : Int)))) || (decide (x4.Words < (1 : Int)))) || (decide ((8 : Int) < x4.Words))) || ((mget s4_0 (x4.Ctx, x4.Var, (0 : Int))).getD false)) = E := ⟨_, rfl⟩
    refine wJ (fun f w => Has f [(1, .pointer (some ⟨b1, 0, none⟩)), (3, .map (some b2)), (6, .pointer (some ⟨b8, 0, none⟩)), (9, .slice a0.Objects.a a0.Objects.l.length a0.Objects.c), (10, .int .i64 ((a0.Objects.l.length : Nat) : Int)), (11, .int .i64 ((k4 : Nat) : Int)), (48, .bool E10)] ∧ Bx w0 w [.box b8 197 #[.int .i64 x4.Ctx, .int .i64 x4.Var, .int .i64 (0 : Int)], .box b6 72 (GObject.cells x4).toArray, .map ek3 evB b2 s4_0, .box b1 26 (GCode.cells a0).toArray]) ?_ ?_
    ·refine wReg (sRun (xFld0 Try.underlying72 rfl rfl ti3 (by decide) rfl) (sRun (xLoad Try.underlying3 rfl rfl ((hL.bk 1 rfl).cell (i := 0) rfl)) (sRun (xFld (k := 2) Try.underlying26 rfl rfl ti23 (by decide) rfl) (sRun (xLoad Try.underlying23 rfl rfl ((hL.bk 3 rfl).cell (i := 2) rfl)) ?_))))
     have hl11 : a0.Contexts.l.length * 24 ≤ 140737488355328 := Lst.bd h0.2.1
     refine sRun (xLnL (s := a0.Contexts) Try.underlying23 rfl) (sRun (xSub64 rfl rfl (by omega) (by omega)) (sCall (eCall cal73 rfl) (sp_m_ir_within _ x4.Ctx (((a0.Contexts.l.length : Nat) : Int) - (1 : Int))) ?_))
     rintro _ w12 ⟨rfl, he12⟩
     replace hL := hL.ext he12
     by_cases h13 : (m_ir_within x4.Ctx (((a0.Contexts.l.length : Nat) : Int) - (1 : Int))) = true
     ·try rw [h13]
      refine sRun (xNot rfl) (sRun (xMvB rfl) (sGo rfl (sRun (xFld (k := 1) Try.underlying72 rfl rfl ti3 (by decide) rfl) (sGo rfl (sRun (xLoad Try.underlying3 rfl rfl ((hL.bk 1 rfl).cell (i := 1) rfl)) (sGo rfl (sCall (eCall cal73 rfl) (sp_m_ir_within _ x4.Var (23 : Int)) ?_)))))))
      rintro _ w14 ⟨rfl, he14⟩
      replace hL := hL.ext he14
      by_cases h15 : (m_ir_within x4.Var (23 : Int)) = true
      ·try rw [h15]
       refine sGo rfl (sRun (xNot rfl) (sRun (xPkFB rfl rfl) (sRun (xMvB rfl) (sGo rfl (sRun (xFld (k := 2) Try.underlying72 rfl rfl ti3 (by decide) rfl) (sGo rfl (sRun (xLoad Try.underlying3 rfl rfl ((hL.bk 1 rfl).cell (i := 2) rfl)) (sGo rfl (sRun (xLss rfl rfl) (sRun (xPkFB rfl rfl) (sRun (xMvB rfl) ?_)))))))))))
       by_cases h16 : x4.Words < (1 : Int)
       ·try rw [decide_eq_true h16]
        refine sNo rfl (sNo rfl (sNo rfl (sRun (xPkTB rfl rfl) (sRun (xMvB rfl) (sNo rfl (sNo rfl (sNo rfl (sRun (xPkTB rfl rfl) (sNil ?_)))))))))
        exact ⟨⟨rfl, rfl, rfl, rfl, rfl, rfl, (congrArg Value.bool (by rw [← hE10]; first | (simp [h13, h15, h16]; done) | (simp only [h13, h15, decide_eq_true h16]; done) | grind)), trivial⟩, hL⟩
       ·try rw [decide_eq_false h16]
        refine sGo rfl (sRun (xFld (k := 2) Try.underlying72 rfl rfl ti3 (by decide) rfl) (sGo rfl (sRun (xLoad Try.underlying3 rfl rfl ((hL.bk 1 rfl).cell (i := 2) rfl)) (sGo rfl (sRun (xGtr rfl rfl) (sRun (xPkFB rfl rfl) (sRun (xMvB rfl) ?_)))))))
        by_cases h17 : (8 : Int) < x4.Words
        ·try rw [decide_eq_true h17]
         refine sNo rfl (sNo rfl (sNo rfl (sRun (xPkTB rfl rfl) (sNil ?_))))
         exact ⟨⟨rfl, rfl, rfl, rfl, rfl, rfl, (congrArg Value.bool (by rw [← hE10]; first | (simp [h13, h15, h16, h17]; done) | (simp only [h13, h15, decide_eq_false h16, decide_eq_true h17]; done) | grind)), trivial⟩, hL⟩
        ·try rw [decide_eq_false h17]
         refine sGo rfl (sRun (xMvM rfl) (sGo rfl (sRun (xLoadS [.int .i64 x4.Ctx, .int .i64 x4.Var, .int .i64 (0 : Int)] Try.underlying197 rfl ti197 rfl rfl ((hL.bk 0 rfl).part rfl)) (sGo rfl (sRun (xLook1 (ek := ek3) (ev := evB) (l := s4_0) (k := (x4.Ctx, x4.Var, (0 : Int))) (z := false) Try.underlying195 (fk_3 Try.underlying197 (by kernel_rfl) (by kernel_rfl)) (zv_of ti4) (hL.mp 2 rfl) rfl rfl) (sRun (xPkFB rfl rfl) (sNil ?_)))))))
         exact ⟨⟨rfl, rfl, rfl, rfl, rfl, rfl, (congrArg Value.bool (by rw [← hE10]; first | (simp [h13, h15, h16, h17]; done) | (simp only [h13, h15, decide_eq_false h16, decide_eq_false h17]; done) | grind)), trivial⟩, hL⟩
      ·have h15n : (m_ir_within x4.Var (23 : Int)) = false := Bool.eq_false_iff.2 h15
       try rw [h15n]
       refine sGo rfl (sRun (xNot rfl) (sRun (xPkFB rfl rfl) (sRun (xMvB rfl) (sNo rfl (sNo rfl (sNo rfl (sRun (xPkTB rfl rfl) (sRun (xMvB rfl) (sNo rfl (sNo rfl (sNo rfl (sRun (xPkTB rfl rfl) (sRun (xMvB rfl) ?_)))))))))))))
       refine sNo rfl (sNo rfl (sNo rfl (sRun (xPkTB rfl rfl) (sNil ?_))))
       exact ⟨⟨rfl, rfl, rfl, rfl, rfl, rfl, (congrArg Value.bool (by rw [← hE10]; first | (simp [h13, h15n]; done) | (simp only [h13, h15n]; done) | grind)), trivial⟩, hL⟩
     ·have h13n : (m_ir_within x4.Ctx (((a0.Contexts.l.length : Nat) : Int) - (1 : Int))) = false := Bool.eq_false_iff.2 h13
      try rw [h13n]
      refine sRun (xNot rfl) (sRun (xMvB rfl) (sNo rfl (sNo rfl (sNo rfl (sNo rfl (sRun (xPkTB rfl rfl) (sRun (xMvB rfl) (sNo rfl (sNo rfl (sNo rfl (sRun (xPkTB rfl rfl) (sRun (xMvB rfl) (sNo rfl ?_)))))))))))))
      refine sNo rfl (sNo rfl (sRun (xPkTB rfl rfl) (sRun (xMvB rfl) (sNo rfl (sNo rfl (sNo rfl (sRun (xPkTB rfl rfl) (sNil ?_))))))))
      exact ⟨⟨rfl, rfl, rfl, rfl, rfl, rfl, (congrArg Value.bool (by rw [← hE10]; first | (simp [h13n]; done) | (simp only [h13n]; done) | grind)), trivial⟩, hL⟩
    ·clear hL
     subst hE10
     rintro f w ⟨hf, hL⟩
     obtain ⟨g, rfl⟩ := has_updL _ _ hf
     clear hf
     by_cases h18 : (((((!(m_ir_within x4.Ctx (((a0.Contexts.l.length : Nat) : Int) - (1 : Int)))) || (!(m_ir_within x4.Var (23 : Int)))) || (decide (x4.Words < (1 : Int)))) || (decide ((8 : Int) < x4.Words))) || ((mget s4_0 (x4.Ctx, x4.Var, (0 : Int))).getD false)) = true
     ·try rw [h18]
      rw [if_pos h18] at hY4
      refine wIfT rfl (wSeq (wReg (sRun (xAsB rfl) (sNil (wRet ?_)))))
      subst hY4
      rw [Lp.el_out] at hM
      try dsimp only at hM
      subst hM
      refine res1 (P := Try.prog) (fn := Try.f72) rfl ?_
      exact ⟨rfl, hL.1⟩
     ·have h18n : (((((!(m_ir_within x4.Ctx (((a0.Contexts.l.length : Nat) : Int) - (1 : Int)))) || (!(m_ir_within x4.Var (23 : Int)))) || (decide (x4.Words < (1 : Int)))) || (decide ((8 : Int) < x4.Words))) || ((mget s4_0 (x4.Ctx, x4.Var, (0 : Int))).getD false)) = false := Bool.eq_false_iff.2 h18
      try rw [h18n]
      rw [if_neg h18] at hY4
      have h19 : ¬ (x4.Words < (1 : Int)) := fun hq => by rw [decide_eq_true hq] at h18; simp at h18
      have h20 : ¬ ((8 : Int) < x4.Words) := fun hq => by rw [decide_eq_true hq] at h18; simp at h18
      refine wIfF rfl (wSkip (wReg (sRun (xMvM rfl) (sRun (xLoadS [.int .i64 x4.Ctx, .int .i64 x4.Var, .int .i64 (0 : Int)] Try.underlying197 rfl ti197 rfl rfl ((hL.bk 0 rfl).part rfl)) (sUpd (ek := ek3) (ev' := evB) (l := s4_0) (k := (x4.Ctx, x4.Var, (0 : Int))) (u := true) Try.underlying195 (fk_3 Try.underlying197 (by kernel_rfl) (by kernel_rfl)) (hL.mp 2 rfl) rfl rfl rfl ?_)))))
      intro w21 hB21 hC21
      replace hL : Bx w0 w21 [.box b8 197 #[.int .i64 x4.Ctx, .int .i64 x4.Var, .int .i64 (0 : Int)], .box b6 72 (GObject.cells x4).toArray, .map ek3 evB b2 (mput s4_0 (x4.Ctx, x4.Var, (0 : Int)) true), .box b1 26 (GCode.cells a0).toArray] := hL.upd 2 rfl hC21 hB21
      refine sNil (wReg (sRun (xAdd64 rfl rfl (by omega) (by omega)) (sRun (xMvI rfl) (sNil ?_))))
      exact ⟨a0.Objects.l.length - (k4 + 1), by omega, k4 + 1, (mput s4_0 (x4.Ctx, x4.Var, (0 : Int)) true), rfl, by omega, ⟨rfl, rfl, rfl, rfl, rfl, trivial⟩, hL.tl.tl, hY4⟩
   ·obtain rfl : k4 = a0.Objects.l.length := by omega
    rw [drop_end, m_ir_rightObjects_L0] at hY4
    refine wSeq (wReg (sRun (xLssF rfl rfl (by omega)) (sNil (wSeq (wIfF rfl (wExit ?_))))))
    exact ⟨s4_0, ⟨rfl, rfl, rfl, rfl, trivial⟩, hL, hY4⟩
  ·clear hL
   rintro f w ⟨s4_0, hf, hL, hZ4⟩
   obtain ⟨g, rfl⟩ := has_updL _ _ hf
   clear hf
   subst hZ4
   rw [Lp.el_go] at hM
   try dsimp only at hM
   refine wSeq (wReg (sRun (xAsB rfl) (sNil (wRet ?_))))
   subst hM
   refine res1 (P := Try.prog) (fn := Try.f72) rfl ?_
   exact ⟨rfl, hL.1⟩

end Go.Proofs.Ytbpccmnalhdpmaa
