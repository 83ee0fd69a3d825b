/- Contracts, printed by gen2.py. -/
import Derived.Test.YtbpccmnalhdpmaaGt
set_option linter.unusedVariables false
set_option linter.unusedSimpArgs false
set_option maxRecDepth 4000
namespace Go.Proofs.Ytbpccmnalhdpmaa
open Go.RowKit Go.Fw
def m_r06_Defines (a0 : Int) : Bool :=
 if (1 : Int) ≤ a0 then
  (decide (a0 ≤ (15 : Int)))
 else
  false
set_option maxHeartbeats 12800000 in
theorem sp_m_r06_Defines (w0 : World) (a0 : Int) : Calls Try.prog 56 #[.int .i64 a0] w0 (Ret fun v w => v = .bool (m_r06_Defines a0) ∧ Ext w0 w) := by
  obtain ⟨X, hM⟩ : ∃ X, m_r06_Defines a0 = X := ⟨_, rfl⟩
  rw [hM]
  unfold m_r06_Defines at hM
  try simp only [er1, er2, er3, er4, er5, er6, er7, er8, er9, er10, er11, er12, er13, er14, er15, er16, er17, List.length_map] at hM
  have hL : Bx w0 w0 [] := Bx.nil
  refine calls_of Try.func56 rfl (Nat.le_of_ble_eq_true rfl) (by kernel_rfl) ?_
  refine wCut [(0, .int .i64 a0)] ⟨rfl, trivial⟩ fun g => ?_
  refine wSeq (wReg (sRun (xAsB rfl) (sNil (wSeq (wReg (sRun (xMvI rfl) (sRun (xGeq rfl rfl) (sRun (xMvB rfl) ?_))))))))
  by_cases h1 : (1 : Int) ≤ a0
  ·try rw [decide_eq_true h1]
   rw [if_pos h1] at hM
   refine sGo rfl (sRun (xMvI rfl) (sGo rfl (sRun (xLeq rfl rfl) (sRun (xPkTB rfl rfl) (sRun (xAsB rfl) (sNil (wRet ?_)))))))
   subst hM
   refine res1 (P := Try.prog) (fn := Try.f56) rfl ?_
   exact ⟨rfl, hL.1⟩
  ·try rw [decide_eq_false h1]
   rw [if_neg h1] at hM
   refine sNo rfl (sNo rfl (sRun (xPkFB rfl rfl) (sRun (xAsB rfl) (sNil (wRet ?_)))))
   subst hM
   refine res1 (P := Try.prog) (fn := Try.f56) rfl ?_
   exact ⟨rfl, hL.1⟩

def m_r06_UsesA (a0 : Int) : Bool :=
 (((decide ((2 : Int) ≤ a0)) && (decide (a0 ≤ (16 : Int)))) || (decide (a0 = (18 : Int))))
set_option maxHeartbeats 12800000 in
theorem sp_m_r06_UsesA (w0 : World) (a0 : Int) : Calls Try.prog 80 #[.int .i64 a0] w0 (Ret fun v w => v = .bool (m_r06_UsesA a0) ∧ Ext w0 w) := by
  obtain ⟨X, hM⟩ : ∃ X, m_r06_UsesA a0 = X := ⟨_, rfl⟩
  rw [hM]
  unfold m_r06_UsesA at hM
  try simp only [er1, er2, er3, er4, er5, er6, er7, er8, er9, er10, er11, er12, er13, er14, er15, er16, er17, List.length_map] at hM
  have hL : Bx w0 w0 [] := Bx.nil
  refine calls_of Try.func80 rfl (Nat.le_of_ble_eq_true rfl) (by kernel_rfl) ?_
  refine wCut [(0, .int .i64 a0)] ⟨rfl, trivial⟩ fun g => ?_
  refine wSeq (wReg (sRun (xAsB rfl) (sNil (wSeq ?_))))
  obtain ⟨E1, hE1⟩ : ∃ E, (((decide ((2 : Int) ≤ a0)) && (decide (a0 ≤ (16 : Int)))) || (decide (a0 = (18 : Int)))) = E := ⟨_, rfl⟩
  refine wJ (fun f w => Has f [(2, .bool E1)] ∧ Bx w0 w []) ?_ ?_
  ·refine wReg (sRun (xMvI rfl) (sRun (xGeq rfl rfl) (sRun (xMvB rfl) ?_)))
   by_cases h2 : (2 : Int) ≤ a0
   ·try rw [decide_eq_true h2]
    refine sGo rfl (sRun (xMvI rfl) (sGo rfl (sRun (xLeq rfl rfl) (sRun (xPkTB rfl rfl) (sRun (xMvB rfl) ?_)))))
    by_cases h3 : a0 ≤ (16 : Int)
    ·try rw [decide_eq_true h3]
     refine sNo rfl (sNo rfl (sRun (xPkTB rfl rfl) (sRun (xAsB rfl) (sNil ?_))))
     exact ⟨⟨(congrArg Value.bool (by rw [← hE1]; first | (simp [h2, h3]; done) | (simp only [decide_eq_true h2, decide_eq_true h3]; done) | grind)), trivial⟩, hL⟩
    ·try rw [decide_eq_false h3]
     refine sGo rfl (sRun (xMvI rfl) (sGo rfl (sRun (xEqlD rfl rfl) (sRun (xPkFB rfl rfl) (sRun (xAsB rfl) (sNil ?_))))))
     exact ⟨⟨(congrArg Value.bool (by rw [← hE1]; first | (simp [h2, h3]; done) | (simp only [decide_eq_true h2, decide_eq_false h3]; done) | grind)), trivial⟩, hL⟩
   ·try rw [decide_eq_false h2]
    refine sNo rfl (sNo rfl (sRun (xPkFB rfl rfl) (sRun (xMvB rfl) (sGo rfl (sRun (xMvI rfl) (sGo rfl (sRun (xEqlF rfl rfl (by omega)) (sRun (xPkFB rfl rfl) (sRun (xAsB rfl) (sNil ?_))))))))))
    exact ⟨⟨(congrArg Value.bool (by rw [← hE1]; first | (simp [h2]; done) | (simp only [decide_eq_false h2, decide_eq_false (show ¬ (a0 = (18 : Int)) by omega)]; done) | grind)), trivial⟩, hL⟩
  ·clear hL
   subst hE1
   rintro f w ⟨hf, hL⟩
   obtain ⟨g, rfl⟩ := has_updL _ _ hf
   clear hf
   refine wRet ?_
   subst hM
   refine res1 (P := Try.prog) (fn := Try.f80) rfl ?_
   exact ⟨rfl, hL.1⟩

def m_r06_UsesB (a0 : Int) : Bool :=
 (((decide ((3 : Int) ≤ a0)) && (decide (a0 ≤ (14 : Int)))) || (decide (a0 = (16 : Int))))
set_option maxHeartbeats 12800000 in
theorem sp_m_r06_UsesB (w0 : World) (a0 : Int) : Calls Try.prog 81 #[.int .i64 a0] w0 (Ret fun v w => v = .bool (m_r06_UsesB a0) ∧ Ext w0 w) := by
  obtain ⟨X, hM⟩ : ∃ X, m_r06_UsesB a0 = X := ⟨_, rfl⟩
  rw [hM]
  unfold m_r06_UsesB at hM
  try simp only [er1, er2, er3, er4, er5, er6, er7, er8, er9, er10, er11, er12, er13, er14, er15, er16, er17, List.length_map] at hM
  have hL : Bx w0 w0 [] := Bx.nil
  refine calls_of Try.func81 rfl (Nat.le_of_ble_eq_true rfl) (by kernel_rfl) ?_
  refine wCut [(0, .int .i64 a0)] ⟨rfl, trivial⟩ fun g => ?_
  refine wSeq (wReg (sRun (xAsB rfl) (sNil (wSeq ?_))))
  obtain ⟨E1, hE1⟩ : ∃ E, (((decide ((3 : Int) ≤ a0)) && (decide (a0 ≤ (14 : Int)))) || (decide (a0 = (16 : Int)))) = E := ⟨_, rfl⟩
  refine wJ (fun f w => Has f [(2, .bool E1)] ∧ Bx w0 w []) ?_ ?_
  ·refine wReg (sRun (xMvI rfl) (sRun (xGeq rfl rfl) (sRun (xMvB rfl) ?_)))
   by_cases h2 : (3 : Int) ≤ a0
   ·try rw [decide_eq_true h2]
    refine sGo rfl (sRun (xMvI rfl) (sGo rfl (sRun (xLeq rfl rfl) (sRun (xPkTB rfl rfl) (sRun (xMvB rfl) ?_)))))
    by_cases h3 : a0 ≤ (14 : Int)
    ·try rw [decide_eq_true h3]
     refine sNo rfl (sNo rfl (sRun (xPkTB rfl rfl) (sRun (xAsB rfl) (sNil ?_))))
     exact ⟨⟨(congrArg Value.bool (by rw [← hE1]; first | (simp [h2, h3]; done) | (simp only [decide_eq_true h2, decide_eq_true h3]; done) | grind)), trivial⟩, hL⟩
    ·try rw [decide_eq_false h3]
     refine sGo rfl (sRun (xMvI rfl) (sGo rfl (sRun (xEqlD rfl rfl) (sRun (xPkFB rfl rfl) (sRun (xAsB rfl) (sNil ?_))))))
     exact ⟨⟨(congrArg Value.bool (by rw [← hE1]; first | (simp [h2, h3]; done) | (simp only [decide_eq_true h2, decide_eq_false h3]; done) | grind)), trivial⟩, hL⟩
   ·try rw [decide_eq_false h2]
    refine sNo rfl (sNo rfl (sRun (xPkFB rfl rfl) (sRun (xMvB rfl) (sGo rfl (sRun (xMvI rfl) (sGo rfl (sRun (xEqlF rfl rfl (by omega)) (sRun (xPkFB rfl rfl) (sRun (xAsB rfl) (sNil ?_))))))))))
    exact ⟨⟨(congrArg Value.bool (by rw [← hE1]; first | (simp [h2]; done) | (simp only [decide_eq_false h2, decide_eq_false (show ¬ (a0 = (16 : Int)) by omega)]; done) | grind)), trivial⟩, hL⟩
  ·clear hL
   subst hE1
   rintro f w ⟨hf, hL⟩
   obtain ⟨g, rfl⟩ := has_updL _ _ hf
   clear hf
   refine wRet ?_
   subst hM
   refine res1 (P := Try.prog) (fn := Try.f81) rfl ?_
   exact ⟨rfl, hL.1⟩

def m_r06_Has_L0 (a0 : (List Int)) (a1 : Int) : List Int → Nat → Lp (Unit) (Bool)
  | [], _ => .go ()
  | x2 :: r2, k2 =>
  if a1 = x2 then
   .out (true)
  else
   m_r06_Has_L0 a0 a1 r2 (k2 + 1)
def m_r06_Has (a0 : (List Int)) (a1 : Int) : Bool :=
 (m_r06_Has_L0 a0 a1 a0 0).el (fun _ =>
  false
   ) (fun o => o)
set_option maxHeartbeats 12800000 in
theorem sp_m_r06_Has (w0 : World) (a0 : (Lst Int)) (h0 : Dat.ok (fun _ => True) w0 a0) (a1 : Int) : Calls Try.prog 55 #[.slice a0.a a0.l.length a0.c, .int .i64 a1] w0 (Ret fun v w => v = .bool (m_r06_Has a0.l a1) ∧ Ext w0 w) := by
  obtain ⟨X, hM⟩ : ∃ X, m_r06_Has a0.l a1 = X := ⟨_, rfl⟩
  rw [hM]
  unfold m_r06_Has at hM
  try simp only [er1, er2, er3, er4, er5, er6, er7, er8, er9, er10, er11, er12, er13, er14, er15, er16, er17, List.length_map] at hM
  have hL : Bx w0 w0 [] := Bx.nil
  refine calls_of Try.func55 rfl (Nat.le_of_ble_eq_true rfl) (by kernel_rfl) ?_
  refine wCut [(0, .slice a0.a a0.l.length a0.c), (1, .int .i64 a1)] ⟨rfl, rfl, trivial⟩ fun g => ?_
  refine wSeq (wReg (sRun (xAsB rfl) (sNil (wSeq (wSeq (wReg (sRun (xMvS rfl) ?_)))))))
  have hl1 : a0.l.length * 8 ≤ 140737488355328 := Lst.bd h0
  refine sRun (xLnL (s := a0) Try.underlying37 rfl) (sRun (xMvI rfl) (sNil ?_))
  obtain ⟨Y2, hY2⟩ : ∃ Y, m_r06_Has_L0 a0.l a1 a0.l 0 = Y := ⟨_, rfl⟩
  rw [hY2] at hM
  refine wJ (fun f w => Has f [(1, .int .i64 a1), (7, .slice a0.a a0.l.length a0.c), (8, .int .i64 ((a0.l.length : Nat) : Int))] ∧ Bx w0 w [] ∧ Lp.go () = Y2) ?_ ?_
  ·refine wBlock (wLoopG (fun n f w => ∃ (k2 : Nat), n = a0.l.length - k2 ∧ k2 ≤ a0.l.length ∧ Has f [(9, .int .i64 ((k2 : Nat) : Int)), (1, .int .i64 a1), (7, .slice a0.a a0.l.length a0.c), (8, .int .i64 ((a0.l.length : Nat) : Int))] ∧ Bx w0 w [] ∧ m_r06_Has_L0 a0.l a1 (a0.l.drop k2) k2 = Y2) (a0.l.length) ⟨0, rfl, Nat.zero_le _, ⟨rfl, rfl, rfl, rfl, trivial⟩, hL, hY2⟩ ?_)
   clear hL hY2
   rintro n f w ⟨k2, rfl, hk2, hf, hL, hY2⟩
   obtain ⟨g, rfl⟩ := has_updL _ _ hf
   clear hf
   rcases Nat.lt_or_ge k2 a0.l.length with hk2b | hk2b
   ·obtain ⟨x2, hx2⟩ := get_ex (l := a0.l) hk2b
    rw [drop_id hx2, m_r06_Has_L0] at hY2
    try simp only [er1, er2, er3, er4, er5, er6, er7, er8, er9, er10, er11, er12, er13, er14, er15, er16, er17, List.length_map] at hY2
    refine wSeq (wReg (sRun (xLssT rfl rfl (by omega)) (sNil (wSeq (wIfT rfl (wSkip (wSeq (wBlock (wSeq (wReg (sRun (xIdL Try.underlying37 ti3 rfl rfl rfl h0 hx2) (sRun (xLoad Try.underlying3 rfl rfl (((Lst.el h0 hx2).ext hL.1) 0 _ rfl)) (sRun (xAsI rfl) ?_)))))))))))))
    refine sNil (wSeq (wReg (sRun (xMvI rfl) (sRun (xMvI rfl) (sRun (xEqlD rfl rfl) (sNil ?_))))))
    by_cases h3 : a1 = x2
    ·try rw [decide_eq_true h3]
     rw [if_pos h3] at hY2
     refine wIfT rfl (wSeq (wReg (sRun (xAsB rfl) (sNil (wRet ?_)))))
     subst hY2
     rw [Lp.el_out] at hM
     try dsimp only at hM
     subst hM
     refine res1 (P := Try.prog) (fn := Try.f55) rfl ?_
     exact ⟨rfl, hL.1⟩
    ·try rw [decide_eq_false h3]
     rw [if_neg h3] at hY2
     refine wIfF rfl (wSkip (wReg (sRun (xAdd64 rfl rfl (by omega) (by omega)) (sRun (xMvI rfl) (sNil ?_)))))
     exact ⟨a0.l.length - (k2 + 1), by omega, k2 + 1, rfl, by omega, ⟨rfl, rfl, rfl, rfl, trivial⟩, hL, hY2⟩
   ·obtain rfl : k2 = a0.l.length := by omega
    rw [drop_end, m_r06_Has_L0] at hY2
    refine wSeq (wReg (sRun (xLssF rfl rfl (by omega)) (sNil (wSeq (wIfF rfl (wExit ?_))))))
    exact ⟨⟨rfl, rfl, rfl, trivial⟩, hL, hY2⟩
  ·clear hL
   rintro f w ⟨hf, hL, hZ2⟩
   obtain ⟨g, rfl⟩ := has_updL _ _ hf
   clear hf
   subst hZ2
   rw [Lp.el_go] at hM
   try dsimp only at hM
   refine wSeq (wReg (sRun (xAsB rfl) (sNil (wRet ?_))))
   subst hM
   refine res1 (P := Try.prog) (fn := Try.f55) rfl ?_
   exact ⟨rfl, hL.1⟩

def m_r06_plain (a0 : GOp) : Bool :=
 if ((((!(m_r06_Defines a0.Kind)) && (decide (a0.Dst ≠ (0 : Int)))) || ((!(m_r06_UsesA a0.Kind)) && (decide (a0.A ≠ (0 : Int))))) || ((!(m_r06_UsesB a0.Kind)) && (decide (a0.B ≠ (0 : Int))))) = true then
  false
 else
  if (((!((((((decide (a0.Kind = (1 : Int))) || (decide (a0.Kind = (15 : Int)))) || (decide (a0.Kind = (16 : Int)))) || (decide (a0.Kind = (17 : Int)))) || (decide (a0.Kind = (19 : Int)))) || (decide (a0.Kind = (20 : Int))))) && (decide (a0.N ≠ (0 : Int)))) || ((((decide (a0.Kind ≠ (19 : Int))) && (decide (a0.Kind ≠ (20 : Int)))) && (decide (a0.Kind ≠ (21 : Int)))) && (decide (a0.Ctx ≠ (0 : Int))))) = true then
   false
  else
   ((decide (a0.Kind = (21 : Int))) || (((decide (a0.Var = (0 : Int))) && (decide (a0.Piece = (0 : Int)))) && (decide ([a0.Src.Kind, a0.Src.Val, a0.Src.Add] = [(0 : Int), (0 : Int), (0 : Int)]))))
theorem bd87_95 {ρ : Operand → Value} {w : World} {d : Option Nat} {ty : TypeId} {pos : String} {af : Array Edge} {g : Option (Nat × Bool)} : Yl Try.prog ρ (.build 64 #[]) d ty pos af g w (.agg #[.int .i64 0, .int .i64 0, .int .i64 0]) := by
  have e : (Instr.build 64 #[]).run Try.prog w = .ok (.agg #[.int .i64 0, .int .i64 0, .int .i64 0]) w := by kernel_rfl
  simp [Yl, execOp, e]
set_option maxHeartbeats 12800000 in
theorem sp_m_r06_plain (w0 : World) (a0 : GOp) : Calls Try.prog 87 #[.agg (GOp.cells a0).toArray] w0 (Ret fun v w => v = .bool (m_r06_plain a0) ∧ Ext w0 w) := by
  obtain ⟨X, hM⟩ : ∃ X, m_r06_plain a0 = X := ⟨_, rfl⟩
  rw [hM]
  unfold m_r06_plain at hM
  try simp only [er1, er2, er3, er4, er5, er6, er7, er8, er9, er10, er11, er12, er13, er14, er15, er16, er17, List.length_map] at hM
  have hL : Bx w0 w0 [] := Bx.nil
  refine calls_of Try.func87 rfl (Nat.le_of_ble_eq_true rfl) (by kernel_rfl) ?_
  refine wCut [(0, .agg (GOp.cells a0).toArray)] ⟨rfl, trivial⟩ fun g => ?_
  refine wSeq (wReg (sTo (aNew (mBox rfl)) ?_))
  rintro _ w1 ⟨b1, rfl, hge1, hB1, he1⟩
  replace hL := hL.new hge1 hB1 he1
  refine sRun (xAsB rfl) (sNil (wSeq (wReg (sRun (xFld0 Try.underlying66 rfl rfl ti3 (by decide) rfl) (sRun (xLoad Try.underlying3 rfl rfl ((hL.bk 0 rfl).cell (i := 0) rfl)) (sRun (xAsI rfl) (sNil (wSeq (wSeq ?_)))))))))
  obtain ⟨E2, hE2⟩ : ∃ E, ((((!(m_r06_Defines a0.Kind)) && (decide (a0.Dst ≠ (0 : Int)))) || ((!(m_r06_UsesA a0.Kind)) && (decide (a0.A ≠ (0 : Int))))) || ((!(m_r06_UsesB a0.Kind)) && (decide (a0.B ≠ (0 : Int))))) = E := ⟨_, rfl⟩
  refine wJ (fun f w => Has f [(1, .pointer (some ⟨b1, 0, none⟩)), (3, .int .i64 a0.Kind), (34, .bool E2)] ∧ Bx w0 w [.box b1 66 (GOp.cells a0).toArray]) ?_ ?_
  ·refine wReg (sRun (xMvI rfl) (sCall (eCall cal56 rfl) (sp_m_r06_Defines _ a0.Kind) ?_))
   rintro _ w3 ⟨rfl, he3⟩
   replace hL := hL.ext he3
   by_cases h4 : (m_r06_Defines a0.Kind) = true
   ·try rw [h4]
    refine sRun (xNot rfl) (sRun (xMvB rfl) (sNo rfl (sNo rfl (sNo rfl (sRun (xPkFB rfl rfl) (sRun (xMvB rfl) (sGo rfl (sRun (xMvI rfl) (sGo rfl (sCall (eCall cal80 rfl) (sp_m_r06_UsesA _ a0.Kind) ?_))))))))))
    rintro _ w5 ⟨rfl, he5⟩
    replace hL := hL.ext he5
    by_cases h6 : (m_r06_UsesA a0.Kind) = true
    ·try rw [h6]
     refine sGo rfl (sRun (xNot rfl) (sGo rfl (sRun (xMvB rfl) (sNo rfl (sNo rfl (sNo rfl (sGo rfl (sRun (xPkFB rfl rfl) (sRun (xPkFB rfl rfl) (sRun (xMvB rfl) (sGo rfl (sRun (xMvI rfl) (sGo rfl ?_)))))))))))))
     refine sCall (eCall cal81 rfl) (sp_m_r06_UsesB _ a0.Kind) ?_
     rintro _ w7 ⟨rfl, he7⟩
     replace hL := hL.ext he7
     by_cases h8 : (m_r06_UsesB a0.Kind) = true
     ·try rw [h8]
      refine sGo rfl (sRun (xNot rfl) (sGo rfl (sRun (xMvB rfl) (sNo rfl (sNo rfl (sNo rfl (sGo rfl (sRun (xPkFB rfl rfl) (sRun (xPkFB rfl rfl) (sNil ?_))))))))))
      exact ⟨⟨rfl, rfl, (congrArg Value.bool (by rw [← hE2]; first | (simp [h4, h6, h8]; done) | (simp only [h4, h6, h8]; done) | grind)), trivial⟩, hL⟩
     ·have h8n : (m_r06_UsesB a0.Kind) = false := Bool.eq_false_iff.2 h8
      try rw [h8n]
      refine sGo rfl (sRun (xNot rfl) (sGo rfl (sRun (xMvB rfl) (sGo rfl (sRun (xFld (k := 3) Try.underlying66 rfl rfl ti3 (by decide) rfl) (sGo rfl (sRun (xLoad Try.underlying3 rfl rfl ((hL.bk 0 rfl).cell (i := 3) rfl)) (sGo rfl (sRun (xNeqD rfl rfl) (sGo rfl (sRun (xPkTB rfl rfl) (sRun (xPkFB rfl rfl) (sNil ?_)))))))))))))
      exact ⟨⟨rfl, rfl, (congrArg Value.bool (by rw [← hE2]; first | (simp [h4, h6, h8n]; done) | (simp only [h4, h6, h8n]; done) | grind)), trivial⟩, hL⟩
    ·have h6n : (m_r06_UsesA a0.Kind) = false := Bool.eq_false_iff.2 h6
     try rw [h6n]
     refine sGo rfl (sRun (xNot rfl) (sGo rfl (sRun (xMvB rfl) (sGo rfl (sRun (xFld (k := 2) Try.underlying66 rfl rfl ti3 (by decide) rfl) (sGo rfl (sRun (xLoad Try.underlying3 rfl rfl ((hL.bk 0 rfl).cell (i := 2) rfl)) (sGo rfl (sRun (xNeqD rfl rfl) (sGo rfl (sRun (xPkTB rfl rfl) (sRun (xPkFB rfl rfl) (sRun (xMvB rfl) ?_)))))))))))))
     by_cases h9 : a0.A ≠ (0 : Int)
     ·try rw [decide_eq_true h9]
      refine sNo rfl (sNo rfl (sNo rfl (sNo rfl (sNo rfl (sNo rfl (sNo rfl (sNo rfl (sRun (xPkTB rfl rfl) (sNil ?_)))))))))
      exact ⟨⟨rfl, rfl, (congrArg Value.bool (by rw [← hE2]; first | (simp [h4, h6n, h9]; done) | (simp only [h4, h6n, decide_eq_true h9]; done) | grind)), trivial⟩, hL⟩
     ·try rw [decide_eq_false h9]
      refine sGo rfl (sRun (xMvI rfl) (sGo rfl (sCall (eCall cal81 rfl) (sp_m_r06_UsesB _ a0.Kind) ?_)))
      rintro _ w10 ⟨rfl, he10⟩
      replace hL := hL.ext he10
      by_cases h11 : (m_r06_UsesB a0.Kind) = true
      ·try rw [h11]
       refine sGo rfl (sRun (xNot rfl) (sGo rfl (sRun (xMvB rfl) (sNo rfl (sNo rfl (sNo rfl (sGo rfl (sRun (xPkFB rfl rfl) (sRun (xPkFB rfl rfl) (sNil ?_))))))))))
       exact ⟨⟨rfl, rfl, (congrArg Value.bool (by rw [← hE2]; first | (simp [h4, h6n, h9, h11]; done) | (simp only [h4, h6n, decide_eq_false h9, h11]; done) | grind)), trivial⟩, hL⟩
      ·have h11n : (m_r06_UsesB a0.Kind) = false := Bool.eq_false_iff.2 h11
       try rw [h11n]
       refine sGo rfl (sRun (xNot rfl) (sGo rfl (sRun (xMvB rfl) (sGo rfl (sRun (xFld (k := 3) Try.underlying66 rfl rfl ti3 (by decide) rfl) (sGo rfl (sRun (xLoad Try.underlying3 rfl rfl ((hL.bk 0 rfl).cell (i := 3) rfl)) (sGo rfl (sRun (xNeqD rfl rfl) (sGo rfl (sRun (xPkTB rfl rfl) (sRun (xPkFB rfl rfl) (sNil ?_)))))))))))))
       exact ⟨⟨rfl, rfl, (congrArg Value.bool (by rw [← hE2]; first | (simp [h4, h6n, h9, h11n]; done) | (simp only [h4, h6n, decide_eq_false h9, h11n]; done) | grind)), trivial⟩, hL⟩
   ·have h4n : (m_r06_Defines a0.Kind) = false := Bool.eq_false_iff.2 h4
    try rw [h4n]
    refine sRun (xNot rfl) (sRun (xMvB rfl) (sGo rfl (sRun (xFld (k := 1) Try.underlying66 rfl rfl ti3 (by decide) rfl) (sGo rfl (sRun (xLoad Try.underlying3 rfl rfl ((hL.bk 0 rfl).cell (i := 1) rfl)) (sGo rfl (sRun (xNeqD rfl rfl) (sRun (xPkTB rfl rfl) (sRun (xMvB rfl) ?_)))))))))
    by_cases h12 : a0.Dst ≠ (0 : Int)
    ·try rw [decide_eq_true h12]
     refine sNo rfl (sNo rfl (sNo rfl (sNo rfl (sNo rfl (sNo rfl (sNo rfl (sNo rfl (sRun (xPkTB rfl rfl) (sRun (xMvB rfl) (sNo rfl (sNo rfl (sNo rfl (sNo rfl ?_)))))))))))))
     refine sNo rfl (sNo rfl (sNo rfl (sNo rfl (sRun (xPkTB rfl rfl) (sNil ?_)))))
     exact ⟨⟨rfl, rfl, (congrArg Value.bool (by rw [← hE2]; first | (simp [h4n, h12]; done) | (simp only [h4n, decide_eq_true h12]; done) | grind)), trivial⟩, hL⟩
    ·try rw [decide_eq_false h12]
     refine sGo rfl (sRun (xMvI rfl) (sGo rfl (sCall (eCall cal80 rfl) (sp_m_r06_UsesA _ a0.Kind) ?_)))
     rintro _ w13 ⟨rfl, he13⟩
     replace hL := hL.ext he13
     by_cases h14 : (m_r06_UsesA a0.Kind) = true
     ·try rw [h14]
      refine sGo rfl (sRun (xNot rfl) (sGo rfl (sRun (xMvB rfl) (sNo rfl (sNo rfl (sNo rfl (sGo rfl (sRun (xPkFB rfl rfl) (sRun (xPkFB rfl rfl) (sRun (xMvB rfl) (sGo rfl (sRun (xMvI rfl) (sGo rfl ?_)))))))))))))
      refine sCall (eCall cal81 rfl) (sp_m_r06_UsesB _ a0.Kind) ?_
      rintro _ w15 ⟨rfl, he15⟩
      replace hL := hL.ext he15
      by_cases h16 : (m_r06_UsesB a0.Kind) = true
      ·try rw [h16]
       refine sGo rfl (sRun (xNot rfl) (sGo rfl (sRun (xMvB rfl) (sNo rfl (sNo rfl (sNo rfl (sGo rfl (sRun (xPkFB rfl rfl) (sRun (xPkFB rfl rfl) (sNil ?_))))))))))
       exact ⟨⟨rfl, rfl, (congrArg Value.bool (by rw [← hE2]; first | (simp [h4n, h12, h14, h16]; done) | (simp only [h4n, decide_eq_false h12, h14, h16]; done) | grind)), trivial⟩, hL⟩
      ·have h16n : (m_r06_UsesB a0.Kind) = false := Bool.eq_false_iff.2 h16
       try rw [h16n]
       refine sGo rfl (sRun (xNot rfl) (sGo rfl (sRun (xMvB rfl) (sGo rfl (sRun (xFld (k := 3) Try.underlying66 rfl rfl ti3 (by decide) rfl) (sGo rfl (sRun (xLoad Try.underlying3 rfl rfl ((hL.bk 0 rfl).cell (i := 3) rfl)) (sGo rfl (sRun (xNeqD rfl rfl) (sGo rfl (sRun (xPkTB rfl rfl) (sRun (xPkFB rfl rfl) (sNil ?_)))))))))))))
       exact ⟨⟨rfl, rfl, (congrArg Value.bool (by rw [← hE2]; first | (simp [h4n, h12, h14, h16n]; done) | (simp only [h4n, decide_eq_false h12, h14, h16n]; done) | grind)), trivial⟩, hL⟩
     ·have h14n : (m_r06_UsesA a0.Kind) = false := Bool.eq_false_iff.2 h14
      try rw [h14n]
      refine sGo rfl (sRun (xNot rfl) (sGo rfl (sRun (xMvB rfl) (sGo rfl (sRun (xFld (k := 2) Try.underlying66 rfl rfl ti3 (by decide) rfl) (sGo rfl (sRun (xLoad Try.underlying3 rfl rfl ((hL.bk 0 rfl).cell (i := 2) rfl)) (sGo rfl (sRun (xNeqD rfl rfl) (sGo rfl (sRun (xPkTB rfl rfl) (sRun (xPkFB rfl rfl) (sRun (xMvB rfl) ?_)))))))))))))
      by_cases h17 : a0.A ≠ (0 : Int)
      ·try rw [decide_eq_true h17]
       refine sNo rfl (sNo rfl (sNo rfl (sNo rfl (sNo rfl (sNo rfl (sNo rfl (sNo rfl (sRun (xPkTB rfl rfl) (sNil ?_)))))))))
       exact ⟨⟨rfl, rfl, (congrArg Value.bool (by rw [← hE2]; first | (simp [h4n, h12, h14n, h17]; done) | (simp only [h4n, decide_eq_false h12, h14n, decide_eq_true h17]; done) | grind)), trivial⟩, hL⟩
      ·try rw [decide_eq_false h17]
       refine sGo rfl (sRun (xMvI rfl) (sGo rfl (sCall (eCall cal81 rfl) (sp_m_r06_UsesB _ a0.Kind) ?_)))
       rintro _ w18 ⟨rfl, he18⟩
       replace hL := hL.ext he18
       by_cases h19 : (m_r06_UsesB a0.Kind) = true
       ·try rw [h19]
        refine sGo rfl (sRun (xNot rfl) (sGo rfl (sRun (xMvB rfl) (sNo rfl (sNo rfl (sNo rfl (sGo rfl (sRun (xPkFB rfl rfl) (sRun (xPkFB rfl rfl) (sNil ?_))))))))))
        exact ⟨⟨rfl, rfl, (congrArg Value.bool (by rw [← hE2]; first | (simp [h4n, h12, h14n, h17, h19]; done) | (simp only [h4n, decide_eq_false h12, h14n, decide_eq_false h17, h19]; done) | grind)), trivial⟩, hL⟩
       ·have h19n : (m_r06_UsesB a0.Kind) = false := Bool.eq_false_iff.2 h19
        try rw [h19n]
        refine sGo rfl (sRun (xNot rfl) (sGo rfl (sRun (xMvB rfl) (sGo rfl (sRun (xFld (k := 3) Try.underlying66 rfl rfl ti3 (by decide) rfl) (sGo rfl (sRun (xLoad Try.underlying3 rfl rfl ((hL.bk 0 rfl).cell (i := 3) rfl)) (sGo rfl (sRun (xNeqD rfl rfl) (sGo rfl (sRun (xPkTB rfl rfl) (sRun (xPkFB rfl rfl) (sNil ?_)))))))))))))
        exact ⟨⟨rfl, rfl, (congrArg Value.bool (by rw [← hE2]; first | (simp [h4n, h12, h14n, h17, h19n]; done) | (simp only [h4n, decide_eq_false h12, h14n, decide_eq_false h17, h19n]; done) | grind)), trivial⟩, hL⟩
  ·clear hL
   subst hE2
   rintro f w ⟨hf, hL⟩
   obtain ⟨g, rfl⟩ := has_updL _ _ hf
   clear hf
   by_cases h20 : ((((!(m_r06_Defines a0.Kind)) && (decide (a0.Dst ≠ (0 : Int)))) || ((!(m_r06_UsesA a0.Kind)) && (decide (a0.A ≠ (0 : Int))))) || ((!(m_r06_UsesB a0.Kind)) && (decide (a0.B ≠ (0 : Int))))) = true
   ·try rw [h20]
    rw [if_pos h20] at hM
    refine wIfT rfl (wSeq (wReg (sRun (xAsB rfl) (sNil (wRet ?_)))))
    subst hM
    refine res1 (P := Try.prog) (fn := Try.f87) rfl ?_
    exact ⟨rfl, hL.1⟩
   ·have h20n : ((((!(m_r06_Defines a0.Kind)) && (decide (a0.Dst ≠ (0 : Int)))) || ((!(m_r06_UsesA a0.Kind)) && (decide (a0.A ≠ (0 : Int))))) || ((!(m_r06_UsesB a0.Kind)) && (decide (a0.B ≠ (0 : Int))))) = false := Bool.eq_false_iff.2 h20
    try rw [h20n]
    rw [if_neg h20] at hM
    refine wIfF rfl (wSkip (wSeq ?_))
    obtain ⟨E21, hE21⟩ : ∃ E, ((((((decide (a0.Kind = (1 : Int))) || (decide (a0.Kind = (15 : Int)))) || (decide (a0.Kind = (16 : Int)))) || (decide (a0.Kind = (17 : Int)))) || (decide (a0.Kind = (19 : Int)))) || (decide (a0.Kind = (20 : Int)))) = E := ⟨_, rfl⟩
    refine wJ (fun f w => Has f [(1, .pointer (some ⟨b1, 0, none⟩)), (3, .int .i64 a0.Kind), (4, .bool E21)] ∧ Bx w0 w [.box b1 66 (GOp.cells a0).toArray]) ?_ ?_
    ·refine wReg (sRun (xMvI rfl) (sRun (xEqlD rfl rfl) (sRun (xMvB rfl) ?_)))
     by_cases h22 : a0.Kind = (1 : Int)
     ·try rw [decide_eq_true h22]
      refine sNo rfl (sNo rfl (sRun (xPkTB rfl rfl) (sRun (xMvB rfl) (sNo rfl (sNo rfl (sRun (xPkTB rfl rfl) (sRun (xMvB rfl) (sNo rfl (sNo rfl (sRun (xPkTB rfl rfl) (sRun (xMvB rfl) (sNo rfl (sNo rfl ?_)))))))))))))
      refine sRun (xPkTB rfl rfl) (sRun (xMvB rfl) (sNo rfl (sNo rfl (sRun (xPkTB rfl rfl) (sRun (xAsB rfl) (sNil ?_))))))
      exact ⟨⟨rfl, rfl, (congrArg Value.bool (by rw [← hE21]; first | (simp [h22]; done) | (simp only [decide_eq_true h22]; done) | grind)), trivial⟩, hL⟩
     ·try rw [decide_eq_false h22]
      refine sGo rfl (sRun (xMvI rfl) (sGo rfl (sRun (xEqlD rfl rfl) (sRun (xPkFB rfl rfl) (sRun (xMvB rfl) ?_)))))
      by_cases h23 : a0.Kind = (15 : Int)
      ·try rw [decide_eq_true h23]
       refine sNo rfl (sNo rfl (sRun (xPkTB rfl rfl) (sRun (xMvB rfl) (sNo rfl (sNo rfl (sRun (xPkTB rfl rfl) (sRun (xMvB rfl) (sNo rfl (sNo rfl (sRun (xPkTB rfl rfl) (sRun (xMvB rfl) (sNo rfl (sNo rfl ?_)))))))))))))
       refine sRun (xPkTB rfl rfl) (sRun (xAsB rfl) (sNil ?_))
       exact ⟨⟨rfl, rfl, (congrArg Value.bool (by rw [← hE21]; first | (simp [h22, h23]; done) | (simp only [decide_eq_false h22, decide_eq_true h23]; done) | grind)), trivial⟩, hL⟩
      ·try rw [decide_eq_false h23]
       refine sGo rfl (sRun (xMvI rfl) (sGo rfl (sRun (xEqlD rfl rfl) (sRun (xPkFB rfl rfl) (sRun (xMvB rfl) ?_)))))
       by_cases h24 : a0.Kind = (16 : Int)
       ·try rw [decide_eq_true h24]
        refine sNo rfl (sNo rfl (sRun (xPkTB rfl rfl) (sRun (xMvB rfl) (sNo rfl (sNo rfl (sRun (xPkTB rfl rfl) (sRun (xMvB rfl) (sNo rfl (sNo rfl (sRun (xPkTB rfl rfl) (sRun (xAsB rfl) (sNil ?_))))))))))))
        exact ⟨⟨rfl, rfl, (congrArg Value.bool (by rw [← hE21]; first | (simp [h22, h23, h24]; done) | (simp only [decide_eq_false h22, decide_eq_false h23, decide_eq_true h24]; done) | grind)), trivial⟩, hL⟩
       ·try rw [decide_eq_false h24]
        refine sGo rfl (sRun (xMvI rfl) (sGo rfl (sRun (xEqlD rfl rfl) (sRun (xPkFB rfl rfl) (sRun (xMvB rfl) ?_)))))
        by_cases h25 : a0.Kind = (17 : Int)
        ·try rw [decide_eq_true h25]
         refine sNo rfl (sNo rfl (sRun (xPkTB rfl rfl) (sRun (xMvB rfl) (sNo rfl (sNo rfl (sRun (xPkTB rfl rfl) (sRun (xAsB rfl) (sNil ?_))))))))
         exact ⟨⟨rfl, rfl, (congrArg Value.bool (by rw [← hE21]; first | (simp [h22, h23, h24, h25]; done) | (simp only [decide_eq_false h22, decide_eq_false h23, decide_eq_false h24, decide_eq_true h25]; done) | grind)), trivial⟩, hL⟩
        ·try rw [decide_eq_false h25]
         refine sGo rfl (sRun (xMvI rfl) (sGo rfl (sRun (xEqlD rfl rfl) (sRun (xPkFB rfl rfl) (sRun (xMvB rfl) ?_)))))
         by_cases h26 : a0.Kind = (19 : Int)
         ·try rw [decide_eq_true h26]
          refine sNo rfl (sNo rfl (sRun (xPkTB rfl rfl) (sRun (xAsB rfl) (sNil ?_))))
          exact ⟨⟨rfl, rfl, (congrArg Value.bool (by rw [← hE21]; first | (simp [h22, h23, h24, h25, h26]; done) | (simp only [decide_eq_false h22, decide_eq_false h23, decide_eq_false h24, decide_eq_false h25, decide_eq_true h26]; done) | grind)), trivial⟩, hL⟩
         ·try rw [decide_eq_false h26]
          refine sGo rfl (sRun (xMvI rfl) (sGo rfl (sRun (xEqlD rfl rfl) (sRun (xPkFB rfl rfl) (sRun (xAsB rfl) (sNil ?_))))))
          exact ⟨⟨rfl, rfl, (congrArg Value.bool (by rw [← hE21]; first | (simp [h22, h23, h24, h25, h26]; done) | (simp only [decide_eq_false h22, decide_eq_false h23, decide_eq_false h24, decide_eq_false h25, decide_eq_false h26]; done) | grind)), trivial⟩, hL⟩
    ·clear hL
     subst hE21
     rintro f w ⟨hf, hL⟩
     obtain ⟨g, rfl⟩ := has_updL _ _ hf
     clear hf
     refine wSeq (wSeq ?_)
     obtain ⟨E27, hE27⟩ : ∃ E, (((!((((((decide (a0.Kind = (1 : Int))) || (decide (a0.Kind = (15 : Int)))) || (decide (a0.Kind = (16 : Int)))) || (decide (a0.Kind = (17 : Int)))) || (decide (a0.Kind = (19 : Int)))) || (decide (a0.Kind = (20 : Int))))) && (decide (a0.N ≠ (0 : Int)))) || ((((decide (a0.Kind ≠ (19 : Int))) && (decide (a0.Kind ≠ (20 : Int)))) && (decide (a0.Kind ≠ (21 : Int)))) && (decide (a0.Ctx ≠ (0 : Int))))) = E := ⟨_, rfl⟩
     refine wJ (fun f w => Has f [(1, .pointer (some ⟨b1, 0, none⟩)), (3, .int .i64 a0.Kind), (80, .bool E27)] ∧ Bx w0 w [.box b1 66 (GOp.cells a0).toArray]) ?_ ?_
     ·refine wReg (sRun (xMvB rfl) ?_)
      by_cases h28 : ((((((decide (a0.Kind = (1 : Int))) || (decide (a0.Kind = (15 : Int)))) || (decide (a0.Kind = (16 : Int)))) || (decide (a0.Kind = (17 : Int)))) || (decide (a0.Kind = (19 : Int)))) || (decide (a0.Kind = (20 : Int)))) = true
      ·try rw [h28]
       refine sRun (xNot rfl) (sRun (xMvB rfl) (sNo rfl (sNo rfl (sNo rfl (sRun (xPkFB rfl rfl) (sRun (xMvB rfl) (sGo rfl (sRun (xMvI rfl) (sGo rfl (sRun (xNeqD rfl rfl) (sGo rfl (sRun (xMvB rfl) ?_))))))))))))
       by_cases h29 : a0.Kind ≠ (19 : Int)
       ·try rw [decide_eq_true h29]
        refine sGo rfl (sRun (xMvI rfl) (sGo rfl (sRun (xNeqD rfl rfl) (sGo rfl (sRun (xPkTB rfl rfl) (sGo rfl (sRun (xMvB rfl) ?_)))))))
        by_cases h30 : a0.Kind ≠ (20 : Int)
        ·try rw [decide_eq_true h30]
         refine sGo rfl (sRun (xMvI rfl) (sGo rfl (sRun (xNeqD rfl rfl) (sGo rfl (sRun (xPkTB rfl rfl) (sGo rfl (sRun (xMvB rfl) ?_)))))))
         by_cases h31 : a0.Kind ≠ (21 : Int)
         ·try rw [decide_eq_true h31]
          refine sGo rfl (sRun (xFld (k := 5) Try.underlying66 rfl rfl ti3 (by decide) rfl) (sGo rfl (sRun (xLoad Try.underlying3 rfl rfl ((hL.bk 0 rfl).cell (i := 5) rfl)) (sGo rfl (sRun (xNeqD rfl rfl) (sGo rfl (sRun (xPkTB rfl rfl) (sRun (xPkFB rfl rfl) (sNil ?_)))))))))
          exact ⟨⟨rfl, rfl, (congrArg Value.bool (by rw [← hE27]; first | (simp [h28, h29, h30, h31]; done) | (simp only [h28, decide_eq_true h29, decide_eq_true h30, decide_eq_true h31]; done) | grind)), trivial⟩, hL⟩
         ·try rw [decide_eq_false h31]
          refine sNo rfl (sNo rfl (sNo rfl (sGo rfl (sRun (xPkFB rfl rfl) (sRun (xPkFB rfl rfl) (sNil ?_))))))
          exact ⟨⟨rfl, rfl, (congrArg Value.bool (by rw [← hE27]; first | (simp [h28, h29, h30, h31]; done) | (simp only [h28, decide_eq_true h29, decide_eq_true h30, decide_eq_false h31]; done) | grind)), trivial⟩, hL⟩
        ·try rw [decide_eq_false h30]
         refine sNo rfl (sNo rfl (sGo rfl (sRun (xPkFB rfl rfl) (sGo rfl (sRun (xMvB rfl) (sNo rfl (sNo rfl (sNo rfl (sGo rfl (sRun (xPkFB rfl rfl) (sRun (xPkFB rfl rfl) (sNil ?_))))))))))))
         exact ⟨⟨rfl, rfl, (congrArg Value.bool (by rw [← hE27]; first | (simp [h28, h29, h30]; done) | (simp only [h28, decide_eq_true h29, decide_eq_false h30]; done) | grind)), trivial⟩, hL⟩
       ·try rw [decide_eq_false h29]
        refine sNo rfl (sNo rfl (sGo rfl (sRun (xPkFB rfl rfl) (sGo rfl (sRun (xMvB rfl) (sNo rfl (sNo rfl (sGo rfl (sRun (xPkFB rfl rfl) (sGo rfl (sRun (xMvB rfl) (sNo rfl (sNo rfl ?_)))))))))))))
        refine sNo rfl (sGo rfl (sRun (xPkFB rfl rfl) (sRun (xPkFB rfl rfl) (sNil ?_))))
        exact ⟨⟨rfl, rfl, (congrArg Value.bool (by rw [← hE27]; first | (simp [h28, h29]; done) | (simp only [h28, decide_eq_false h29]; done) | grind)), trivial⟩, hL⟩
      ·have h28n : ((((((decide (a0.Kind = (1 : Int))) || (decide (a0.Kind = (15 : Int)))) || (decide (a0.Kind = (16 : Int)))) || (decide (a0.Kind = (17 : Int)))) || (decide (a0.Kind = (19 : Int)))) || (decide (a0.Kind = (20 : Int)))) = false := Bool.eq_false_iff.2 h28
       try rw [h28n]
       have h32 : ¬ (a0.Kind = (1 : Int)) := fun hq => by rw [decide_eq_true hq] at h28; simp at h28
       have h33 : ¬ (a0.Kind = (15 : Int)) := fun hq => by rw [decide_eq_true hq] at h28; simp at h28
       have h34 : ¬ (a0.Kind = (16 : Int)) := fun hq => by rw [decide_eq_true hq] at h28; simp at h28
       have h35 : ¬ (a0.Kind = (17 : Int)) := fun hq => by rw [decide_eq_true hq] at h28; simp at h28
       have h36 : ¬ (a0.Kind = (19 : Int)) := fun hq => by rw [decide_eq_true hq] at h28; simp at h28
       have h37 : ¬ (a0.Kind = (20 : Int)) := fun hq => by rw [decide_eq_true hq] at h28; simp at h28
       refine sRun (xNot rfl) (sRun (xMvB rfl) (sGo rfl (sRun (xFld (k := 4) Try.underlying66 rfl rfl ti3 (by decide) rfl) (sGo rfl (sRun (xLoad Try.underlying3 rfl rfl ((hL.bk 0 rfl).cell (i := 4) rfl)) (sGo rfl (sRun (xNeqD rfl rfl) (sRun (xPkTB rfl rfl) (sRun (xMvB rfl) ?_)))))))))
       by_cases h38 : a0.N ≠ (0 : Int)
       ·try rw [decide_eq_true h38]
        refine sNo rfl (sNo rfl (sNo rfl (sNo rfl (sNo rfl (sNo rfl (sNo rfl (sNo rfl (sNo rfl (sNo rfl (sNo rfl (sNo rfl (sNo rfl (sNo rfl ?_)))))))))))))
        refine sNo rfl (sRun (xPkTB rfl rfl) (sNil ?_))
        exact ⟨⟨rfl, rfl, (congrArg Value.bool (by rw [← hE27]; first | (simp [h28n, h32, h33, h34, h35, h36, h37, h38]; done) | (simp only [h28n, decide_eq_false h32, decide_eq_false h33, decide_eq_false h34, decide_eq_false h35, decide_eq_false h36, decide_eq_false h37, decide_eq_true h38]; done) | grind)), trivial⟩, hL⟩
       ·try rw [decide_eq_false h38]
        refine sGo rfl (sRun (xMvI rfl) (sGo rfl (sRun (xNeqT rfl rfl (by omega)) (sGo rfl (sRun (xMvB rfl) (sGo rfl (sRun (xMvI rfl) (sGo rfl (sRun (xNeqT rfl rfl (by omega)) (sGo rfl (sRun (xPkTB rfl rfl) (sGo rfl (sRun (xMvB rfl) ?_)))))))))))))
        refine sGo rfl (sRun (xMvI rfl) (sGo rfl (sRun (xNeqD rfl rfl) (sGo rfl (sRun (xPkTB rfl rfl) (sGo rfl (sRun (xMvB rfl) ?_)))))))
        by_cases h39 : a0.Kind ≠ (21 : Int)
        ·try rw [decide_eq_true h39]
         refine sGo rfl (sRun (xFld (k := 5) Try.underlying66 rfl rfl ti3 (by decide) rfl) (sGo rfl (sRun (xLoad Try.underlying3 rfl rfl ((hL.bk 0 rfl).cell (i := 5) rfl)) (sGo rfl (sRun (xNeqD rfl rfl) (sGo rfl (sRun (xPkTB rfl rfl) (sRun (xPkFB rfl rfl) (sNil ?_)))))))))
         exact ⟨⟨rfl, rfl, (congrArg Value.bool (by rw [← hE27]; first | (simp [h28n, h32, h33, h34, h35, h36, h37, h38, h39]; done) | (simp only [h28n, decide_eq_false h32, decide_eq_false h33, decide_eq_false h34, decide_eq_false h35, decide_eq_false h36, decide_eq_false h37, decide_eq_false h38, decide_eq_true h39, decide_eq_true (show a0.Kind ≠ (19 : Int) by omega), decide_eq_true (show a0.Kind ≠ (20 : Int) by omega)]; done) | grind)), trivial⟩, hL⟩
        ·try rw [decide_eq_false h39]
         refine sNo rfl (sNo rfl (sNo rfl (sGo rfl (sRun (xPkFB rfl rfl) (sRun (xPkFB rfl rfl) (sNil ?_))))))
         exact ⟨⟨rfl, rfl, (congrArg Value.bool (by rw [← hE27]; first | (simp [h28n, h32, h33, h34, h35, h36, h37, h38, h39]; done) | (simp only [h28n, decide_eq_false h32, decide_eq_false h33, decide_eq_false h34, decide_eq_false h35, decide_eq_false h36, decide_eq_false h37, decide_eq_false h38, decide_eq_false h39, decide_eq_true (show a0.Kind ≠ (19 : Int) by omega), decide_eq_true (show a0.Kind ≠ (20 : Int) by omega)]; done) | grind)), trivial⟩, hL⟩
     ·clear hL
      subst hE27
      rintro f w ⟨hf, hL⟩
      obtain ⟨g, rfl⟩ := has_updL _ _ hf
      clear hf
      by_cases h40 : (((!((((((decide (a0.Kind = (1 : Int))) || (decide (a0.Kind = (15 : Int)))) || (decide (a0.Kind = (16 : Int)))) || (decide (a0.Kind = (17 : Int)))) || (decide (a0.Kind = (19 : Int)))) || (decide (a0.Kind = (20 : Int))))) && (decide (a0.N ≠ (0 : Int)))) || ((((decide (a0.Kind ≠ (19 : Int))) && (decide (a0.Kind ≠ (20 : Int)))) && (decide (a0.Kind ≠ (21 : Int)))) && (decide (a0.Ctx ≠ (0 : Int))))) = true
      ·try rw [h40]
       rw [if_pos h40] at hM
       refine wIfT rfl (wSeq (wReg (sRun (xAsB rfl) (sNil (wRet ?_)))))
       subst hM
       refine res1 (P := Try.prog) (fn := Try.f87) rfl ?_
       exact ⟨rfl, hL.1⟩
      ·have h40n : (((!((((((decide (a0.Kind = (1 : Int))) || (decide (a0.Kind = (15 : Int)))) || (decide (a0.Kind = (16 : Int)))) || (decide (a0.Kind = (17 : Int)))) || (decide (a0.Kind = (19 : Int)))) || (decide (a0.Kind = (20 : Int))))) && (decide (a0.N ≠ (0 : Int)))) || ((((decide (a0.Kind ≠ (19 : Int))) && (decide (a0.Kind ≠ (20 : Int)))) && (decide (a0.Kind ≠ (21 : Int)))) && (decide (a0.Ctx ≠ (0 : Int))))) = false := Bool.eq_false_iff.2 h40
       try rw [h40n]
       rw [if_neg h40] at hM
       refine wIfF rfl (wSkip (wSeq ?_))
       obtain ⟨E41, hE41⟩ : ∃ E, ((decide (a0.Kind = (21 : Int))) || (((decide (a0.Var = (0 : Int))) && (decide (a0.Piece = (0 : Int)))) && (decide ([a0.Src.Kind, a0.Src.Val, a0.Src.Add] = [(0 : Int), (0 : Int), (0 : Int)])))) = E := ⟨_, rfl⟩
       refine wJ (fun f w => Has f [(2, .bool E41)] ∧ Bx w0 w [.box b1 66 (GOp.cells a0).toArray]) ?_ ?_
       ·refine wReg (sRun (xMvI rfl) (sRun (xEqlD rfl rfl) (sRun (xMvB rfl) ?_)))
        by_cases h42 : a0.Kind = (21 : Int)
        ·try rw [decide_eq_true h42]
         refine sNo rfl (sNo rfl (sNo rfl (sNo rfl (sNo rfl (sNo rfl (sNo rfl (sNo rfl (sNo rfl (sNo rfl (sNo rfl (sNo rfl (sNo rfl (sNo rfl ?_)))))))))))))
         refine sRun (xPkTB rfl rfl) (sRun (xAsB rfl) (sNil ?_))
         exact ⟨⟨(congrArg Value.bool (by rw [← hE41]; first | (simp [h42]; done) | (simp only [decide_eq_true h42]; done) | grind)), trivial⟩, hL⟩
        ·try rw [decide_eq_false h42]
         refine sGo rfl (sRun (xFld (k := 6) Try.underlying66 rfl rfl ti3 (by decide) rfl) (sGo rfl (sRun (xLoad Try.underlying3 rfl rfl ((hL.bk 0 rfl).cell (i := 6) rfl)) (sGo rfl (sRun (xEqlD rfl rfl) (sGo rfl (sRun (xMvB rfl) ?_)))))))
         by_cases h43 : a0.Var = (0 : Int)
         ·try rw [decide_eq_true h43]
          refine sGo rfl (sRun (xFld (k := 7) Try.underlying66 rfl rfl ti3 (by decide) rfl) (sGo rfl (sRun (xLoad Try.underlying3 rfl rfl ((hL.bk 0 rfl).cell (i := 7) rfl)) (sGo rfl (sRun (xEqlD rfl rfl) (sGo rfl (sRun (xPkTB rfl rfl) (sGo rfl (sRun (xMvB rfl) ?_)))))))))
          by_cases h44 : a0.Piece = (0 : Int)
          ·try rw [decide_eq_true h44]
           refine sGo rfl (sRun (xFld (k := 8) Try.underlying66 rfl rfl ti64 (by decide) rfl) (sGo rfl (sRun (xLoadS (GSrc.cells a0.Src) Try.underlying64 rfl ti64 rfl rfl ((hL.bk 0 rfl).part rfl)) (sGo rfl (sRun bd87_95 (sGo rfl (sRun (xAgEq3 Try.underlying64 (by kernel_rfl) (by kernel_rfl) (by kernel_rfl) rfl rfl) (sGo rfl (sRun (xPkTB rfl rfl) (sRun (xPkFB rfl rfl) (sRun (xAsB rfl) (sNil ?_))))))))))))
           exact ⟨⟨(congrArg Value.bool (by rw [← hE41]; first | (simp [h42, h43, h44]; done) | (simp only [decide_eq_false h42, decide_eq_true h43, decide_eq_true h44]; done) | grind)), trivial⟩, hL⟩
          ·try rw [decide_eq_false h44]
           refine sNo rfl (sNo rfl (sNo rfl (sNo rfl (sGo rfl (sRun (xPkFB rfl rfl) (sRun (xPkFB rfl rfl) (sRun (xAsB rfl) (sNil ?_))))))))
           exact ⟨⟨(congrArg Value.bool (by rw [← hE41]; first | (simp [h42, h43, h44]; done) | (simp only [decide_eq_false h42, decide_eq_true h43, decide_eq_false h44]; done) | grind)), trivial⟩, hL⟩
         ·try rw [decide_eq_false h43]
          refine sNo rfl (sNo rfl (sNo rfl (sGo rfl (sRun (xPkFB rfl rfl) (sGo rfl (sRun (xMvB rfl) (sNo rfl (sNo rfl (sNo rfl (sNo rfl (sGo rfl (sRun (xPkFB rfl rfl) (sRun (xPkFB rfl rfl) ?_)))))))))))))
          refine sRun (xAsB rfl) (sNil ?_)
          exact ⟨⟨(congrArg Value.bool (by rw [← hE41]; first | (simp [h42, h43]; done) | (simp only [decide_eq_false h42, decide_eq_false h43]; done) | grind)), trivial⟩, hL⟩
       ·clear hL
        subst hE41
        rintro f w ⟨hf, hL⟩
        obtain ⟨g, rfl⟩ := has_updL _ _ hf
        clear hf
        refine wRet ?_
        subst hM
        refine res1 (P := Try.prog) (fn := Try.f87) rfl ?_
        exact ⟨rfl, hL.1⟩

def m_r06_source (a0 : (GCode List)) (a1 : GSrc) (a2 : (List Int)) : Bool :=
 if a1.Kind = (0 : Int) then
  if a1.Val = (0 : Int) then
   (decide (a1.Add = (0 : Int)))
  else
   false
 else
  if a1.Kind = (1 : Int) then
   (decide (a1.Val = (0 : Int)))
  else
   if a1.Kind = (2 : Int) then
    (m_r06_Has a2 a1.Val)
   else
    if a1.Kind = (3 : Int) then
     if (0 : Int) ≤ a1.Val then
      (decide (a1.Val < a0.Params))
     else
      false
    else
     false
set_option maxHeartbeats 12800000 in
theorem sp_m_r06_source (w0 : World) (a0 : (GCode Lst)) (h0 : Dat.ok (fun _ => True) w0 a0) (a1 : GSrc) (a2 : (Lst Int)) (h2 : Dat.ok (fun _ => True) w0 a2) : Calls Try.prog 88 #[.agg (GCode.cells a0).toArray, .agg (GSrc.cells a1).toArray, .slice a2.a a2.l.length a2.c] w0 (Ret fun v w => v = .bool (m_r06_source (GCode.er a0) a1 a2.l) ∧ Ext w0 w) := by
  obtain ⟨X, hM⟩ : ∃ X, m_r06_source (GCode.er a0) a1 a2.l = X := ⟨_, rfl⟩
  rw [hM]
  unfold m_r06_source at hM
  try simp only [er1, er2, er3, er4, er5, er6, er7, er8, er9, er10, er11, er12, er13, er14, er15, er16, er17, List.length_map] at hM
  have hL : Bx w0 w0 [] := Bx.nil
  refine calls_of Try.func88 rfl (Nat.le_of_ble_eq_true rfl) (by kernel_rfl) ?_
  refine wCut [(0, .agg (GCode.cells a0).toArray), (1, .agg (GSrc.cells a1).toArray), (2, .slice a2.a a2.l.length a2.c)] ⟨rfl, rfl, rfl, trivial⟩ fun g => ?_
  refine wSeq (wReg (sTo (aNew (mBox rfl)) ?_))
  rintro _ w1 ⟨b1, rfl, hge1, hB1, he1⟩
  replace hL := hL.new hge1 hB1 he1
  refine sTo (aNew (mBox rfl)) ?_
  rintro _ w2 ⟨b2, rfl, hge2, hB2, he2⟩
  replace hL := hL.new hge2 hB2 he2
  refine sRun (xAsB rfl) (sNil (wSeq (wSeq (wReg (sRun (xFld0 Try.underlying64 rfl rfl ti3 (by decide) rfl) (sRun (xLoad Try.underlying3 rfl rfl ((hL.bk 0 rfl).cell (i := 0) rfl)) (sNil (wBlock (wSeq (wReg (sRun (xEqlD rfl rfl) (sRun (xAsB rfl) (sNil ?_)))))))))))))
  by_cases h3 : a1.Kind = (0 : Int)
  ·try rw [decide_eq_true h3]
   rw [if_pos h3] at hM
   refine wIfT rfl (wSeq (wReg (sRun (xFld (k := 1) Try.underlying64 rfl rfl ti3 (by decide) rfl) (sRun (xLoad Try.underlying3 rfl rfl ((hL.bk 0 rfl).cell (i := 1) rfl)) (sRun (xEqlD rfl rfl) (sRun (xMvB rfl) ?_))))))
   by_cases h4 : a1.Val = (0 : Int)
   ·try rw [decide_eq_true h4]
    rw [if_pos h4] at hM
    refine sGo rfl (sRun (xFld (k := 2) Try.underlying64 rfl rfl ti3 (by decide) rfl) (sGo rfl (sRun (xLoad Try.underlying3 rfl rfl ((hL.bk 0 rfl).cell (i := 2) rfl)) (sGo rfl (sRun (xEqlD rfl rfl) (sRun (xPkTB rfl rfl) (sRun (xAsB rfl) (sNil (wRet ?_)))))))))
    subst hM
    refine res1 (P := Try.prog) (fn := Try.f88) rfl ?_
    exact ⟨rfl, hL.1⟩
   ·try rw [decide_eq_false h4]
    rw [if_neg h4] at hM
    refine sNo rfl (sNo rfl (sNo rfl (sRun (xPkFB rfl rfl) (sRun (xAsB rfl) (sNil (wRet ?_))))))
    subst hM
    refine res1 (P := Try.prog) (fn := Try.f88) rfl ?_
    exact ⟨rfl, hL.1⟩
  ·try rw [decide_eq_false h3]
   rw [if_neg h3] at hM
   refine wIfF rfl (wSeq (wReg (sRun (xEqlD rfl rfl) (sRun (xAsB rfl) (sNil ?_)))))
   by_cases h5 : a1.Kind = (1 : Int)
   ·try rw [decide_eq_true h5]
    rw [if_pos h5] at hM
    refine wIfT rfl (wSeq (wReg (sRun (xFld (k := 1) Try.underlying64 rfl rfl ti3 (by decide) rfl) (sRun (xLoad Try.underlying3 rfl rfl ((hL.bk 0 rfl).cell (i := 1) rfl)) (sRun (xEqlD rfl rfl) (sRun (xAsB rfl) (sNil (wRet ?_))))))))
    subst hM
    refine res1 (P := Try.prog) (fn := Try.f88) rfl ?_
    exact ⟨rfl, hL.1⟩
   ·try rw [decide_eq_false h5]
    rw [if_neg h5] at hM
    refine wIfF rfl (wSeq (wReg (sRun (xEqlD rfl rfl) (sRun (xAsB rfl) (sNil ?_)))))
    by_cases h6 : a1.Kind = (2 : Int)
    ·try rw [decide_eq_true h6]
     rw [if_pos h6] at hM
     refine wIfT rfl (wSeq (wReg (sRun (xMvS rfl) (sRun (xFld (k := 1) Try.underlying64 rfl rfl ti3 (by decide) rfl) (sRun (xLoad Try.underlying3 rfl rfl ((hL.bk 0 rfl).cell (i := 1) rfl)) (sCall (eCall cal55 rfl) (sp_m_r06_Has _ a2 (Dat.all (Dat.ext (x := a2) h2 hL.1)) a1.Val) ?_))))))
     rintro _ w7 ⟨rfl, he7⟩
     replace hL := hL.ext he7
     refine sRun (xAsB rfl) (sNil (wRet ?_))
     subst hM
     refine res1 (P := Try.prog) (fn := Try.f88) rfl ?_
     exact ⟨rfl, hL.1⟩
    ·try rw [decide_eq_false h6]
     rw [if_neg h6] at hM
     refine wIfF rfl (wSeq (wReg (sRun (xEqlD rfl rfl) (sRun (xAsB rfl) (sNil ?_)))))
     by_cases h8 : a1.Kind = (3 : Int)
     ·try rw [decide_eq_true h8]
      rw [if_pos h8] at hM
      refine wIfT rfl (wSeq (wReg (sRun (xFld (k := 1) Try.underlying64 rfl rfl ti3 (by decide) rfl) (sRun (xLoad Try.underlying3 rfl rfl ((hL.bk 0 rfl).cell (i := 1) rfl)) (sRun (xGeq rfl rfl) (sRun (xMvB rfl) ?_))))))
      by_cases h9 : (0 : Int) ≤ a1.Val
      ·try rw [decide_eq_true h9]
       rw [if_pos h9] at hM
       refine sGo rfl (sRun (xFld (k := 1) Try.underlying64 rfl rfl ti3 (by decide) rfl) (sGo rfl (sRun (xLoad Try.underlying3 rfl rfl ((hL.bk 0 rfl).cell (i := 1) rfl)) (sGo rfl (sRun (xFld0 Try.underlying26 rfl rfl ti3 (by decide) rfl) (sGo rfl (sRun (xLoad Try.underlying3 rfl rfl ((hL.bk 1 rfl).cell (i := 0) rfl)) (sGo rfl (sRun (xLss rfl rfl) (sRun (xPkTB rfl rfl) (sRun (xAsB rfl) (sNil (wRet ?_)))))))))))))
       subst hM
       refine res1 (P := Try.prog) (fn := Try.f88) rfl ?_
       exact ⟨rfl, hL.1⟩
      ·try rw [decide_eq_false h9]
       rw [if_neg h9] at hM
       refine sNo rfl (sNo rfl (sNo rfl (sNo rfl (sNo rfl (sRun (xPkFB rfl rfl) (sRun (xAsB rfl) (sNil (wRet ?_))))))))
       subst hM
       refine res1 (P := Try.prog) (fn := Try.f88) rfl ?_
       exact ⟨rfl, hL.1⟩
     ·try rw [decide_eq_false h8]
      rw [if_neg h8] at hM
      refine wIfF rfl (wSkip (wSeq (wReg (sRun (xAsB rfl) (sNil (wRet ?_))))))
      subst hM
      refine res1 (P := Try.prog) (fn := Try.f88) rfl ?_
      exact ⟨rfl, hL.1⟩

def m_r06_Values_L1 (a0 : (GBlock List)) (u3 : List Int) : List GOp → Nat → (List Int) → Lp (List Int) ((List Int))
  | [], _, s8_0 => .go s8_0
  | x8 :: r8, k8, s8_0 =>
  if (m_r06_Defines x8.Kind) = true then
   m_r06_Values_L1 a0 u3 r8 (k8 + 1) (s8_0 ++ [x8.Dst])
  else
   m_r06_Values_L1 a0 u3 r8 (k8 + 1) s8_0
def m_r06_Values_L0 (a0 : (GBlock List)) : Nat → Int → (List Int) → Lp (List Int) ((List Int))
  | 0, _, s3_0 => .go s3_0
  | n3 + 1, i3, s3_0 =>
  m_r06_Values_L0 a0 n3 (i3 + 1) (s3_0 ++ [i3])
def m_r06_Values (a0 : (GBlock List)) : (List Int) :=
 (m_r06_Values_L0 a0 (a0.Params - (0 : Int)).toNat (0 : Int) ([] : List Int)).el (fun u3 =>
  (m_r06_Values_L1 a0 u3 a0.Ops 0 u3).el (fun u8 =>
   u8
    ) (fun o => o)
   ) (fun o => o)
theorem bs86_15 {ρ : Operand → Value} {w : World} {d : Option Nat} {ty : TypeId} {pos : String} {af : Array Edge} {g : Option (Nat × Bool)} {x0 : Int} {o0 : Operand} (h0 : ρ o0 = .int .i64 x0) :
    (execOp ρ ⟨d, .buildSlice 37 1 #[(0, o0)], ty, pos, af, g⟩).run Try.prog w = .ok (.value (.slice (some ⟨w.heap.size, 0, none⟩) 1 1)) (w.alloc (.cells #[.int .i64 x0] 3)) := by
  have e : (Instr.buildSlice 37 1 #[(0, .int .i64 x0)]).run Try.prog w = .ok (.slice (some ⟨w.heap.size, 0, none⟩) 1 1) (w.alloc (.cells #[.int .i64 x0] 3)) := by kernel_rfl
  simp [execOp, h0, e]
theorem bs86_30 {ρ : Operand → Value} {w : World} {d : Option Nat} {ty : TypeId} {pos : String} {af : Array Edge} {g : Option (Nat × Bool)} {x0 : Int} {o0 : Operand} (h0 : ρ o0 = .int .i64 x0) :
    (execOp ρ ⟨d, .buildSlice 37 1 #[(0, o0)], ty, pos, af, g⟩).run Try.prog w = .ok (.value (.slice (some ⟨w.heap.size, 0, none⟩) 1 1)) (w.alloc (.cells #[.int .i64 x0] 3)) := by
  have e : (Instr.buildSlice 37 1 #[(0, .int .i64 x0)]).run Try.prog w = .ok (.slice (some ⟨w.heap.size, 0, none⟩) 1 1) (w.alloc (.cells #[.int .i64 x0] 3)) := by kernel_rfl
  simp [execOp, h0, e]
set_option maxHeartbeats 12800000 in
theorem sp_m_r06_Values (w0 : World) (a0 : (GBlock Lst)) (h0 : Dat.ok (fun _ => True) w0 a0) (hp : a0.Params ≤ 999) : Calls Try.prog 86 #[.agg (GBlock.cells a0).toArray] w0 (Ret fun v w => ∃ r : (Lst Int), v = r.val ∧ r.l = m_r06_Values (GBlock.er a0) ∧ Dat.ok (fun b => w0.heap.size ≤ b) w r ∧ Ext w0 w) := by
  obtain ⟨X, hM⟩ : ∃ X, m_r06_Values (GBlock.er a0) = X := ⟨_, rfl⟩
  rw [hM]
  unfold m_r06_Values at hM
  try simp only [er1, er2, er3, er4, er5, er6, er7, er8, er9, er10, er11, er12, er13, er14, er15, er16, er17, List.length_map] at hM
  have hL : Bx w0 w0 [] := Bx.nil
  refine calls_of Try.func86 rfl (Nat.le_of_ble_eq_true rfl) (by kernel_rfl) ?_
  refine wCut [(0, .agg (GBlock.cells a0).toArray)] ⟨rfl, trivial⟩ fun g => ?_
  refine wSeq (wReg (sTo (aNew (mBox rfl)) ?_))
  rintro _ w1 ⟨b1, rfl, hge1, hB1, he1⟩
  replace hL := hL.new hge1 hB1 he1
  refine sRun (xAsS rfl) (sNil (wSeq (wReg (sRun (xAsS rfl) (sNil (wSeq (wSeq (wReg (sRun (xAsI rfl) (sNil ?_))))))))))
  replace hL := hL.owL Int 3
  obtain ⟨Y3, hY3⟩ : ∃ Y, m_r06_Values_L0 (GBlock.er a0) (a0.Params - (0 : Int)).toNat (0 : Int) ([] : List Int) = Y := ⟨_, rfl⟩
  rw [hY3] at hM
  refine wJ (fun f w => ∃ (s3_0 : List Int) (A4 : Option Addr) (c4 : Nat), Has f [(1, .pointer (some ⟨b1, 0, none⟩)), (3, .slice A4 s3_0.length c4)] ∧ Bx w0 w [.ownl A4 c4 3 s3_0, .box b1 60 (GBlock.cells a0).toArray] ∧ s3_0.length ≤ ([] : List Int).length + 1 * (a0.Params - (0 : Int)).toNat ∧ Lp.go s3_0 = Y3) ?_ ?_
  ·refine wBlock (wLoopG (fun n f w => ∃ (i3 : Int) (s3_0 : List Int) (A4 : Option Addr) (c4 : Nat), n = (a0.Params - i3).toNat ∧ (0 : Int) ≤ i3 ∧ (i3 ≤ a0.Params ∨ i3 = (0 : Int)) ∧ Has f [(4, .int .i64 i3), (1, .pointer (some ⟨b1, 0, none⟩)), (3, .slice A4 s3_0.length c4)] ∧ Bx w0 w [.ownl A4 c4 3 s3_0, .box b1 60 (GBlock.cells a0).toArray] ∧ s3_0.length ≤ ([] : List Int).length + 1 * (i3 - (0 : Int)).toNat ∧ m_r06_Values_L0 (GBlock.er a0) n i3 s3_0 = Y3) (a0.Params - (0 : Int)).toNat ⟨(0 : Int), ([] : List Int), none, 0, rfl, Int.le_refl _, Or.inr rfl, ⟨rfl, rfl, rfl, trivial⟩, hL, (by first | omega | (simp only [List.length_append, List.length_cons, List.length_nil] at *; omega)), hY3⟩ ?_)
   clear hL hY3
   rintro n3 f w ⟨i3, s3_0, A4, c4, hn3, hk3, hj3, hf, hL, hb3_0, hY3⟩
   obtain ⟨g, rfl⟩ := has_updL _ _ hf
   clear hf
   by_cases hk3b : i3 < a0.Params
   ·obtain ⟨m3, rfl⟩ : ∃ m, n3 = m + 1 := ⟨n3 - 1, by omega⟩
    rw [m_r06_Values_L0] at hY3
    try simp only [er1, er2, er3, er4, er5, er6, er7, er8, er9, er10, er11, er12, er13, er14, er15, er16, er17, List.length_map] at hY3
    refine wSeq (wSeq (wReg (sRun (xMvI rfl) (sRun (xFld0 Try.underlying60 rfl rfl ti3 (by decide) rfl) (sRun (xLoad Try.underlying3 rfl rfl ((hL.bk 1 rfl).cell (i := 0) rfl)) (sRun (xLssT rfl rfl (by omega)) (sNil (wIfT rfl (wSkip (wSeq (wBlock (wReg (sRun (xMvS rfl) ?_)))))))))))))
    refine sRun (xMvI rfl) (sTo (aRow (bs86_15 rfl)) ?_)
    rintro _ w5 ⟨b5, rfl, hge5, hB5, he5⟩
    replace hL := hL.new hge5 hB5 he5
    refine sTo (aAppL (xs := s3_0) (ys := [i3]) Try.underlying37 ti3 rfl (by decide) rfl rfl (hL.bo 1 rfl) ((hL.bk 0 rfl).sl1 (α := Int) [i3] rfl rfl) (allOne rfl) (by first | omega | (simp only [List.length_append, List.length_cons, List.length_nil] at *; omega)) (by first | omega | (simp only [List.length_append, List.length_cons, List.length_nil] at *; omega))) ?_
    rintro _ w6 ⟨A6, c6, rfl, ho6, hg6, hr6⟩
    replace hL : Bx w0 w6 [.box b5 3 #[.int .i64 i3], .ownl A6 c6 3 (s3_0 ++ [i3]), .box b1 60 (GBlock.cells a0).toArray] := hL.app 1 rfl ho6 hg6 hr6
    refine sRun (xAsS rfl) (sNil (wReg (sRun (xMvI rfl) (sRun (xAdd64 rfl rfl (by omega) (by omega)) (sRun (xAsI rfl) (sNil ?_))))))
    exact ⟨m3, by omega, (i3 + 1), (s3_0 ++ [i3]), A6, c6, by omega, by omega, Or.inl (by omega), ⟨rfl, rfl, rfl, trivial⟩, hL.tl, (by first | omega | (simp only [List.length_append, List.length_cons, List.length_nil] at *; omega)), hY3⟩
   ·obtain rfl : n3 = 0 := by omega
    rw [m_r06_Values_L0] at hY3
    refine wSeq (wSeq (wReg (sRun (xMvI rfl) (sRun (xFld0 Try.underlying60 rfl rfl ti3 (by decide) rfl) (sRun (xLoad Try.underlying3 rfl rfl ((hL.bk 1 rfl).cell (i := 0) rfl)) (sRun (xLssF rfl rfl (by omega)) (sNil (wIfF rfl (wExit ?_)))))))))
    exact ⟨s3_0, A4, c4, ⟨rfl, rfl, trivial⟩, hL, (by first | omega | (simp only [List.length_append, List.length_cons, List.length_nil] at *; omega)), hY3⟩
  ·clear hL
   rintro f w ⟨s3_0, A4, c4, hf, hL, hb3_0, hZ3⟩
   obtain ⟨g, rfl⟩ := has_updL _ _ hf
   clear hf
   subst hZ3
   rw [Lp.el_go] at hM
   try dsimp only at hM
   refine wSeq (wSeq (wReg (sRun (xFld (k := 1) Try.underlying60 rfl rfl ti53 (by decide) rfl) (sRun (xLoad Try.underlying53 rfl rfl ((hL.bk 1 rfl).cell (i := 1) rfl)) ?_))))
   have hl7 : a0.Ops.l.length * 88 ≤ 140737488355328 := Lst.bd h0.1
   refine sRun (xLnL (s := a0.Ops) Try.underlying53 rfl) (sRun (xMvI rfl) (sNil ?_))
   obtain ⟨Y8, hY8⟩ : ∃ Y, m_r06_Values_L1 (GBlock.er a0) s3_0 a0.Ops.l 0 s3_0 = Y := ⟨_, rfl⟩
   rw [hY8] at hM
   refine wJ (fun f w => ∃ (s8_0 : List Int) (A9 : Option Addr) (c9 : Nat), Has f [(3, .slice A9 s8_0.length c9), (18, .slice a0.Ops.a a0.Ops.l.length a0.Ops.c), (19, .int .i64 ((a0.Ops.l.length : Nat) : Int))] ∧ Bx w0 w [.ownl A9 c9 3 s8_0, .box b1 60 (GBlock.cells a0).toArray] ∧ s8_0.length ≤ s3_0.length + 1 * a0.Ops.l.length ∧ Lp.go s8_0 = Y8) ?_ ?_
   ·refine wBlock (wLoopG (fun n f w => ∃ (k8 : Nat) (s8_0 : List Int) (A9 : Option Addr) (c9 : Nat), n = a0.Ops.l.length - k8 ∧ k8 ≤ a0.Ops.l.length ∧ Has f [(20, .int .i64 ((k8 : Nat) : Int)), (3, .slice A9 s8_0.length c9), (18, .slice a0.Ops.a a0.Ops.l.length a0.Ops.c), (19, .int .i64 ((a0.Ops.l.length : Nat) : Int))] ∧ Bx w0 w [.ownl A9 c9 3 s8_0, .box b1 60 (GBlock.cells a0).toArray] ∧ s8_0.length ≤ s3_0.length + 1 * k8 ∧ m_r06_Values_L1 (GBlock.er a0) s3_0 (a0.Ops.l.drop k8) k8 s8_0 = Y8) (a0.Ops.l.length) ⟨0, s3_0, A4, c4, rfl, Nat.zero_le _, ⟨rfl, rfl, rfl, rfl, trivial⟩, hL, (by first | omega | (simp only [List.length_append, List.length_cons, List.length_nil] at *; omega)), hY8⟩ ?_)
    clear hL hY8
    rintro n f w ⟨k8, s8_0, A9, c9, rfl, hk8, hf, hL, hb8_0, hY8⟩
    obtain ⟨g, rfl⟩ := has_updL _ _ hf
    clear hf
    rcases Nat.lt_or_ge k8 a0.Ops.l.length with hk8b | hk8b
    ·obtain ⟨x8, hx8⟩ := get_ex (l := a0.Ops.l) hk8b
     rw [drop_id hx8, m_r06_Values_L1] at hY8
     try simp only [er1, er2, er3, er4, er5, er6, er7, er8, er9, er10, er11, er12, er13, er14, er15, er16, er17, List.length_map] at hY8
     refine wSeq (wReg (sRun (xLssT rfl rfl (by omega)) (sNil (wSeq (wIfT rfl (wSkip (wSeq (wBlock (wSeq (wReg (sRun (xIdL Try.underlying53 ti66 rfl rfl rfl h0.1 hx8) (sRun (xLoadS (GOp.cells x8) Try.underlying66 rfl ti66 rfl rfl ((Lst.el h0.1 hx8).ext hL.1)) (sTo (aNew (mAlloc ti66)) ?_)))))))))))))
     rintro _ w10 ⟨b10, rfl, hge10, hB10, he10⟩
     replace hL := hL.new hge10 hB10 he10
     refine sStS ti66 rfl rfl rfl (by simp [Value.oneCell', Dat.cells, GOp.cells]) (hL.bk 0 rfl) rfl ?_
     intro w11 hB11 hC11
     replace hL : Bx w0 w11 [.box b10 66 (GOp.cells x8).toArray, .ownl A9 c9 3 s8_0, .box b1 60 (GBlock.cells a0).toArray] := hL.wr 0 rfl hC11 hB11
     refine sNil (wSeq (wReg (sRun (xFld0 Try.underlying66 rfl rfl ti3 (by decide) rfl) (sRun (xLoad Try.underlying3 rfl rfl ((hL.bk 0 rfl).cell (i := 0) rfl)) (sCall (eCall cal56 rfl) (sp_m_r06_Defines _ x8.Kind) ?_)))))
     rintro _ w12 ⟨rfl, he12⟩
     replace hL := hL.ext he12
     refine sNil ?_
     by_cases h13 : (m_r06_Defines x8.Kind) = true
     ·try rw [h13]
      rw [if_pos h13] at hY8
      refine wIfT rfl (wReg (sRun (xMvS rfl) (sRun (xFld (k := 1) Try.underlying66 rfl rfl ti3 (by decide) rfl) (sRun (xLoad Try.underlying3 rfl rfl ((hL.bk 0 rfl).cell (i := 1) rfl)) (sTo (aRow (bs86_30 rfl)) ?_)))))
      rintro _ w14 ⟨b14, rfl, hge14, hB14, he14⟩
      replace hL := hL.new hge14 hB14 he14
      refine sTo (aAppL (xs := s8_0) (ys := [x8.Dst]) Try.underlying37 ti3 rfl (by decide) rfl rfl (hL.bo 2 rfl) ((hL.bk 0 rfl).sl1 (α := Int) [x8.Dst] rfl rfl) (allOne rfl) (by first | omega | (simp only [List.length_append, List.length_cons, List.length_nil] at *; omega)) (by first | omega | (simp only [List.length_append, List.length_cons, List.length_nil] at *; omega))) ?_
      rintro _ w15 ⟨A15, c15, rfl, ho15, hg15, hr15⟩
      replace hL : Bx w0 w15 [.box b14 3 #[.int .i64 x8.Dst], .box b10 66 (GOp.cells x8).toArray, .ownl A15 c15 3 (s8_0 ++ [x8.Dst]), .box b1 60 (GBlock.cells a0).toArray] := hL.app 2 rfl ho15 hg15 hr15
      refine sRun (xAsS rfl) (sNil (wReg (sRun (xAdd64 rfl rfl (by omega) (by omega)) (sRun (xMvI rfl) (sNil ?_)))))
      exact ⟨a0.Ops.l.length - (k8 + 1), by omega, k8 + 1, (s8_0 ++ [x8.Dst]), A15, c15, rfl, by omega, ⟨rfl, rfl, rfl, rfl, trivial⟩, hL.tl.tl, (by first | omega | (simp only [List.length_append, List.length_cons, List.length_nil] at *; omega)), hY8⟩
     ·have h13n : (m_r06_Defines x8.Kind) = false := Bool.eq_false_iff.2 h13
      try rw [h13n]
      rw [if_neg h13] at hY8
      refine wIfF rfl (wSkip (wReg (sRun (xAdd64 rfl rfl (by omega) (by omega)) (sRun (xMvI rfl) (sNil ?_)))))
      exact ⟨a0.Ops.l.length - (k8 + 1), by omega, k8 + 1, s8_0, A9, c9, rfl, by omega, ⟨rfl, rfl, rfl, rfl, trivial⟩, hL.tl, (by first | omega | (simp only [List.length_append, List.length_cons, List.length_nil] at *; omega)), hY8⟩
    ·obtain rfl : k8 = a0.Ops.l.length := by omega
     rw [drop_end, m_r06_Values_L1] at hY8
     refine wSeq (wReg (sRun (xLssF rfl rfl (by omega)) (sNil (wSeq (wIfF rfl (wExit ?_))))))
     exact ⟨s8_0, A9, c9, ⟨rfl, rfl, rfl, trivial⟩, hL, (by first | omega | (simp only [List.length_append, List.length_cons, List.length_nil] at *; omega)), hY8⟩
   ·clear hL
    rintro f w ⟨s8_0, A9, c9, hf, hL, hb8_0, hZ8⟩
    obtain ⟨g, rfl⟩ := has_updL _ _ hf
    clear hf
    subst hZ8
    rw [Lp.el_go] at hM
    try dsimp only at hM
    refine wSeq (wReg (sRun (xMvS rfl) (sRun (xAsS rfl) (sNil (wRet (res1 (P := Try.prog) (fn := Try.f86) rfl ?_))))))
    exact ⟨⟨A9, c9, s8_0⟩, rfl, hM, Own.okL (hL.bo 0 rfl) (hL.base 0 rfl) (fun _ _ => trivial) (show s8_0.length * 8 ≤ 140737488355328 by first | omega | (simp only [List.length_append, List.length_cons, List.length_nil] at *; omega)), hL.1⟩

def m_r06_none (a0 : (GEdge List)) : Bool :=
 if a0.Block = (-1 : Int) then
  (decide (((a0.Args.length : Nat) : Int) = (0 : Int)))
 else
  false
set_option maxHeartbeats 12800000 in
theorem sp_m_r06_none (w0 : World) (a0 : (GEdge Lst)) (h0 : Dat.ok (fun _ => True) w0 a0) : Calls Try.prog 90 #[.agg (GEdge.cells a0).toArray] w0 (Ret fun v w => v = .bool (m_r06_none (GEdge.er a0)) ∧ Ext w0 w) := by
  obtain ⟨X, hM⟩ : ∃ X, m_r06_none (GEdge.er a0) = X := ⟨_, rfl⟩
  rw [hM]
  unfold m_r06_none at hM
  try simp only [er1, er2, er3, er4, er5, er6, er7, er8, er9, er10, er11, er12, er13, er14, er15, er16, er17, List.length_map] at hM
  have hL : Bx w0 w0 [] := Bx.nil
  refine calls_of Try.func90 rfl (Nat.le_of_ble_eq_true rfl) (by kernel_rfl) ?_
  refine wCut [(0, .agg (GEdge.cells a0).toArray)] ⟨rfl, trivial⟩ fun g => ?_
  refine wSeq (wReg (sTo (aNew (mBox rfl)) ?_))
  rintro _ w1 ⟨b1, rfl, hge1, hB1, he1⟩
  replace hL := hL.new hge1 hB1 he1
  refine sRun (xAsB rfl) (sNil (wSeq (wReg (sRun (xFld0 Try.underlying55 rfl rfl ti3 (by decide) rfl) (sRun (xLoad Try.underlying3 rfl rfl ((hL.bk 0 rfl).cell (i := 0) rfl)) (sRun (xEqlD rfl rfl) (sRun (xMvB rfl) ?_)))))))
  by_cases h2 : a0.Block = (-1 : Int)
  ·try rw [decide_eq_true h2]
   rw [if_pos h2] at hM
   refine sGo rfl (sRun (xFld (k := 1) Try.underlying55 rfl rfl ti37 (by decide) rfl) (sGo rfl (sRun (xLoad Try.underlying37 rfl rfl ((hL.bk 0 rfl).cell (i := 1) rfl)) (sGo rfl ?_))))
   have hl3 : a0.Args.l.length * 8 ≤ 140737488355328 := Lst.bd h0
   refine sRun (xLnL (s := a0.Args) Try.underlying37 rfl) (sGo rfl (sRun (xEqlD rfl rfl) (sRun (xPkTB rfl rfl) (sRun (xAsB rfl) (sNil (wRet ?_))))))
   subst hM
   refine res1 (P := Try.prog) (fn := Try.f90) rfl ?_
   exact ⟨rfl, hL.1⟩
  ·try rw [decide_eq_false h2]
   rw [if_neg h2] at hM
   refine sNo rfl (sNo rfl (sNo rfl (sNo rfl (sRun (xPkFB rfl rfl) (sRun (xAsB rfl) (sNil (wRet ?_)))))))
   subst hM
   refine res1 (P := Try.prog) (fn := Try.f90) rfl ?_
   exact ⟨rfl, hL.1⟩

def m_r06_edge_L0 (a0 : (GCode List)) (a1 : (GEdge List)) (a2 : (List Int)) (a3 : Int) : List Int → Nat → Lp (Unit) (Bool)
  | [], _ => .go ()
  | x9 :: r9, k9 =>
  if (m_r06_Has a2 x9) = true then
   m_r06_edge_L0 a0 a1 a2 a3 r9 (k9 + 1)
  else
   .out (false)
def m_r06_edge (a0 : (GCode List)) (a1 : (GEdge List)) (a2 : (List Int)) (a3 : Int) : Bool :=
 if a1.Block < (1 : Int) then
  false
 else
  if ((a0.Blocks.length : Nat) : Int) ≤ a1.Block then
   false
  else
   if (wr (((a1.Args.length : Nat) : Int) + a3)) ≠ (a0.Blocks[(a1.Block).toNat]?.getD (⟨(0 : Int), [], (⟨(0 : Int), (0 : Int), (0 : Int), [], (⟨(⟨(0 : Int), []⟩ : (GEdge List)), (⟨(0 : Int), []⟩ : (GEdge List))⟩ : (GArr56 List))⟩ : (GTerm List))⟩ : (GBlock List))).Params then
    false
   else
    (m_r06_edge_L0 a0 a1 a2 a3 a1.Args 0).el (fun _ =>
     true
      ) (fun o => o)
set_option maxHeartbeats 12800000 in
theorem sp_m_r06_edge (w0 : World) (a0 : (GCode Lst)) (h0 : Dat.ok (fun _ => True) w0 a0) (a1 : (GEdge Lst)) (h1 : Dat.ok (fun _ => True) w0 a1) (a2 : (Lst Int)) (h2 : Dat.ok (fun _ => True) w0 a2) (a3 : Int) : Calls Try.prog 89 #[.agg (GCode.cells a0).toArray, .agg (GEdge.cells a1).toArray, .slice a2.a a2.l.length a2.c, .int .i64 a3] w0 (Ret fun v w => v = .bool (m_r06_edge (GCode.er a0) (GEdge.er a1) a2.l a3) ∧ Ext w0 w) := by
  obtain ⟨X, hM⟩ : ∃ X, m_r06_edge (GCode.er a0) (GEdge.er a1) a2.l a3 = X := ⟨_, rfl⟩
  rw [hM]
  unfold m_r06_edge at hM
  try simp only [er1, er2, er3, er4, er5, er6, er7, er8, er9, er10, er11, er12, er13, er14, er15, er16, er17, List.length_map] at hM
  have hL : Bx w0 w0 [] := Bx.nil
  refine calls_of Try.func89 rfl (Nat.le_of_ble_eq_true rfl) (by kernel_rfl) ?_
  refine wCut [(0, .agg (GCode.cells a0).toArray), (1, .agg (GEdge.cells a1).toArray), (2, .slice a2.a a2.l.length a2.c), (3, .int .i64 a3)] ⟨rfl, rfl, rfl, rfl, trivial⟩ fun g => ?_
  refine wSeq (wReg (sTo (aNew (mBox rfl)) ?_))
  rintro _ w1 ⟨b1, rfl, hge1, hB1, he1⟩
  replace hL := hL.new hge1 hB1 he1
  refine sTo (aNew (mBox rfl)) ?_
  rintro _ w2 ⟨b2, rfl, hge2, hB2, he2⟩
  replace hL := hL.new hge2 hB2 he2
  refine sRun (xAsB rfl) (sNil (wSeq (wSeq ?_)))
  replace hL := hL.drew
  refine wDraw (fun wS => Bx w0 wS [.box b2 55 (GEdge.cells a1).toArray, .box b1 26 (GCode.cells a0).toArray]) [] (by kernel_rfl) (hTake 0 rfl (by kernel_rfl) rfl (fun wS => (xFld0 Try.underlying55 rfl rfl ti3 (by decide) rfl)) (sl_of hL) (hTakeS 1 rfl (by kernel_rfl) (by kernel_rfl) rfl (fun wS hS => (xLoad Try.underlying3 rfl rfl ((hS.bk 0 rfl).cell (i := 0) rfl))) (sl_of hL) (hTake 2 rfl (by kernel_rfl) rfl (fun wS => (xLss rfl rfl)) (sl_of hL) (hTake 3 rfl (by kernel_rfl) rfl (fun wS => (xMvB rfl)) (sl_of hL) ?_))))
  by_cases h3 : a1.Block < (1 : Int)
  ·try rw [decide_eq_true h3]
   rw [if_pos h3] at hM
   refine hSkip 4 rfl (by kernel_rfl) rfl (sl_of hL) (hSkip 5 rfl (by kernel_rfl) rfl (sl_of hL) (hSkip 6 rfl (by kernel_rfl) rfl (sl_of hL) (hSkip 7 rfl (by kernel_rfl) rfl (sl_of hL) (hSkip 8 rfl (by kernel_rfl) rfl (sl_of hL) (hSkip 9 rfl (by kernel_rfl) rfl (sl_of hL) (hTake 10 rfl (by kernel_rfl) rfl (fun wS => (xPkTB rfl rfl)) (sl_of hL) (hTake 11 rfl (by kernel_rfl) rfl (fun wS => (xMvB rfl)) (sl_of hL) (hSkip 12 rfl (by kernel_rfl) rfl (sl_of hL) (hSkip 13 rfl (by kernel_rfl) rfl (sl_of hL) (hSkip 14 rfl (by kernel_rfl) rfl (sl_of hL) (hSkip 15 rfl (by kernel_rfl) rfl (sl_of hL) (hSkip 16 rfl (by kernel_rfl) rfl (sl_of hL) (hSkip 17 rfl (by kernel_rfl) rfl (sl_of hL) ?_)))))))))))))
   refine hSkip 18 rfl (by kernel_rfl) rfl (sl_of hL) (hSkip 19 rfl (by kernel_rfl) rfl (sl_of hL) (hSkip 20 rfl (by kernel_rfl) rfl (sl_of hL) (hSkip 21 rfl (by kernel_rfl) rfl (sl_of hL) (hSkip 22 rfl (by kernel_rfl) rfl (sl_of hL) (hSkip 23 rfl (by kernel_rfl) rfl (sl_of hL) (hSkip 24 rfl (by kernel_rfl) rfl (sl_of hL) (hTake 25 rfl (by kernel_rfl) rfl (fun wS => (xPkTB rfl rfl)) (sl_of hL) (hDone (by kernel_rfl) (wIfT rfl (wSeq (wReg (sRun (xAsB rfl) (sNil ?_)))))))))))))
   refine wRet ?_
   subst hM
   refine res1 (P := Try.prog) (fn := Try.f89) rfl ?_
   exact ⟨rfl, hL.1⟩
  ·try rw [decide_eq_false h3]
   rw [if_neg h3] at hM
   refine hTake 4 rfl (by kernel_rfl) rfl (fun wS => (xFld0 Try.underlying55 rfl rfl ti3 (by decide) rfl)) (sl_of hL) (hTakeS 5 rfl (by kernel_rfl) (by kernel_rfl) rfl (fun wS hS => (xLoad Try.underlying3 rfl rfl ((hS.bk 0 rfl).cell (i := 0) rfl))) (sl_of hL) (hTake 6 rfl (by kernel_rfl) rfl (fun wS => (xFld (k := 1) Try.underlying26 rfl rfl ti22 (by decide) rfl)) (sl_of hL) (hTakeS 7 rfl (by kernel_rfl) (by kernel_rfl) rfl (fun wS hS => (xLoad Try.underlying22 rfl rfl ((hS.bk 1 rfl).cell (i := 1) rfl))) (sl_of hL) ?_)))
   have hl4 : a0.Blocks.l.length * 144 ≤ 140737488355328 := Lst.bd h0.1
   refine hTake 8 rfl (by kernel_rfl) rfl (fun wS => (xLnL (s := a0.Blocks) Try.underlying22 rfl)) (sl_of hL) (hTake 9 rfl (by kernel_rfl) rfl (fun wS => (xGeq rfl rfl)) (sl_of hL) (hTake 10 rfl (by kernel_rfl) rfl (fun wS => (xPkFB rfl rfl)) (sl_of hL) (hTake 11 rfl (by kernel_rfl) rfl (fun wS => (xMvB rfl)) (sl_of hL) ?_)))
   by_cases h5 : ((a0.Blocks.l.length : Nat) : Int) ≤ a1.Block
   ·try rw [decide_eq_true h5]
    rw [if_pos h5] at hM
    refine hSkip 12 rfl (by kernel_rfl) rfl (sl_of hL) (hSkip 13 rfl (by kernel_rfl) rfl (sl_of hL) (hSkip 14 rfl (by kernel_rfl) rfl (sl_of hL) (hSkip 15 rfl (by kernel_rfl) rfl (sl_of hL) (hSkip 16 rfl (by kernel_rfl) rfl (sl_of hL) (hSkip 17 rfl (by kernel_rfl) rfl (sl_of hL) (hSkip 18 rfl (by kernel_rfl) rfl (sl_of hL) (hSkip 19 rfl (by kernel_rfl) rfl (sl_of hL) (hSkip 20 rfl (by kernel_rfl) rfl (sl_of hL) (hSkip 21 rfl (by kernel_rfl) rfl (sl_of hL) (hSkip 22 rfl (by kernel_rfl) rfl (sl_of hL) (hSkip 23 rfl (by kernel_rfl) rfl (sl_of hL) (hSkip 24 rfl (by kernel_rfl) rfl (sl_of hL) (hTake 25 rfl (by kernel_rfl) rfl (fun wS => (xPkTB rfl rfl)) (sl_of hL) ?_)))))))))))))
    refine hDone (by kernel_rfl) (wIfT rfl (wSeq (wReg (sRun (xAsB rfl) (sNil (wRet ?_))))))
    subst hM
    refine res1 (P := Try.prog) (fn := Try.f89) rfl ?_
    exact ⟨rfl, hL.1⟩
   ·try rw [decide_eq_false h5]
    rw [if_neg h5] at hM
    refine hTake 12 rfl (by kernel_rfl) rfl (fun wS => (xFld (k := 1) Try.underlying55 rfl rfl ti37 (by decide) rfl)) (sl_of hL) (hTakeS 13 rfl (by kernel_rfl) (by kernel_rfl) rfl (fun wS hS => (xLoad Try.underlying37 rfl rfl ((hS.bk 0 rfl).cell (i := 1) rfl))) (sl_of hL) ?_)
    have hl6 : a1.Args.l.length * 8 ≤ 140737488355328 := Lst.bd h1
    refine hTake 14 rfl (by kernel_rfl) rfl (fun wS => (xLnL (s := a1.Args) Try.underlying37 rfl)) (sl_of hL) (hTake 15 rfl (by kernel_rfl) rfl (fun wS => (xMvI rfl)) (sl_of hL) (hTake 16 rfl (by kernel_rfl) rfl (fun wS => (xAddW rfl rfl)) (sl_of hL) (hTake 17 rfl (by kernel_rfl) rfl (fun wS => (xFld (k := 1) Try.underlying26 rfl rfl ti22 (by decide) rfl)) (sl_of hL) (hTakeS 18 rfl (by kernel_rfl) (by kernel_rfl) rfl (fun wS hS => (xLoad Try.underlying22 rfl rfl ((hS.bk 1 rfl).cell (i := 1) rfl))) (sl_of hL) (hTake 19 rfl (by kernel_rfl) rfl (fun wS => (xFld0 Try.underlying55 rfl rfl ti3 (by decide) rfl)) (sl_of hL) (hTakeS 20 rfl (by kernel_rfl) (by kernel_rfl) rfl (fun wS hS => (xLoad Try.underlying3 rfl rfl ((hS.bk 0 rfl).cell (i := 0) rfl))) (sl_of hL) ?_))))))
    obtain ⟨x7, hx7⟩ := get_ex (l := a0.Blocks.l) (k := (a1.Block).toNat) (by omega)
    try rw [show (a0.Blocks.l.map GBlock.er)[(a1.Block).toNat]?.getD (⟨(0 : Int), [], (⟨(0 : Int), (0 : Int), (0 : Int), [], (⟨(⟨(0 : Int), []⟩ : (GEdge List)), (⟨(0 : Int), []⟩ : (GEdge List))⟩ : (GArr56 List))⟩ : (GTerm List))⟩ : (GBlock List)) = GBlock.er x7 from getD_map hx7] at hM
    try simp only [er1, er2, er3, er4, er5, er6, er7, er8, er9, er10, er11, er12, er13, er14, er15, er16, er17, List.length_map] at hM
    refine hTake 21 rfl (by kernel_rfl) rfl (fun wS => (xIdL Try.underlying22 ti60 rfl rfl (by omega) h0.1 hx7)) (sl_of hL) (hTake 22 rfl (by kernel_rfl) rfl (fun wS => (xFld0 Try.underlying60 rfl rfl ti3 (by decide) rfl)) (sl_of hL) (hTakeS 23 rfl (by kernel_rfl) (by kernel_rfl) rfl (fun wS hS => (xLoad Try.underlying3 rfl rfl (((Lst.el h0.1 hx7).ext hS.1) 0 _ rfl))) (sl_of hL) (hTake 24 rfl (by kernel_rfl) rfl (fun wS => (xNeqD rfl rfl)) (sl_of hL) (hTake 25 rfl (by kernel_rfl) rfl (fun wS => (xPkFB rfl rfl)) (sl_of hL) (hDone (by kernel_rfl) ?_)))))
    by_cases h8 : (wr (((a1.Args.l.length : Nat) : Int) + a3)) ≠ x7.Params
    ·try rw [decide_eq_true h8]
     rw [if_pos h8] at hM
     refine wIfT rfl (wSeq (wReg (sRun (xAsB rfl) (sNil (wRet ?_)))))
     subst hM
     refine res1 (P := Try.prog) (fn := Try.f89) rfl ?_
     exact ⟨rfl, hL.1⟩
    ·try rw [decide_eq_false h8]
     rw [if_neg h8] at hM
     refine wIfF rfl (wSkip (wSeq (wSeq (wReg (sRun (xFld (k := 1) Try.underlying55 rfl rfl ti37 (by decide) rfl) (sRun (xLoad Try.underlying37 rfl rfl ((hL.bk 0 rfl).cell (i := 1) rfl)) (sRun (xLnL (s := a1.Args) Try.underlying37 rfl) (sRun (xMvI rfl) (sNil ?_)))))))))
     obtain ⟨Y9, hY9⟩ : ∃ Y, m_r06_edge_L0 (GCode.er a0) (GEdge.er a1) a2.l a3 a1.Args.l 0 = Y := ⟨_, rfl⟩
     rw [hY9] at hM
     refine wJ (fun f w => Has f [(2, .slice a2.a a2.l.length a2.c), (38, .slice a1.Args.a a1.Args.l.length a1.Args.c), (39, .int .i64 ((a1.Args.l.length : Nat) : Int))] ∧ Bx w0 w [.box b2 55 (GEdge.cells a1).toArray, .box b1 26 (GCode.cells a0).toArray] ∧ Lp.go () = Y9) ?_ ?_
     ·refine wBlock (wLoopG (fun n f w => ∃ (k9 : Nat), n = a1.Args.l.length - k9 ∧ k9 ≤ a1.Args.l.length ∧ Has f [(40, .int .i64 ((k9 : Nat) : Int)), (2, .slice a2.a a2.l.length a2.c), (38, .slice a1.Args.a a1.Args.l.length a1.Args.c), (39, .int .i64 ((a1.Args.l.length : Nat) : Int))] ∧ Bx w0 w [.box b2 55 (GEdge.cells a1).toArray, .box b1 26 (GCode.cells a0).toArray] ∧ m_r06_edge_L0 (GCode.er a0) (GEdge.er a1) a2.l a3 (a1.Args.l.drop k9) k9 = Y9) (a1.Args.l.length) ⟨0, rfl, Nat.zero_le _, ⟨rfl, rfl, rfl, rfl, trivial⟩, hL, hY9⟩ ?_)
      clear hL hY9
      rintro n f w ⟨k9, rfl, hk9, hf, hL, hY9⟩
      obtain ⟨g, rfl⟩ := has_updL _ _ hf
      clear hf
      rcases Nat.lt_or_ge k9 a1.Args.l.length with hk9b | hk9b
      ·obtain ⟨x9, hx9⟩ := get_ex (l := a1.Args.l) hk9b
       rw [drop_id hx9, m_r06_edge_L0] at hY9
       try simp only [er1, er2, er3, er4, er5, er6, er7, er8, er9, er10, er11, er12, er13, er14, er15, er16, er17, List.length_map] at hY9
       refine wSeq (wReg (sRun (xLssT rfl rfl (by omega)) (sNil (wSeq (wIfT rfl (wSkip (wSeq (wBlock (wSeq (wReg (sRun (xIdL Try.underlying37 ti3 rfl rfl rfl h1 hx9) (sRun (xLoad Try.underlying3 rfl rfl (((Lst.el h1 hx9).ext hL.1) 0 _ rfl)) (sRun (xAsI rfl) ?_)))))))))))))
       refine sNil (wSeq (wReg (sRun (xMvS rfl) (sRun (xMvI rfl) (sCall (eCall cal55 rfl) (sp_m_r06_Has _ a2 (Dat.all (Dat.ext (x := a2) h2 hL.1)) x9) ?_)))))
       rintro _ w10 ⟨rfl, he10⟩
       replace hL := hL.ext he10
       by_cases h11 : (m_r06_Has a2.l x9) = true
       ·try rw [h11]
        rw [if_pos h11] at hY9
        refine sRun (xNot rfl) (sNil (wIfF rfl (wSkip (wReg (sRun (xAdd64 rfl rfl (by omega) (by omega)) (sRun (xMvI rfl) (sNil ?_)))))))
        exact ⟨a1.Args.l.length - (k9 + 1), by omega, k9 + 1, rfl, by omega, ⟨rfl, rfl, rfl, rfl, trivial⟩, hL, hY9⟩
       ·have h11n : (m_r06_Has a2.l x9) = false := Bool.eq_false_iff.2 h11
        try rw [h11n]
        rw [if_neg h11] at hY9
        refine sRun (xNot rfl) (sNil (wIfT rfl (wSeq (wReg (sRun (xAsB rfl) (sNil (wRet ?_)))))))
        subst hY9
        rw [Lp.el_out] at hM
        try dsimp only at hM
        subst hM
        refine res1 (P := Try.prog) (fn := Try.f89) rfl ?_
        exact ⟨rfl, hL.1⟩
      ·obtain rfl : k9 = a1.Args.l.length := by omega
       rw [drop_end, m_r06_edge_L0] at hY9
       refine wSeq (wReg (sRun (xLssF rfl rfl (by omega)) (sNil (wSeq (wIfF rfl (wExit ?_))))))
       exact ⟨⟨rfl, rfl, rfl, trivial⟩, hL, hY9⟩
     ·clear hL
      rintro f w ⟨hf, hL, hZ9⟩
      obtain ⟨g, rfl⟩ := has_updL _ _ hf
      clear hf
      subst hZ9
      rw [Lp.el_go] at hM
      try dsimp only at hM
      refine wSeq (wReg (sRun (xAsB rfl) (sNil (wRet ?_))))
      subst hM
      refine res1 (P := Try.prog) (fn := Try.f89) rfl ?_
      exact ⟨rfl, hL.1⟩

def m_r06_Ops_L0 (a0 : (GCode List)) : List (GBlock List) → Nat → Int → Lp (Int) (Int)
  | [], _, s3_0 => .go s3_0
  | x3 :: r3, k3, s3_0 =>
  m_r06_Ops_L0 a0 r3 (k3 + 1) (wr (s3_0 + ((x3.Ops.length : Nat) : Int)))
def m_r06_Ops (a0 : (GCode List)) : Int :=
 (m_r06_Ops_L0 a0 a0.Blocks 0 (0 : Int)).el (fun u3 =>
  u3
   ) (fun o => o)
set_option maxHeartbeats 12800000 in
theorem sp_m_r06_Ops (w0 : World) (a0 : (GCode Lst)) (h0 : Dat.ok (fun _ => True) w0 a0) : Calls Try.prog 27 #[.agg (GCode.cells a0).toArray] w0 (Ret fun v w => v = .int .i64 (m_r06_Ops (GCode.er a0)) ∧ Ext w0 w) := by
  obtain ⟨X, hM⟩ : ∃ X, m_r06_Ops (GCode.er a0) = X := ⟨_, rfl⟩
  rw [hM]
  unfold m_r06_Ops at hM
  try simp only [er1, er2, er3, er4, er5, er6, er7, er8, er9, er10, er11, er12, er13, er14, er15, er16, er17, List.length_map] at hM
  have hL : Bx w0 w0 [] := Bx.nil
  refine calls_of Try.func27 rfl (Nat.le_of_ble_eq_true rfl) (by kernel_rfl) ?_
  refine wCut [(0, .agg (GCode.cells a0).toArray)] ⟨rfl, trivial⟩ fun g => ?_
  refine wSeq (wReg (sTo (aNew (mBox rfl)) ?_))
  rintro _ w1 ⟨b1, rfl, hge1, hB1, he1⟩
  replace hL := hL.new hge1 hB1 he1
  refine sRun (xAsI rfl) (sNil (wSeq (wReg (sRun (xAsI rfl) (sNil (wSeq (wSeq (wReg (sRun (xFld (k := 1) Try.underlying26 rfl rfl ti22 (by decide) rfl) (sRun (xLoad Try.underlying22 rfl rfl ((hL.bk 0 rfl).cell (i := 1) rfl)) ?_))))))))))
  have hl2 : a0.Blocks.l.length * 144 ≤ 140737488355328 := Lst.bd h0.1
  refine sRun (xLnL (s := a0.Blocks) Try.underlying22 rfl) (sRun (xMvI rfl) (sNil ?_))
  obtain ⟨Y3, hY3⟩ : ∃ Y, m_r06_Ops_L0 (GCode.er a0) (a0.Blocks.l.map GBlock.er) 0 (0 : Int) = Y := ⟨_, rfl⟩
  rw [hY3] at hM
  refine wJ (fun f w => ∃ (s3_0 : Int), Has f [(3, .int .i64 s3_0), (7, .slice a0.Blocks.a a0.Blocks.l.length a0.Blocks.c), (8, .int .i64 ((a0.Blocks.l.length : Nat) : Int))] ∧ Bx w0 w [.box b1 26 (GCode.cells a0).toArray] ∧ Lp.go s3_0 = Y3) ?_ ?_
  ·refine wBlock (wLoopG (fun n f w => ∃ (k3 : Nat) (s3_0 : Int), n = a0.Blocks.l.length - k3 ∧ k3 ≤ a0.Blocks.l.length ∧ Has f [(9, .int .i64 ((k3 : Nat) : Int)), (3, .int .i64 s3_0), (7, .slice a0.Blocks.a a0.Blocks.l.length a0.Blocks.c), (8, .int .i64 ((a0.Blocks.l.length : Nat) : Int))] ∧ Bx w0 w [.box b1 26 (GCode.cells a0).toArray] ∧ m_r06_Ops_L0 (GCode.er a0) ((a0.Blocks.l.map GBlock.er).drop k3) k3 s3_0 = Y3) (a0.Blocks.l.length) ⟨0, (0 : Int), rfl, Nat.zero_le _, ⟨rfl, rfl, rfl, rfl, trivial⟩, hL, hY3⟩ ?_)
   clear hL hY3
   rintro n f w ⟨k3, s3_0, rfl, hk3, hf, hL, hY3⟩
   obtain ⟨g, rfl⟩ := has_updL _ _ hf
   clear hf
   rcases Nat.lt_or_ge k3 a0.Blocks.l.length with hk3b | hk3b
   ·obtain ⟨x3, hx3⟩ := get_ex (l := a0.Blocks.l) hk3b
    rw [drop_map hx3, m_r06_Ops_L0] at hY3
    try simp only [er1, er2, er3, er4, er5, er6, er7, er8, er9, er10, er11, er12, er13, er14, er15, er16, er17, List.length_map] at hY3
    refine wSeq (wReg (sRun (xLssT rfl rfl (by omega)) (sNil (wSeq (wIfT rfl (wSkip (wSeq (wBlock (wSeq (wReg (sRun (xIdL Try.underlying22 ti60 rfl rfl rfl h0.1 hx3) (sRun (xLoadS (GBlock.cells x3) Try.underlying60 rfl ti60 rfl rfl ((Lst.el h0.1 hx3).ext hL.1)) (sTo (aNew (mAlloc ti60)) ?_)))))))))))))
    rintro _ w4 ⟨b4, rfl, hge4, hB4, he4⟩
    replace hL := hL.new hge4 hB4 he4
    refine sStS ti60 rfl rfl rfl (by simp [Value.oneCell', Dat.cells, GBlock.cells]) (hL.bk 0 rfl) rfl ?_
    intro w5 hB5 hC5
    replace hL : Bx w0 w5 [.box b4 60 (GBlock.cells x3).toArray, .box b1 26 (GCode.cells a0).toArray] := hL.wr 0 rfl hC5 hB5
    refine sNil (wReg (sRun (xMvI rfl) (sRun (xFld (k := 1) Try.underlying60 rfl rfl ti53 (by decide) rfl) (sRun (xLoad Try.underlying53 rfl rfl ((hL.bk 0 rfl).cell (i := 1) rfl)) ?_))))
    have hl6 : x3.Ops.l.length * 88 ≤ 140737488355328 := Lst.bd ((Lst.elok h0.1 hx3).1)
    refine sRun (xLnL (s := x3.Ops) Try.underlying53 rfl) (sRun (xAddW rfl rfl) (sRun (xAsI rfl) (sNil (wReg (sRun (xAdd64 rfl rfl (by omega) (by omega)) (sRun (xMvI rfl) (sNil ?_)))))))
    exact ⟨a0.Blocks.l.length - (k3 + 1), by omega, k3 + 1, (wr (s3_0 + ((x3.Ops.l.length : Nat) : Int))), rfl, by omega, ⟨rfl, rfl, rfl, rfl, trivial⟩, hL.tl, hY3⟩
   ·obtain rfl : k3 = a0.Blocks.l.length := by omega
    rw [drop_endm, m_r06_Ops_L0] at hY3
    refine wSeq (wReg (sRun (xLssF rfl rfl (by omega)) (sNil (wSeq (wIfF rfl (wExit ?_))))))
    exact ⟨s3_0, ⟨rfl, rfl, rfl, trivial⟩, hL, hY3⟩
  ·clear hL
   rintro f w ⟨s3_0, hf, hL, hZ3⟩
   obtain ⟨g, rfl⟩ := has_updL _ _ hf
   clear hf
   subst hZ3
   rw [Lp.el_go] at hM
   try dsimp only at hM
   refine wSeq (wReg (sRun (xMvI rfl) (sRun (xAsI rfl) (sNil (wRet ?_)))))
   subst hM
   refine res1 (P := Try.prog) (fn := Try.f27) rfl ?_
   exact ⟨rfl, hL.1⟩

end Go.Proofs.Ytbpccmnalhdpmaa
