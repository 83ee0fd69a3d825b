/- Contracts, printed by gen4.py. -/
import Derived.Test.YtbpccmnalhdpmaaGf
import Derived.Test.YtbpccmnalhdpmaaGa
set_option linter.unusedVariables false
set_option linter.unusedSimpArgs false
set_option maxRecDepth 4000
namespace Go.Proofs.Ytbpccmnalhdpmaa
open Go.RowKit Go.Fw
def m_r08_facts_of (a0_constant : List (Int × Int)) (a0_same : List (Int × Int)) (a1 : Int) : Int :=
 if ((mget a0_same a1).isSome) = true then
  ((mget a0_same a1).getD (0 : Int))
 else
  a1
set_option maxHeartbeats 12800000 in
theorem sp_m_r08_facts_of (w0 : World) (a0_constantb : Nat) (a0_constant : List (Int × Int)) (a0_constanth : Mp ekI evI w0 a0_constantb a0_constant) (a0_sameb : Nat) (a0_same : List (Int × Int)) (a0_sameh : Mp ekI evI w0 a0_sameb a0_same) (a1 : Int) : Calls Try.prog 79 #[.agg #[.map (some a0_constantb), .map (some a0_sameb)], .int .i64 a1] w0 (Ret fun v w => v = .int .i64 (m_r08_facts_of a0_constant a0_same a1) ∧ Ext w0 w) := by
  obtain ⟨X, hM⟩ : ∃ X, m_r08_facts_of a0_constant a0_same a1 = X := ⟨_, rfl⟩
  rw [hM]
  unfold m_r08_facts_of at hM
  try simp only [er1, er2, er3, er4, er5, er6, er7, er8, er9, er10, er11, er12, er13, er14, er15, er16, er17, List.length_map] at hM
  have hL : Bx w0 w0 [] := Bx.nil
  refine calls_of Try.func79 rfl (Nat.le_of_ble_eq_true rfl) (by kernel_rfl) ?_
  refine wCut [(0, .agg #[.map (some a0_constantb), .map (some a0_sameb)]), (1, .int .i64 a1)] ⟨rfl, rfl, trivial⟩ fun g => ?_
  refine wSeq (wReg (sTo (aNew (mBox rfl)) ?_))
  rintro _ w1 ⟨b1, rfl, hge1, hB1, he1⟩
  replace hL := hL.new hge1 hB1 he1
  refine sRun (xAsI rfl) (sNil (wSeq (wReg (sRun (xFld (k := 1) Try.underlying81 rfl rfl ti79 (by decide) rfl) (sRun (xLoad Try.underlying79 rfl rfl ((hL.bk 0 rfl).cell (i := 1) rfl)) (sRun (xMvI rfl) (sRun (xLook (ek := ekI) (ev := evI) (l := a0_same) (k := a1) (z := (0 : Int)) Try.underlying79 (fk_int Try.underlying3) (zv_of ti3) (a0_sameh.ext hL.1) rfl rfl) (sRun xMove (sRun (xExtract rfl rfl) (sRun (xExtract rfl rfl) (sRun (xAsI rfl) (sRun (xAsB rfl) (sNil ?_)))))))))))))
  refine wSeq (wSeq (wReg (sRun (xMvB rfl) (sNil ?_))))
  by_cases h2 : ((mget a0_same a1).isSome) = true
  ·try rw [h2]
   rw [if_pos h2] at hM
   refine wIfT rfl (wSeq (wReg (sRun (xMvI rfl) (sRun (xAsI rfl) (sNil (wRet ?_))))))
   subst hM
   refine res1 (P := Try.prog) (fn := Try.f79) rfl ?_
   exact ⟨rfl, hL.1⟩
  ·have h2n : ((mget a0_same a1).isSome) = false := Bool.eq_false_iff.2 h2
   try rw [h2n]
   rw [if_neg h2] at hM
   refine wIfF rfl (wSkip (wSeq (wReg (sRun (xMvI rfl) (sRun (xAsI rfl) (sNil (wRet ?_)))))))
   subst hM
   refine res1 (P := Try.prog) (fn := Try.f79) rfl ?_
   exact ⟨rfl, hL.1⟩

def m_r08_facts_is (a0_constant : List (Int × Int)) (a0_same : List (Int × Int)) (a1 : Int) (a2 : Int) : Bool :=
 if ((mget a0_constant a1).isSome) = true then
  (decide (((mget a0_constant a1).getD (0 : Int)) = a2))
 else
  false
set_option maxHeartbeats 12800000 in
theorem sp_m_r08_facts_is (w0 : World) (a0_constantb : Nat) (a0_constant : List (Int × Int)) (a0_constanth : Mp ekI evI w0 a0_constantb a0_constant) (a0_sameb : Nat) (a0_same : List (Int × Int)) (a0_sameh : Mp ekI evI w0 a0_sameb a0_same) (a1 : Int) (a2 : Int) : Calls Try.prog 84 #[.agg #[.map (some a0_constantb), .map (some a0_sameb)], .int .i64 a1, .int .i64 a2] w0 (Ret fun v w => v = .bool (m_r08_facts_is a0_constant a0_same a1 a2) ∧ Ext w0 w) := by
  obtain ⟨X, hM⟩ : ∃ X, m_r08_facts_is a0_constant a0_same a1 a2 = X := ⟨_, rfl⟩
  rw [hM]
  unfold m_r08_facts_is at hM
  try simp only [er1, er2, er3, er4, er5, er6, er7, er8, er9, er10, er11, er12, er13, er14, er15, er16, er17, List.length_map] at hM
  have hL : Bx w0 w0 [] := Bx.nil
  refine calls_of Try.func84 rfl (Nat.le_of_ble_eq_true rfl) (by kernel_rfl) ?_
  refine wCut [(0, .agg #[.map (some a0_constantb), .map (some a0_sameb)]), (1, .int .i64 a1), (2, .int .i64 a2)] ⟨rfl, rfl, rfl, trivial⟩ fun g => ?_
  refine wSeq (wReg (sTo (aNew (mBox rfl)) ?_))
  rintro _ w1 ⟨b1, rfl, hge1, hB1, he1⟩
  replace hL := hL.new hge1 hB1 he1
  refine sRun (xAsB rfl) (sNil (wSeq (wReg (sRun (xFld0 Try.underlying81 rfl rfl ti79 (by decide) rfl) (sRun (xLoad Try.underlying79 rfl rfl ((hL.bk 0 rfl).cell (i := 0) rfl)) (sRun (xMvI rfl) (sRun (xLook (ek := ekI) (ev := evI) (l := a0_constant) (k := a1) (z := (0 : Int)) Try.underlying79 (fk_int Try.underlying3) (zv_of ti3) (a0_constanth.ext hL.1) rfl rfl) (sRun xMove (sRun (xExtract rfl rfl) (sRun (xExtract rfl rfl) (sRun (xAsI rfl) (sRun (xAsB rfl) (sNil ?_)))))))))))))
  refine wSeq (wReg (sRun (xMvB rfl) (sRun (xMvB rfl) ?_)))
  by_cases h2 : ((mget a0_constant a1).isSome) = true
  ·try rw [h2]
   rw [if_pos h2] at hM
   refine sGo rfl (sRun (xMvI rfl) (sGo rfl (sRun (xMvI rfl) (sGo rfl (sRun (xEqlD rfl rfl) (sRun (xPkTB rfl rfl) (sRun (xAsB rfl) (sNil (wRet ?_)))))))))
   subst hM
   refine res1 (P := Try.prog) (fn := Try.f84) rfl ?_
   exact ⟨rfl, hL.1⟩
  ·have h2n : ((mget a0_constant a1).isSome) = false := Bool.eq_false_iff.2 h2
   try rw [h2n]
   rw [if_neg h2] at hM
   refine sNo rfl (sNo rfl (sNo rfl (sRun (xPkFB rfl rfl) (sRun (xAsB rfl) (sNil (wRet ?_))))))
   subst hM
   refine res1 (P := Try.prog) (fn := Try.f84) rfl ?_
   exact ⟨rfl, hL.1⟩

def m_r08_facts_copies (a0_constant : List (Int × Int)) (a0_same : List (Int × Int)) (a1 : GOp) : Int :=
 if (((((decide (a1.Kind = (3 : Int))) || (decide (a1.Kind = (9 : Int)))) || (decide (a1.Kind = (10 : Int)))) || (decide (a1.Kind = (4 : Int)))) && (m_r08_facts_is a0_constant a0_same a1.B (0 : Int))) = true then
  a1.A
 else
  if (((decide (a1.Kind = (3 : Int))) || (decide (a1.Kind = (9 : Int)))) || (decide (a1.Kind = (10 : Int)))) = true then
   if (m_r08_facts_is a0_constant a0_same a1.A (0 : Int)) = true then
    a1.B
   else
    if (((decide (a1.Kind = (5 : Int))) || (decide (a1.Kind = (6 : Int)))) && (m_r08_facts_is a0_constant a0_same a1.B (1 : Int))) = true then
     a1.A
    else
     if a1.Kind = (5 : Int) then
      if (m_r08_facts_is a0_constant a0_same a1.A (1 : Int)) = true then
       a1.B
      else
       (-1 : Int)
     else
      (-1 : Int)
  else
   if (((decide (a1.Kind = (5 : Int))) || (decide (a1.Kind = (6 : Int)))) && (m_r08_facts_is a0_constant a0_same a1.B (1 : Int))) = true then
    a1.A
   else
    if a1.Kind = (5 : Int) then
     if (m_r08_facts_is a0_constant a0_same a1.A (1 : Int)) = true then
      a1.B
     else
      (-1 : Int)
    else
     (-1 : Int)
set_option maxHeartbeats 12800000 in
theorem sp_m_r08_facts_copies (w0 : World) (a0_constantb : Nat) (a0_constant : List (Int × Int)) (a0_constanth : Mp ekI evI w0 a0_constantb a0_constant) (a0_sameb : Nat) (a0_same : List (Int × Int)) (a0_sameh : Mp ekI evI w0 a0_sameb a0_same) (a1 : GOp) : Calls Try.prog 83 #[.agg #[.map (some a0_constantb), .map (some a0_sameb)], .agg (GOp.cells a1).toArray] w0 (Ret fun v w => v = .int .i64 (m_r08_facts_copies a0_constant a0_same a1) ∧ Ext w0 w) := by
  obtain ⟨X, hM⟩ : ∃ X, m_r08_facts_copies a0_constant a0_same a1 = X := ⟨_, rfl⟩
  rw [hM]
  unfold m_r08_facts_copies at hM
  try simp only [er1, er2, er3, er4, er5, er6, er7, er8, er9, er10, er11, er12, er13, er14, er15, er16, er17, List.length_map] at hM
  have hL : Bx w0 w0 [] := Bx.nil
  refine calls_of Try.func83 rfl (Nat.le_of_ble_eq_true rfl) (by kernel_rfl) ?_
  refine wCut [(0, .agg #[.map (some a0_constantb), .map (some a0_sameb)]), (1, .agg (GOp.cells a1).toArray)] ⟨rfl, rfl, trivial⟩ fun g => ?_
  refine wSeq (wReg (sTo (aNew (mBox rfl)) ?_))
  rintro _ w1 ⟨b1, rfl, hge1, hB1, he1⟩
  replace hL := hL.new hge1 hB1 he1
  refine sTo (aNew (mBox rfl)) ?_
  rintro _ w2 ⟨b2, rfl, hge2, hB2, he2⟩
  replace hL := hL.new hge2 hB2 he2
  refine sRun (xAsI rfl) (sNil (wSeq ?_))
  obtain ⟨E3, hE3⟩ : ∃ E, (((decide (a1.Kind = (3 : Int))) || (decide (a1.Kind = (9 : Int)))) || (decide (a1.Kind = (10 : Int)))) = E := ⟨_, rfl⟩
  refine wJ (fun f w => Has f [(2, .pointer (some ⟨b1, 0, none⟩)), (3, .pointer (some ⟨b2, 0, none⟩)), (5, .bool E3)] ∧ Bx w0 w [.box b2 66 (GOp.cells a1).toArray, .box b1 81 #[.map (some a0_constantb), .map (some a0_sameb)]]) ?_ ?_
  ·refine wReg (sRun (xFld0 Try.underlying66 rfl rfl ti3 (by decide) rfl) (sRun (xLoad Try.underlying3 rfl rfl ((hL.bk 0 rfl).cell (i := 0) rfl)) (sRun (xEqlD rfl rfl) (sRun (xMvB rfl) ?_))))
   by_cases h4 : a1.Kind = (3 : Int)
   ·try rw [decide_eq_true h4]
    refine sNo rfl (sNo rfl (sNo rfl (sRun (xPkTB rfl rfl) (sRun (xMvB rfl) (sNo rfl (sNo rfl (sNo rfl (sRun (xPkTB rfl rfl) (sRun (xAsB rfl) (sNil ?_))))))))))
    exact ⟨⟨rfl, rfl, (congrArg Value.bool (by rw [← hE3]; first | (simp [h4]; done) | (simp only [decide_eq_true h4]; done) | grind)), trivial⟩, hL⟩
   ·try rw [decide_eq_false h4]
    refine sGo rfl (sRun (xFld0 Try.underlying66 rfl rfl ti3 (by decide) rfl) (sGo rfl (sRun (xLoad Try.underlying3 rfl rfl ((hL.bk 0 rfl).cell (i := 0) rfl)) (sGo rfl (sRun (xEqlD rfl rfl) (sRun (xPkFB rfl rfl) (sRun (xMvB rfl) ?_)))))))
    by_cases h5 : a1.Kind = (9 : Int)
    ·try rw [decide_eq_true h5]
     refine sNo rfl (sNo rfl (sNo rfl (sRun (xPkTB rfl rfl) (sRun (xAsB rfl) (sNil ?_)))))
     exact ⟨⟨rfl, rfl, (congrArg Value.bool (by rw [← hE3]; first | (simp [h4, h5]; done) | (simp only [decide_eq_false h4, decide_eq_true h5]; done) | grind)), trivial⟩, hL⟩
    ·try rw [decide_eq_false h5]
     refine sGo rfl (sRun (xFld0 Try.underlying66 rfl rfl ti3 (by decide) rfl) (sGo rfl (sRun (xLoad Try.underlying3 rfl rfl ((hL.bk 0 rfl).cell (i := 0) rfl)) (sGo rfl (sRun (xEqlD rfl rfl) (sRun (xPkFB rfl rfl) (sRun (xAsB rfl) (sNil ?_))))))))
     exact ⟨⟨rfl, rfl, (congrArg Value.bool (by rw [← hE3]; first | (simp [h4, h5]; done) | (simp only [decide_eq_false h4, decide_eq_false h5]; done) | grind)), trivial⟩, hL⟩
  ·clear hL
   subst hE3
   rintro f w ⟨hf, hL⟩
   obtain ⟨g, rfl⟩ := has_updL _ _ hf
   clear hf
   refine wSeq (wBlock (wSeq ?_))
   obtain ⟨E6, hE6⟩ : ∃ E, (((((decide (a1.Kind = (3 : Int))) || (decide (a1.Kind = (9 : Int)))) || (decide (a1.Kind = (10 : Int)))) || (decide (a1.Kind = (4 : Int)))) && (m_r08_facts_is a0_constant a0_same a1.B (0 : Int))) = E := ⟨_, rfl⟩
   refine wJ (fun f w => Has f [(2, .pointer (some ⟨b1, 0, none⟩)), (3, .pointer (some ⟨b2, 0, none⟩)), (5, .bool (((decide (a1.Kind = (3 : Int))) || (decide (a1.Kind = (9 : Int)))) || (decide (a1.Kind = (10 : Int))))), (19, .bool E6)] ∧ Bx w0 w [.box b2 66 (GOp.cells a1).toArray, .box b1 81 #[.map (some a0_constantb), .map (some a0_sameb)]]) ?_ ?_
   ·refine wReg (sRun (xMvB rfl) (sRun (xMvB rfl) ?_))
    by_cases h7 : (((decide (a1.Kind = (3 : Int))) || (decide (a1.Kind = (9 : Int)))) || (decide (a1.Kind = (10 : Int)))) = true
    ·try rw [h7]
     refine sNo rfl (sNo rfl (sNo rfl (sRun (xPkTB rfl rfl) (sRun (xMvB rfl) (sGo rfl (sRun (xLoadS [.map (some a0_constantb), .map (some a0_sameb)] Try.underlying81 rfl ti81 rfl rfl ((hL.bk 1 rfl).part rfl)) (sGo rfl (sRun (xFld (k := 3) Try.underlying66 rfl rfl ti3 (by decide) rfl) (sGo rfl (sRun (xLoad Try.underlying3 rfl rfl ((hL.bk 0 rfl).cell (i := 3) rfl)) (sGo rfl (sCall (eCall cal84 rfl) (sp_m_r08_facts_is _ a0_constantb a0_constant (a0_constanth.ext hL.1) a0_sameb a0_same (a0_sameh.ext hL.1) a1.B (0 : Int)) ?_))))))))))))
     rintro _ w8 ⟨rfl, he8⟩
     replace hL := hL.ext he8
     refine sRun (xPkTB rfl rfl) (sRun (xAsB rfl) (sNil ?_))
     exact ⟨⟨rfl, rfl, rfl, (congrArg Value.bool (by rw [← hE6]; first | (simp [h7]; done) | (simp only [h7]; done) | grind)), trivial⟩, hL⟩
    ·have h7n : (((decide (a1.Kind = (3 : Int))) || (decide (a1.Kind = (9 : Int)))) || (decide (a1.Kind = (10 : Int)))) = false := Bool.eq_false_iff.2 h7
     try rw [h7n]
     have h9 : ¬ (a1.Kind = (3 : Int)) := fun hq => by rw [decide_eq_true hq] at h7; simp at h7
     have h10 : ¬ (a1.Kind = (9 : Int)) := fun hq => by rw [decide_eq_true hq] at h7; simp at h7
     have h11 : ¬ (a1.Kind = (10 : Int)) := fun hq => by rw [decide_eq_true hq] at h7; simp at h7
     refine sGo rfl (sRun (xFld0 Try.underlying66 rfl rfl ti3 (by decide) rfl) (sGo rfl (sRun (xLoad Try.underlying3 rfl rfl ((hL.bk 0 rfl).cell (i := 0) rfl)) (sGo rfl (sRun (xEqlD rfl rfl) (sRun (xPkFB rfl rfl) (sRun (xMvB rfl) ?_)))))))
     by_cases h12 : a1.Kind = (4 : Int)
     ·try rw [decide_eq_true h12]
      refine sGo rfl (sRun (xLoadS [.map (some a0_constantb), .map (some a0_sameb)] Try.underlying81 rfl ti81 rfl rfl ((hL.bk 1 rfl).part rfl)) (sGo rfl (sRun (xFld (k := 3) Try.underlying66 rfl rfl ti3 (by decide) rfl) (sGo rfl (sRun (xLoad Try.underlying3 rfl rfl ((hL.bk 0 rfl).cell (i := 3) rfl)) (sGo rfl (sCall (eCall cal84 rfl) (sp_m_r08_facts_is _ a0_constantb a0_constant (a0_constanth.ext hL.1) a0_sameb a0_same (a0_sameh.ext hL.1) a1.B (0 : Int)) ?_)))))))
      rintro _ w13 ⟨rfl, he13⟩
      replace hL := hL.ext he13
      refine sRun (xPkTB rfl rfl) (sRun (xAsB rfl) (sNil ?_))
      exact ⟨⟨rfl, rfl, rfl, (congrArg Value.bool (by rw [← hE6]; first | (simp [h7n, h9, h10, h11, h12]; done) | (simp only [h7n, decide_eq_false h9, decide_eq_false h10, decide_eq_false h11, decide_eq_true h12]; done) | grind)), trivial⟩, hL⟩
     ·try rw [decide_eq_false h12]
      refine sNo rfl (sNo rfl (sNo rfl (sNo rfl (sRun (xPkFB rfl rfl) (sRun (xAsB rfl) (sNil ?_))))))
      exact ⟨⟨rfl, rfl, rfl, (congrArg Value.bool (by rw [← hE6]; first | (simp [h7n, h9, h10, h11, h12]; done) | (simp only [h7n, decide_eq_false h9, decide_eq_false h10, decide_eq_false h11, decide_eq_false h12]; done) | grind)), trivial⟩, hL⟩
   ·clear hL
    subst hE6
    rintro f w ⟨hf, hL⟩
    obtain ⟨g, rfl⟩ := has_updL _ _ hf
    clear hf
    by_cases h14 : (((((decide (a1.Kind = (3 : Int))) || (decide (a1.Kind = (9 : Int)))) || (decide (a1.Kind = (10 : Int)))) || (decide (a1.Kind = (4 : Int)))) && (m_r08_facts_is a0_constant a0_same a1.B (0 : Int))) = true
    ·try rw [h14]
     rw [if_pos h14] at hM
     refine wIfT rfl (wSeq (wReg (sRun (xFld (k := 2) Try.underlying66 rfl rfl ti3 (by decide) rfl) (sRun (xLoad Try.underlying3 rfl rfl ((hL.bk 0 rfl).cell (i := 2) rfl)) (sRun (xAsI rfl) (sNil (wRet ?_)))))))
     subst hM
     refine res1 (P := Try.prog) (fn := Try.f83) rfl ?_
     exact ⟨rfl, hL.1⟩
    ·have h14n : (((((decide (a1.Kind = (3 : Int))) || (decide (a1.Kind = (9 : Int)))) || (decide (a1.Kind = (10 : Int)))) || (decide (a1.Kind = (4 : Int)))) && (m_r08_facts_is a0_constant a0_same a1.B (0 : Int))) = false := Bool.eq_false_iff.2 h14
     try rw [h14n]
     rw [if_neg h14] at hM
     refine wIfF rfl (wSeq (wReg (sRun (xMvB rfl) (sRun (xMvB rfl) ?_))))
     by_cases h15 : (((decide (a1.Kind = (3 : Int))) || (decide (a1.Kind = (9 : Int)))) || (decide (a1.Kind = (10 : Int)))) = true
     ·try rw [h15]
      rw [if_pos h15] at hM
      refine sGo rfl (sRun (xLoadS [.map (some a0_constantb), .map (some a0_sameb)] Try.underlying81 rfl ti81 rfl rfl ((hL.bk 1 rfl).part rfl)) (sGo rfl (sRun (xFld (k := 2) Try.underlying66 rfl rfl ti3 (by decide) rfl) (sGo rfl (sRun (xLoad Try.underlying3 rfl rfl ((hL.bk 0 rfl).cell (i := 2) rfl)) (sGo rfl (sCall (eCall cal84 rfl) (sp_m_r08_facts_is _ a0_constantb a0_constant (a0_constanth.ext hL.1) a0_sameb a0_same (a0_sameh.ext hL.1) a1.A (0 : Int)) ?_)))))))
      rintro _ w16 ⟨rfl, he16⟩
      replace hL := hL.ext he16
      refine sRun (xPkTB rfl rfl) (sRun (xAsB rfl) (sNil ?_))
      by_cases h17 : (m_r08_facts_is a0_constant a0_same a1.A (0 : Int)) = true
      ·try rw [h17]
       rw [if_pos h17] at hM
       refine wIfT rfl (wSeq (wReg (sRun (xFld (k := 3) Try.underlying66 rfl rfl ti3 (by decide) rfl) (sRun (xLoad Try.underlying3 rfl rfl ((hL.bk 0 rfl).cell (i := 3) rfl)) (sRun (xAsI rfl) (sNil (wRet ?_)))))))
       subst hM
       refine res1 (P := Try.prog) (fn := Try.f83) rfl ?_
       exact ⟨rfl, hL.1⟩
      ·have h17n : (m_r08_facts_is a0_constant a0_same a1.A (0 : Int)) = false := Bool.eq_false_iff.2 h17
       try rw [h17n]
       rw [if_neg h17] at hM
       refine wIfF rfl (wSeq ?_)
       obtain ⟨E18, hE18⟩ : ∃ E, (((decide (a1.Kind = (5 : Int))) || (decide (a1.Kind = (6 : Int)))) && (m_r08_facts_is a0_constant a0_same a1.B (1 : Int))) = E := ⟨_, rfl⟩
       refine wJ (fun f w => Has f [(2, .pointer (some ⟨b1, 0, none⟩)), (3, .pointer (some ⟨b2, 0, none⟩)), (44, .bool E18)] ∧ Bx w0 w [.box b2 66 (GOp.cells a1).toArray, .box b1 81 #[.map (some a0_constantb), .map (some a0_sameb)]]) ?_ ?_
       ·refine wReg (sRun (xFld0 Try.underlying66 rfl rfl ti3 (by decide) rfl) (sRun (xLoad Try.underlying3 rfl rfl ((hL.bk 0 rfl).cell (i := 0) rfl)) (sRun (xEqlD rfl rfl) (sRun (xMvB rfl) ?_))))
        by_cases h19 : a1.Kind = (5 : Int)
        ·try rw [decide_eq_true h19]
         refine sNo rfl (sNo rfl (sNo rfl (sRun (xPkTB rfl rfl) (sRun (xMvB rfl) (sGo rfl (sRun (xLoadS [.map (some a0_constantb), .map (some a0_sameb)] Try.underlying81 rfl ti81 rfl rfl ((hL.bk 1 rfl).part rfl)) (sGo rfl (sRun (xFld (k := 3) Try.underlying66 rfl rfl ti3 (by decide) rfl) (sGo rfl (sRun (xLoad Try.underlying3 rfl rfl ((hL.bk 0 rfl).cell (i := 3) rfl)) (sGo rfl (sCall (eCall cal84 rfl) (sp_m_r08_facts_is _ a0_constantb a0_constant (a0_constanth.ext hL.1) a0_sameb a0_same (a0_sameh.ext hL.1) a1.B (1 : Int)) ?_))))))))))))
         rintro _ w20 ⟨rfl, he20⟩
         replace hL := hL.ext he20
         refine sRun (xPkTB rfl rfl) (sRun (xAsB rfl) (sNil ?_))
         exact ⟨⟨rfl, rfl, (congrArg Value.bool (by rw [← hE18]; first | (simp [h19]; done) | (simp only [decide_eq_true h19]; done) | grind)), trivial⟩, hL⟩
        ·try rw [decide_eq_false h19]
         refine sGo rfl (sRun (xFld0 Try.underlying66 rfl rfl ti3 (by decide) rfl) (sGo rfl (sRun (xLoad Try.underlying3 rfl rfl ((hL.bk 0 rfl).cell (i := 0) rfl)) (sGo rfl (sRun (xEqlD rfl rfl) (sRun (xPkFB rfl rfl) (sRun (xMvB rfl) ?_)))))))
         by_cases h21 : a1.Kind = (6 : Int)
         ·try rw [decide_eq_true h21]
          refine sGo rfl (sRun (xLoadS [.map (some a0_constantb), .map (some a0_sameb)] Try.underlying81 rfl ti81 rfl rfl ((hL.bk 1 rfl).part rfl)) (sGo rfl (sRun (xFld (k := 3) Try.underlying66 rfl rfl ti3 (by decide) rfl) (sGo rfl (sRun (xLoad Try.underlying3 rfl rfl ((hL.bk 0 rfl).cell (i := 3) rfl)) (sGo rfl (sCall (eCall cal84 rfl) (sp_m_r08_facts_is _ a0_constantb a0_constant (a0_constanth.ext hL.1) a0_sameb a0_same (a0_sameh.ext hL.1) a1.B (1 : Int)) ?_)))))))
          rintro _ w22 ⟨rfl, he22⟩
          replace hL := hL.ext he22
          refine sRun (xPkTB rfl rfl) (sRun (xAsB rfl) (sNil ?_))
          exact ⟨⟨rfl, rfl, (congrArg Value.bool (by rw [← hE18]; first | (simp [h19, h21]; done) | (simp only [decide_eq_false h19, decide_eq_true h21]; done) | grind)), trivial⟩, hL⟩
         ·try rw [decide_eq_false h21]
          refine sNo rfl (sNo rfl (sNo rfl (sNo rfl (sRun (xPkFB rfl rfl) (sRun (xAsB rfl) (sNil ?_))))))
          exact ⟨⟨rfl, rfl, (congrArg Value.bool (by rw [← hE18]; first | (simp [h19, h21]; done) | (simp only [decide_eq_false h19, decide_eq_false h21]; done) | grind)), trivial⟩, hL⟩
       ·clear hL
        subst hE18
        rintro f w ⟨hf, hL⟩
        obtain ⟨g, rfl⟩ := has_updL _ _ hf
        clear hf
        by_cases h23 : (((decide (a1.Kind = (5 : Int))) || (decide (a1.Kind = (6 : Int)))) && (m_r08_facts_is a0_constant a0_same a1.B (1 : Int))) = true
        ·try rw [h23]
         rw [if_pos h23] at hM
         refine wIfT rfl (wSeq (wReg (sRun (xFld (k := 2) Try.underlying66 rfl rfl ti3 (by decide) rfl) (sRun (xLoad Try.underlying3 rfl rfl ((hL.bk 0 rfl).cell (i := 2) rfl)) (sRun (xAsI rfl) (sNil (wRet ?_)))))))
         subst hM
         refine res1 (P := Try.prog) (fn := Try.f83) rfl ?_
         exact ⟨rfl, hL.1⟩
        ·have h23n : (((decide (a1.Kind = (5 : Int))) || (decide (a1.Kind = (6 : Int)))) && (m_r08_facts_is a0_constant a0_same a1.B (1 : Int))) = false := Bool.eq_false_iff.2 h23
         try rw [h23n]
         rw [if_neg h23] at hM
         refine wIfF rfl (wSeq (wReg (sRun (xFld0 Try.underlying66 rfl rfl ti3 (by decide) rfl) (sRun (xLoad Try.underlying3 rfl rfl ((hL.bk 0 rfl).cell (i := 0) rfl)) (sRun (xEqlD rfl rfl) (sRun (xMvB rfl) ?_))))))
         by_cases h24 : a1.Kind = (5 : Int)
         ·try rw [decide_eq_true h24]
          rw [if_pos h24] at hM
          refine sGo rfl (sRun (xLoadS [.map (some a0_constantb), .map (some a0_sameb)] Try.underlying81 rfl ti81 rfl rfl ((hL.bk 1 rfl).part rfl)) (sGo rfl (sRun (xFld (k := 2) Try.underlying66 rfl rfl ti3 (by decide) rfl) (sGo rfl (sRun (xLoad Try.underlying3 rfl rfl ((hL.bk 0 rfl).cell (i := 2) rfl)) (sGo rfl (sCall (eCall cal84 rfl) (sp_m_r08_facts_is _ a0_constantb a0_constant (a0_constanth.ext hL.1) a0_sameb a0_same (a0_sameh.ext hL.1) a1.A (1 : Int)) ?_)))))))
          rintro _ w25 ⟨rfl, he25⟩
          replace hL := hL.ext he25
          refine sRun (xPkTB rfl rfl) (sRun (xAsB rfl) (sNil ?_))
          by_cases h26 : (m_r08_facts_is a0_constant a0_same a1.A (1 : Int)) = true
          ·try rw [h26]
           rw [if_pos h26] at hM
           refine wIfT rfl (wSeq (wReg (sRun (xFld (k := 3) Try.underlying66 rfl rfl ti3 (by decide) rfl) (sRun (xLoad Try.underlying3 rfl rfl ((hL.bk 0 rfl).cell (i := 3) rfl)) (sRun (xAsI rfl) (sNil (wRet ?_)))))))
           subst hM
           refine res1 (P := Try.prog) (fn := Try.f83) rfl ?_
           exact ⟨rfl, hL.1⟩
          ·have h26n : (m_r08_facts_is a0_constant a0_same a1.A (1 : Int)) = false := Bool.eq_false_iff.2 h26
           try rw [h26n]
           rw [if_neg h26] at hM
           refine wIfF rfl (wSkip (wSeq (wReg (sRun (xAsI rfl) (sNil (wRet ?_))))))
           subst hM
           refine res1 (P := Try.prog) (fn := Try.f83) rfl ?_
           exact ⟨rfl, hL.1⟩
         ·try rw [decide_eq_false h24]
          rw [if_neg h24] at hM
          refine sNo rfl (sNo rfl (sNo rfl (sNo rfl (sRun (xPkFB rfl rfl) (sRun (xAsB rfl) (sNil (wIfF rfl (wSkip (wSeq (wReg (sRun (xAsI rfl) (sNil (wRet ?_)))))))))))))
          subst hM
          refine res1 (P := Try.prog) (fn := Try.f83) rfl ?_
          exact ⟨rfl, hL.1⟩
     ·have h15n : (((decide (a1.Kind = (3 : Int))) || (decide (a1.Kind = (9 : Int)))) || (decide (a1.Kind = (10 : Int)))) = false := Bool.eq_false_iff.2 h15
      try rw [h15n]
      rw [if_neg h15] at hM
      have h27 : ¬ (a1.Kind = (3 : Int)) := fun hq => by rw [decide_eq_true hq] at h15; simp at h15
      have h28 : ¬ (a1.Kind = (9 : Int)) := fun hq => by rw [decide_eq_true hq] at h15; simp at h15
      have h29 : ¬ (a1.Kind = (10 : Int)) := fun hq => by rw [decide_eq_true hq] at h15; simp at h15
      refine sNo rfl (sNo rfl (sNo rfl (sNo rfl (sRun (xPkFB rfl rfl) (sRun (xAsB rfl) (sNil (wIfF rfl (wSeq ?_))))))))
      obtain ⟨E30, hE30⟩ : ∃ E, (((decide (a1.Kind = (5 : Int))) || (decide (a1.Kind = (6 : Int)))) && (m_r08_facts_is a0_constant a0_same a1.B (1 : Int))) = E := ⟨_, rfl⟩
      refine wJ (fun f w => Has f [(2, .pointer (some ⟨b1, 0, none⟩)), (3, .pointer (some ⟨b2, 0, none⟩)), (44, .bool E30)] ∧ Bx w0 w [.box b2 66 (GOp.cells a1).toArray, .box b1 81 #[.map (some a0_constantb), .map (some a0_sameb)]]) ?_ ?_
      ·refine wReg (sRun (xFld0 Try.underlying66 rfl rfl ti3 (by decide) rfl) (sRun (xLoad Try.underlying3 rfl rfl ((hL.bk 0 rfl).cell (i := 0) rfl)) (sRun (xEqlD rfl rfl) (sRun (xMvB rfl) ?_))))
       by_cases h31 : a1.Kind = (5 : Int)
       ·try rw [decide_eq_true h31]
        refine sNo rfl (sNo rfl (sNo rfl (sRun (xPkTB rfl rfl) (sRun (xMvB rfl) (sGo rfl (sRun (xLoadS [.map (some a0_constantb), .map (some a0_sameb)] Try.underlying81 rfl ti81 rfl rfl ((hL.bk 1 rfl).part rfl)) (sGo rfl (sRun (xFld (k := 3) Try.underlying66 rfl rfl ti3 (by decide) rfl) (sGo rfl (sRun (xLoad Try.underlying3 rfl rfl ((hL.bk 0 rfl).cell (i := 3) rfl)) (sGo rfl (sCall (eCall cal84 rfl) (sp_m_r08_facts_is _ a0_constantb a0_constant (a0_constanth.ext hL.1) a0_sameb a0_same (a0_sameh.ext hL.1) a1.B (1 : Int)) ?_))))))))))))
        rintro _ w32 ⟨rfl, he32⟩
        replace hL := hL.ext he32
        refine sRun (xPkTB rfl rfl) (sRun (xAsB rfl) (sNil ?_))
        exact ⟨⟨rfl, rfl, (congrArg Value.bool (by rw [← hE30]; first | (simp [h31]; done) | (simp only [decide_eq_true h31]; done) | grind)), trivial⟩, hL⟩
       ·try rw [decide_eq_false h31]
        refine sGo rfl (sRun (xFld0 Try.underlying66 rfl rfl ti3 (by decide) rfl) (sGo rfl (sRun (xLoad Try.underlying3 rfl rfl ((hL.bk 0 rfl).cell (i := 0) rfl)) (sGo rfl (sRun (xEqlD rfl rfl) (sRun (xPkFB rfl rfl) (sRun (xMvB rfl) ?_)))))))
        by_cases h33 : a1.Kind = (6 : Int)
        ·try rw [decide_eq_true h33]
         refine sGo rfl (sRun (xLoadS [.map (some a0_constantb), .map (some a0_sameb)] Try.underlying81 rfl ti81 rfl rfl ((hL.bk 1 rfl).part rfl)) (sGo rfl (sRun (xFld (k := 3) Try.underlying66 rfl rfl ti3 (by decide) rfl) (sGo rfl (sRun (xLoad Try.underlying3 rfl rfl ((hL.bk 0 rfl).cell (i := 3) rfl)) (sGo rfl (sCall (eCall cal84 rfl) (sp_m_r08_facts_is _ a0_constantb a0_constant (a0_constanth.ext hL.1) a0_sameb a0_same (a0_sameh.ext hL.1) a1.B (1 : Int)) ?_)))))))
         rintro _ w34 ⟨rfl, he34⟩
         replace hL := hL.ext he34
         refine sRun (xPkTB rfl rfl) (sRun (xAsB rfl) (sNil ?_))
         exact ⟨⟨rfl, rfl, (congrArg Value.bool (by rw [← hE30]; first | (simp [h31, h33]; done) | (simp only [decide_eq_false h31, decide_eq_true h33]; done) | grind)), trivial⟩, hL⟩
        ·try rw [decide_eq_false h33]
         refine sNo rfl (sNo rfl (sNo rfl (sNo rfl (sRun (xPkFB rfl rfl) (sRun (xAsB rfl) (sNil ?_))))))
         exact ⟨⟨rfl, rfl, (congrArg Value.bool (by rw [← hE30]; first | (simp [h31, h33]; done) | (simp only [decide_eq_false h31, decide_eq_false h33]; done) | grind)), trivial⟩, hL⟩
      ·clear hL
       subst hE30
       rintro f w ⟨hf, hL⟩
       obtain ⟨g, rfl⟩ := has_updL _ _ hf
       clear hf
       by_cases h35 : (((decide (a1.Kind = (5 : Int))) || (decide (a1.Kind = (6 : Int)))) && (m_r08_facts_is a0_constant a0_same a1.B (1 : Int))) = true
       ·try rw [h35]
        rw [if_pos h35] at hM
        refine wIfT rfl (wSeq (wReg (sRun (xFld (k := 2) Try.underlying66 rfl rfl ti3 (by decide) rfl) (sRun (xLoad Try.underlying3 rfl rfl ((hL.bk 0 rfl).cell (i := 2) rfl)) (sRun (xAsI rfl) (sNil (wRet ?_)))))))
        subst hM
        refine res1 (P := Try.prog) (fn := Try.f83) rfl ?_
        exact ⟨rfl, hL.1⟩
       ·have h35n : (((decide (a1.Kind = (5 : Int))) || (decide (a1.Kind = (6 : Int)))) && (m_r08_facts_is a0_constant a0_same a1.B (1 : Int))) = false := Bool.eq_false_iff.2 h35
        try rw [h35n]
        rw [if_neg h35] at hM
        refine wIfF rfl (wSeq (wReg (sRun (xFld0 Try.underlying66 rfl rfl ti3 (by decide) rfl) (sRun (xLoad Try.underlying3 rfl rfl ((hL.bk 0 rfl).cell (i := 0) rfl)) (sRun (xEqlD rfl rfl) (sRun (xMvB rfl) ?_))))))
        by_cases h36 : a1.Kind = (5 : Int)
        ·try rw [decide_eq_true h36]
         rw [if_pos h36] at hM
         refine sGo rfl (sRun (xLoadS [.map (some a0_constantb), .map (some a0_sameb)] Try.underlying81 rfl ti81 rfl rfl ((hL.bk 1 rfl).part rfl)) (sGo rfl (sRun (xFld (k := 2) Try.underlying66 rfl rfl ti3 (by decide) rfl) (sGo rfl (sRun (xLoad Try.underlying3 rfl rfl ((hL.bk 0 rfl).cell (i := 2) rfl)) (sGo rfl (sCall (eCall cal84 rfl) (sp_m_r08_facts_is _ a0_constantb a0_constant (a0_constanth.ext hL.1) a0_sameb a0_same (a0_sameh.ext hL.1) a1.A (1 : Int)) ?_)))))))
         rintro _ w37 ⟨rfl, he37⟩
         replace hL := hL.ext he37
         refine sRun (xPkTB rfl rfl) (sRun (xAsB rfl) (sNil ?_))
         by_cases h38 : (m_r08_facts_is a0_constant a0_same a1.A (1 : Int)) = true
         ·try rw [h38]
          rw [if_pos h38] at hM
          refine wIfT rfl (wSeq (wReg (sRun (xFld (k := 3) Try.underlying66 rfl rfl ti3 (by decide) rfl) (sRun (xLoad Try.underlying3 rfl rfl ((hL.bk 0 rfl).cell (i := 3) rfl)) (sRun (xAsI rfl) (sNil (wRet ?_)))))))
          subst hM
          refine res1 (P := Try.prog) (fn := Try.f83) rfl ?_
          exact ⟨rfl, hL.1⟩
         ·have h38n : (m_r08_facts_is a0_constant a0_same a1.A (1 : Int)) = false := Bool.eq_false_iff.2 h38
          try rw [h38n]
          rw [if_neg h38] at hM
          refine wIfF rfl (wSkip (wSeq (wReg (sRun (xAsI rfl) (sNil (wRet ?_))))))
          subst hM
          refine res1 (P := Try.prog) (fn := Try.f83) rfl ?_
          exact ⟨rfl, hL.1⟩
        ·try rw [decide_eq_false h36]
         rw [if_neg h36] at hM
         refine sNo rfl (sNo rfl (sNo rfl (sNo rfl (sRun (xPkFB rfl rfl) (sRun (xAsB rfl) (sNil (wIfF rfl (wSkip (wSeq (wReg (sRun (xAsI rfl) (sNil (wRet ?_)))))))))))))
         subst hM
         refine res1 (P := Try.prog) (fn := Try.f83) rfl ?_
         exact ⟨rfl, hL.1⟩

def m_r05_Binary (a0 : Int) (a1 : Int) (a2 : Int) : Int :=
 if (wr (a0 + (6 : Int))) = (6 : Int) then
  (wr (a1 + a2))
 else
  if (wr (a0 + (6 : Int))) = (7 : Int) then
   (wr (a1 - a2))
  else
   if (wr (a0 + (6 : Int))) = (8 : Int) then
    (wr (a1 * a2))
   else
    if (wr (a0 + (6 : Int))) = (9 : Int) then
     if a2 = (0 : Int) then
      (0 : Int)
     else
      (wr (a1.tdiv a2))
    else
     if (wr (a0 + (6 : Int))) = (10 : Int) then
      if a2 = (0 : Int) then
       a1
      else
       (a1.tmod a2)
     else
      if (wr (a0 + (6 : Int))) = (11 : Int) then
       (bwAnd a1 a2)
      else
       if (wr (a0 + (6 : Int))) = (12 : Int) then
        (bwOr a1 a2)
       else
        if (wr (a0 + (6 : Int))) = (13 : Int) then
         (bwXor a1 a2)
        else
         if (wr (a0 + (6 : Int))) = (14 : Int) then
          if a1 < a2 then
           (1 : Int)
          else
           (0 : Int)
         else
          if (wr (a0 + (6 : Int))) = (15 : Int) then
           if a1 ≤ a2 then
            (1 : Int)
           else
            (0 : Int)
          else
           if (wr (a0 + (6 : Int))) = (16 : Int) then
            if a1 = a2 then
             (1 : Int)
            else
             (0 : Int)
           else
            if ((decide ((wr (a0 + (6 : Int))) = (17 : Int))) && (decide (a1 ≠ a2))) = true then
             (1 : Int)
            else
             (0 : Int)
set_option maxHeartbeats 12800000 in
theorem sp_m_r05_Binary (w0 : World) (a0 : Int) (a1 : Int) (a2 : Int) : Calls Try.prog 82 #[.int .i64 a0, .int .i64 a1, .int .i64 a2] w0 (Ret fun v w => v = .int .i64 (m_r05_Binary a0 a1 a2) ∧ Ext w0 w) := by
  obtain ⟨X, hM⟩ : ∃ X, m_r05_Binary a0 a1 a2 = X := ⟨_, rfl⟩
  rw [hM]
  unfold m_r05_Binary at hM
  try simp only [er1, er2, er3, er4, er5, er6, er7, er8, er9, er10, er11, er12, er13, er14, er15, er16, er17, List.length_map] at hM
  have hL : Bx w0 w0 [] := Bx.nil
  refine calls_of Try.func82 rfl (Nat.le_of_ble_eq_true rfl) (by kernel_rfl) ?_
  refine wCut [(0, .int .i64 a0), (1, .int .i64 a1), (2, .int .i64 a2)] ⟨rfl, rfl, rfl, trivial⟩ fun g => ?_
  refine wSeq (wReg (sRun (xAsI rfl) (sNil (wSeq (wReg (sRun (xAsB rfl) (sNil (wSeq (wSeq (wReg (sRun (xMvI rfl) (sRun (xAddW rfl rfl) (sNil ?_)))))))))))))
  refine wBlock (wSeq (wReg (sRun (xEqlD rfl rfl) (sRun (xAsB rfl) (sNil ?_)))))
  by_cases h1 : (wr (a0 + (6 : Int))) = (6 : Int)
  ·try rw [decide_eq_true h1]
   rw [if_pos h1] at hM
   refine wIfT rfl (wSeq (wReg (sRun (xMvI rfl) (sRun (xMvI rfl) (sRun (xAddW rfl rfl) (sRun (xAsI rfl) (sNil (wRet ?_))))))))
   subst hM
   refine res1 (P := Try.prog) (fn := Try.f82) rfl ?_
   exact ⟨rfl, hL.1⟩
  ·try rw [decide_eq_false h1]
   rw [if_neg h1] at hM
   refine wIfF rfl (wSeq (wReg (sRun (xEqlD rfl rfl) (sRun (xAsB rfl) (sNil ?_)))))
   by_cases h2 : (wr (a0 + (6 : Int))) = (7 : Int)
   ·try rw [decide_eq_true h2]
    rw [if_pos h2] at hM
    refine wIfT rfl (wSeq (wReg (sRun (xMvI rfl) (sRun (xMvI rfl) (sRun (xSubW rfl rfl) (sRun (xAsI rfl) (sNil (wRet ?_))))))))
    subst hM
    refine res1 (P := Try.prog) (fn := Try.f82) rfl ?_
    exact ⟨rfl, hL.1⟩
   ·try rw [decide_eq_false h2]
    rw [if_neg h2] at hM
    refine wIfF rfl (wSeq (wReg (sRun (xEqlD rfl rfl) (sRun (xAsB rfl) (sNil ?_)))))
    by_cases h3 : (wr (a0 + (6 : Int))) = (8 : Int)
    ·try rw [decide_eq_true h3]
     rw [if_pos h3] at hM
     refine wIfT rfl (wSeq (wReg (sRun (xMvI rfl) (sRun (xMvI rfl) (sRun (xMulW rfl rfl) (sRun (xAsI rfl) (sNil (wRet ?_))))))))
     subst hM
     refine res1 (P := Try.prog) (fn := Try.f82) rfl ?_
     exact ⟨rfl, hL.1⟩
    ·try rw [decide_eq_false h3]
     rw [if_neg h3] at hM
     refine wIfF rfl (wSeq (wReg (sRun (xEqlD rfl rfl) (sRun (xAsB rfl) (sNil ?_)))))
     by_cases h4 : (wr (a0 + (6 : Int))) = (9 : Int)
     ·try rw [decide_eq_true h4]
      rw [if_pos h4] at hM
      refine wIfT rfl (wSeq (wSeq (wReg (sRun (xMvI rfl) (sRun (xEqlD rfl rfl) (sNil ?_))))))
      by_cases h5 : a2 = (0 : Int)
      ·try rw [decide_eq_true h5]
       rw [if_pos h5] at hM
       refine wIfT rfl (wSeq (wReg (sRun (xAsI rfl) (sNil (wRet ?_)))))
       subst hM
       refine res1 (P := Try.prog) (fn := Try.f82) rfl ?_
       exact ⟨rfl, hL.1⟩
      ·try rw [decide_eq_false h5]
       rw [if_neg h5] at hM
       refine wIfF rfl (wSkip (wSeq (wReg (sRun (xMvI rfl) (sRun (xMvI rfl) (sRun (xQuoW rfl rfl (by omega)) (sRun (xAsI rfl) (sNil (wRet ?_)))))))))
       subst hM
       refine res1 (P := Try.prog) (fn := Try.f82) rfl ?_
       exact ⟨rfl, hL.1⟩
     ·try rw [decide_eq_false h4]
      rw [if_neg h4] at hM
      refine wIfF rfl (wSeq (wReg (sRun (xEqlD rfl rfl) (sRun (xAsB rfl) (sNil ?_)))))
      by_cases h6 : (wr (a0 + (6 : Int))) = (10 : Int)
      ·try rw [decide_eq_true h6]
       rw [if_pos h6] at hM
       refine wIfT rfl (wSeq (wSeq (wReg (sRun (xMvI rfl) (sRun (xEqlD rfl rfl) (sNil ?_))))))
       by_cases h7 : a2 = (0 : Int)
       ·try rw [decide_eq_true h7]
        rw [if_pos h7] at hM
        refine wIfT rfl (wSeq (wReg (sRun (xMvI rfl) (sRun (xAsI rfl) (sNil (wRet ?_))))))
        subst hM
        refine res1 (P := Try.prog) (fn := Try.f82) rfl ?_
        exact ⟨rfl, hL.1⟩
       ·try rw [decide_eq_false h7]
        rw [if_neg h7] at hM
        refine wIfF rfl (wSkip (wSeq (wReg (sRun (xMvI rfl) (sRun (xMvI rfl) (sRun (xRemW rfl rfl (by omega)) (sRun (xAsI rfl) (sNil (wRet ?_)))))))))
        subst hM
        refine res1 (P := Try.prog) (fn := Try.f82) rfl ?_
        exact ⟨rfl, hL.1⟩
      ·try rw [decide_eq_false h6]
       rw [if_neg h6] at hM
       refine wIfF rfl (wSeq (wReg (sRun (xEqlD rfl rfl) (sRun (xAsB rfl) (sNil ?_)))))
       by_cases h8 : (wr (a0 + (6 : Int))) = (11 : Int)
       ·try rw [decide_eq_true h8]
        rw [if_pos h8] at hM
        refine wIfT rfl (wSeq (wReg (sRun (xMvI rfl) (sRun (xMvI rfl) (sRun (xAndW rfl rfl) (sRun (xAsI rfl) (sNil (wRet ?_))))))))
        subst hM
        refine res1 (P := Try.prog) (fn := Try.f82) rfl ?_
        exact ⟨rfl, hL.1⟩
       ·try rw [decide_eq_false h8]
        rw [if_neg h8] at hM
        refine wIfF rfl (wSeq (wReg (sRun (xEqlD rfl rfl) (sRun (xAsB rfl) (sNil ?_)))))
        by_cases h9 : (wr (a0 + (6 : Int))) = (12 : Int)
        ·try rw [decide_eq_true h9]
         rw [if_pos h9] at hM
         refine wIfT rfl (wSeq (wReg (sRun (xMvI rfl) (sRun (xMvI rfl) (sRun (xOrW rfl rfl) (sRun (xAsI rfl) (sNil (wRet ?_))))))))
         subst hM
         refine res1 (P := Try.prog) (fn := Try.f82) rfl ?_
         exact ⟨rfl, hL.1⟩
        ·try rw [decide_eq_false h9]
         rw [if_neg h9] at hM
         refine wIfF rfl (wSeq (wReg (sRun (xEqlD rfl rfl) (sRun (xAsB rfl) (sNil ?_)))))
         by_cases h10 : (wr (a0 + (6 : Int))) = (13 : Int)
         ·try rw [decide_eq_true h10]
          rw [if_pos h10] at hM
          refine wIfT rfl (wSeq (wReg (sRun (xMvI rfl) (sRun (xMvI rfl) (sRun (xXorW rfl rfl) (sRun (xAsI rfl) (sNil (wRet ?_))))))))
          subst hM
          refine res1 (P := Try.prog) (fn := Try.f82) rfl ?_
          exact ⟨rfl, hL.1⟩
         ·try rw [decide_eq_false h10]
          rw [if_neg h10] at hM
          refine wIfF rfl (wSeq (wReg (sRun (xEqlD rfl rfl) (sRun (xAsB rfl) (sNil ?_)))))
          by_cases h11 : (wr (a0 + (6 : Int))) = (14 : Int)
          ·try rw [decide_eq_true h11]
           rw [if_pos h11] at hM
           refine wIfT rfl (wReg (sRun (xMvI rfl) (sRun (xMvI rfl) (sRun (xLss rfl rfl) (sRun (xAsB rfl) (sNil (wSeq (wSeq (wReg (sRun (xMvB rfl) (sNil ?_)))))))))))
           by_cases h12 : a1 < a2
           ·try rw [decide_eq_true h12]
            rw [if_pos h12] at hM
            refine wIfT rfl (wSeq (wReg (sRun (xAsI rfl) (sNil (wRet ?_)))))
            subst hM
            refine res1 (P := Try.prog) (fn := Try.f82) rfl ?_
            exact ⟨rfl, hL.1⟩
           ·try rw [decide_eq_false h12]
            rw [if_neg h12] at hM
            refine wIfF rfl (wSkip (wSeq (wReg (sRun (xAsI rfl) (sNil (wRet ?_))))))
            subst hM
            refine res1 (P := Try.prog) (fn := Try.f82) rfl ?_
            exact ⟨rfl, hL.1⟩
          ·try rw [decide_eq_false h11]
           rw [if_neg h11] at hM
           refine wIfF rfl (wSeq (wReg (sRun (xEqlD rfl rfl) (sRun (xAsB rfl) (sNil ?_)))))
           by_cases h13 : (wr (a0 + (6 : Int))) = (15 : Int)
           ·try rw [decide_eq_true h13]
            rw [if_pos h13] at hM
            refine wIfT rfl (wReg (sRun (xMvI rfl) (sRun (xMvI rfl) (sRun (xLeq rfl rfl) (sRun (xAsB rfl) (sNil (wSeq (wSeq (wReg (sRun (xMvB rfl) (sNil ?_)))))))))))
            by_cases h14 : a1 ≤ a2
            ·try rw [decide_eq_true h14]
             rw [if_pos h14] at hM
             refine wIfT rfl (wSeq (wReg (sRun (xAsI rfl) (sNil (wRet ?_)))))
             subst hM
             refine res1 (P := Try.prog) (fn := Try.f82) rfl ?_
             exact ⟨rfl, hL.1⟩
            ·try rw [decide_eq_false h14]
             rw [if_neg h14] at hM
             refine wIfF rfl (wSkip (wSeq (wReg (sRun (xAsI rfl) (sNil (wRet ?_))))))
             subst hM
             refine res1 (P := Try.prog) (fn := Try.f82) rfl ?_
             exact ⟨rfl, hL.1⟩
           ·try rw [decide_eq_false h13]
            rw [if_neg h13] at hM
            refine wIfF rfl (wSeq (wReg (sRun (xEqlD rfl rfl) (sRun (xAsB rfl) (sNil ?_)))))
            by_cases h15 : (wr (a0 + (6 : Int))) = (16 : Int)
            ·try rw [decide_eq_true h15]
             rw [if_pos h15] at hM
             refine wIfT rfl (wReg (sRun (xMvI rfl) (sRun (xMvI rfl) (sRun (xEqlD rfl rfl) (sRun (xAsB rfl) (sNil (wSeq (wSeq (wReg (sRun (xMvB rfl) (sNil ?_)))))))))))
             by_cases h16 : a1 = a2
             ·try rw [decide_eq_true h16]
              rw [if_pos h16] at hM
              refine wIfT rfl (wSeq (wReg (sRun (xAsI rfl) (sNil (wRet ?_)))))
              subst hM
              refine res1 (P := Try.prog) (fn := Try.f82) rfl ?_
              exact ⟨rfl, hL.1⟩
             ·try rw [decide_eq_false h16]
              rw [if_neg h16] at hM
              refine wIfF rfl (wSkip (wSeq (wReg (sRun (xAsI rfl) (sNil (wRet ?_))))))
              subst hM
              refine res1 (P := Try.prog) (fn := Try.f82) rfl ?_
              exact ⟨rfl, hL.1⟩
            ·try rw [decide_eq_false h15]
             rw [if_neg h15] at hM
             refine wIfF rfl (wSeq (wReg (sRun (xEqlD rfl rfl) (sRun (xAsB rfl) (sNil ?_)))))
             obtain ⟨E17, hE17⟩ : ∃ E, ((decide ((wr (a0 + (6 : Int))) = (17 : Int))) && (decide (a1 ≠ a2))) = E := ⟨_, rfl⟩
             refine wJ (fun f w => Has f [(7, .bool E17)] ∧ Bx w0 w []) ?_ ?_
             ·by_cases h18 : (wr (a0 + (6 : Int))) = (17 : Int)
              ·try rw [decide_eq_true h18]
               refine wIfT rfl (wReg (sRun (xMvI rfl) (sRun (xMvI rfl) (sRun (xNeqD rfl rfl) (sRun (xAsB rfl) (sNil ?_))))))
               exact ⟨⟨(congrArg Value.bool (by rw [← hE17]; first | (simp [h18]; done) | (simp only [decide_eq_true h18]; done) | grind)), trivial⟩, hL⟩
              ·try rw [decide_eq_false h18]
               refine wIfF rfl (wSkip ?_)
               exact ⟨⟨(congrArg Value.bool (by rw [← hE17]; first | (simp [h18]; done) | (simp only [decide_eq_false h18]; done) | grind)), trivial⟩, hL⟩
             ·clear hL
              subst hE17
              rintro f w ⟨hf, hL⟩
              obtain ⟨g, rfl⟩ := has_updL _ _ hf
              clear hf
              refine wSeq (wSeq (wReg (sRun (xMvB rfl) (sNil ?_))))
              by_cases h19 : ((decide ((wr (a0 + (6 : Int))) = (17 : Int))) && (decide (a1 ≠ a2))) = true
              ·try rw [h19]
               rw [if_pos h19] at hM
               have h20 : (wr (a0 + (6 : Int))) = (17 : Int) := Decidable.byContradiction fun hq => by rw [decide_eq_false hq] at h19; simp at h19
               have h21 : a1 ≠ a2 := Decidable.byContradiction fun hq => by rw [decide_eq_false hq] at h19; simp at h19
               refine wIfT rfl (wSeq (wReg (sRun (xAsI rfl) (sNil (wRet ?_)))))
               subst hM
               refine res1 (P := Try.prog) (fn := Try.f82) rfl ?_
               exact ⟨rfl, hL.1⟩
              ·have h19n : ((decide ((wr (a0 + (6 : Int))) = (17 : Int))) && (decide (a1 ≠ a2))) = false := Bool.eq_false_iff.2 h19
               try rw [h19n]
               rw [if_neg h19] at hM
               refine wIfF rfl (wSkip (wSeq (wReg (sRun (xAsI rfl) (sNil (wRet ?_))))))
               subst hM
               refine res1 (P := Try.prog) (fn := Try.f82) rfl ?_
               exact ⟨rfl, hL.1⟩

def m_r08_facts_bind (a0_constant : List (Int × Int)) (a0_same : List (Int × Int)) (a1 : GOp) : GOp :=
 if a1.Src.Kind ≠ (2 : Int) then
  a1
 else
  if ((mget a0_constant (m_r08_facts_of a0_constant a0_same a1.Src.Val)).isSome) = true then
   (⟨a1.Kind, a1.Dst, a1.A, a1.B, a1.N, a1.Ctx, a1.Var, a1.Piece, (⟨(1 : Int), (0 : Int), (wr (((mget a0_constant (m_r08_facts_of a0_constant a0_same a1.Src.Val)).getD (0 : Int)) + a1.Src.Add))⟩ : GSrc)⟩ : GOp)
  else
   (⟨a1.Kind, a1.Dst, a1.A, a1.B, a1.N, a1.Ctx, a1.Var, a1.Piece, (⟨a1.Src.Kind, (m_r08_facts_of a0_constant a0_same a1.Src.Val), a1.Src.Add⟩ : GSrc)⟩ : GOp)
theorem bd39_34 {ρ : Operand → Value} {w : World} {d : Option Nat} {ty : TypeId} {pos : String} {af : Array Edge} {g : Option (Nat × Bool)} {x0 : Int} {x2 : Int} {o0 : Operand} {o2 : Operand} (h0 : ρ o0 = .int .i64 x0) (h2 : ρ o2 = .int .i64 x2) : Yl Try.prog ρ (.build 64 #[(0, o0), (2, o2)]) d ty pos af g w (.agg #[.int .i64 x0, .int .i64 0, .int .i64 x2]) := by
  have e : (Instr.build 64 #[(0, .int .i64 x0), (2, .int .i64 x2)]).run Try.prog w = .ok (.agg #[.int .i64 x0, .int .i64 0, .int .i64 x2]) w := by kernel_rfl
  simp [Yl, execOp, h0, h2, e]
set_option maxHeartbeats 12800000 in
theorem sp_m_r08_facts_bind (w0 : World) (a0_constantb : Nat) (a0_constant : List (Int × Int)) (a0_constanth : Mp ekI evI w0 a0_constantb a0_constant) (a0_sameb : Nat) (a0_same : List (Int × Int)) (a0_sameh : Mp ekI evI w0 a0_sameb a0_same) (a1 : GOp) : Calls Try.prog 39 #[.agg #[.map (some a0_constantb), .map (some a0_sameb)], .agg (GOp.cells a1).toArray] w0 (Ret fun v w => v = .agg #[.int .i64 ((m_r08_facts_bind a0_constant a0_same a1).Kind), .int .i64 ((m_r08_facts_bind a0_constant a0_same a1).Dst), .int .i64 ((m_r08_facts_bind a0_constant a0_same a1).A), .int .i64 ((m_r08_facts_bind a0_constant a0_same a1).B), .int .i64 ((m_r08_facts_bind a0_constant a0_same a1).N), .int .i64 ((m_r08_facts_bind a0_constant a0_same a1).Ctx), .int .i64 ((m_r08_facts_bind a0_constant a0_same a1).Var), .int .i64 ((m_r08_facts_bind a0_constant a0_same a1).Piece), .int .i64 ((m_r08_facts_bind a0_constant a0_same a1).Src.Kind), .int .i64 ((m_r08_facts_bind a0_constant a0_same a1).Src.Val), .int .i64 ((m_r08_facts_bind a0_constant a0_same a1).Src.Add)] ∧ Ext w0 w) := by
  obtain ⟨X, hM⟩ : ∃ X, m_r08_facts_bind a0_constant a0_same a1 = X := ⟨_, rfl⟩
  rw [hM]
  unfold m_r08_facts_bind at hM
  try simp only [er1, er2, er3, er4, er5, er6, er7, er8, er9, er10, er11, er12, er13, er14, er15, er16, er17, List.length_map] at hM
  have hL : Bx w0 w0 [] := Bx.nil
  refine calls_of Try.func39 rfl (Nat.le_of_ble_eq_true rfl) (by kernel_rfl) ?_
  refine wCut [(0, .agg #[.map (some a0_constantb), .map (some a0_sameb)]), (1, .agg (GOp.cells a1).toArray)] ⟨rfl, rfl, trivial⟩ fun g => ?_
  refine wSeq (wReg (sTo (aNew (mBox rfl)) ?_))
  rintro _ w1 ⟨b1, rfl, hge1, hB1, he1⟩
  replace hL := hL.new hge1 hB1 he1
  refine sTo (aNew (mBox rfl)) ?_
  rintro _ w2 ⟨b2, rfl, hge2, hB2, he2⟩
  replace hL := hL.new hge2 hB2 he2
  refine sTo (aNew (mAlloc ti66)) ?_
  rintro _ w3 ⟨b3, rfl, hge3, hB3, he3⟩
  replace hL := hL.new hge3 hB3 he3
  refine sNil (wSeq (wSeq (wReg (sRun (xFld (k := 8) Try.underlying66 rfl rfl ti64 (by decide) rfl) (sRun (xFld0 Try.underlying64 rfl rfl ti3 (by decide) rfl) (sRun (xLoad Try.underlying3 rfl rfl ((hL.bk 1 rfl).cell (i := 8) rfl)) (sRun (xNeqD rfl rfl) (sNil ?_))))))))
  by_cases h4 : a1.Src.Kind ≠ (2 : Int)
  ·try rw [decide_eq_true h4]
   rw [if_pos h4] at hM
   refine wIfT rfl (wSeq (wReg (sRun (xLoadS (GOp.cells a1) Try.underlying66 rfl ti66 rfl rfl ((hL.bk 1 rfl).part rfl)) (sStS ti66 rfl rfl rfl (by simp [Value.oneCell', Dat.cells, GOp.cells]) (hL.bk 0 rfl) rfl ?_))))
   intro w5 hB5 hC5
   replace hL : Bx w0 w5 [.box b3 66 (GOp.cells a1).toArray, .box b2 66 (GOp.cells a1).toArray, .box b1 81 #[.map (some a0_constantb), .map (some a0_sameb)]] := hL.wr 0 rfl hC5 hB5
   refine sNil (wRet ?_)
   subst hM
   refine resC (P := Try.prog) (fn := Try.f39) rfl Try.underlying66 rfl ti66 rfl rfl (hL.bk 0 rfl) ?_
   exact ⟨rfl, hL.1⟩
  ·try rw [decide_eq_false h4]
   rw [if_neg h4] at hM
   refine wIfF rfl (wSkip (wSeq (wReg (sRun (xLoadS [.map (some a0_constantb), .map (some a0_sameb)] Try.underlying81 rfl ti81 rfl rfl ((hL.bk 2 rfl).part rfl)) (sRun (xFld (k := 8) Try.underlying66 rfl rfl ti64 (by decide) rfl) (sRun (xFld (k := 1) Try.underlying64 rfl rfl ti3 (by decide) rfl) (sRun (xLoad Try.underlying3 rfl rfl ((hL.bk 1 rfl).cell (i := 9) rfl)) (sCall (eCall cal79 rfl) (sp_m_r08_facts_of _ a0_constantb a0_constant (a0_constanth.ext hL.1) a0_sameb a0_same (a0_sameh.ext hL.1) a1.Src.Val) ?_))))))))
   rintro _ w6 ⟨rfl, he6⟩
   replace hL := hL.ext he6
   refine sRun (xFld (k := 8) Try.underlying66 rfl rfl ti64 (by decide) rfl) (sRun (xFld (k := 1) Try.underlying64 rfl rfl ti3 (by decide) rfl) (sSt1 ti3 rfl rfl rfl (hL.bk 1 rfl) (Nat.le_of_ble_eq_true rfl) ?_))
   intro w7 hB7 hC7
   replace hL : Bx w0 w7 [.box b3 66 #[.int .i64 (0 : Int), .int .i64 (0 : Int), .int .i64 (0 : Int), .int .i64 (0 : Int), .int .i64 (0 : Int), .int .i64 (0 : Int), .int .i64 (0 : Int), .int .i64 (0 : Int), .int .i64 (0 : Int), .int .i64 (0 : Int), .int .i64 (0 : Int)], .box b2 66 #[.int .i64 a1.Kind, .int .i64 a1.Dst, .int .i64 a1.A, .int .i64 a1.B, .int .i64 a1.N, .int .i64 a1.Ctx, .int .i64 a1.Var, .int .i64 a1.Piece, .int .i64 a1.Src.Kind, .int .i64 (m_r08_facts_of a0_constant a0_same a1.Src.Val), .int .i64 a1.Src.Add], .box b1 81 #[.map (some a0_constantb), .map (some a0_sameb)]] := hL.wr 1 rfl hC7 hB7
   refine sNil (wSeq (wReg (sRun (xFld0 Try.underlying81 rfl rfl ti79 (by decide) rfl) (sRun (xLoad Try.underlying79 rfl rfl ((hL.bk 2 rfl).cell (i := 0) rfl)) (sRun (xFld (k := 8) Try.underlying66 rfl rfl ti64 (by decide) rfl) (sRun (xFld (k := 1) Try.underlying64 rfl rfl ti3 (by decide) rfl) (sRun (xLoad Try.underlying3 rfl rfl ((hL.bk 1 rfl).cell (i := 9) rfl)) (sRun (xLook (ek := ekI) (ev := evI) (l := a0_constant) (k := (m_r08_facts_of a0_constant a0_same a1.Src.Val)) (z := (0 : Int)) Try.underlying79 (fk_int Try.underlying3) (zv_of ti3) (a0_constanth.ext hL.1) rfl rfl) (sRun xMove (sRun (xExtract rfl rfl) (sRun (xExtract rfl rfl) (sRun (xAsI rfl) (sRun (xAsB rfl) ?_)))))))))))))
   refine sNil (wSeq (wSeq (wReg (sRun (xMvB rfl) (sNil ?_)))))
   by_cases h8 : ((mget a0_constant (m_r08_facts_of a0_constant a0_same a1.Src.Val)).isSome) = true
   ·try rw [h8]
    rw [if_pos h8] at hM
    refine wIfT rfl (wReg (sRun (xMvI rfl) (sRun (xFld (k := 8) Try.underlying66 rfl rfl ti64 (by decide) rfl) (sRun (xFld (k := 2) Try.underlying64 rfl rfl ti3 (by decide) rfl) (sRun (xLoad Try.underlying3 rfl rfl ((hL.bk 1 rfl).cell (i := 10) rfl)) (sRun (xAddW rfl rfl) (sRun (bd39_34 rfl rfl) (sRun (xFld (k := 8) Try.underlying66 rfl rfl ti64 (by decide) rfl) (sSlS 1 (T := fun cs => .box b2 66 cs.toArray) (b := b2) (o := 0) (k := 8) (cs := [.int .i64 a1.Kind, .int .i64 a1.Dst, .int .i64 a1.A, .int .i64 a1.B, .int .i64 a1.N, .int .i64 a1.Ctx, .int .i64 a1.Var, .int .i64 a1.Piece, .int .i64 a1.Src.Kind, .int .i64 (m_r08_facts_of a0_constant a0_same a1.Src.Val), .int .i64 a1.Src.Add]) (Slot.box b2 66) ti64 rfl rfl rfl rfl (by simp [Value.oneCell', Dat.cells, GSrc.cells]) hL rfl rfl ?_)))))))))
    intro w9 hL9
    replace hL : Bx w0 w9 [.box b3 66 #[.int .i64 (0 : Int), .int .i64 (0 : Int), .int .i64 (0 : Int), .int .i64 (0 : Int), .int .i64 (0 : Int), .int .i64 (0 : Int), .int .i64 (0 : Int), .int .i64 (0 : Int), .int .i64 (0 : Int), .int .i64 (0 : Int), .int .i64 (0 : Int)], .box b2 66 #[.int .i64 a1.Kind, .int .i64 a1.Dst, .int .i64 a1.A, .int .i64 a1.B, .int .i64 a1.N, .int .i64 a1.Ctx, .int .i64 a1.Var, .int .i64 a1.Piece, .int .i64 (1 : Int), .int .i64 (0 : Int), .int .i64 (wr (((mget a0_constant (m_r08_facts_of a0_constant a0_same a1.Src.Val)).getD (0 : Int)) + a1.Src.Add))], .box b1 81 #[.map (some a0_constantb), .map (some a0_sameb)]] := hL9
    refine sNil (wSeq (wReg (sRun (xLoadS [.int .i64 a1.Kind, .int .i64 a1.Dst, .int .i64 a1.A, .int .i64 a1.B, .int .i64 a1.N, .int .i64 a1.Ctx, .int .i64 a1.Var, .int .i64 a1.Piece, .int .i64 (1 : Int), .int .i64 (0 : Int), .int .i64 (wr (((mget a0_constant (m_r08_facts_of a0_constant a0_same a1.Src.Val)).getD (0 : Int)) + a1.Src.Add))] Try.underlying66 rfl ti66 rfl rfl ((hL.bk 1 rfl).part rfl)) (sStS ti66 rfl rfl rfl (by simp [Value.oneCell', Dat.cells, GOp.cells]) (hL.bk 0 rfl) rfl ?_))))
    intro w10 hB10 hC10
    replace hL : Bx w0 w10 [.box b3 66 #[.int .i64 a1.Kind, .int .i64 a1.Dst, .int .i64 a1.A, .int .i64 a1.B, .int .i64 a1.N, .int .i64 a1.Ctx, .int .i64 a1.Var, .int .i64 a1.Piece, .int .i64 (1 : Int), .int .i64 (0 : Int), .int .i64 (wr (((mget a0_constant (m_r08_facts_of a0_constant a0_same a1.Src.Val)).getD (0 : Int)) + a1.Src.Add))], .box b2 66 #[.int .i64 a1.Kind, .int .i64 a1.Dst, .int .i64 a1.A, .int .i64 a1.B, .int .i64 a1.N, .int .i64 a1.Ctx, .int .i64 a1.Var, .int .i64 a1.Piece, .int .i64 (1 : Int), .int .i64 (0 : Int), .int .i64 (wr (((mget a0_constant (m_r08_facts_of a0_constant a0_same a1.Src.Val)).getD (0 : Int)) + a1.Src.Add))], .box b1 81 #[.map (some a0_constantb), .map (some a0_sameb)]] := hL.wr 0 rfl hC10 hB10
    refine sNil (wRet ?_)
    subst hM
    refine resC (P := Try.prog) (fn := Try.f39) rfl Try.underlying66 rfl ti66 rfl rfl (hL.bk 0 rfl) ?_
    exact ⟨rfl, hL.1⟩
   ·have h8n : ((mget a0_constant (m_r08_facts_of a0_constant a0_same a1.Src.Val)).isSome) = false := Bool.eq_false_iff.2 h8
    try rw [h8n]
    rw [if_neg h8] at hM
    refine wIfF rfl (wSkip (wSeq (wReg (sRun (xLoadS [.int .i64 a1.Kind, .int .i64 a1.Dst, .int .i64 a1.A, .int .i64 a1.B, .int .i64 a1.N, .int .i64 a1.Ctx, .int .i64 a1.Var, .int .i64 a1.Piece, .int .i64 a1.Src.Kind, .int .i64 (m_r08_facts_of a0_constant a0_same a1.Src.Val), .int .i64 a1.Src.Add] Try.underlying66 rfl ti66 rfl rfl ((hL.bk 1 rfl).part rfl)) (sStS ti66 rfl rfl rfl (by simp [Value.oneCell', Dat.cells, GOp.cells]) (hL.bk 0 rfl) rfl ?_)))))
    intro w11 hB11 hC11
    replace hL : Bx w0 w11 [.box b3 66 #[.int .i64 a1.Kind, .int .i64 a1.Dst, .int .i64 a1.A, .int .i64 a1.B, .int .i64 a1.N, .int .i64 a1.Ctx, .int .i64 a1.Var, .int .i64 a1.Piece, .int .i64 a1.Src.Kind, .int .i64 (m_r08_facts_of a0_constant a0_same a1.Src.Val), .int .i64 a1.Src.Add], .box b2 66 #[.int .i64 a1.Kind, .int .i64 a1.Dst, .int .i64 a1.A, .int .i64 a1.B, .int .i64 a1.N, .int .i64 a1.Ctx, .int .i64 a1.Var, .int .i64 a1.Piece, .int .i64 a1.Src.Kind, .int .i64 (m_r08_facts_of a0_constant a0_same a1.Src.Val), .int .i64 a1.Src.Add], .box b1 81 #[.map (some a0_constantb), .map (some a0_sameb)]] := hL.wr 0 rfl hC11 hB11
    refine sNil (wRet ?_)
    subst hM
    refine resC (P := Try.prog) (fn := Try.f39) rfl Try.underlying66 rfl ti66 rfl rfl (hL.bk 0 rfl) ?_
    exact ⟨rfl, hL.1⟩

def m_r08_facts_op_J0 (a0_constant : List (Int × Int)) (a0_same : List (Int × Int)) (a1 : GOp) : Lp (Int) (GOp × List (Int × Int) × List (Int × Int)) :=
  if (m_r06_UsesA a1.Kind) = true then
   .go (m_r08_facts_of a0_constant a0_same a1.A)
  else
   .go a1.A
def m_r08_facts_op_J1 (a0_constant : List (Int × Int)) (a0_same : List (Int × Int)) (a1 : GOp) (u8 : Int) : Lp (Int) (GOp × List (Int × Int) × List (Int × Int)) :=
  if (m_r06_UsesB a1.Kind) = true then
   .go (m_r08_facts_of a0_constant a0_same a1.B)
  else
   .go a1.B
def m_r08_facts_op (a0_constant : List (Int × Int)) (a0_same : List (Int × Int)) (a1 : GOp) : GOp × List (Int × Int) × List (Int × Int) :=
 if a1.Kind = (1 : Int) then
  (a1, (mput a0_constant a1.Dst a1.N), a0_same)
 else
  (m_r08_facts_op_J0 a0_constant a0_same a1).el (fun u8 =>
   (m_r08_facts_op_J1 a0_constant a0_same a1 u8).el (fun u13 =>
    if a1.Kind = (2 : Int) then
     if ((mget a0_constant u8).isSome) = true then
      ((⟨(1 : Int), a1.Dst, (0 : Int), (0 : Int), ((mget a0_constant u8).getD (0 : Int)), (0 : Int), (0 : Int), (0 : Int), (⟨(0 : Int), (0 : Int), (0 : Int)⟩ : GSrc)⟩ : GOp), (mput a0_constant a1.Dst ((mget a0_constant u8).getD (0 : Int))), a0_same)
     else
      ((⟨a1.Kind, a1.Dst, u8, u13, a1.N, a1.Ctx, a1.Var, a1.Piece, a1.Src⟩ : GOp), a0_constant, (mput a0_same a1.Dst u8))
    else
     if a1.Kind < (3 : Int) then
      ((⟨a1.Kind, a1.Dst, u8, u13, a1.N, a1.Ctx, a1.Var, a1.Piece, a1.Src⟩ : GOp), a0_constant, a0_same)
     else
      if (14 : Int) < a1.Kind then
       ((⟨a1.Kind, a1.Dst, u8, u13, a1.N, a1.Ctx, a1.Var, a1.Piece, a1.Src⟩ : GOp), a0_constant, a0_same)
      else
       if ((mget a0_constant u8).isSome) = true then
        if ((mget a0_constant u13).isSome) = true then
         if ((decide (((mget a0_constant u13).getD (0 : Int)) = (0 : Int))) && ((decide (a1.Kind = (6 : Int))) || (decide (a1.Kind = (7 : Int))))) = true then
          ((⟨a1.Kind, a1.Dst, u8, u13, a1.N, a1.Ctx, a1.Var, a1.Piece, a1.Src⟩ : GOp), a0_constant, a0_same)
         else
          ((⟨(1 : Int), a1.Dst, (0 : Int), (0 : Int), (m_r05_Binary (wr (a1.Kind - (3 : Int))) ((mget a0_constant u8).getD (0 : Int)) ((mget a0_constant u13).getD (0 : Int))), (0 : Int), (0 : Int), (0 : Int), (⟨(0 : Int), (0 : Int), (0 : Int)⟩ : GSrc)⟩ : GOp), (mput a0_constant a1.Dst (m_r05_Binary (wr (a1.Kind - (3 : Int))) ((mget a0_constant u8).getD (0 : Int)) ((mget a0_constant u13).getD (0 : Int)))), a0_same)
        else
         if (0 : Int) ≤ (m_r08_facts_copies a0_constant a0_same (⟨a1.Kind, a1.Dst, u8, u13, a1.N, a1.Ctx, a1.Var, a1.Piece, a1.Src⟩ : GOp)) then
          ((⟨(2 : Int), a1.Dst, (m_r08_facts_copies a0_constant a0_same (⟨a1.Kind, a1.Dst, u8, u13, a1.N, a1.Ctx, a1.Var, a1.Piece, a1.Src⟩ : GOp)), (0 : Int), (0 : Int), (0 : Int), (0 : Int), (0 : Int), (⟨(0 : Int), (0 : Int), (0 : Int)⟩ : GSrc)⟩ : GOp), a0_constant, (mput a0_same a1.Dst (m_r08_facts_copies a0_constant a0_same (⟨a1.Kind, a1.Dst, u8, u13, a1.N, a1.Ctx, a1.Var, a1.Piece, a1.Src⟩ : GOp))))
         else
          if (((decide (a1.Kind = (5 : Int))) || (decide (a1.Kind = (8 : Int)))) && ((m_r08_facts_is a0_constant a0_same u8 (0 : Int)) || (m_r08_facts_is a0_constant a0_same u13 (0 : Int)))) = true then
           ((⟨(1 : Int), a1.Dst, (0 : Int), (0 : Int), (0 : Int), (0 : Int), (0 : Int), (0 : Int), (⟨(0 : Int), (0 : Int), (0 : Int)⟩ : GSrc)⟩ : GOp), (mput a0_constant a1.Dst (0 : Int)), a0_same)
          else
           ((⟨a1.Kind, a1.Dst, u8, u13, a1.N, a1.Ctx, a1.Var, a1.Piece, a1.Src⟩ : GOp), a0_constant, a0_same)
       else
        if (0 : Int) ≤ (m_r08_facts_copies a0_constant a0_same (⟨a1.Kind, a1.Dst, u8, u13, a1.N, a1.Ctx, a1.Var, a1.Piece, a1.Src⟩ : GOp)) then
         ((⟨(2 : Int), a1.Dst, (m_r08_facts_copies a0_constant a0_same (⟨a1.Kind, a1.Dst, u8, u13, a1.N, a1.Ctx, a1.Var, a1.Piece, a1.Src⟩ : GOp)), (0 : Int), (0 : Int), (0 : Int), (0 : Int), (0 : Int), (⟨(0 : Int), (0 : Int), (0 : Int)⟩ : GSrc)⟩ : GOp), a0_constant, (mput a0_same a1.Dst (m_r08_facts_copies a0_constant a0_same (⟨a1.Kind, a1.Dst, u8, u13, a1.N, a1.Ctx, a1.Var, a1.Piece, a1.Src⟩ : GOp))))
        else
         if (((decide (a1.Kind = (5 : Int))) || (decide (a1.Kind = (8 : Int)))) && ((m_r08_facts_is a0_constant a0_same u8 (0 : Int)) || (m_r08_facts_is a0_constant a0_same u13 (0 : Int)))) = true then
          ((⟨(1 : Int), a1.Dst, (0 : Int), (0 : Int), (0 : Int), (0 : Int), (0 : Int), (0 : Int), (⟨(0 : Int), (0 : Int), (0 : Int)⟩ : GSrc)⟩ : GOp), (mput a0_constant a1.Dst (0 : Int)), a0_same)
         else
          ((⟨a1.Kind, a1.Dst, u8, u13, a1.N, a1.Ctx, a1.Var, a1.Piece, a1.Src⟩ : GOp), a0_constant, a0_same)
     ) (fun o => o)
    ) (fun o => o)
theorem bd40_68 {ρ : Operand → Value} {w : World} {d : Option Nat} {ty : TypeId} {pos : String} {af : Array Edge} {g : Option (Nat × Bool)} {x0 : Int} {x1 : Int} {x4 : Int} {o0 : Operand} {o1 : Operand} {o4 : Operand} (h0 : ρ o0 = .int .i64 x0) (h1 : ρ o1 = .int .i64 x1) (h4 : ρ o4 = .int .i64 x4) : Yl Try.prog ρ (.build 66 #[(0, o0), (1, o1), (4, o4)]) d ty pos af g w (.agg #[.int .i64 x0, .int .i64 x1, .int .i64 0, .int .i64 0, .int .i64 x4, .int .i64 0, .int .i64 0, .int .i64 0, .int .i64 0, .int .i64 0, .int .i64 0]) := by
  have e : (Instr.build 66 #[(0, .int .i64 x0), (1, .int .i64 x1), (4, .int .i64 x4)]).run Try.prog w = .ok (.agg #[.int .i64 x0, .int .i64 x1, .int .i64 0, .int .i64 0, .int .i64 x4, .int .i64 0, .int .i64 0, .int .i64 0, .int .i64 0, .int .i64 0, .int .i64 0]) w := by kernel_rfl
  simp [Yl, execOp, h0, h1, h4, e]
theorem bd40_122 {ρ : Operand → Value} {w : World} {d : Option Nat} {ty : TypeId} {pos : String} {af : Array Edge} {g : Option (Nat × Bool)} {x0 : Int} {x1 : Int} {x4 : Int} {o0 : Operand} {o1 : Operand} {o4 : Operand} (h0 : ρ o0 = .int .i64 x0) (h1 : ρ o1 = .int .i64 x1) (h4 : ρ o4 = .int .i64 x4) : Yl Try.prog ρ (.build 66 #[(0, o0), (1, o1), (4, o4)]) d ty pos af g w (.agg #[.int .i64 x0, .int .i64 x1, .int .i64 0, .int .i64 0, .int .i64 x4, .int .i64 0, .int .i64 0, .int .i64 0, .int .i64 0, .int .i64 0, .int .i64 0]) := by
  have e : (Instr.build 66 #[(0, .int .i64 x0), (1, .int .i64 x1), (4, .int .i64 x4)]).run Try.prog w = .ok (.agg #[.int .i64 x0, .int .i64 x1, .int .i64 0, .int .i64 0, .int .i64 x4, .int .i64 0, .int .i64 0, .int .i64 0, .int .i64 0, .int .i64 0, .int .i64 0]) w := by kernel_rfl
  simp [Yl, execOp, h0, h1, h4, e]
theorem bd40_136 {ρ : Operand → Value} {w : World} {d : Option Nat} {ty : TypeId} {pos : String} {af : Array Edge} {g : Option (Nat × Bool)} {x0 : Int} {x1 : Int} {x2 : Int} {o0 : Operand} {o1 : Operand} {o2 : Operand} (h0 : ρ o0 = .int .i64 x0) (h1 : ρ o1 = .int .i64 x1) (h2 : ρ o2 = .int .i64 x2) : Yl Try.prog ρ (.build 66 #[(0, o0), (1, o1), (2, o2)]) d ty pos af g w (.agg #[.int .i64 x0, .int .i64 x1, .int .i64 x2, .int .i64 0, .int .i64 0, .int .i64 0, .int .i64 0, .int .i64 0, .int .i64 0, .int .i64 0, .int .i64 0]) := by
  have e : (Instr.build 66 #[(0, .int .i64 x0), (1, .int .i64 x1), (2, .int .i64 x2)]).run Try.prog w = .ok (.agg #[.int .i64 x0, .int .i64 x1, .int .i64 x2, .int .i64 0, .int .i64 0, .int .i64 0, .int .i64 0, .int .i64 0, .int .i64 0, .int .i64 0, .int .i64 0]) w := by kernel_rfl
  simp [Yl, execOp, h0, h1, h2, e]
theorem bd40_163 {ρ : Operand → Value} {w : World} {d : Option Nat} {ty : TypeId} {pos : String} {af : Array Edge} {g : Option (Nat × Bool)} {x0 : Int} {x1 : Int} {o0 : Operand} {o1 : Operand} (h0 : ρ o0 = .int .i64 x0) (h1 : ρ o1 = .int .i64 x1) : Yl Try.prog ρ (.build 66 #[(0, o0), (1, o1)]) d ty pos af g w (.agg #[.int .i64 x0, .int .i64 x1, .int .i64 0, .int .i64 0, .int .i64 0, .int .i64 0, .int .i64 0, .int .i64 0, .int .i64 0, .int .i64 0, .int .i64 0]) := by
  have e : (Instr.build 66 #[(0, .int .i64 x0), (1, .int .i64 x1)]).run Try.prog w = .ok (.agg #[.int .i64 x0, .int .i64 x1, .int .i64 0, .int .i64 0, .int .i64 0, .int .i64 0, .int .i64 0, .int .i64 0, .int .i64 0, .int .i64 0, .int .i64 0]) w := by kernel_rfl
  simp [Yl, execOp, h0, h1, e]
set_option maxHeartbeats 12800000 in
theorem sp_m_r08_facts_op (w0 w : World) (L0 : List It) (a0_constantb : Nat) (a0_constant : List (Int × Int)) (a0_sameb : Nat) (a0_same : List (Int × Int)) (a1 : GOp) (hL : Bx w0 w (.map ekI evI a0_constantb a0_constant :: .map ekI evI a0_sameb a0_same :: L0)) : Calls Try.prog 40 #[.agg #[.map (some a0_constantb), .map (some a0_sameb)], .agg (GOp.cells a1).toArray] w (Ret fun v w => v = .agg #[.int .i64 ((m_r08_facts_op a0_constant a0_same a1).1.Kind), .int .i64 ((m_r08_facts_op a0_constant a0_same a1).1.Dst), .int .i64 ((m_r08_facts_op a0_constant a0_same a1).1.A), .int .i64 ((m_r08_facts_op a0_constant a0_same a1).1.B), .int .i64 ((m_r08_facts_op a0_constant a0_same a1).1.N), .int .i64 ((m_r08_facts_op a0_constant a0_same a1).1.Ctx), .int .i64 ((m_r08_facts_op a0_constant a0_same a1).1.Var), .int .i64 ((m_r08_facts_op a0_constant a0_same a1).1.Piece), .int .i64 ((m_r08_facts_op a0_constant a0_same a1).1.Src.Kind), .int .i64 ((m_r08_facts_op a0_constant a0_same a1).1.Src.Val), .int .i64 ((m_r08_facts_op a0_constant a0_same a1).1.Src.Add)] ∧ Bx w0 w (.map ekI evI a0_constantb ((m_r08_facts_op a0_constant a0_same a1).2.1) :: .map ekI evI a0_sameb ((m_r08_facts_op a0_constant a0_same a1).2.2) :: L0)) := by
  obtain ⟨X, hM⟩ : ∃ X, m_r08_facts_op a0_constant a0_same a1 = X := ⟨_, rfl⟩
  rw [hM]
  unfold m_r08_facts_op at hM
  try simp only [er1, er2, er3, er4, er5, er6, er7, er8, er9, er10, er11, er12, er13, er14, er15, er16, er17, List.length_map] at hM
  refine calls_of Try.func40 rfl (Nat.le_of_ble_eq_true rfl) (by kernel_rfl) ?_
  refine wCut [(0, .agg #[.map (some a0_constantb), .map (some a0_sameb)]), (1, .agg (GOp.cells a1).toArray)] ⟨rfl, rfl, trivial⟩ fun g => ?_
  refine wSeq (wReg (sTo (aNew (mBox rfl)) ?_))
  rintro _ w1 ⟨b1, rfl, hge1, hB1, he1⟩
  replace hL := hL.new hge1 hB1 he1
  refine sTo (aNew (mBox rfl)) ?_
  rintro _ w2 ⟨b2, rfl, hge2, hB2, he2⟩
  replace hL := hL.new hge2 hB2 he2
  refine sTo (aNew (mAlloc ti66)) ?_
  rintro _ w3 ⟨b3, rfl, hge3, hB3, he3⟩
  replace hL := hL.new hge3 hB3 he3
  refine sNil (wSeq (wSeq (wReg (sRun (xFld0 Try.underlying66 rfl rfl ti3 (by decide) rfl) (sRun (xLoad Try.underlying3 rfl rfl ((hL.bk 1 rfl).cell (i := 0) rfl)) (sRun (xEqlD rfl rfl) (sNil ?_)))))))
  by_cases h4 : a1.Kind = (1 : Int)
  ·try rw [decide_eq_true h4]
   rw [if_pos h4] at hM
   refine wIfT rfl (wSeq (wReg (sRun (xFld0 Try.underlying81 rfl rfl ti79 (by decide) rfl) (sRun (xLoad Try.underlying79 rfl rfl ((hL.bk 2 rfl).cell (i := 0) rfl)) (sRun (xFld (k := 1) Try.underlying66 rfl rfl ti3 (by decide) rfl) (sRun (xLoad Try.underlying3 rfl rfl ((hL.bk 1 rfl).cell (i := 1) rfl)) (sRun (xFld (k := 4) Try.underlying66 rfl rfl ti3 (by decide) rfl) (sRun (xLoad Try.underlying3 rfl rfl ((hL.bk 1 rfl).cell (i := 4) rfl)) (sUpd (ek := ekI) (ev' := evI) (l := a0_constant) (k := a1.Dst) (u := a1.N) Try.underlying79 (fk_int Try.underlying3) (hL.mp 3 rfl) rfl rfl rfl ?_)))))))))
   intro w5 hB5 hC5
   replace hL : Bx w0 w5 (.box b3 66 #[.int .i64 (0 : Int), .int .i64 (0 : Int), .int .i64 (0 : Int), .int .i64 (0 : Int), .int .i64 (0 : Int), .int .i64 (0 : Int), .int .i64 (0 : Int), .int .i64 (0 : Int), .int .i64 (0 : Int), .int .i64 (0 : Int), .int .i64 (0 : Int)] :: .box b2 66 (GOp.cells a1).toArray :: .box b1 81 #[.map (some a0_constantb), .map (some a0_sameb)] :: .map ekI evI a0_constantb (mput a0_constant a1.Dst a1.N) :: .map ekI evI a0_sameb a0_same :: L0) := hL.upd 3 rfl hC5 hB5
   refine sNil (wSeq (wReg (sRun (xLoadS (GOp.cells a1) Try.underlying66 rfl ti66 rfl rfl ((hL.bk 1 rfl).part rfl)) (sStS ti66 rfl rfl rfl (by simp [Value.oneCell', Dat.cells, GOp.cells]) (hL.bk 0 rfl) rfl ?_))))
   intro w6 hB6 hC6
   replace hL : Bx w0 w6 (.box b3 66 (GOp.cells a1).toArray :: .box b2 66 (GOp.cells a1).toArray :: .box b1 81 #[.map (some a0_constantb), .map (some a0_sameb)] :: .map ekI evI a0_constantb (mput a0_constant a1.Dst a1.N) :: .map ekI evI a0_sameb a0_same :: L0) := hL.wr 0 rfl hC6 hB6
   refine sNil (wRet ?_)
   subst hM
   refine resC (P := Try.prog) (fn := Try.f40) rfl Try.underlying66 rfl ti66 rfl rfl (hL.bk 0 rfl) ?_
   exact ⟨rfl, hL.tl.tl.tl⟩
  ·try rw [decide_eq_false h4]
   rw [if_neg h4] at hM
   refine wIfF rfl (wSkip (wSeq (wSeq (wReg (sRun (xFld0 Try.underlying66 rfl rfl ti3 (by decide) rfl) (sRun (xLoad Try.underlying3 rfl rfl ((hL.bk 1 rfl).cell (i := 0) rfl)) (sCall (eCall cal80 rfl) (sp_m_r06_UsesA _ a1.Kind) ?_)))))))
   rintro _ w7 ⟨rfl, he7⟩
   replace hL := hL.ext he7
   refine sNil ?_
   obtain ⟨Y8, hY8⟩ : ∃ Y, m_r08_facts_op_J0 a0_constant a0_same a1 = Y := ⟨_, rfl⟩
   rw [hY8] at hM
   refine wJ (fun f w => ∃ (s8_0 : Int), Has f [(2, .pointer (some ⟨b1, 0, none⟩)), (3, .pointer (some ⟨b2, 0, none⟩)), (4, .pointer (some ⟨b3, 0, none⟩))] ∧ Bx w0 w (.box b3 66 #[.int .i64 (0 : Int), .int .i64 (0 : Int), .int .i64 (0 : Int), .int .i64 (0 : Int), .int .i64 (0 : Int), .int .i64 (0 : Int), .int .i64 (0 : Int), .int .i64 (0 : Int), .int .i64 (0 : Int), .int .i64 (0 : Int), .int .i64 (0 : Int)] :: .box b2 66 #[.int .i64 a1.Kind, .int .i64 a1.Dst, .int .i64 s8_0, .int .i64 a1.B, .int .i64 a1.N, .int .i64 a1.Ctx, .int .i64 a1.Var, .int .i64 a1.Piece, .int .i64 a1.Src.Kind, .int .i64 a1.Src.Val, .int .i64 a1.Src.Add] :: .box b1 81 #[.map (some a0_constantb), .map (some a0_sameb)] :: .map ekI evI a0_constantb a0_constant :: .map ekI evI a0_sameb a0_same :: L0) ∧ Lp.go s8_0 = Y8) ?_ ?_
   ·unfold m_r08_facts_op_J0 at hY8
    try simp only [er1, er2, er3, er4, er5, er6, er7, er8, er9, er10, er11, er12, er13, er14, er15, er16, er17, List.length_map] at hY8
    by_cases h9 : (m_r06_UsesA a1.Kind) = true
    ·try rw [h9]
     rw [if_pos h9] at hY8
     refine wIfT rfl (wReg (sRun (xLoadS [.map (some a0_constantb), .map (some a0_sameb)] Try.underlying81 rfl ti81 rfl rfl ((hL.bk 2 rfl).part rfl)) (sRun (xFld (k := 2) Try.underlying66 rfl rfl ti3 (by decide) rfl) (sRun (xLoad Try.underlying3 rfl rfl ((hL.bk 1 rfl).cell (i := 2) rfl)) (sCall (eCall cal79 rfl) (sp_m_r08_facts_of _ a0_constantb a0_constant (hL.mp 3 rfl) a0_sameb a0_same (hL.mp 4 rfl) a1.A) ?_)))))
     rintro _ w10 ⟨rfl, he10⟩
     replace hL := hL.ext he10
     refine sRun (xFld (k := 2) Try.underlying66 rfl rfl ti3 (by decide) rfl) (sSt1 ti3 rfl rfl rfl (hL.bk 1 rfl) (Nat.le_of_ble_eq_true rfl) ?_)
     intro w11 hB11 hC11
     replace hL : Bx w0 w11 (.box b3 66 #[.int .i64 (0 : Int), .int .i64 (0 : Int), .int .i64 (0 : Int), .int .i64 (0 : Int), .int .i64 (0 : Int), .int .i64 (0 : Int), .int .i64 (0 : Int), .int .i64 (0 : Int), .int .i64 (0 : Int), .int .i64 (0 : Int), .int .i64 (0 : Int)] :: .box b2 66 #[.int .i64 a1.Kind, .int .i64 a1.Dst, .int .i64 (m_r08_facts_of a0_constant a0_same a1.A), .int .i64 a1.B, .int .i64 a1.N, .int .i64 a1.Ctx, .int .i64 a1.Var, .int .i64 a1.Piece, .int .i64 a1.Src.Kind, .int .i64 a1.Src.Val, .int .i64 a1.Src.Add] :: .box b1 81 #[.map (some a0_constantb), .map (some a0_sameb)] :: .map ekI evI a0_constantb a0_constant :: .map ekI evI a0_sameb a0_same :: L0) := hL.wr 1 rfl hC11 hB11
     refine sNil ?_
     exact ⟨(m_r08_facts_of a0_constant a0_same a1.A), ⟨rfl, rfl, rfl, trivial⟩, hL, hY8⟩
    ·have h9n : (m_r06_UsesA a1.Kind) = false := Bool.eq_false_iff.2 h9
     try rw [h9n]
     rw [if_neg h9] at hY8
     refine wIfF rfl (wSkip ?_)
     exact ⟨a1.A, ⟨rfl, rfl, rfl, trivial⟩, hL, hY8⟩
   ·clear hL
    rintro f w ⟨s8_0, hf, hL, hZ8⟩
    obtain ⟨g, rfl⟩ := has_updL _ _ hf
    clear hf
    subst hZ8
    rw [Lp.el_go] at hM
    try dsimp only at hM
    refine wSeq (wSeq (wReg (sRun (xFld0 Try.underlying66 rfl rfl ti3 (by decide) rfl) (sRun (xLoad Try.underlying3 rfl rfl ((hL.bk 1 rfl).cell (i := 0) rfl)) (sCall (eCall cal81 rfl) (sp_m_r06_UsesB _ a1.Kind) ?_)))))
    rintro _ w12 ⟨rfl, he12⟩
    replace hL := hL.ext he12
    refine sNil ?_
    obtain ⟨Y13, hY13⟩ : ∃ Y, m_r08_facts_op_J1 a0_constant a0_same a1 s8_0 = Y := ⟨_, rfl⟩
    rw [hY13] at hM
    refine wJ (fun f w => ∃ (s13_0 : Int), Has f [(2, .pointer (some ⟨b1, 0, none⟩)), (3, .pointer (some ⟨b2, 0, none⟩)), (4, .pointer (some ⟨b3, 0, none⟩))] ∧ Bx w0 w (.box b3 66 #[.int .i64 (0 : Int), .int .i64 (0 : Int), .int .i64 (0 : Int), .int .i64 (0 : Int), .int .i64 (0 : Int), .int .i64 (0 : Int), .int .i64 (0 : Int), .int .i64 (0 : Int), .int .i64 (0 : Int), .int .i64 (0 : Int), .int .i64 (0 : Int)] :: .box b2 66 #[.int .i64 a1.Kind, .int .i64 a1.Dst, .int .i64 s8_0, .int .i64 s13_0, .int .i64 a1.N, .int .i64 a1.Ctx, .int .i64 a1.Var, .int .i64 a1.Piece, .int .i64 a1.Src.Kind, .int .i64 a1.Src.Val, .int .i64 a1.Src.Add] :: .box b1 81 #[.map (some a0_constantb), .map (some a0_sameb)] :: .map ekI evI a0_constantb a0_constant :: .map ekI evI a0_sameb a0_same :: L0) ∧ Lp.go s13_0 = Y13) ?_ ?_
    ·unfold m_r08_facts_op_J1 at hY13
     try simp only [er1, er2, er3, er4, er5, er6, er7, er8, er9, er10, er11, er12, er13, er14, er15, er16, er17, List.length_map] at hY13
     by_cases h14 : (m_r06_UsesB a1.Kind) = true
     ·try rw [h14]
      rw [if_pos h14] at hY13
      refine wIfT rfl (wReg (sRun (xLoadS [.map (some a0_constantb), .map (some a0_sameb)] Try.underlying81 rfl ti81 rfl rfl ((hL.bk 2 rfl).part rfl)) (sRun (xFld (k := 3) Try.underlying66 rfl rfl ti3 (by decide) rfl) (sRun (xLoad Try.underlying3 rfl rfl ((hL.bk 1 rfl).cell (i := 3) rfl)) (sCall (eCall cal79 rfl) (sp_m_r08_facts_of _ a0_constantb a0_constant (hL.mp 3 rfl) a0_sameb a0_same (hL.mp 4 rfl) a1.B) ?_)))))
      rintro _ w15 ⟨rfl, he15⟩
      replace hL := hL.ext he15
      refine sRun (xFld (k := 3) Try.underlying66 rfl rfl ti3 (by decide) rfl) (sSt1 ti3 rfl rfl rfl (hL.bk 1 rfl) (Nat.le_of_ble_eq_true rfl) ?_)
      intro w16 hB16 hC16
      replace hL : Bx w0 w16 (.box b3 66 #[.int .i64 (0 : Int), .int .i64 (0 : Int), .int .i64 (0 : Int), .int .i64 (0 : Int), .int .i64 (0 : Int), .int .i64 (0 : Int), .int .i64 (0 : Int), .int .i64 (0 : Int), .int .i64 (0 : Int), .int .i64 (0 : Int), .int .i64 (0 : Int)] :: .box b2 66 #[.int .i64 a1.Kind, .int .i64 a1.Dst, .int .i64 s8_0, .int .i64 (m_r08_facts_of a0_constant a0_same a1.B), .int .i64 a1.N, .int .i64 a1.Ctx, .int .i64 a1.Var, .int .i64 a1.Piece, .int .i64 a1.Src.Kind, .int .i64 a1.Src.Val, .int .i64 a1.Src.Add] :: .box b1 81 #[.map (some a0_constantb), .map (some a0_sameb)] :: .map ekI evI a0_constantb a0_constant :: .map ekI evI a0_sameb a0_same :: L0) := hL.wr 1 rfl hC16 hB16
      refine sNil ?_
      exact ⟨(m_r08_facts_of a0_constant a0_same a1.B), ⟨rfl, rfl, rfl, trivial⟩, hL, hY13⟩
     ·have h14n : (m_r06_UsesB a1.Kind) = false := Bool.eq_false_iff.2 h14
      try rw [h14n]
      rw [if_neg h14] at hY13
      refine wIfF rfl (wSkip ?_)
      exact ⟨a1.B, ⟨rfl, rfl, rfl, trivial⟩, hL, hY13⟩
    ·clear hL
     rintro f w ⟨s13_0, hf, hL, hZ13⟩
     obtain ⟨g, rfl⟩ := has_updL _ _ hf
     clear hf
     subst hZ13
     rw [Lp.el_go] at hM
     try dsimp only at hM
     refine wSeq (wReg (sRun (xFld0 Try.underlying81 rfl rfl ti79 (by decide) rfl) (sRun (xLoad Try.underlying79 rfl rfl ((hL.bk 2 rfl).cell (i := 0) rfl)) (sRun (xFld (k := 2) Try.underlying66 rfl rfl ti3 (by decide) rfl) (sRun (xLoad Try.underlying3 rfl rfl ((hL.bk 1 rfl).cell (i := 2) rfl)) (sRun (xLook (ek := ekI) (ev := evI) (l := a0_constant) (k := s8_0) (z := (0 : Int)) Try.underlying79 (fk_int Try.underlying3) (zv_of ti3) (hL.mp 3 rfl) rfl rfl) (sRun xMove (sRun (xExtract rfl rfl) (sRun (xExtract rfl rfl) (sRun (xAsI rfl) (sRun (xAsB rfl) (sNil (wSeq ?_)))))))))))))
     refine wReg (sRun (xFld0 Try.underlying81 rfl rfl ti79 (by decide) rfl) (sRun (xLoad Try.underlying79 rfl rfl ((hL.bk 2 rfl).cell (i := 0) rfl)) (sRun (xFld (k := 3) Try.underlying66 rfl rfl ti3 (by decide) rfl) (sRun (xLoad Try.underlying3 rfl rfl ((hL.bk 1 rfl).cell (i := 3) rfl)) (sRun (xLook (ek := ekI) (ev := evI) (l := a0_constant) (k := s13_0) (z := (0 : Int)) Try.underlying79 (fk_int Try.underlying3) (zv_of ti3) (hL.mp 3 rfl) rfl rfl) (sRun xMove (sRun (xExtract rfl rfl) (sRun (xExtract rfl rfl) (sRun (xAsI rfl) (sRun (xAsB rfl) (sNil (wSeq (wBlock ?_)))))))))))))
     refine wSeq (wReg (sRun (xFld0 Try.underlying66 rfl rfl ti3 (by decide) rfl) (sRun (xLoad Try.underlying3 rfl rfl ((hL.bk 1 rfl).cell (i := 0) rfl)) (sRun (xEqlD rfl rfl) (sRun (xMvB rfl) ?_)))))
     by_cases h17 : a1.Kind = (2 : Int)
     ·try rw [decide_eq_true h17]
      rw [if_pos h17] at hM
      refine sGo rfl (sRun (xMvB rfl) (sRun (xPkTB rfl rfl) (sRun (xAsB rfl) (sNil ?_))))
      by_cases h18 : ((mget a0_constant s8_0).isSome) = true
      ·try rw [h18]
       rw [if_pos h18] at hM
       refine wIfT rfl (wSeq (wReg (sRun (xFld0 Try.underlying81 rfl rfl ti79 (by decide) rfl) (sRun (xLoad Try.underlying79 rfl rfl ((hL.bk 2 rfl).cell (i := 0) rfl)) (sRun (xFld (k := 1) Try.underlying66 rfl rfl ti3 (by decide) rfl) (sRun (xLoad Try.underlying3 rfl rfl ((hL.bk 1 rfl).cell (i := 1) rfl)) (sRun (xMvI rfl) (sUpd (ek := ekI) (ev' := evI) (l := a0_constant) (k := a1.Dst) (u := ((mget a0_constant s8_0).getD (0 : Int))) Try.underlying79 (fk_int Try.underlying3) (hL.mp 3 rfl) rfl rfl rfl ?_))))))))
       intro w19 hB19 hC19
       replace hL : Bx w0 w19 (.box b3 66 #[.int .i64 (0 : Int), .int .i64 (0 : Int), .int .i64 (0 : Int), .int .i64 (0 : Int), .int .i64 (0 : Int), .int .i64 (0 : Int), .int .i64 (0 : Int), .int .i64 (0 : Int), .int .i64 (0 : Int), .int .i64 (0 : Int), .int .i64 (0 : Int)] :: .box b2 66 #[.int .i64 a1.Kind, .int .i64 a1.Dst, .int .i64 s8_0, .int .i64 s13_0, .int .i64 a1.N, .int .i64 a1.Ctx, .int .i64 a1.Var, .int .i64 a1.Piece, .int .i64 a1.Src.Kind, .int .i64 a1.Src.Val, .int .i64 a1.Src.Add] :: .box b1 81 #[.map (some a0_constantb), .map (some a0_sameb)] :: .map ekI evI a0_constantb (mput a0_constant a1.Dst ((mget a0_constant s8_0).getD (0 : Int))) :: .map ekI evI a0_sameb a0_same :: L0) := hL.upd 3 rfl hC19 hB19
       refine sNil (wSeq (wReg (sRun (xFld (k := 1) Try.underlying66 rfl rfl ti3 (by decide) rfl) (sRun (xLoad Try.underlying3 rfl rfl ((hL.bk 1 rfl).cell (i := 1) rfl)) (sRun (xMvI rfl) (sRun (bd40_68 rfl rfl rfl) (sStS ti66 rfl rfl rfl (by simp [Value.oneCell', Dat.cells, GOp.cells]) (hL.bk 0 rfl) rfl ?_)))))))
       intro w20 hB20 hC20
       replace hL : Bx w0 w20 (.box b3 66 #[.int .i64 (1 : Int), .int .i64 a1.Dst, .int .i64 (0 : Int), .int .i64 (0 : Int), .int .i64 ((mget a0_constant s8_0).getD (0 : Int)), .int .i64 (0 : Int), .int .i64 (0 : Int), .int .i64 (0 : Int), .int .i64 (0 : Int), .int .i64 (0 : Int), .int .i64 (0 : Int)] :: .box b2 66 #[.int .i64 a1.Kind, .int .i64 a1.Dst, .int .i64 s8_0, .int .i64 s13_0, .int .i64 a1.N, .int .i64 a1.Ctx, .int .i64 a1.Var, .int .i64 a1.Piece, .int .i64 a1.Src.Kind, .int .i64 a1.Src.Val, .int .i64 a1.Src.Add] :: .box b1 81 #[.map (some a0_constantb), .map (some a0_sameb)] :: .map ekI evI a0_constantb (mput a0_constant a1.Dst ((mget a0_constant s8_0).getD (0 : Int))) :: .map ekI evI a0_sameb a0_same :: L0) := hL.wr 0 rfl hC20 hB20
       refine sNil (wRet ?_)
       subst hM
       refine resC (P := Try.prog) (fn := Try.f40) rfl Try.underlying66 rfl ti66 rfl rfl (hL.bk 0 rfl) ?_
       exact ⟨rfl, hL.tl.tl.tl⟩
      ·have h18n : ((mget a0_constant s8_0).isSome) = false := Bool.eq_false_iff.2 h18
       try rw [h18n]
       rw [if_neg h18] at hM
       refine wIfF rfl (wSeq (wReg (sRun (xFld0 Try.underlying66 rfl rfl ti3 (by decide) rfl) (sRun (xLoad Try.underlying3 rfl rfl ((hL.bk 1 rfl).cell (i := 0) rfl)) (sRun (xEqlT rfl rfl (by omega)) (sRun (xAsB rfl) (sNil (wIfT rfl (wSeq (wReg (sRun (xFld (k := 1) Try.underlying81 rfl rfl ti79 (by decide) rfl) (sRun (xLoad Try.underlying79 rfl rfl ((hL.bk 2 rfl).cell (i := 1) rfl)) (sRun (xFld (k := 1) Try.underlying66 rfl rfl ti3 (by decide) rfl) ?_)))))))))))))
       refine sRun (xLoad Try.underlying3 rfl rfl ((hL.bk 1 rfl).cell (i := 1) rfl)) (sRun (xFld (k := 2) Try.underlying66 rfl rfl ti3 (by decide) rfl) (sRun (xLoad Try.underlying3 rfl rfl ((hL.bk 1 rfl).cell (i := 2) rfl)) (sUpd (ek := ekI) (ev' := evI) (l := a0_same) (k := a1.Dst) (u := s8_0) Try.underlying79 (fk_int Try.underlying3) (hL.mp 4 rfl) rfl rfl rfl ?_)))
       intro w21 hB21 hC21
       replace hL : Bx w0 w21 (.box b3 66 #[.int .i64 (0 : Int), .int .i64 (0 : Int), .int .i64 (0 : Int), .int .i64 (0 : Int), .int .i64 (0 : Int), .int .i64 (0 : Int), .int .i64 (0 : Int), .int .i64 (0 : Int), .int .i64 (0 : Int), .int .i64 (0 : Int), .int .i64 (0 : Int)] :: .box b2 66 #[.int .i64 a1.Kind, .int .i64 a1.Dst, .int .i64 s8_0, .int .i64 s13_0, .int .i64 a1.N, .int .i64 a1.Ctx, .int .i64 a1.Var, .int .i64 a1.Piece, .int .i64 a1.Src.Kind, .int .i64 a1.Src.Val, .int .i64 a1.Src.Add] :: .box b1 81 #[.map (some a0_constantb), .map (some a0_sameb)] :: .map ekI evI a0_constantb a0_constant :: .map ekI evI a0_sameb (mput a0_same a1.Dst s8_0) :: L0) := hL.upd 4 rfl hC21 hB21
       refine sNil (wSeq (wReg (sRun (xLoadS [.int .i64 a1.Kind, .int .i64 a1.Dst, .int .i64 s8_0, .int .i64 s13_0, .int .i64 a1.N, .int .i64 a1.Ctx, .int .i64 a1.Var, .int .i64 a1.Piece, .int .i64 a1.Src.Kind, .int .i64 a1.Src.Val, .int .i64 a1.Src.Add] Try.underlying66 rfl ti66 rfl rfl ((hL.bk 1 rfl).part rfl)) (sStS ti66 rfl rfl rfl (by simp [Value.oneCell', Dat.cells, GOp.cells]) (hL.bk 0 rfl) rfl ?_))))
       intro w22 hB22 hC22
       replace hL : Bx w0 w22 (.box b3 66 #[.int .i64 a1.Kind, .int .i64 a1.Dst, .int .i64 s8_0, .int .i64 s13_0, .int .i64 a1.N, .int .i64 a1.Ctx, .int .i64 a1.Var, .int .i64 a1.Piece, .int .i64 a1.Src.Kind, .int .i64 a1.Src.Val, .int .i64 a1.Src.Add] :: .box b2 66 #[.int .i64 a1.Kind, .int .i64 a1.Dst, .int .i64 s8_0, .int .i64 s13_0, .int .i64 a1.N, .int .i64 a1.Ctx, .int .i64 a1.Var, .int .i64 a1.Piece, .int .i64 a1.Src.Kind, .int .i64 a1.Src.Val, .int .i64 a1.Src.Add] :: .box b1 81 #[.map (some a0_constantb), .map (some a0_sameb)] :: .map ekI evI a0_constantb a0_constant :: .map ekI evI a0_sameb (mput a0_same a1.Dst s8_0) :: L0) := hL.wr 0 rfl hC22 hB22
       refine sNil (wRet ?_)
       subst hM
       refine resC (P := Try.prog) (fn := Try.f40) rfl Try.underlying66 rfl ti66 rfl rfl (hL.bk 0 rfl) ?_
       exact ⟨rfl, hL.tl.tl.tl⟩
     ·try rw [decide_eq_false h17]
      rw [if_neg h17] at hM
      refine sNo rfl (sRun (xPkFB rfl rfl) (sRun (xAsB rfl) (sNil (wIfF rfl (wSeq (wReg (sRun (xFld0 Try.underlying66 rfl rfl ti3 (by decide) rfl) (sRun (xLoad Try.underlying3 rfl rfl ((hL.bk 1 rfl).cell (i := 0) rfl)) (sRun (xEqlF rfl rfl (by omega)) (sRun (xAsB rfl) (sNil (wIfF rfl (wSeq ?_)))))))))))))
      refine wReg (sRun (xFld0 Try.underlying66 rfl rfl ti3 (by decide) rfl) (sRun (xLoad Try.underlying3 rfl rfl ((hL.bk 1 rfl).cell (i := 0) rfl)) (sRun (xLss rfl rfl) (sRun (xMvB rfl) ?_))))
      by_cases h23 : a1.Kind < (3 : Int)
      ·try rw [decide_eq_true h23]
       rw [if_pos h23] at hM
       refine sNo rfl (sNo rfl (sNo rfl (sRun (xPkTB rfl rfl) (sRun (xAsB rfl) (sNil (wIfT rfl (wSeq (wReg (sRun (xLoadS [.int .i64 a1.Kind, .int .i64 a1.Dst, .int .i64 s8_0, .int .i64 s13_0, .int .i64 a1.N, .int .i64 a1.Ctx, .int .i64 a1.Var, .int .i64 a1.Piece, .int .i64 a1.Src.Kind, .int .i64 a1.Src.Val, .int .i64 a1.Src.Add] Try.underlying66 rfl ti66 rfl rfl ((hL.bk 1 rfl).part rfl)) (sStS ti66 rfl rfl rfl (by simp [Value.oneCell', Dat.cells, GOp.cells]) (hL.bk 0 rfl) rfl ?_))))))))))
       intro w24 hB24 hC24
       replace hL : Bx w0 w24 (.box b3 66 #[.int .i64 a1.Kind, .int .i64 a1.Dst, .int .i64 s8_0, .int .i64 s13_0, .int .i64 a1.N, .int .i64 a1.Ctx, .int .i64 a1.Var, .int .i64 a1.Piece, .int .i64 a1.Src.Kind, .int .i64 a1.Src.Val, .int .i64 a1.Src.Add] :: .box b2 66 #[.int .i64 a1.Kind, .int .i64 a1.Dst, .int .i64 s8_0, .int .i64 s13_0, .int .i64 a1.N, .int .i64 a1.Ctx, .int .i64 a1.Var, .int .i64 a1.Piece, .int .i64 a1.Src.Kind, .int .i64 a1.Src.Val, .int .i64 a1.Src.Add] :: .box b1 81 #[.map (some a0_constantb), .map (some a0_sameb)] :: .map ekI evI a0_constantb a0_constant :: .map ekI evI a0_sameb a0_same :: L0) := hL.wr 0 rfl hC24 hB24
       refine sNil (wRet ?_)
       subst hM
       refine resC (P := Try.prog) (fn := Try.f40) rfl Try.underlying66 rfl ti66 rfl rfl (hL.bk 0 rfl) ?_
       exact ⟨rfl, hL.tl.tl.tl⟩
      ·try rw [decide_eq_false h23]
       rw [if_neg h23] at hM
       refine sGo rfl (sRun (xFld0 Try.underlying66 rfl rfl ti3 (by decide) rfl) (sGo rfl (sRun (xLoad Try.underlying3 rfl rfl ((hL.bk 1 rfl).cell (i := 0) rfl)) (sGo rfl (sRun (xGtr rfl rfl) (sRun (xPkFB rfl rfl) (sRun (xAsB rfl) (sNil ?_))))))))
       by_cases h25 : (14 : Int) < a1.Kind
       ·try rw [decide_eq_true h25]
        rw [if_pos h25] at hM
        refine wIfT rfl (wSeq (wReg (sRun (xLoadS [.int .i64 a1.Kind, .int .i64 a1.Dst, .int .i64 s8_0, .int .i64 s13_0, .int .i64 a1.N, .int .i64 a1.Ctx, .int .i64 a1.Var, .int .i64 a1.Piece, .int .i64 a1.Src.Kind, .int .i64 a1.Src.Val, .int .i64 a1.Src.Add] Try.underlying66 rfl ti66 rfl rfl ((hL.bk 1 rfl).part rfl)) (sStS ti66 rfl rfl rfl (by simp [Value.oneCell', Dat.cells, GOp.cells]) (hL.bk 0 rfl) rfl ?_))))
        intro w26 hB26 hC26
        replace hL : Bx w0 w26 (.box b3 66 #[.int .i64 a1.Kind, .int .i64 a1.Dst, .int .i64 s8_0, .int .i64 s13_0, .int .i64 a1.N, .int .i64 a1.Ctx, .int .i64 a1.Var, .int .i64 a1.Piece, .int .i64 a1.Src.Kind, .int .i64 a1.Src.Val, .int .i64 a1.Src.Add] :: .box b2 66 #[.int .i64 a1.Kind, .int .i64 a1.Dst, .int .i64 s8_0, .int .i64 s13_0, .int .i64 a1.N, .int .i64 a1.Ctx, .int .i64 a1.Var, .int .i64 a1.Piece, .int .i64 a1.Src.Kind, .int .i64 a1.Src.Val, .int .i64 a1.Src.Add] :: .box b1 81 #[.map (some a0_constantb), .map (some a0_sameb)] :: .map ekI evI a0_constantb a0_constant :: .map ekI evI a0_sameb a0_same :: L0) := hL.wr 0 rfl hC26 hB26
        refine sNil (wRet ?_)
        subst hM
        refine resC (P := Try.prog) (fn := Try.f40) rfl Try.underlying66 rfl ti66 rfl rfl (hL.bk 0 rfl) ?_
        exact ⟨rfl, hL.tl.tl.tl⟩
       ·try rw [decide_eq_false h25]
        rw [if_neg h25] at hM
        refine wIfF rfl (wSeq (wReg (sRun (xMvB rfl) (sRun (xMvB rfl) ?_))))
        by_cases h27 : ((mget a0_constant s8_0).isSome) = true
        ·try rw [h27]
         rw [if_pos h27] at hM
         refine sGo rfl (sRun (xMvB rfl) (sRun (xPkTB rfl rfl) (sRun (xAsB rfl) (sNil ?_))))
         by_cases h28 : ((mget a0_constant s13_0).isSome) = true
         ·try rw [h28]
          rw [if_pos h28] at hM
          refine wIfT rfl (wSeq (wSeq ?_))
          obtain ⟨E29, hE29⟩ : ∃ E, ((decide (((mget a0_constant s13_0).getD (0 : Int)) = (0 : Int))) && ((decide (a1.Kind = (6 : Int))) || (decide (a1.Kind = (7 : Int))))) = E := ⟨_, rfl⟩
          refine wJ (fun f w => Has f [(2, .pointer (some ⟨b1, 0, none⟩)), (3, .pointer (some ⟨b2, 0, none⟩)), (4, .pointer (some ⟨b3, 0, none⟩)), (5, .int .i64 ((mget a0_constant s8_0).getD (0 : Int))), (7, .int .i64 ((mget a0_constant s13_0).getD (0 : Int))), (106, .bool E29)] ∧ Bx w0 w (.box b3 66 #[.int .i64 (0 : Int), .int .i64 (0 : Int), .int .i64 (0 : Int), .int .i64 (0 : Int), .int .i64 (0 : Int), .int .i64 (0 : Int), .int .i64 (0 : Int), .int .i64 (0 : Int), .int .i64 (0 : Int), .int .i64 (0 : Int), .int .i64 (0 : Int)] :: .box b2 66 #[.int .i64 a1.Kind, .int .i64 a1.Dst, .int .i64 s8_0, .int .i64 s13_0, .int .i64 a1.N, .int .i64 a1.Ctx, .int .i64 a1.Var, .int .i64 a1.Piece, .int .i64 a1.Src.Kind, .int .i64 a1.Src.Val, .int .i64 a1.Src.Add] :: .box b1 81 #[.map (some a0_constantb), .map (some a0_sameb)] :: .map ekI evI a0_constantb a0_constant :: .map ekI evI a0_sameb a0_same :: L0)) ?_ ?_
          ·refine wReg (sRun (xMvI rfl) (sRun (xEqlD rfl rfl) (sRun (xMvB rfl) ?_)))
           by_cases h30 : ((mget a0_constant s13_0).getD (0 : Int)) = (0 : Int)
           ·try rw [decide_eq_true h30]
            refine sGo rfl (sRun (xFld0 Try.underlying66 rfl rfl ti3 (by decide) rfl) (sGo rfl (sRun (xLoad Try.underlying3 rfl rfl ((hL.bk 1 rfl).cell (i := 0) rfl)) (sGo rfl (sRun (xEqlD rfl rfl) (sGo rfl (sRun (xMvB rfl) ?_)))))))
            by_cases h31 : a1.Kind = (6 : Int)
            ·try rw [decide_eq_true h31]
             refine sNo rfl (sNo rfl (sNo rfl (sGo rfl (sRun (xPkTB rfl rfl) (sRun (xPkTB rfl rfl) (sNil ?_))))))
             exact ⟨⟨rfl, rfl, rfl, rfl, rfl, (congrArg Value.bool (by rw [← hE29]; first | (simp [h30, h31]; done) | (simp only [decide_eq_true h30, decide_eq_true h31]; done) | grind)), trivial⟩, hL⟩
            ·try rw [decide_eq_false h31]
             refine sGo rfl (sRun (xFld0 Try.underlying66 rfl rfl ti3 (by decide) rfl) (sGo rfl (sRun (xLoad Try.underlying3 rfl rfl ((hL.bk 1 rfl).cell (i := 0) rfl)) (sGo rfl (sRun (xEqlD rfl rfl) (sGo rfl (sRun (xPkFB rfl rfl) (sRun (xPkTB rfl rfl) (sNil ?_)))))))))
             exact ⟨⟨rfl, rfl, rfl, rfl, rfl, (congrArg Value.bool (by rw [← hE29]; first | (simp [h30, h31]; done) | (simp only [decide_eq_true h30, decide_eq_false h31]; done) | grind)), trivial⟩, hL⟩
           ·try rw [decide_eq_false h30]
            refine sNo rfl (sNo rfl (sNo rfl (sNo rfl (sNo rfl (sNo rfl (sNo rfl (sNo rfl (sRun (xPkFB rfl rfl) (sNil ?_)))))))))
            exact ⟨⟨rfl, rfl, rfl, rfl, rfl, (congrArg Value.bool (by rw [← hE29]; first | (simp [h30]; done) | (simp only [decide_eq_false h30]; done) | grind)), trivial⟩, hL⟩
          ·clear hL
           subst hE29
           rintro f w ⟨hf, hL⟩
           obtain ⟨g, rfl⟩ := has_updL _ _ hf
           clear hf
           by_cases h32 : ((decide (((mget a0_constant s13_0).getD (0 : Int)) = (0 : Int))) && ((decide (a1.Kind = (6 : Int))) || (decide (a1.Kind = (7 : Int))))) = true
           ·try rw [h32]
            rw [if_pos h32] at hM
            have h33 : ((mget a0_constant s13_0).getD (0 : Int)) = (0 : Int) := Decidable.byContradiction fun hq => by rw [decide_eq_false hq] at h32; simp at h32
            refine wIfT rfl (wSeq (wReg (sRun (xLoadS [.int .i64 a1.Kind, .int .i64 a1.Dst, .int .i64 s8_0, .int .i64 s13_0, .int .i64 a1.N, .int .i64 a1.Ctx, .int .i64 a1.Var, .int .i64 a1.Piece, .int .i64 a1.Src.Kind, .int .i64 a1.Src.Val, .int .i64 a1.Src.Add] Try.underlying66 rfl ti66 rfl rfl ((hL.bk 1 rfl).part rfl)) (sStS ti66 rfl rfl rfl (by simp [Value.oneCell', Dat.cells, GOp.cells]) (hL.bk 0 rfl) rfl ?_))))
            intro w34 hB34 hC34
            replace hL : Bx w0 w34 (.box b3 66 #[.int .i64 a1.Kind, .int .i64 a1.Dst, .int .i64 s8_0, .int .i64 s13_0, .int .i64 a1.N, .int .i64 a1.Ctx, .int .i64 a1.Var, .int .i64 a1.Piece, .int .i64 a1.Src.Kind, .int .i64 a1.Src.Val, .int .i64 a1.Src.Add] :: .box b2 66 #[.int .i64 a1.Kind, .int .i64 a1.Dst, .int .i64 s8_0, .int .i64 s13_0, .int .i64 a1.N, .int .i64 a1.Ctx, .int .i64 a1.Var, .int .i64 a1.Piece, .int .i64 a1.Src.Kind, .int .i64 a1.Src.Val, .int .i64 a1.Src.Add] :: .box b1 81 #[.map (some a0_constantb), .map (some a0_sameb)] :: .map ekI evI a0_constantb a0_constant :: .map ekI evI a0_sameb a0_same :: L0) := hL.wr 0 rfl hC34 hB34
            refine sNil (wRet ?_)
            subst hM
            refine resC (P := Try.prog) (fn := Try.f40) rfl Try.underlying66 rfl ti66 rfl rfl (hL.bk 0 rfl) ?_
            exact ⟨rfl, hL.tl.tl.tl⟩
           ·have h32n : ((decide (((mget a0_constant s13_0).getD (0 : Int)) = (0 : Int))) && ((decide (a1.Kind = (6 : Int))) || (decide (a1.Kind = (7 : Int))))) = false := Bool.eq_false_iff.2 h32
            try rw [h32n]
            rw [if_neg h32] at hM
            refine wIfF rfl (wSkip (wSeq (wReg (sRun (xFld0 Try.underlying66 rfl rfl ti3 (by decide) rfl) (sRun (xLoad Try.underlying3 rfl rfl ((hL.bk 1 rfl).cell (i := 0) rfl)) (sRun (xSubW rfl rfl) (sRun (xMvI rfl) (sRun (xMvI rfl) (sCall (eCall cal82 rfl) (sp_m_r05_Binary _ (wr (a1.Kind - (3 : Int))) ((mget a0_constant s8_0).getD (0 : Int)) ((mget a0_constant s13_0).getD (0 : Int))) ?_)))))))))
            rintro _ w35 ⟨rfl, he35⟩
            replace hL := hL.ext he35
            refine sRun (xAsI rfl) (sNil (wSeq (wReg (sRun (xFld0 Try.underlying81 rfl rfl ti79 (by decide) rfl) (sRun (xLoad Try.underlying79 rfl rfl ((hL.bk 2 rfl).cell (i := 0) rfl)) (sRun (xFld (k := 1) Try.underlying66 rfl rfl ti3 (by decide) rfl) (sRun (xLoad Try.underlying3 rfl rfl ((hL.bk 1 rfl).cell (i := 1) rfl)) (sRun (xMvI rfl) (sUpd (ek := ekI) (ev' := evI) (l := a0_constant) (k := a1.Dst) (u := (m_r05_Binary (wr (a1.Kind - (3 : Int))) ((mget a0_constant s8_0).getD (0 : Int)) ((mget a0_constant s13_0).getD (0 : Int)))) Try.underlying79 (fk_int Try.underlying3) (hL.mp 3 rfl) rfl rfl rfl ?_)))))))))
            intro w36 hB36 hC36
            replace hL : Bx w0 w36 (.box b3 66 #[.int .i64 (0 : Int), .int .i64 (0 : Int), .int .i64 (0 : Int), .int .i64 (0 : Int), .int .i64 (0 : Int), .int .i64 (0 : Int), .int .i64 (0 : Int), .int .i64 (0 : Int), .int .i64 (0 : Int), .int .i64 (0 : Int), .int .i64 (0 : Int)] :: .box b2 66 #[.int .i64 a1.Kind, .int .i64 a1.Dst, .int .i64 s8_0, .int .i64 s13_0, .int .i64 a1.N, .int .i64 a1.Ctx, .int .i64 a1.Var, .int .i64 a1.Piece, .int .i64 a1.Src.Kind, .int .i64 a1.Src.Val, .int .i64 a1.Src.Add] :: .box b1 81 #[.map (some a0_constantb), .map (some a0_sameb)] :: .map ekI evI a0_constantb (mput a0_constant a1.Dst (m_r05_Binary (wr (a1.Kind - (3 : Int))) ((mget a0_constant s8_0).getD (0 : Int)) ((mget a0_constant s13_0).getD (0 : Int)))) :: .map ekI evI a0_sameb a0_same :: L0) := hL.upd 3 rfl hC36 hB36
            refine sNil (wSeq (wReg (sRun (xFld (k := 1) Try.underlying66 rfl rfl ti3 (by decide) rfl) (sRun (xLoad Try.underlying3 rfl rfl ((hL.bk 1 rfl).cell (i := 1) rfl)) (sRun (xMvI rfl) (sRun (bd40_122 rfl rfl rfl) (sStS ti66 rfl rfl rfl (by simp [Value.oneCell', Dat.cells, GOp.cells]) (hL.bk 0 rfl) rfl ?_)))))))
            intro w37 hB37 hC37
            replace hL : Bx w0 w37 (.box b3 66 #[.int .i64 (1 : Int), .int .i64 a1.Dst, .int .i64 (0 : Int), .int .i64 (0 : Int), .int .i64 (m_r05_Binary (wr (a1.Kind - (3 : Int))) ((mget a0_constant s8_0).getD (0 : Int)) ((mget a0_constant s13_0).getD (0 : Int))), .int .i64 (0 : Int), .int .i64 (0 : Int), .int .i64 (0 : Int), .int .i64 (0 : Int), .int .i64 (0 : Int), .int .i64 (0 : Int)] :: .box b2 66 #[.int .i64 a1.Kind, .int .i64 a1.Dst, .int .i64 s8_0, .int .i64 s13_0, .int .i64 a1.N, .int .i64 a1.Ctx, .int .i64 a1.Var, .int .i64 a1.Piece, .int .i64 a1.Src.Kind, .int .i64 a1.Src.Val, .int .i64 a1.Src.Add] :: .box b1 81 #[.map (some a0_constantb), .map (some a0_sameb)] :: .map ekI evI a0_constantb (mput a0_constant a1.Dst (m_r05_Binary (wr (a1.Kind - (3 : Int))) ((mget a0_constant s8_0).getD (0 : Int)) ((mget a0_constant s13_0).getD (0 : Int)))) :: .map ekI evI a0_sameb a0_same :: L0) := hL.wr 0 rfl hC37 hB37
            refine sNil (wRet ?_)
            subst hM
            refine resC (P := Try.prog) (fn := Try.f40) rfl Try.underlying66 rfl ti66 rfl rfl (hL.bk 0 rfl) ?_
            exact ⟨rfl, hL.tl.tl.tl⟩
         ·have h28n : ((mget a0_constant s13_0).isSome) = false := Bool.eq_false_iff.2 h28
          try rw [h28n]
          rw [if_neg h28] at hM
          refine wIfF rfl (wSkip (wSeq (wReg (sRun (xLoadS [.map (some a0_constantb), .map (some a0_sameb)] Try.underlying81 rfl ti81 rfl rfl ((hL.bk 2 rfl).part rfl)) (sRun (xLoadS [.int .i64 a1.Kind, .int .i64 a1.Dst, .int .i64 s8_0, .int .i64 s13_0, .int .i64 a1.N, .int .i64 a1.Ctx, .int .i64 a1.Var, .int .i64 a1.Piece, .int .i64 a1.Src.Kind, .int .i64 a1.Src.Val, .int .i64 a1.Src.Add] Try.underlying66 rfl ti66 rfl rfl ((hL.bk 1 rfl).part rfl)) (sCall (eCall cal83 rfl) (sp_m_r08_facts_copies _ a0_constantb a0_constant (hL.mp 3 rfl) a0_sameb a0_same (hL.mp 4 rfl) (⟨a1.Kind, a1.Dst, s8_0, s13_0, a1.N, a1.Ctx, a1.Var, a1.Piece, a1.Src⟩ : GOp)) ?_))))))
          rintro _ w38 ⟨rfl, he38⟩
          replace hL := hL.ext he38
          refine sRun (xAsI rfl) (sNil (wSeq (wSeq (wReg (sRun (xMvI rfl) (sRun (xGeq rfl rfl) (sNil ?_)))))))
          by_cases h39 : (0 : Int) ≤ (m_r08_facts_copies a0_constant a0_same (⟨a1.Kind, a1.Dst, s8_0, s13_0, a1.N, a1.Ctx, a1.Var, a1.Piece, a1.Src⟩ : GOp))
          ·try rw [decide_eq_true h39]
           rw [if_pos h39] at hM
           refine wIfT rfl (wSeq (wReg (sRun (xFld (k := 1) Try.underlying81 rfl rfl ti79 (by decide) rfl) (sRun (xLoad Try.underlying79 rfl rfl ((hL.bk 2 rfl).cell (i := 1) rfl)) (sRun (xFld (k := 1) Try.underlying66 rfl rfl ti3 (by decide) rfl) (sRun (xLoad Try.underlying3 rfl rfl ((hL.bk 1 rfl).cell (i := 1) rfl)) (sRun (xMvI rfl) (sUpd (ek := ekI) (ev' := evI) (l := a0_same) (k := a1.Dst) (u := (m_r08_facts_copies a0_constant a0_same (⟨a1.Kind, a1.Dst, s8_0, s13_0, a1.N, a1.Ctx, a1.Var, a1.Piece, a1.Src⟩ : GOp))) Try.underlying79 (fk_int Try.underlying3) (hL.mp 4 rfl) rfl rfl rfl ?_))))))))
           intro w40 hB40 hC40
           replace hL : Bx w0 w40 (.box b3 66 #[.int .i64 (0 : Int), .int .i64 (0 : Int), .int .i64 (0 : Int), .int .i64 (0 : Int), .int .i64 (0 : Int), .int .i64 (0 : Int), .int .i64 (0 : Int), .int .i64 (0 : Int), .int .i64 (0 : Int), .int .i64 (0 : Int), .int .i64 (0 : Int)] :: .box b2 66 #[.int .i64 a1.Kind, .int .i64 a1.Dst, .int .i64 s8_0, .int .i64 s13_0, .int .i64 a1.N, .int .i64 a1.Ctx, .int .i64 a1.Var, .int .i64 a1.Piece, .int .i64 a1.Src.Kind, .int .i64 a1.Src.Val, .int .i64 a1.Src.Add] :: .box b1 81 #[.map (some a0_constantb), .map (some a0_sameb)] :: .map ekI evI a0_constantb a0_constant :: .map ekI evI a0_sameb (mput a0_same a1.Dst (m_r08_facts_copies a0_constant a0_same (⟨a1.Kind, a1.Dst, s8_0, s13_0, a1.N, a1.Ctx, a1.Var, a1.Piece, a1.Src⟩ : GOp))) :: L0) := hL.upd 4 rfl hC40 hB40
           refine sNil (wSeq (wReg (sRun (xFld (k := 1) Try.underlying66 rfl rfl ti3 (by decide) rfl) (sRun (xLoad Try.underlying3 rfl rfl ((hL.bk 1 rfl).cell (i := 1) rfl)) (sRun (xMvI rfl) (sRun (bd40_136 rfl rfl rfl) (sStS ti66 rfl rfl rfl (by simp [Value.oneCell', Dat.cells, GOp.cells]) (hL.bk 0 rfl) rfl ?_)))))))
           intro w41 hB41 hC41
           replace hL : Bx w0 w41 (.box b3 66 #[.int .i64 (2 : Int), .int .i64 a1.Dst, .int .i64 (m_r08_facts_copies a0_constant a0_same (⟨a1.Kind, a1.Dst, s8_0, s13_0, a1.N, a1.Ctx, a1.Var, a1.Piece, a1.Src⟩ : GOp)), .int .i64 (0 : Int), .int .i64 (0 : Int), .int .i64 (0 : Int), .int .i64 (0 : Int), .int .i64 (0 : Int), .int .i64 (0 : Int), .int .i64 (0 : Int), .int .i64 (0 : Int)] :: .box b2 66 #[.int .i64 a1.Kind, .int .i64 a1.Dst, .int .i64 s8_0, .int .i64 s13_0, .int .i64 a1.N, .int .i64 a1.Ctx, .int .i64 a1.Var, .int .i64 a1.Piece, .int .i64 a1.Src.Kind, .int .i64 a1.Src.Val, .int .i64 a1.Src.Add] :: .box b1 81 #[.map (some a0_constantb), .map (some a0_sameb)] :: .map ekI evI a0_constantb a0_constant :: .map ekI evI a0_sameb (mput a0_same a1.Dst (m_r08_facts_copies a0_constant a0_same (⟨a1.Kind, a1.Dst, s8_0, s13_0, a1.N, a1.Ctx, a1.Var, a1.Piece, a1.Src⟩ : GOp))) :: L0) := hL.wr 0 rfl hC41 hB41
           refine sNil (wRet ?_)
           subst hM
           refine resC (P := Try.prog) (fn := Try.f40) rfl Try.underlying66 rfl ti66 rfl rfl (hL.bk 0 rfl) ?_
           exact ⟨rfl, hL.tl.tl.tl⟩
          ·try rw [decide_eq_false h39]
           rw [if_neg h39] at hM
           refine wIfF rfl (wSkip (wSeq (wSeq ?_)))
           obtain ⟨E42, hE42⟩ : ∃ E, (((decide (a1.Kind = (5 : Int))) || (decide (a1.Kind = (8 : Int)))) && ((m_r08_facts_is a0_constant a0_same s8_0 (0 : Int)) || (m_r08_facts_is a0_constant a0_same s13_0 (0 : Int)))) = E := ⟨_, rfl⟩
           refine wJ (fun f w => Has f [(2, .pointer (some ⟨b1, 0, none⟩)), (3, .pointer (some ⟨b2, 0, none⟩)), (4, .pointer (some ⟨b3, 0, none⟩)), (156, .bool E42)] ∧ Bx w0 w (.box b3 66 #[.int .i64 (0 : Int), .int .i64 (0 : Int), .int .i64 (0 : Int), .int .i64 (0 : Int), .int .i64 (0 : Int), .int .i64 (0 : Int), .int .i64 (0 : Int), .int .i64 (0 : Int), .int .i64 (0 : Int), .int .i64 (0 : Int), .int .i64 (0 : Int)] :: .box b2 66 #[.int .i64 a1.Kind, .int .i64 a1.Dst, .int .i64 s8_0, .int .i64 s13_0, .int .i64 a1.N, .int .i64 a1.Ctx, .int .i64 a1.Var, .int .i64 a1.Piece, .int .i64 a1.Src.Kind, .int .i64 a1.Src.Val, .int .i64 a1.Src.Add] :: .box b1 81 #[.map (some a0_constantb), .map (some a0_sameb)] :: .map ekI evI a0_constantb a0_constant :: .map ekI evI a0_sameb a0_same :: L0)) ?_ ?_
           ·refine wReg (sRun (xFld0 Try.underlying66 rfl rfl ti3 (by decide) rfl) (sRun (xLoad Try.underlying3 rfl rfl ((hL.bk 1 rfl).cell (i := 0) rfl)) (sRun (xEqlD rfl rfl) (sRun (xMvB rfl) ?_))))
            by_cases h43 : a1.Kind = (5 : Int)
            ·try rw [decide_eq_true h43]
             refine sNo rfl (sNo rfl (sNo rfl (sRun (xPkTB rfl rfl) (sRun (xMvB rfl) (sGo rfl (sRun (xLoadS [.map (some a0_constantb), .map (some a0_sameb)] Try.underlying81 rfl ti81 rfl rfl ((hL.bk 2 rfl).part rfl)) (sGo rfl (sRun (xFld (k := 2) Try.underlying66 rfl rfl ti3 (by decide) rfl) (sGo rfl (sRun (xLoad Try.underlying3 rfl rfl ((hL.bk 1 rfl).cell (i := 2) rfl)) (sGo rfl (sCall (eCall cal84 rfl) (sp_m_r08_facts_is _ a0_constantb a0_constant (hL.mp 3 rfl) a0_sameb a0_same (hL.mp 4 rfl) s8_0 (0 : Int)) ?_))))))))))))
             rintro _ w44 ⟨rfl, he44⟩
             replace hL := hL.ext he44
             refine sGo rfl (sRun (xMvB rfl) ?_)
             by_cases h45 : (m_r08_facts_is a0_constant a0_same s8_0 (0 : Int)) = true
             ·try rw [h45]
              refine sNo rfl (sNo rfl (sNo rfl (sNo rfl (sGo rfl (sRun (xPkTB rfl rfl) (sRun (xPkTB rfl rfl) (sNil ?_)))))))
              exact ⟨⟨rfl, rfl, rfl, (congrArg Value.bool (by rw [← hE42]; first | (simp [h43, h45]; done) | (simp only [decide_eq_true h43, h45]; done) | grind)), trivial⟩, hL⟩
             ·have h45n : (m_r08_facts_is a0_constant a0_same s8_0 (0 : Int)) = false := Bool.eq_false_iff.2 h45
              try rw [h45n]
              refine sGo rfl (sRun (xLoadS [.map (some a0_constantb), .map (some a0_sameb)] Try.underlying81 rfl ti81 rfl rfl ((hL.bk 2 rfl).part rfl)) (sGo rfl (sRun (xFld (k := 3) Try.underlying66 rfl rfl ti3 (by decide) rfl) (sGo rfl (sRun (xLoad Try.underlying3 rfl rfl ((hL.bk 1 rfl).cell (i := 3) rfl)) (sGo rfl (sCall (eCall cal84 rfl) (sp_m_r08_facts_is _ a0_constantb a0_constant (hL.mp 3 rfl) a0_sameb a0_same (hL.mp 4 rfl) s13_0 (0 : Int)) ?_)))))))
              rintro _ w46 ⟨rfl, he46⟩
              replace hL := hL.ext he46
              refine sGo rfl (sRun (xPkFB rfl rfl) (sRun (xPkTB rfl rfl) (sNil ?_)))
              exact ⟨⟨rfl, rfl, rfl, (congrArg Value.bool (by rw [← hE42]; first | (simp [h43, h45n]; done) | (simp only [decide_eq_true h43, h45n]; done) | grind)), trivial⟩, hL⟩
            ·try rw [decide_eq_false h43]
             refine sGo rfl (sRun (xFld0 Try.underlying66 rfl rfl ti3 (by decide) rfl) (sGo rfl (sRun (xLoad Try.underlying3 rfl rfl ((hL.bk 1 rfl).cell (i := 0) rfl)) (sGo rfl (sRun (xEqlD rfl rfl) (sRun (xPkFB rfl rfl) (sRun (xMvB rfl) ?_)))))))
             by_cases h47 : a1.Kind = (8 : Int)
             ·try rw [decide_eq_true h47]
              refine sGo rfl (sRun (xLoadS [.map (some a0_constantb), .map (some a0_sameb)] Try.underlying81 rfl ti81 rfl rfl ((hL.bk 2 rfl).part rfl)) (sGo rfl (sRun (xFld (k := 2) Try.underlying66 rfl rfl ti3 (by decide) rfl) (sGo rfl (sRun (xLoad Try.underlying3 rfl rfl ((hL.bk 1 rfl).cell (i := 2) rfl)) (sGo rfl (sCall (eCall cal84 rfl) (sp_m_r08_facts_is _ a0_constantb a0_constant (hL.mp 3 rfl) a0_sameb a0_same (hL.mp 4 rfl) s8_0 (0 : Int)) ?_)))))))
              rintro _ w48 ⟨rfl, he48⟩
              replace hL := hL.ext he48
              refine sGo rfl (sRun (xMvB rfl) ?_)
              by_cases h49 : (m_r08_facts_is a0_constant a0_same s8_0 (0 : Int)) = true
              ·try rw [h49]
               refine sNo rfl (sNo rfl (sNo rfl (sNo rfl (sGo rfl (sRun (xPkTB rfl rfl) (sRun (xPkTB rfl rfl) (sNil ?_)))))))
               exact ⟨⟨rfl, rfl, rfl, (congrArg Value.bool (by rw [← hE42]; first | (simp [h43, h47, h49]; done) | (simp only [decide_eq_false h43, decide_eq_true h47, h49]; done) | grind)), trivial⟩, hL⟩
              ·have h49n : (m_r08_facts_is a0_constant a0_same s8_0 (0 : Int)) = false := Bool.eq_false_iff.2 h49
               try rw [h49n]
               refine sGo rfl (sRun (xLoadS [.map (some a0_constantb), .map (some a0_sameb)] Try.underlying81 rfl ti81 rfl rfl ((hL.bk 2 rfl).part rfl)) (sGo rfl (sRun (xFld (k := 3) Try.underlying66 rfl rfl ti3 (by decide) rfl) (sGo rfl (sRun (xLoad Try.underlying3 rfl rfl ((hL.bk 1 rfl).cell (i := 3) rfl)) (sGo rfl (sCall (eCall cal84 rfl) (sp_m_r08_facts_is _ a0_constantb a0_constant (hL.mp 3 rfl) a0_sameb a0_same (hL.mp 4 rfl) s13_0 (0 : Int)) ?_)))))))
               rintro _ w50 ⟨rfl, he50⟩
               replace hL := hL.ext he50
               refine sGo rfl (sRun (xPkFB rfl rfl) (sRun (xPkTB rfl rfl) (sNil ?_)))
               exact ⟨⟨rfl, rfl, rfl, (congrArg Value.bool (by rw [← hE42]; first | (simp [h43, h47, h49n]; done) | (simp only [decide_eq_false h43, decide_eq_true h47, h49n]; done) | grind)), trivial⟩, hL⟩
             ·try rw [decide_eq_false h47]
              refine sNo rfl (sNo rfl (sNo rfl (sNo rfl (sNo rfl (sNo rfl (sNo rfl (sNo rfl (sNo rfl (sNo rfl (sRun (xPkFB rfl rfl) (sNil ?_)))))))))))
              exact ⟨⟨rfl, rfl, rfl, (congrArg Value.bool (by rw [← hE42]; first | (simp [h43, h47]; done) | (simp only [decide_eq_false h43, decide_eq_false h47]; done) | grind)), trivial⟩, hL⟩
           ·clear hL
            subst hE42
            rintro f w ⟨hf, hL⟩
            obtain ⟨g, rfl⟩ := has_updL _ _ hf
            clear hf
            by_cases h51 : (((decide (a1.Kind = (5 : Int))) || (decide (a1.Kind = (8 : Int)))) && ((m_r08_facts_is a0_constant a0_same s8_0 (0 : Int)) || (m_r08_facts_is a0_constant a0_same s13_0 (0 : Int)))) = true
            ·try rw [h51]
             rw [if_pos h51] at hM
             refine wIfT rfl (wSeq (wReg (sRun (xFld0 Try.underlying81 rfl rfl ti79 (by decide) rfl) (sRun (xLoad Try.underlying79 rfl rfl ((hL.bk 2 rfl).cell (i := 0) rfl)) (sRun (xFld (k := 1) Try.underlying66 rfl rfl ti3 (by decide) rfl) (sRun (xLoad Try.underlying3 rfl rfl ((hL.bk 1 rfl).cell (i := 1) rfl)) (sUpd (ek := ekI) (ev' := evI) (l := a0_constant) (k := a1.Dst) (u := (0 : Int)) Try.underlying79 (fk_int Try.underlying3) (hL.mp 3 rfl) rfl rfl rfl ?_)))))))
             intro w52 hB52 hC52
             replace hL : Bx w0 w52 (.box b3 66 #[.int .i64 (0 : Int), .int .i64 (0 : Int), .int .i64 (0 : Int), .int .i64 (0 : Int), .int .i64 (0 : Int), .int .i64 (0 : Int), .int .i64 (0 : Int), .int .i64 (0 : Int), .int .i64 (0 : Int), .int .i64 (0 : Int), .int .i64 (0 : Int)] :: .box b2 66 #[.int .i64 a1.Kind, .int .i64 a1.Dst, .int .i64 s8_0, .int .i64 s13_0, .int .i64 a1.N, .int .i64 a1.Ctx, .int .i64 a1.Var, .int .i64 a1.Piece, .int .i64 a1.Src.Kind, .int .i64 a1.Src.Val, .int .i64 a1.Src.Add] :: .box b1 81 #[.map (some a0_constantb), .map (some a0_sameb)] :: .map ekI evI a0_constantb (mput a0_constant a1.Dst (0 : Int)) :: .map ekI evI a0_sameb a0_same :: L0) := hL.upd 3 rfl hC52 hB52
             refine sNil (wSeq (wReg (sRun (xFld (k := 1) Try.underlying66 rfl rfl ti3 (by decide) rfl) (sRun (xLoad Try.underlying3 rfl rfl ((hL.bk 1 rfl).cell (i := 1) rfl)) (sRun (bd40_163 rfl rfl) (sStS ti66 rfl rfl rfl (by simp [Value.oneCell', Dat.cells, GOp.cells]) (hL.bk 0 rfl) rfl ?_))))))
             intro w53 hB53 hC53
             replace hL : Bx w0 w53 (.box b3 66 #[.int .i64 (1 : Int), .int .i64 a1.Dst, .int .i64 (0 : Int), .int .i64 (0 : Int), .int .i64 (0 : Int), .int .i64 (0 : Int), .int .i64 (0 : Int), .int .i64 (0 : Int), .int .i64 (0 : Int), .int .i64 (0 : Int), .int .i64 (0 : Int)] :: .box b2 66 #[.int .i64 a1.Kind, .int .i64 a1.Dst, .int .i64 s8_0, .int .i64 s13_0, .int .i64 a1.N, .int .i64 a1.Ctx, .int .i64 a1.Var, .int .i64 a1.Piece, .int .i64 a1.Src.Kind, .int .i64 a1.Src.Val, .int .i64 a1.Src.Add] :: .box b1 81 #[.map (some a0_constantb), .map (some a0_sameb)] :: .map ekI evI a0_constantb (mput a0_constant a1.Dst (0 : Int)) :: .map ekI evI a0_sameb a0_same :: L0) := hL.wr 0 rfl hC53 hB53
             refine sNil (wRet ?_)
             subst hM
             refine resC (P := Try.prog) (fn := Try.f40) rfl Try.underlying66 rfl ti66 rfl rfl (hL.bk 0 rfl) ?_
             exact ⟨rfl, hL.tl.tl.tl⟩
            ·have h51n : (((decide (a1.Kind = (5 : Int))) || (decide (a1.Kind = (8 : Int)))) && ((m_r08_facts_is a0_constant a0_same s8_0 (0 : Int)) || (m_r08_facts_is a0_constant a0_same s13_0 (0 : Int)))) = false := Bool.eq_false_iff.2 h51
             try rw [h51n]
             rw [if_neg h51] at hM
             refine wIfF rfl (wSkip (wSeq (wReg (sRun (xLoadS [.int .i64 a1.Kind, .int .i64 a1.Dst, .int .i64 s8_0, .int .i64 s13_0, .int .i64 a1.N, .int .i64 a1.Ctx, .int .i64 a1.Var, .int .i64 a1.Piece, .int .i64 a1.Src.Kind, .int .i64 a1.Src.Val, .int .i64 a1.Src.Add] Try.underlying66 rfl ti66 rfl rfl ((hL.bk 1 rfl).part rfl)) (sStS ti66 rfl rfl rfl (by simp [Value.oneCell', Dat.cells, GOp.cells]) (hL.bk 0 rfl) rfl ?_)))))
             intro w54 hB54 hC54
             replace hL : Bx w0 w54 (.box b3 66 #[.int .i64 a1.Kind, .int .i64 a1.Dst, .int .i64 s8_0, .int .i64 s13_0, .int .i64 a1.N, .int .i64 a1.Ctx, .int .i64 a1.Var, .int .i64 a1.Piece, .int .i64 a1.Src.Kind, .int .i64 a1.Src.Val, .int .i64 a1.Src.Add] :: .box b2 66 #[.int .i64 a1.Kind, .int .i64 a1.Dst, .int .i64 s8_0, .int .i64 s13_0, .int .i64 a1.N, .int .i64 a1.Ctx, .int .i64 a1.Var, .int .i64 a1.Piece, .int .i64 a1.Src.Kind, .int .i64 a1.Src.Val, .int .i64 a1.Src.Add] :: .box b1 81 #[.map (some a0_constantb), .map (some a0_sameb)] :: .map ekI evI a0_constantb a0_constant :: .map ekI evI a0_sameb a0_same :: L0) := hL.wr 0 rfl hC54 hB54
             refine sNil (wRet ?_)
             subst hM
             refine resC (P := Try.prog) (fn := Try.f40) rfl Try.underlying66 rfl ti66 rfl rfl (hL.bk 0 rfl) ?_
             exact ⟨rfl, hL.tl.tl.tl⟩
        ·have h27n : ((mget a0_constant s8_0).isSome) = false := Bool.eq_false_iff.2 h27
         try rw [h27n]
         rw [if_neg h27] at hM
         refine sNo rfl (sRun (xPkFB rfl rfl) (sRun (xAsB rfl) (sNil (wIfF rfl (wSkip (wSeq (wReg (sRun (xLoadS [.map (some a0_constantb), .map (some a0_sameb)] Try.underlying81 rfl ti81 rfl rfl ((hL.bk 2 rfl).part rfl)) (sRun (xLoadS [.int .i64 a1.Kind, .int .i64 a1.Dst, .int .i64 s8_0, .int .i64 s13_0, .int .i64 a1.N, .int .i64 a1.Ctx, .int .i64 a1.Var, .int .i64 a1.Piece, .int .i64 a1.Src.Kind, .int .i64 a1.Src.Val, .int .i64 a1.Src.Add] Try.underlying66 rfl ti66 rfl rfl ((hL.bk 1 rfl).part rfl)) (sCall (eCall cal83 rfl) (sp_m_r08_facts_copies _ a0_constantb a0_constant (hL.mp 3 rfl) a0_sameb a0_same (hL.mp 4 rfl) (⟨a1.Kind, a1.Dst, s8_0, s13_0, a1.N, a1.Ctx, a1.Var, a1.Piece, a1.Src⟩ : GOp)) ?_))))))))))
         rintro _ w55 ⟨rfl, he55⟩
         replace hL := hL.ext he55
         refine sRun (xAsI rfl) (sNil (wSeq (wSeq (wReg (sRun (xMvI rfl) (sRun (xGeq rfl rfl) (sNil ?_)))))))
         by_cases h56 : (0 : Int) ≤ (m_r08_facts_copies a0_constant a0_same (⟨a1.Kind, a1.Dst, s8_0, s13_0, a1.N, a1.Ctx, a1.Var, a1.Piece, a1.Src⟩ : GOp))
         ·try rw [decide_eq_true h56]
          rw [if_pos h56] at hM
          refine wIfT rfl (wSeq (wReg (sRun (xFld (k := 1) Try.underlying81 rfl rfl ti79 (by decide) rfl) (sRun (xLoad Try.underlying79 rfl rfl ((hL.bk 2 rfl).cell (i := 1) rfl)) (sRun (xFld (k := 1) Try.underlying66 rfl rfl ti3 (by decide) rfl) (sRun (xLoad Try.underlying3 rfl rfl ((hL.bk 1 rfl).cell (i := 1) rfl)) (sRun (xMvI rfl) (sUpd (ek := ekI) (ev' := evI) (l := a0_same) (k := a1.Dst) (u := (m_r08_facts_copies a0_constant a0_same (⟨a1.Kind, a1.Dst, s8_0, s13_0, a1.N, a1.Ctx, a1.Var, a1.Piece, a1.Src⟩ : GOp))) Try.underlying79 (fk_int Try.underlying3) (hL.mp 4 rfl) rfl rfl rfl ?_))))))))
          intro w57 hB57 hC57
          replace hL : Bx w0 w57 (.box b3 66 #[.int .i64 (0 : Int), .int .i64 (0 : Int), .int .i64 (0 : Int), .int .i64 (0 : Int), .int .i64 (0 : Int), .int .i64 (0 : Int), .int .i64 (0 : Int), .int .i64 (0 : Int), .int .i64 (0 : Int), .int .i64 (0 : Int), .int .i64 (0 : Int)] :: .box b2 66 #[.int .i64 a1.Kind, .int .i64 a1.Dst, .int .i64 s8_0, .int .i64 s13_0, .int .i64 a1.N, .int .i64 a1.Ctx, .int .i64 a1.Var, .int .i64 a1.Piece, .int .i64 a1.Src.Kind, .int .i64 a1.Src.Val, .int .i64 a1.Src.Add] :: .box b1 81 #[.map (some a0_constantb), .map (some a0_sameb)] :: .map ekI evI a0_constantb a0_constant :: .map ekI evI a0_sameb (mput a0_same a1.Dst (m_r08_facts_copies a0_constant a0_same (⟨a1.Kind, a1.Dst, s8_0, s13_0, a1.N, a1.Ctx, a1.Var, a1.Piece, a1.Src⟩ : GOp))) :: L0) := hL.upd 4 rfl hC57 hB57
          refine sNil (wSeq (wReg (sRun (xFld (k := 1) Try.underlying66 rfl rfl ti3 (by decide) rfl) (sRun (xLoad Try.underlying3 rfl rfl ((hL.bk 1 rfl).cell (i := 1) rfl)) (sRun (xMvI rfl) (sRun (bd40_136 rfl rfl rfl) (sStS ti66 rfl rfl rfl (by simp [Value.oneCell', Dat.cells, GOp.cells]) (hL.bk 0 rfl) rfl ?_)))))))
          intro w58 hB58 hC58
          replace hL : Bx w0 w58 (.box b3 66 #[.int .i64 (2 : Int), .int .i64 a1.Dst, .int .i64 (m_r08_facts_copies a0_constant a0_same (⟨a1.Kind, a1.Dst, s8_0, s13_0, a1.N, a1.Ctx, a1.Var, a1.Piece, a1.Src⟩ : GOp)), .int .i64 (0 : Int), .int .i64 (0 : Int), .int .i64 (0 : Int), .int .i64 (0 : Int), .int .i64 (0 : Int), .int .i64 (0 : Int), .int .i64 (0 : Int), .int .i64 (0 : Int)] :: .box b2 66 #[.int .i64 a1.Kind, .int .i64 a1.Dst, .int .i64 s8_0, .int .i64 s13_0, .int .i64 a1.N, .int .i64 a1.Ctx, .int .i64 a1.Var, .int .i64 a1.Piece, .int .i64 a1.Src.Kind, .int .i64 a1.Src.Val, .int .i64 a1.Src.Add] :: .box b1 81 #[.map (some a0_constantb), .map (some a0_sameb)] :: .map ekI evI a0_constantb a0_constant :: .map ekI evI a0_sameb (mput a0_same a1.Dst (m_r08_facts_copies a0_constant a0_same (⟨a1.Kind, a1.Dst, s8_0, s13_0, a1.N, a1.Ctx, a1.Var, a1.Piece, a1.Src⟩ : GOp))) :: L0) := hL.wr 0 rfl hC58 hB58
          refine sNil (wRet ?_)
          subst hM
          refine resC (P := Try.prog) (fn := Try.f40) rfl Try.underlying66 rfl ti66 rfl rfl (hL.bk 0 rfl) ?_
          exact ⟨rfl, hL.tl.tl.tl⟩
         ·try rw [decide_eq_false h56]
          rw [if_neg h56] at hM
          refine wIfF rfl (wSkip (wSeq (wSeq ?_)))
          obtain ⟨E59, hE59⟩ : ∃ E, (((decide (a1.Kind = (5 : Int))) || (decide (a1.Kind = (8 : Int)))) && ((m_r08_facts_is a0_constant a0_same s8_0 (0 : Int)) || (m_r08_facts_is a0_constant a0_same s13_0 (0 : Int)))) = E := ⟨_, rfl⟩
          refine wJ (fun f w => Has f [(2, .pointer (some ⟨b1, 0, none⟩)), (3, .pointer (some ⟨b2, 0, none⟩)), (4, .pointer (some ⟨b3, 0, none⟩)), (156, .bool E59)] ∧ Bx w0 w (.box b3 66 #[.int .i64 (0 : Int), .int .i64 (0 : Int), .int .i64 (0 : Int), .int .i64 (0 : Int), .int .i64 (0 : Int), .int .i64 (0 : Int), .int .i64 (0 : Int), .int .i64 (0 : Int), .int .i64 (0 : Int), .int .i64 (0 : Int), .int .i64 (0 : Int)] :: .box b2 66 #[.int .i64 a1.Kind, .int .i64 a1.Dst, .int .i64 s8_0, .int .i64 s13_0, .int .i64 a1.N, .int .i64 a1.Ctx, .int .i64 a1.Var, .int .i64 a1.Piece, .int .i64 a1.Src.Kind, .int .i64 a1.Src.Val, .int .i64 a1.Src.Add] :: .box b1 81 #[.map (some a0_constantb), .map (some a0_sameb)] :: .map ekI evI a0_constantb a0_constant :: .map ekI evI a0_sameb a0_same :: L0)) ?_ ?_
          ·refine wReg (sRun (xFld0 Try.underlying66 rfl rfl ti3 (by decide) rfl) (sRun (xLoad Try.underlying3 rfl rfl ((hL.bk 1 rfl).cell (i := 0) rfl)) (sRun (xEqlD rfl rfl) (sRun (xMvB rfl) ?_))))
           by_cases h60 : a1.Kind = (5 : Int)
           ·try rw [decide_eq_true h60]
            refine sNo rfl (sNo rfl (sNo rfl (sRun (xPkTB rfl rfl) (sRun (xMvB rfl) (sGo rfl (sRun (xLoadS [.map (some a0_constantb), .map (some a0_sameb)] Try.underlying81 rfl ti81 rfl rfl ((hL.bk 2 rfl).part rfl)) (sGo rfl (sRun (xFld (k := 2) Try.underlying66 rfl rfl ti3 (by decide) rfl) (sGo rfl (sRun (xLoad Try.underlying3 rfl rfl ((hL.bk 1 rfl).cell (i := 2) rfl)) (sGo rfl (sCall (eCall cal84 rfl) (sp_m_r08_facts_is _ a0_constantb a0_constant (hL.mp 3 rfl) a0_sameb a0_same (hL.mp 4 rfl) s8_0 (0 : Int)) ?_))))))))))))
            rintro _ w61 ⟨rfl, he61⟩
            replace hL := hL.ext he61
            refine sGo rfl (sRun (xMvB rfl) ?_)
            by_cases h62 : (m_r08_facts_is a0_constant a0_same s8_0 (0 : Int)) = true
            ·try rw [h62]
             refine sNo rfl (sNo rfl (sNo rfl (sNo rfl (sGo rfl (sRun (xPkTB rfl rfl) (sRun (xPkTB rfl rfl) (sNil ?_)))))))
             exact ⟨⟨rfl, rfl, rfl, (congrArg Value.bool (by rw [← hE59]; first | (simp [h60, h62]; done) | (simp only [decide_eq_true h60, h62]; done) | grind)), trivial⟩, hL⟩
            ·have h62n : (m_r08_facts_is a0_constant a0_same s8_0 (0 : Int)) = false := Bool.eq_false_iff.2 h62
             try rw [h62n]
             refine sGo rfl (sRun (xLoadS [.map (some a0_constantb), .map (some a0_sameb)] Try.underlying81 rfl ti81 rfl rfl ((hL.bk 2 rfl).part rfl)) (sGo rfl (sRun (xFld (k := 3) Try.underlying66 rfl rfl ti3 (by decide) rfl) (sGo rfl (sRun (xLoad Try.underlying3 rfl rfl ((hL.bk 1 rfl).cell (i := 3) rfl)) (sGo rfl (sCall (eCall cal84 rfl) (sp_m_r08_facts_is _ a0_constantb a0_constant (hL.mp 3 rfl) a0_sameb a0_same (hL.mp 4 rfl) s13_0 (0 : Int)) ?_)))))))
             rintro _ w63 ⟨rfl, he63⟩
             replace hL := hL.ext he63
             refine sGo rfl (sRun (xPkFB rfl rfl) (sRun (xPkTB rfl rfl) (sNil ?_)))
             exact ⟨⟨rfl, rfl, rfl, (congrArg Value.bool (by rw [← hE59]; first | (simp [h60, h62n]; done) | (simp only [decide_eq_true h60, h62n]; done) | grind)), trivial⟩, hL⟩
           ·try rw [decide_eq_false h60]
            refine sGo rfl (sRun (xFld0 Try.underlying66 rfl rfl ti3 (by decide) rfl) (sGo rfl (sRun (xLoad Try.underlying3 rfl rfl ((hL.bk 1 rfl).cell (i := 0) rfl)) (sGo rfl (sRun (xEqlD rfl rfl) (sRun (xPkFB rfl rfl) (sRun (xMvB rfl) ?_)))))))
            by_cases h64 : a1.Kind = (8 : Int)
            ·try rw [decide_eq_true h64]
             refine sGo rfl (sRun (xLoadS [.map (some a0_constantb), .map (some a0_sameb)] Try.underlying81 rfl ti81 rfl rfl ((hL.bk 2 rfl).part rfl)) (sGo rfl (sRun (xFld (k := 2) Try.underlying66 rfl rfl ti3 (by decide) rfl) (sGo rfl (sRun (xLoad Try.underlying3 rfl rfl ((hL.bk 1 rfl).cell (i := 2) rfl)) (sGo rfl (sCall (eCall cal84 rfl) (sp_m_r08_facts_is _ a0_constantb a0_constant (hL.mp 3 rfl) a0_sameb a0_same (hL.mp 4 rfl) s8_0 (0 : Int)) ?_)))))))
             rintro _ w65 ⟨rfl, he65⟩
             replace hL := hL.ext he65
             refine sGo rfl (sRun (xMvB rfl) ?_)
             by_cases h66 : (m_r08_facts_is a0_constant a0_same s8_0 (0 : Int)) = true
             ·try rw [h66]
              refine sNo rfl (sNo rfl (sNo rfl (sNo rfl (sGo rfl (sRun (xPkTB rfl rfl) (sRun (xPkTB rfl rfl) (sNil ?_)))))))
              exact ⟨⟨rfl, rfl, rfl, (congrArg Value.bool (by rw [← hE59]; first | (simp [h60, h64, h66]; done) | (simp only [decide_eq_false h60, decide_eq_true h64, h66]; done) | grind)), trivial⟩, hL⟩
             ·have h66n : (m_r08_facts_is a0_constant a0_same s8_0 (0 : Int)) = false := Bool.eq_false_iff.2 h66
              try rw [h66n]
              refine sGo rfl (sRun (xLoadS [.map (some a0_constantb), .map (some a0_sameb)] Try.underlying81 rfl ti81 rfl rfl ((hL.bk 2 rfl).part rfl)) (sGo rfl (sRun (xFld (k := 3) Try.underlying66 rfl rfl ti3 (by decide) rfl) (sGo rfl (sRun (xLoad Try.underlying3 rfl rfl ((hL.bk 1 rfl).cell (i := 3) rfl)) (sGo rfl (sCall (eCall cal84 rfl) (sp_m_r08_facts_is _ a0_constantb a0_constant (hL.mp 3 rfl) a0_sameb a0_same (hL.mp 4 rfl) s13_0 (0 : Int)) ?_)))))))
              rintro _ w67 ⟨rfl, he67⟩
              replace hL := hL.ext he67
              refine sGo rfl (sRun (xPkFB rfl rfl) (sRun (xPkTB rfl rfl) (sNil ?_)))
              exact ⟨⟨rfl, rfl, rfl, (congrArg Value.bool (by rw [← hE59]; first | (simp [h60, h64, h66n]; done) | (simp only [decide_eq_false h60, decide_eq_true h64, h66n]; done) | grind)), trivial⟩, hL⟩
            ·try rw [decide_eq_false h64]
             refine sNo rfl (sNo rfl (sNo rfl (sNo rfl (sNo rfl (sNo rfl (sNo rfl (sNo rfl (sNo rfl (sNo rfl (sRun (xPkFB rfl rfl) (sNil ?_)))))))))))
             exact ⟨⟨rfl, rfl, rfl, (congrArg Value.bool (by rw [← hE59]; first | (simp [h60, h64]; done) | (simp only [decide_eq_false h60, decide_eq_false h64]; done) | grind)), trivial⟩, hL⟩
          ·clear hL
           subst hE59
           rintro f w ⟨hf, hL⟩
           obtain ⟨g, rfl⟩ := has_updL _ _ hf
           clear hf
           by_cases h68 : (((decide (a1.Kind = (5 : Int))) || (decide (a1.Kind = (8 : Int)))) && ((m_r08_facts_is a0_constant a0_same s8_0 (0 : Int)) || (m_r08_facts_is a0_constant a0_same s13_0 (0 : Int)))) = true
           ·try rw [h68]
            rw [if_pos h68] at hM
            refine wIfT rfl (wSeq (wReg (sRun (xFld0 Try.underlying81 rfl rfl ti79 (by decide) rfl) (sRun (xLoad Try.underlying79 rfl rfl ((hL.bk 2 rfl).cell (i := 0) rfl)) (sRun (xFld (k := 1) Try.underlying66 rfl rfl ti3 (by decide) rfl) (sRun (xLoad Try.underlying3 rfl rfl ((hL.bk 1 rfl).cell (i := 1) rfl)) (sUpd (ek := ekI) (ev' := evI) (l := a0_constant) (k := a1.Dst) (u := (0 : Int)) Try.underlying79 (fk_int Try.underlying3) (hL.mp 3 rfl) rfl rfl rfl ?_)))))))
            intro w69 hB69 hC69
            replace hL : Bx w0 w69 (.box b3 66 #[.int .i64 (0 : Int), .int .i64 (0 : Int), .int .i64 (0 : Int), .int .i64 (0 : Int), .int .i64 (0 : Int), .int .i64 (0 : Int), .int .i64 (0 : Int), .int .i64 (0 : Int), .int .i64 (0 : Int), .int .i64 (0 : Int), .int .i64 (0 : Int)] :: .box b2 66 #[.int .i64 a1.Kind, .int .i64 a1.Dst, .int .i64 s8_0, .int .i64 s13_0, .int .i64 a1.N, .int .i64 a1.Ctx, .int .i64 a1.Var, .int .i64 a1.Piece, .int .i64 a1.Src.Kind, .int .i64 a1.Src.Val, .int .i64 a1.Src.Add] :: .box b1 81 #[.map (some a0_constantb), .map (some a0_sameb)] :: .map ekI evI a0_constantb (mput a0_constant a1.Dst (0 : Int)) :: .map ekI evI a0_sameb a0_same :: L0) := hL.upd 3 rfl hC69 hB69
            refine sNil (wSeq (wReg (sRun (xFld (k := 1) Try.underlying66 rfl rfl ti3 (by decide) rfl) (sRun (xLoad Try.underlying3 rfl rfl ((hL.bk 1 rfl).cell (i := 1) rfl)) (sRun (bd40_163 rfl rfl) (sStS ti66 rfl rfl rfl (by simp [Value.oneCell', Dat.cells, GOp.cells]) (hL.bk 0 rfl) rfl ?_))))))
            intro w70 hB70 hC70
            replace hL : Bx w0 w70 (.box b3 66 #[.int .i64 (1 : Int), .int .i64 a1.Dst, .int .i64 (0 : Int), .int .i64 (0 : Int), .int .i64 (0 : Int), .int .i64 (0 : Int), .int .i64 (0 : Int), .int .i64 (0 : Int), .int .i64 (0 : Int), .int .i64 (0 : Int), .int .i64 (0 : Int)] :: .box b2 66 #[.int .i64 a1.Kind, .int .i64 a1.Dst, .int .i64 s8_0, .int .i64 s13_0, .int .i64 a1.N, .int .i64 a1.Ctx, .int .i64 a1.Var, .int .i64 a1.Piece, .int .i64 a1.Src.Kind, .int .i64 a1.Src.Val, .int .i64 a1.Src.Add] :: .box b1 81 #[.map (some a0_constantb), .map (some a0_sameb)] :: .map ekI evI a0_constantb (mput a0_constant a1.Dst (0 : Int)) :: .map ekI evI a0_sameb a0_same :: L0) := hL.wr 0 rfl hC70 hB70
            refine sNil (wRet ?_)
            subst hM
            refine resC (P := Try.prog) (fn := Try.f40) rfl Try.underlying66 rfl ti66 rfl rfl (hL.bk 0 rfl) ?_
            exact ⟨rfl, hL.tl.tl.tl⟩
           ·have h68n : (((decide (a1.Kind = (5 : Int))) || (decide (a1.Kind = (8 : Int)))) && ((m_r08_facts_is a0_constant a0_same s8_0 (0 : Int)) || (m_r08_facts_is a0_constant a0_same s13_0 (0 : Int)))) = false := Bool.eq_false_iff.2 h68
            try rw [h68n]
            rw [if_neg h68] at hM
            refine wIfF rfl (wSkip (wSeq (wReg (sRun (xLoadS [.int .i64 a1.Kind, .int .i64 a1.Dst, .int .i64 s8_0, .int .i64 s13_0, .int .i64 a1.N, .int .i64 a1.Ctx, .int .i64 a1.Var, .int .i64 a1.Piece, .int .i64 a1.Src.Kind, .int .i64 a1.Src.Val, .int .i64 a1.Src.Add] Try.underlying66 rfl ti66 rfl rfl ((hL.bk 1 rfl).part rfl)) (sStS ti66 rfl rfl rfl (by simp [Value.oneCell', Dat.cells, GOp.cells]) (hL.bk 0 rfl) rfl ?_)))))
            intro w71 hB71 hC71
            replace hL : Bx w0 w71 (.box b3 66 #[.int .i64 a1.Kind, .int .i64 a1.Dst, .int .i64 s8_0, .int .i64 s13_0, .int .i64 a1.N, .int .i64 a1.Ctx, .int .i64 a1.Var, .int .i64 a1.Piece, .int .i64 a1.Src.Kind, .int .i64 a1.Src.Val, .int .i64 a1.Src.Add] :: .box b2 66 #[.int .i64 a1.Kind, .int .i64 a1.Dst, .int .i64 s8_0, .int .i64 s13_0, .int .i64 a1.N, .int .i64 a1.Ctx, .int .i64 a1.Var, .int .i64 a1.Piece, .int .i64 a1.Src.Kind, .int .i64 a1.Src.Val, .int .i64 a1.Src.Add] :: .box b1 81 #[.map (some a0_constantb), .map (some a0_sameb)] :: .map ekI evI a0_constantb a0_constant :: .map ekI evI a0_sameb a0_same :: L0) := hL.wr 0 rfl hC71 hB71
            refine sNil (wRet ?_)
            subst hM
            refine resC (P := Try.prog) (fn := Try.f40) rfl Try.underlying66 rfl ti66 rfl rfl (hL.bk 0 rfl) ?_
            exact ⟨rfl, hL.tl.tl.tl⟩

end Go.Proofs.Ytbpccmnalhdpmaa
