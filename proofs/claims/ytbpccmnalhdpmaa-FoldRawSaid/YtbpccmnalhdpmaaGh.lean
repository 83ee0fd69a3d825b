/- Contracts, printed by gen2.py. -/
import Derived.Test.YtbpccmnalhdpmaaGg
set_option linter.unusedVariables false
set_option linter.unusedSimpArgs false
set_option maxRecDepth 4000
namespace Go.Proofs.Ytbpccmnalhdpmaa
open Go.RowKit Go.Fw
def m_ir_rightOp (a0 : (GCode List)) (a1_params : Int) (a1_defined : List (Int × Int)) (a2 : GOp) (a3 : Int) : Bool :=
 if ((((decide ((bwAnd (m_ir_fields a2.Kind) (2 : Int)) ≠ (0 : Int))) && (!(m_ir_scope_has a1_params a1_defined a2.A a3))) || ((decide ((bwAnd (m_ir_fields a2.Kind) (4 : Int)) ≠ (0 : Int))) && (!(m_ir_scope_has a1_params a1_defined a2.B a3)))) || ((decide ((bwAnd (m_ir_fields a2.Kind) (16 : Int)) ≠ (0 : Int))) && (!(m_ir_within a2.Ctx (((a0.Contexts.length : Nat) : Int) - (1 : Int)))))) = true then
  false
 else
  if ((decide (a2.Kind = (15 : Int))) || ((decide (a2.Kind = (16 : Int))) || (decide (a2.Kind = (17 : Int))))) = true then
   (m_ir_within a2.N (((a0.Objects.length : Nat) : Int) - (1 : Int)))
  else
   if ((decide (a2.Kind = (19 : Int))) || (decide (a2.Kind = (20 : Int)))) = true then
    (m_ir_within a2.N (9999 : Int))
   else
    true
set_option maxHeartbeats 12800000 in
theorem sp_m_ir_rightOp (w0 : World) (a0 : (GCode Lst)) (h0 : Dat.ok (fun _ => True) w0 a0) (a1_params : Int) (a1_definedb : Nat) (a1_defined : List (Int × Int)) (a1_definedh : Mp ekI evI w0 a1_definedb a1_defined) (a2 : GOp) (a3 : Int) : Calls Try.prog 122 #[.agg (GCode.cells a0).toArray, .agg #[.int .i64 a1_params, .map (some a1_definedb)], .agg (GOp.cells a2).toArray, .int .i64 a3] w0 (Ret fun v w => v = .bool (m_ir_rightOp (GCode.er a0) a1_params a1_defined a2 a3) ∧ Ext w0 w) := by
  obtain ⟨X, hM⟩ : ∃ X, m_ir_rightOp (GCode.er a0) a1_params a1_defined a2 a3 = X := ⟨_, rfl⟩
  rw [hM]
  unfold m_ir_rightOp at hM
  try simp only [er1, er2, er3, er4, er5, er6, er7, er8, er9, er10, er11, er12, er13, er14, er15, er16, er17, List.length_map] at hM
  have hL : Bx w0 w0 [] := Bx.nil
  refine calls_of Try.func122 rfl (Nat.le_of_ble_eq_true rfl) (by kernel_rfl) ?_
  refine wCut [(0, .agg (GCode.cells a0).toArray), (1, .agg #[.int .i64 a1_params, .map (some a1_definedb)]), (2, .agg (GOp.cells a2).toArray), (3, .int .i64 a3)] ⟨rfl, rfl, rfl, rfl, trivial⟩ fun g => ?_
  refine wSeq (wReg (sTo (aNew (mBox rfl)) ?_))
  rintro _ w1 ⟨b1, rfl, hge1, hB1, he1⟩
  replace hL := hL.new hge1 hB1 he1
  refine sTo (aNew (mBox rfl)) ?_
  rintro _ w2 ⟨b2, rfl, hge2, hB2, he2⟩
  replace hL := hL.new hge2 hB2 he2
  refine sTo (aNew (mBox rfl)) ?_
  rintro _ w3 ⟨b3, rfl, hge3, hB3, he3⟩
  replace hL := hL.new hge3 hB3 he3
  refine sRun (xAsB rfl) (sNil (wSeq (wReg (sRun (xFld0 Try.underlying66 rfl rfl ti3 (by decide) rfl) (sRun (xLoad Try.underlying3 rfl rfl ((hL.bk 0 rfl).cell (i := 0) rfl)) (sCall (eCall cal120 rfl) (sp_m_ir_fields _ a2.Kind) ?_))))))
  rintro _ w4 ⟨rfl, he4⟩
  replace hL := hL.ext he4
  refine sRun (xAsI rfl) (sNil (wSeq (wSeq ?_)))
  obtain ⟨E5, hE5⟩ : ∃ E, ((((decide ((bwAnd (m_ir_fields a2.Kind) (2 : Int)) ≠ (0 : Int))) && (!(m_ir_scope_has a1_params a1_defined a2.A a3))) || ((decide ((bwAnd (m_ir_fields a2.Kind) (4 : Int)) ≠ (0 : Int))) && (!(m_ir_scope_has a1_params a1_defined a2.B a3)))) || ((decide ((bwAnd (m_ir_fields a2.Kind) (16 : Int)) ≠ (0 : Int))) && (!(m_ir_within a2.Ctx (((a0.Contexts.l.length : Nat) : Int) - (1 : Int)))))) = E := ⟨_, rfl⟩
  refine wJ (fun f w => Has f [(4, .pointer (some ⟨b1, 0, none⟩)), (6, .pointer (some ⟨b3, 0, none⟩)), (51, .bool E5)] ∧ Bx w0 w [.box b3 66 (GOp.cells a2).toArray, .box b2 199 #[.int .i64 a1_params, .map (some a1_definedb)], .box b1 26 (GCode.cells a0).toArray]) ?_ ?_
  ·refine wReg (sRun (xMvI rfl) (sRun (xAndW rfl rfl) (sRun (xNeqD rfl rfl) (sRun (xMvB rfl) ?_))))
   by_cases h6 : (bwAnd (m_ir_fields a2.Kind) (2 : Int)) ≠ (0 : Int)
   ·try rw [decide_eq_true h6]
    refine sGo rfl (sRun (xLoadS [.int .i64 a1_params, .map (some a1_definedb)] Try.underlying199 rfl ti199 rfl rfl ((hL.bk 1 rfl).part rfl)) (sGo rfl (sRun (xFld (k := 2) Try.underlying66 rfl rfl ti3 (by decide) rfl) (sGo rfl (sRun (xLoad Try.underlying3 rfl rfl ((hL.bk 0 rfl).cell (i := 2) rfl)) (sGo rfl (sRun (xMvI rfl) (sGo rfl (sCall (eCall cal154 rfl) (sp_m_ir_scope_has _ a1_params a1_definedb a1_defined (a1_definedh.ext hL.1) a2.A a3) ?_)))))))))
    rintro _ w7 ⟨rfl, he7⟩
    replace hL := hL.ext he7
    by_cases h8 : (m_ir_scope_has a1_params a1_defined a2.A a3) = true
    ·try rw [h8]
     refine sGo rfl (sRun (xNot rfl) (sRun (xPkTB rfl rfl) (sRun (xMvB rfl) (sGo rfl (sRun (xMvI rfl) (sGo rfl (sRun (xAndW rfl rfl) (sGo rfl (sRun (xNeqD rfl rfl) (sGo rfl (sRun (xMvB rfl) ?_)))))))))))
     by_cases h9 : (bwAnd (m_ir_fields a2.Kind) (4 : Int)) ≠ (0 : Int)
     ·try rw [decide_eq_true h9]
      refine sGo rfl (sRun (xLoadS [.int .i64 a1_params, .map (some a1_definedb)] Try.underlying199 rfl ti199 rfl rfl ((hL.bk 1 rfl).part rfl)) (sGo rfl (sRun (xFld (k := 3) Try.underlying66 rfl rfl ti3 (by decide) rfl) (sGo rfl (sRun (xLoad Try.underlying3 rfl rfl ((hL.bk 0 rfl).cell (i := 3) rfl)) (sGo rfl (sRun (xMvI rfl) (sGo rfl (sCall (eCall cal154 rfl) (sp_m_ir_scope_has _ a1_params a1_definedb a1_defined (a1_definedh.ext hL.1) a2.B a3) ?_)))))))))
      rintro _ w10 ⟨rfl, he10⟩
      replace hL := hL.ext he10
      by_cases h11 : (m_ir_scope_has a1_params a1_defined a2.B a3) = true
      ·try rw [h11]
       refine sGo rfl (sRun (xNot rfl) (sGo rfl (sRun (xPkTB rfl rfl) (sRun (xPkFB rfl rfl) (sRun (xMvB rfl) (sGo rfl (sRun (xMvI rfl) (sGo rfl (sRun (xAndW rfl rfl) (sGo rfl (sRun (xNeqD rfl rfl) (sGo rfl (sRun (xMvB rfl) ?_)))))))))))))
       by_cases h12 : (bwAnd (m_ir_fields a2.Kind) (16 : Int)) ≠ (0 : Int)
       ·try rw [decide_eq_true h12]
        refine sGo rfl (sRun (xFld (k := 5) Try.underlying66 rfl rfl ti3 (by decide) rfl) (sGo rfl (sRun (xLoad Try.underlying3 rfl rfl ((hL.bk 0 rfl).cell (i := 5) rfl)) (sGo rfl (sRun (xFld (k := 2) Try.underlying26 rfl rfl ti23 (by decide) rfl) (sGo rfl (sRun (xLoad Try.underlying23 rfl rfl ((hL.bk 2 rfl).cell (i := 2) rfl)) (sGo rfl ?_))))))))
        have hl13 : a0.Contexts.l.length * 24 ≤ 140737488355328 := Lst.bd h0.2.1
        refine sRun (xLnL (s := a0.Contexts) Try.underlying23 rfl) (sGo rfl (sRun (xSub64 rfl rfl (by omega) (by omega)) (sGo rfl (sCall (eCall cal73 rfl) (sp_m_ir_within _ a2.Ctx (((a0.Contexts.l.length : Nat) : Int) - (1 : Int))) ?_))))
        rintro _ w14 ⟨rfl, he14⟩
        replace hL := hL.ext he14
        by_cases h15 : (m_ir_within a2.Ctx (((a0.Contexts.l.length : Nat) : Int) - (1 : Int))) = true
        ·try rw [h15]
         refine sGo rfl (sRun (xNot rfl) (sGo rfl (sRun (xPkTB rfl rfl) (sRun (xPkFB rfl rfl) (sNil ?_)))))
         exact ⟨⟨rfl, rfl, (congrArg Value.bool (by rw [← hE5]; first | (simp [h6, h8, h9, h11, h12, h15]; done) | (simp only [decide_eq_true h6, h8, decide_eq_true h9, h11, decide_eq_true h12, h15]; done) | grind)), trivial⟩, hL⟩
        ·have h15n : (m_ir_within a2.Ctx (((a0.Contexts.l.length : Nat) : Int) - (1 : Int))) = false := Bool.eq_false_iff.2 h15
         try rw [h15n]
         refine sGo rfl (sRun (xNot rfl) (sGo rfl (sRun (xPkTB rfl rfl) (sRun (xPkFB rfl rfl) (sNil ?_)))))
         exact ⟨⟨rfl, rfl, (congrArg Value.bool (by rw [← hE5]; first | (simp [h6, h8, h9, h11, h12, h15n]; done) | (simp only [decide_eq_true h6, h8, decide_eq_true h9, h11, decide_eq_true h12, h15n]; done) | grind)), trivial⟩, hL⟩
       ·try rw [decide_eq_false h12]
        refine sNo rfl (sNo rfl (sNo rfl (sNo rfl (sNo rfl (sNo rfl (sNo rfl (sNo rfl (sGo rfl (sRun (xPkFB rfl rfl) (sRun (xPkFB rfl rfl) (sNil ?_)))))))))))
        exact ⟨⟨rfl, rfl, (congrArg Value.bool (by rw [← hE5]; first | (simp [h6, h8, h9, h11, h12]; done) | (simp only [decide_eq_true h6, h8, decide_eq_true h9, h11, decide_eq_false h12]; done) | grind)), trivial⟩, hL⟩
      ·have h11n : (m_ir_scope_has a1_params a1_defined a2.B a3) = false := Bool.eq_false_iff.2 h11
       try rw [h11n]
       refine sGo rfl (sRun (xNot rfl) (sGo rfl (sRun (xPkTB rfl rfl) (sRun (xPkFB rfl rfl) (sRun (xMvB rfl) (sNo rfl (sNo rfl (sNo rfl (sNo rfl (sNo rfl (sNo rfl (sNo rfl (sNo rfl ?_)))))))))))))
       refine sNo rfl (sNo rfl (sNo rfl (sNo rfl (sNo rfl (sRun (xPkTB rfl rfl) (sNil ?_))))))
       exact ⟨⟨rfl, rfl, (congrArg Value.bool (by rw [← hE5]; first | (simp [h6, h8, h9, h11n]; done) | (simp only [decide_eq_true h6, h8, decide_eq_true h9, h11n]; done) | grind)), trivial⟩, hL⟩
     ·try rw [decide_eq_false h9]
      refine sNo rfl (sNo rfl (sNo rfl (sNo rfl (sNo rfl (sNo rfl (sGo rfl (sRun (xPkFB rfl rfl) (sRun (xPkFB rfl rfl) (sRun (xMvB rfl) (sGo rfl (sRun (xMvI rfl) (sGo rfl (sRun (xAndW rfl rfl) ?_)))))))))))))
      refine sGo rfl (sRun (xNeqD rfl rfl) (sGo rfl (sRun (xMvB rfl) ?_)))
      by_cases h16 : (bwAnd (m_ir_fields a2.Kind) (16 : Int)) ≠ (0 : Int)
      ·try rw [decide_eq_true h16]
       refine sGo rfl (sRun (xFld (k := 5) Try.underlying66 rfl rfl ti3 (by decide) rfl) (sGo rfl (sRun (xLoad Try.underlying3 rfl rfl ((hL.bk 0 rfl).cell (i := 5) rfl)) (sGo rfl (sRun (xFld (k := 2) Try.underlying26 rfl rfl ti23 (by decide) rfl) (sGo rfl (sRun (xLoad Try.underlying23 rfl rfl ((hL.bk 2 rfl).cell (i := 2) rfl)) (sGo rfl ?_))))))))
       have hl17 : a0.Contexts.l.length * 24 ≤ 140737488355328 := Lst.bd h0.2.1
       refine sRun (xLnL (s := a0.Contexts) Try.underlying23 rfl) (sGo rfl (sRun (xSub64 rfl rfl (by omega) (by omega)) (sGo rfl (sCall (eCall cal73 rfl) (sp_m_ir_within _ a2.Ctx (((a0.Contexts.l.length : Nat) : Int) - (1 : Int))) ?_))))
       rintro _ w18 ⟨rfl, he18⟩
       replace hL := hL.ext he18
       by_cases h19 : (m_ir_within a2.Ctx (((a0.Contexts.l.length : Nat) : Int) - (1 : Int))) = true
       ·try rw [h19]
        refine sGo rfl (sRun (xNot rfl) (sGo rfl (sRun (xPkTB rfl rfl) (sRun (xPkFB rfl rfl) (sNil ?_)))))
        exact ⟨⟨rfl, rfl, (congrArg Value.bool (by rw [← hE5]; first | (simp [h6, h8, h9, h16, h19]; done) | (simp only [decide_eq_true h6, h8, decide_eq_false h9, decide_eq_true h16, h19]; done) | grind)), trivial⟩, hL⟩
       ·have h19n : (m_ir_within a2.Ctx (((a0.Contexts.l.length : Nat) : Int) - (1 : Int))) = false := Bool.eq_false_iff.2 h19
        try rw [h19n]
        refine sGo rfl (sRun (xNot rfl) (sGo rfl (sRun (xPkTB rfl rfl) (sRun (xPkFB rfl rfl) (sNil ?_)))))
        exact ⟨⟨rfl, rfl, (congrArg Value.bool (by rw [← hE5]; first | (simp [h6, h8, h9, h16, h19n]; done) | (simp only [decide_eq_true h6, h8, decide_eq_false h9, decide_eq_true h16, h19n]; done) | grind)), trivial⟩, hL⟩
      ·try rw [decide_eq_false h16]
       refine sNo rfl (sNo rfl (sNo rfl (sNo rfl (sNo rfl (sNo rfl (sNo rfl (sNo rfl (sGo rfl (sRun (xPkFB rfl rfl) (sRun (xPkFB rfl rfl) (sNil ?_)))))))))))
       exact ⟨⟨rfl, rfl, (congrArg Value.bool (by rw [← hE5]; first | (simp [h6, h8, h9, h16]; done) | (simp only [decide_eq_true h6, h8, decide_eq_false h9, decide_eq_false h16]; done) | grind)), trivial⟩, hL⟩
    ·have h8n : (m_ir_scope_has a1_params a1_defined a2.A a3) = false := Bool.eq_false_iff.2 h8
     try rw [h8n]
     refine sGo rfl (sRun (xNot rfl) (sRun (xPkTB rfl rfl) (sRun (xMvB rfl) (sNo rfl (sNo rfl (sNo rfl (sNo rfl (sNo rfl (sNo rfl (sNo rfl (sNo rfl (sNo rfl (sNo rfl ?_)))))))))))))
     refine sNo rfl (sRun (xPkTB rfl rfl) (sRun (xMvB rfl) (sNo rfl (sNo rfl (sNo rfl (sNo rfl (sNo rfl (sNo rfl (sNo rfl (sNo rfl (sNo rfl (sNo rfl (sNo rfl ?_)))))))))))))
     refine sNo rfl (sNo rfl (sRun (xPkTB rfl rfl) (sNil ?_)))
     exact ⟨⟨rfl, rfl, (congrArg Value.bool (by rw [← hE5]; first | (simp [h6, h8n]; done) | (simp only [decide_eq_true h6, h8n]; done) | grind)), trivial⟩, hL⟩
   ·try rw [decide_eq_false h6]
    refine sNo rfl (sNo rfl (sNo rfl (sNo rfl (sNo rfl (sNo rfl (sRun (xPkFB rfl rfl) (sRun (xMvB rfl) (sGo rfl (sRun (xMvI rfl) (sGo rfl (sRun (xAndW rfl rfl) (sGo rfl (sRun (xNeqD rfl rfl) ?_)))))))))))))
    refine sGo rfl (sRun (xMvB rfl) ?_)
    by_cases h20 : (bwAnd (m_ir_fields a2.Kind) (4 : Int)) ≠ (0 : Int)
    ·try rw [decide_eq_true h20]
     refine sGo rfl (sRun (xLoadS [.int .i64 a1_params, .map (some a1_definedb)] Try.underlying199 rfl ti199 rfl rfl ((hL.bk 1 rfl).part rfl)) (sGo rfl (sRun (xFld (k := 3) Try.underlying66 rfl rfl ti3 (by decide) rfl) (sGo rfl (sRun (xLoad Try.underlying3 rfl rfl ((hL.bk 0 rfl).cell (i := 3) rfl)) (sGo rfl (sRun (xMvI rfl) (sGo rfl (sCall (eCall cal154 rfl) (sp_m_ir_scope_has _ a1_params a1_definedb a1_defined (a1_definedh.ext hL.1) a2.B a3) ?_)))))))))
     rintro _ w21 ⟨rfl, he21⟩
     replace hL := hL.ext he21
     by_cases h22 : (m_ir_scope_has a1_params a1_defined a2.B a3) = true
     ·try rw [h22]
      refine sGo rfl (sRun (xNot rfl) (sGo rfl (sRun (xPkTB rfl rfl) (sRun (xPkFB rfl rfl) (sRun (xMvB rfl) (sGo rfl (sRun (xMvI rfl) (sGo rfl (sRun (xAndW rfl rfl) (sGo rfl (sRun (xNeqD rfl rfl) (sGo rfl (sRun (xMvB rfl) ?_)))))))))))))
      by_cases h23 : (bwAnd (m_ir_fields a2.Kind) (16 : Int)) ≠ (0 : Int)
      ·try rw [decide_eq_true h23]
       refine sGo rfl (sRun (xFld (k := 5) Try.underlying66 rfl rfl ti3 (by decide) rfl) (sGo rfl (sRun (xLoad Try.underlying3 rfl rfl ((hL.bk 0 rfl).cell (i := 5) rfl)) (sGo rfl (sRun (xFld (k := 2) Try.underlying26 rfl rfl ti23 (by decide) rfl) (sGo rfl (sRun (xLoad Try.underlying23 rfl rfl ((hL.bk 2 rfl).cell (i := 2) rfl)) (sGo rfl ?_))))))))
       have hl24 : a0.Contexts.l.length * 24 ≤ 140737488355328 := Lst.bd h0.2.1
       refine sRun (xLnL (s := a0.Contexts) Try.underlying23 rfl) (sGo rfl (sRun (xSub64 rfl rfl (by omega) (by omega)) (sGo rfl (sCall (eCall cal73 rfl) (sp_m_ir_within _ a2.Ctx (((a0.Contexts.l.length : Nat) : Int) - (1 : Int))) ?_))))
       rintro _ w25 ⟨rfl, he25⟩
       replace hL := hL.ext he25
       by_cases h26 : (m_ir_within a2.Ctx (((a0.Contexts.l.length : Nat) : Int) - (1 : Int))) = true
       ·try rw [h26]
        refine sGo rfl (sRun (xNot rfl) (sGo rfl (sRun (xPkTB rfl rfl) (sRun (xPkFB rfl rfl) (sNil ?_)))))
        exact ⟨⟨rfl, rfl, (congrArg Value.bool (by rw [← hE5]; first | (simp [h6, h20, h22, h23, h26]; done) | (simp only [decide_eq_false h6, decide_eq_true h20, h22, decide_eq_true h23, h26]; done) | grind)), trivial⟩, hL⟩
       ·have h26n : (m_ir_within a2.Ctx (((a0.Contexts.l.length : Nat) : Int) - (1 : Int))) = false := Bool.eq_false_iff.2 h26
        try rw [h26n]
        refine sGo rfl (sRun (xNot rfl) (sGo rfl (sRun (xPkTB rfl rfl) (sRun (xPkFB rfl rfl) (sNil ?_)))))
        exact ⟨⟨rfl, rfl, (congrArg Value.bool (by rw [← hE5]; first | (simp [h6, h20, h22, h23, h26n]; done) | (simp only [decide_eq_false h6, decide_eq_true h20, h22, decide_eq_true h23, h26n]; done) | grind)), trivial⟩, hL⟩
      ·try rw [decide_eq_false h23]
       refine sNo rfl (sNo rfl (sNo rfl (sNo rfl (sNo rfl (sNo rfl (sNo rfl (sNo rfl (sGo rfl (sRun (xPkFB rfl rfl) (sRun (xPkFB rfl rfl) (sNil ?_)))))))))))
       exact ⟨⟨rfl, rfl, (congrArg Value.bool (by rw [← hE5]; first | (simp [h6, h20, h22, h23]; done) | (simp only [decide_eq_false h6, decide_eq_true h20, h22, decide_eq_false h23]; done) | grind)), trivial⟩, hL⟩
     ·have h22n : (m_ir_scope_has a1_params a1_defined a2.B a3) = false := Bool.eq_false_iff.2 h22
      try rw [h22n]
      refine sGo rfl (sRun (xNot rfl) (sGo rfl (sRun (xPkTB rfl rfl) (sRun (xPkFB rfl rfl) (sRun (xMvB rfl) (sNo rfl (sNo rfl (sNo rfl (sNo rfl (sNo rfl (sNo rfl (sNo rfl (sNo rfl ?_)))))))))))))
      refine sNo rfl (sNo rfl (sNo rfl (sNo rfl (sNo rfl (sRun (xPkTB rfl rfl) (sNil ?_))))))
      exact ⟨⟨rfl, rfl, (congrArg Value.bool (by rw [← hE5]; first | (simp [h6, h20, h22n]; done) | (simp only [decide_eq_false h6, decide_eq_true h20, h22n]; done) | grind)), trivial⟩, hL⟩
    ·try rw [decide_eq_false h20]
     refine sNo rfl (sNo rfl (sNo rfl (sNo rfl (sNo rfl (sNo rfl (sGo rfl (sRun (xPkFB rfl rfl) (sRun (xPkFB rfl rfl) (sRun (xMvB rfl) (sGo rfl (sRun (xMvI rfl) (sGo rfl (sRun (xAndW rfl rfl) ?_)))))))))))))
     refine sGo rfl (sRun (xNeqD rfl rfl) (sGo rfl (sRun (xMvB rfl) ?_)))
     by_cases h27 : (bwAnd (m_ir_fields a2.Kind) (16 : Int)) ≠ (0 : Int)
     ·try rw [decide_eq_true h27]
      refine sGo rfl (sRun (xFld (k := 5) Try.underlying66 rfl rfl ti3 (by decide) rfl) (sGo rfl (sRun (xLoad Try.underlying3 rfl rfl ((hL.bk 0 rfl).cell (i := 5) rfl)) (sGo rfl (sRun (xFld (k := 2) Try.underlying26 rfl rfl ti23 (by decide) rfl) (sGo rfl (sRun (xLoad Try.underlying23 rfl rfl ((hL.bk 2 rfl).cell (i := 2) rfl)) (sGo rfl ?_))))))))
      have hl28 : a0.Contexts.l.length * 24 ≤ 140737488355328 := Lst.bd h0.2.1
      refine sRun (xLnL (s := a0.Contexts) Try.underlying23 rfl) (sGo rfl (sRun (xSub64 rfl rfl (by omega) (by omega)) (sGo rfl (sCall (eCall cal73 rfl) (sp_m_ir_within _ a2.Ctx (((a0.Contexts.l.length : Nat) : Int) - (1 : Int))) ?_))))
      rintro _ w29 ⟨rfl, he29⟩
      replace hL := hL.ext he29
      by_cases h30 : (m_ir_within a2.Ctx (((a0.Contexts.l.length : Nat) : Int) - (1 : Int))) = true
      ·try rw [h30]
       refine sGo rfl (sRun (xNot rfl) (sGo rfl (sRun (xPkTB rfl rfl) (sRun (xPkFB rfl rfl) (sNil ?_)))))
       exact ⟨⟨rfl, rfl, (congrArg Value.bool (by rw [← hE5]; first | (simp [h6, h20, h27, h30]; done) | (simp only [decide_eq_false h6, decide_eq_false h20, decide_eq_true h27, h30]; done) | grind)), trivial⟩, hL⟩
      ·have h30n : (m_ir_within a2.Ctx (((a0.Contexts.l.length : Nat) : Int) - (1 : Int))) = false := Bool.eq_false_iff.2 h30
       try rw [h30n]
       refine sGo rfl (sRun (xNot rfl) (sGo rfl (sRun (xPkTB rfl rfl) (sRun (xPkFB rfl rfl) (sNil ?_)))))
       exact ⟨⟨rfl, rfl, (congrArg Value.bool (by rw [← hE5]; first | (simp [h6, h20, h27, h30n]; done) | (simp only [decide_eq_false h6, decide_eq_false h20, decide_eq_true h27, h30n]; done) | grind)), trivial⟩, hL⟩
     ·try rw [decide_eq_false h27]
      refine sNo rfl (sNo rfl (sNo rfl (sNo rfl (sNo rfl (sNo rfl (sNo rfl (sNo rfl (sGo rfl (sRun (xPkFB rfl rfl) (sRun (xPkFB rfl rfl) (sNil ?_)))))))))))
      exact ⟨⟨rfl, rfl, (congrArg Value.bool (by rw [← hE5]; first | (simp [h6, h20, h27]; done) | (simp only [decide_eq_false h6, decide_eq_false h20, decide_eq_false h27]; done) | grind)), trivial⟩, hL⟩
  ·clear hL
   subst hE5
   rintro f w ⟨hf, hL⟩
   obtain ⟨g, rfl⟩ := has_updL _ _ hf
   clear hf
   by_cases h31 : ((((decide ((bwAnd (m_ir_fields a2.Kind) (2 : Int)) ≠ (0 : Int))) && (!(m_ir_scope_has a1_params a1_defined a2.A a3))) || ((decide ((bwAnd (m_ir_fields a2.Kind) (4 : Int)) ≠ (0 : Int))) && (!(m_ir_scope_has a1_params a1_defined a2.B a3)))) || ((decide ((bwAnd (m_ir_fields a2.Kind) (16 : Int)) ≠ (0 : Int))) && (!(m_ir_within a2.Ctx (((a0.Contexts.l.length : Nat) : Int) - (1 : Int)))))) = true
   ·try rw [h31]
    rw [if_pos h31] at hM
    refine wIfT rfl (wSeq (wReg (sRun (xAsB rfl) (sNil (wRet ?_)))))
    subst hM
    refine res1 (P := Try.prog) (fn := Try.f122) rfl ?_
    exact ⟨rfl, hL.1⟩
   ·have h31n : ((((decide ((bwAnd (m_ir_fields a2.Kind) (2 : Int)) ≠ (0 : Int))) && (!(m_ir_scope_has a1_params a1_defined a2.A a3))) || ((decide ((bwAnd (m_ir_fields a2.Kind) (4 : Int)) ≠ (0 : Int))) && (!(m_ir_scope_has a1_params a1_defined a2.B a3)))) || ((decide ((bwAnd (m_ir_fields a2.Kind) (16 : Int)) ≠ (0 : Int))) && (!(m_ir_within a2.Ctx (((a0.Contexts.l.length : Nat) : Int) - (1 : Int)))))) = false := Bool.eq_false_iff.2 h31
    try rw [h31n]
    rw [if_neg h31] at hM
    refine wIfF rfl (wSkip (wSeq (wSeq (wReg (sRun (xFld0 Try.underlying66 rfl rfl ti3 (by decide) rfl) (sRun (xLoad Try.underlying3 rfl rfl ((hL.bk 0 rfl).cell (i := 0) rfl)) (sNil (wBlock (wSeq (wSeq (wReg (sRun (xEqlD rfl rfl) (sRun (xAsB rfl) ?_)))))))))))))
    refine sNil ?_
    obtain ⟨E32, hE32⟩ : ∃ E, ((decide (a2.Kind = (15 : Int))) || ((decide (a2.Kind = (16 : Int))) || (decide (a2.Kind = (17 : Int))))) = E := ⟨_, rfl⟩
    refine wJ (fun f w => Has f [(4, .pointer (some ⟨b1, 0, none⟩)), (6, .pointer (some ⟨b3, 0, none⟩)), (53, .int .i64 a2.Kind), (54, .bool E32)] ∧ Bx w0 w [.box b3 66 (GOp.cells a2).toArray, .box b2 199 #[.int .i64 a1_params, .map (some a1_definedb)], .box b1 26 (GCode.cells a0).toArray]) ?_ ?_
    ·by_cases h33 : a2.Kind = (15 : Int)
     ·try rw [decide_eq_true h33]
      refine wIfT rfl (wSkip ?_)
      exact ⟨⟨rfl, rfl, rfl, (congrArg Value.bool (by rw [← hE32]; first | (simp [h33]; done) | (simp only [decide_eq_true h33]; done) | grind)), trivial⟩, hL⟩
     ·try rw [decide_eq_false h33]
      refine wIfF rfl (wSeq (wReg (sRun (xEqlD rfl rfl) (sRun (xAsB rfl) (sNil ?_)))))
      obtain ⟨E34, hE34⟩ : ∃ E, ((decide (a2.Kind = (16 : Int))) || (decide (a2.Kind = (17 : Int)))) = E := ⟨_, rfl⟩
      refine wJ (fun f w => Has f [(4, .pointer (some ⟨b1, 0, none⟩)), (6, .pointer (some ⟨b3, 0, none⟩)), (53, .int .i64 a2.Kind), (54, .bool E34)] ∧ Bx w0 w [.box b3 66 (GOp.cells a2).toArray, .box b2 199 #[.int .i64 a1_params, .map (some a1_definedb)], .box b1 26 (GCode.cells a0).toArray]) ?_ ?_
      ·by_cases h35 : a2.Kind = (16 : Int)
       ·try rw [decide_eq_true h35]
        refine wIfT rfl (wSkip ?_)
        exact ⟨⟨rfl, rfl, rfl, (congrArg Value.bool (by rw [← hE34]; first | (simp [h35]; done) | (simp only [decide_eq_true h35]; done) | grind)), trivial⟩, hL⟩
       ·try rw [decide_eq_false h35]
        refine wIfF rfl (wReg (sRun (xEqlD rfl rfl) (sRun (xAsB rfl) (sNil ?_))))
        exact ⟨⟨rfl, rfl, rfl, (congrArg Value.bool (by rw [← hE34]; first | (simp [h35]; done) | (simp only [decide_eq_false h35]; done) | grind)), trivial⟩, hL⟩
      ·clear hL
       subst hE34
       rintro f w ⟨hf, hL⟩
       obtain ⟨g, rfl⟩ := has_updL _ _ hf
       clear hf
       exact ⟨⟨rfl, rfl, rfl, (congrArg Value.bool (by rw [← hE32]; first | (simp [h33]; done) | (simp only [decide_eq_false h33]; done) | grind)), trivial⟩, hL⟩
    ·clear hL
     subst hE32
     rintro f w ⟨hf, hL⟩
     obtain ⟨g, rfl⟩ := has_updL _ _ hf
     clear hf
     by_cases h36 : ((decide (a2.Kind = (15 : Int))) || ((decide (a2.Kind = (16 : Int))) || (decide (a2.Kind = (17 : Int))))) = true
     ·try rw [h36]
      rw [if_pos h36] at hM
      refine wIfT rfl (wSeq (wReg (sRun (xFld (k := 4) Try.underlying66 rfl rfl ti3 (by decide) rfl) (sRun (xLoad Try.underlying3 rfl rfl ((hL.bk 0 rfl).cell (i := 4) rfl)) (sRun (xFld (k := 3) Try.underlying26 rfl rfl ti24 (by decide) rfl) (sRun (xLoad Try.underlying24 rfl rfl ((hL.bk 2 rfl).cell (i := 3) rfl)) ?_))))))
      have hl37 : a0.Objects.l.length * 24 ≤ 140737488355328 := Lst.bd h0.2.2
      refine sRun (xLnL (s := a0.Objects) Try.underlying24 rfl) (sRun (xSub64 rfl rfl (by omega) (by omega)) (sCall (eCall cal73 rfl) (sp_m_ir_within _ a2.N (((a0.Objects.l.length : Nat) : Int) - (1 : Int))) ?_))
      rintro _ w38 ⟨rfl, he38⟩
      replace hL := hL.ext he38
      refine sRun (xAsB rfl) (sNil (wRet ?_))
      subst hM
      refine res1 (P := Try.prog) (fn := Try.f122) rfl ?_
      exact ⟨rfl, hL.1⟩
     ·have h36n : ((decide (a2.Kind = (15 : Int))) || ((decide (a2.Kind = (16 : Int))) || (decide (a2.Kind = (17 : Int))))) = false := Bool.eq_false_iff.2 h36
      try rw [h36n]
      rw [if_neg h36] at hM
      have h39 : ¬ (a2.Kind = (15 : Int)) := fun hq => by rw [decide_eq_true hq] at h36; simp at h36
      have h40 : ¬ (a2.Kind = (16 : Int)) := fun hq => by rw [decide_eq_true hq] at h36; simp at h36
      have h41 : ¬ (a2.Kind = (17 : Int)) := fun hq => by rw [decide_eq_true hq] at h36; simp at h36
      refine wIfF rfl (wSeq (wSeq (wReg (sRun (xEqlD rfl rfl) (sRun (xAsB rfl) (sNil ?_))))))
      obtain ⟨E42, hE42⟩ : ∃ E, ((decide (a2.Kind = (19 : Int))) || (decide (a2.Kind = (20 : Int)))) = E := ⟨_, rfl⟩
      refine wJ (fun f w => Has f [(6, .pointer (some ⟨b3, 0, none⟩)), (65, .bool E42)] ∧ Bx w0 w [.box b3 66 (GOp.cells a2).toArray, .box b2 199 #[.int .i64 a1_params, .map (some a1_definedb)], .box b1 26 (GCode.cells a0).toArray]) ?_ ?_
      ·by_cases h43 : a2.Kind = (19 : Int)
       ·try rw [decide_eq_true h43]
        refine wIfT rfl (wSkip ?_)
        exact ⟨⟨rfl, (congrArg Value.bool (by rw [← hE42]; first | (simp [h43]; done) | (simp only [decide_eq_true h43]; done) | grind)), trivial⟩, hL⟩
       ·try rw [decide_eq_false h43]
        refine wIfF rfl (wReg (sRun (xEqlD rfl rfl) (sRun (xAsB rfl) (sNil ?_))))
        exact ⟨⟨rfl, (congrArg Value.bool (by rw [← hE42]; first | (simp [h43]; done) | (simp only [decide_eq_false h43]; done) | grind)), trivial⟩, hL⟩
      ·clear hL
       subst hE42
       rintro f w ⟨hf, hL⟩
       obtain ⟨g, rfl⟩ := has_updL _ _ hf
       clear hf
       by_cases h44 : ((decide (a2.Kind = (19 : Int))) || (decide (a2.Kind = (20 : Int)))) = true
       ·try rw [h44]
        rw [if_pos h44] at hM
        refine wIfT rfl (wSeq (wReg (sRun (xFld (k := 4) Try.underlying66 rfl rfl ti3 (by decide) rfl) (sRun (xLoad Try.underlying3 rfl rfl ((hL.bk 0 rfl).cell (i := 4) rfl)) (sCall (eCall cal73 rfl) (sp_m_ir_within _ a2.N (9999 : Int)) ?_)))))
        rintro _ w45 ⟨rfl, he45⟩
        replace hL := hL.ext he45
        refine sRun (xAsB rfl) (sNil (wRet ?_))
        subst hM
        refine res1 (P := Try.prog) (fn := Try.f122) rfl ?_
        exact ⟨rfl, hL.1⟩
       ·have h44n : ((decide (a2.Kind = (19 : Int))) || (decide (a2.Kind = (20 : Int)))) = false := Bool.eq_false_iff.2 h44
        try rw [h44n]
        rw [if_neg h44] at hM
        have h46 : ¬ (a2.Kind = (19 : Int)) := fun hq => by rw [decide_eq_true hq] at h44; simp at h44
        have h47 : ¬ (a2.Kind = (20 : Int)) := fun hq => by rw [decide_eq_true hq] at h44; simp at h44
        refine wIfF rfl (wSkip (wSeq (wReg (sRun (xAsB rfl) (sNil (wRet ?_))))))
        subst hM
        refine res1 (P := Try.prog) (fn := Try.f122) rfl ?_
        exact ⟨rfl, hL.1⟩

def m_ir_rightBind (a0 : (GCode List)) (a1_params : Int) (a1_defined : List (Int × Int)) (a2 : GOp) (a3 : Int) : Bool :=
 if (m_ir_within a2.Var (23 : Int)) = true then
  if (m_ir_within a2.Piece (3 : Int)) = true then
   if a2.Src.Kind = (0 : Int) then
    if a2.Src.Val = (0 : Int) then
     (decide (a2.Src.Add = (0 : Int)))
    else
     false
   else
    if a2.Src.Kind = (1 : Int) then
     (decide (a2.Src.Val = (0 : Int)))
    else
     if a2.Src.Kind = (2 : Int) then
      (m_ir_scope_has a1_params a1_defined a2.Src.Val a3)
     else
      if a2.Src.Kind = (3 : Int) then
       (m_ir_within a2.Src.Val (wr (a0.Params - (1 : Int))))
      else
       false
  else
   false
 else
  false
set_option maxHeartbeats 12800000 in
theorem sp_m_ir_rightBind (w0 : World) (a0 : (GCode Lst)) (h0 : Dat.ok (fun _ => True) w0 a0) (a1_params : Int) (a1_definedb : Nat) (a1_defined : List (Int × Int)) (a1_definedh : Mp ekI evI w0 a1_definedb a1_defined) (a2 : GOp) (a3 : Int) : Calls Try.prog 123 #[.agg (GCode.cells a0).toArray, .agg #[.int .i64 a1_params, .map (some a1_definedb)], .agg (GOp.cells a2).toArray, .int .i64 a3] w0 (Ret fun v w => v = .bool (m_ir_rightBind (GCode.er a0) a1_params a1_defined a2 a3) ∧ Ext w0 w) := by
  obtain ⟨X, hM⟩ : ∃ X, m_ir_rightBind (GCode.er a0) a1_params a1_defined a2 a3 = X := ⟨_, rfl⟩
  rw [hM]
  unfold m_ir_rightBind at hM
  try simp only [er1, er2, er3, er4, er5, er6, er7, er8, er9, er10, er11, er12, er13, er14, er15, er16, er17, List.length_map] at hM
  have hL : Bx w0 w0 [] := Bx.nil
  refine calls_of Try.func123 rfl (Nat.le_of_ble_eq_true rfl) (by kernel_rfl) ?_
  refine wCut [(0, .agg (GCode.cells a0).toArray), (1, .agg #[.int .i64 a1_params, .map (some a1_definedb)]), (2, .agg (GOp.cells a2).toArray), (3, .int .i64 a3)] ⟨rfl, rfl, rfl, rfl, trivial⟩ fun g => ?_
  refine wSeq (wReg (sTo (aNew (mBox rfl)) ?_))
  rintro _ w1 ⟨b1, rfl, hge1, hB1, he1⟩
  replace hL := hL.new hge1 hB1 he1
  refine sTo (aNew (mBox rfl)) ?_
  rintro _ w2 ⟨b2, rfl, hge2, hB2, he2⟩
  replace hL := hL.new hge2 hB2 he2
  refine sTo (aNew (mBox rfl)) ?_
  rintro _ w3 ⟨b3, rfl, hge3, hB3, he3⟩
  replace hL := hL.new hge3 hB3 he3
  refine sRun (xAsB rfl) (sNil (wSeq (wSeq (wReg (sRun (xFld (k := 6) Try.underlying66 rfl rfl ti3 (by decide) rfl) (sRun (xLoad Try.underlying3 rfl rfl ((hL.bk 0 rfl).cell (i := 6) rfl)) (sCall (eCall cal73 rfl) (sp_m_ir_within _ a2.Var (23 : Int)) ?_)))))))
  rintro _ w4 ⟨rfl, he4⟩
  replace hL := hL.ext he4
  by_cases h5 : (m_ir_within a2.Var (23 : Int)) = true
  ·try rw [h5]
   rw [if_pos h5] at hM
   refine sRun (xNot rfl) (sRun (xMvB rfl) (sGo rfl (sRun (xFld (k := 7) Try.underlying66 rfl rfl ti3 (by decide) rfl) (sGo rfl (sRun (xLoad Try.underlying3 rfl rfl ((hL.bk 0 rfl).cell (i := 7) rfl)) (sGo rfl (sCall (eCall cal73 rfl) (sp_m_ir_within _ a2.Piece (3 : Int)) ?_)))))))
   rintro _ w6 ⟨rfl, he6⟩
   replace hL := hL.ext he6
   by_cases h7 : (m_ir_within a2.Piece (3 : Int)) = true
   ·try rw [h7]
    rw [if_pos h7] at hM
    refine sGo rfl (sRun (xNot rfl) (sRun (xPkFB rfl rfl) (sNil (wIfF rfl (wSkip (wSeq (wSeq (wReg (sRun (xFld (k := 8) Try.underlying66 rfl rfl ti64 (by decide) rfl) (sRun (xFld0 Try.underlying64 rfl rfl ti3 (by decide) rfl) (sRun (xLoad Try.underlying3 rfl rfl ((hL.bk 0 rfl).cell (i := 8) rfl)) (sNil (wBlock ?_)))))))))))))
    refine wSeq (wReg (sRun (xEqlD rfl rfl) (sRun (xAsB rfl) (sNil ?_))))
    by_cases h8 : a2.Src.Kind = (0 : Int)
    ·try rw [decide_eq_true h8]
     rw [if_pos h8] at hM
     refine wIfT rfl (wSeq (wReg (sRun (xFld (k := 8) Try.underlying66 rfl rfl ti64 (by decide) rfl) (sRun (xFld (k := 1) Try.underlying64 rfl rfl ti3 (by decide) rfl) (sRun (xLoad Try.underlying3 rfl rfl ((hL.bk 0 rfl).cell (i := 9) rfl)) (sRun (xEqlD rfl rfl) (sRun (xMvB rfl) ?_)))))))
     by_cases h9 : a2.Src.Val = (0 : Int)
     ·try rw [decide_eq_true h9]
      rw [if_pos h9] at hM
      refine sGo rfl (sRun (xFld (k := 8) Try.underlying66 rfl rfl ti64 (by decide) rfl) (sGo rfl (sRun (xFld (k := 2) Try.underlying64 rfl rfl ti3 (by decide) rfl) (sGo rfl (sRun (xLoad Try.underlying3 rfl rfl ((hL.bk 0 rfl).cell (i := 10) rfl)) (sGo rfl (sRun (xEqlD rfl rfl) (sRun (xPkTB rfl rfl) (sRun (xAsB rfl) (sNil (wRet ?_)))))))))))
      subst hM
      refine res1 (P := Try.prog) (fn := Try.f123) rfl ?_
      exact ⟨rfl, hL.1⟩
     ·try rw [decide_eq_false h9]
      rw [if_neg h9] at hM
      refine sNo rfl (sNo rfl (sNo rfl (sNo rfl (sRun (xPkFB rfl rfl) (sRun (xAsB rfl) (sNil (wRet ?_)))))))
      subst hM
      refine res1 (P := Try.prog) (fn := Try.f123) rfl ?_
      exact ⟨rfl, hL.1⟩
    ·try rw [decide_eq_false h8]
     rw [if_neg h8] at hM
     refine wIfF rfl (wSeq (wReg (sRun (xEqlD rfl rfl) (sRun (xAsB rfl) (sNil ?_)))))
     by_cases h10 : a2.Src.Kind = (1 : Int)
     ·try rw [decide_eq_true h10]
      rw [if_pos h10] at hM
      refine wIfT rfl (wSeq (wReg (sRun (xFld (k := 8) Try.underlying66 rfl rfl ti64 (by decide) rfl) (sRun (xFld (k := 1) Try.underlying64 rfl rfl ti3 (by decide) rfl) (sRun (xLoad Try.underlying3 rfl rfl ((hL.bk 0 rfl).cell (i := 9) rfl)) (sRun (xEqlD rfl rfl) (sRun (xAsB rfl) (sNil (wRet ?_)))))))))
      subst hM
      refine res1 (P := Try.prog) (fn := Try.f123) rfl ?_
      exact ⟨rfl, hL.1⟩
     ·try rw [decide_eq_false h10]
      rw [if_neg h10] at hM
      refine wIfF rfl (wSeq (wReg (sRun (xEqlD rfl rfl) (sRun (xAsB rfl) (sNil ?_)))))
      by_cases h11 : a2.Src.Kind = (2 : Int)
      ·try rw [decide_eq_true h11]
       rw [if_pos h11] at hM
       refine wIfT rfl (wSeq (wReg (sRun (xLoadS [.int .i64 a1_params, .map (some a1_definedb)] Try.underlying199 rfl ti199 rfl rfl ((hL.bk 1 rfl).part rfl)) (sRun (xFld (k := 8) Try.underlying66 rfl rfl ti64 (by decide) rfl) (sRun (xFld (k := 1) Try.underlying64 rfl rfl ti3 (by decide) rfl) (sRun (xLoad Try.underlying3 rfl rfl ((hL.bk 0 rfl).cell (i := 9) rfl)) (sRun (xMvI rfl) (sCall (eCall cal154 rfl) (sp_m_ir_scope_has _ a1_params a1_definedb a1_defined (a1_definedh.ext hL.1) a2.Src.Val a3) ?_))))))))
       rintro _ w12 ⟨rfl, he12⟩
       replace hL := hL.ext he12
       refine sRun (xAsB rfl) (sNil (wRet ?_))
       subst hM
       refine res1 (P := Try.prog) (fn := Try.f123) rfl ?_
       exact ⟨rfl, hL.1⟩
      ·try rw [decide_eq_false h11]
       rw [if_neg h11] at hM
       refine wIfF rfl (wSeq (wReg (sRun (xEqlD rfl rfl) (sRun (xAsB rfl) (sNil ?_)))))
       by_cases h13 : a2.Src.Kind = (3 : Int)
       ·try rw [decide_eq_true h13]
        rw [if_pos h13] at hM
        refine wIfT rfl (wSeq (wReg (sRun (xFld (k := 8) Try.underlying66 rfl rfl ti64 (by decide) rfl) (sRun (xFld (k := 1) Try.underlying64 rfl rfl ti3 (by decide) rfl) (sRun (xLoad Try.underlying3 rfl rfl ((hL.bk 0 rfl).cell (i := 9) rfl)) (sRun (xFld0 Try.underlying26 rfl rfl ti3 (by decide) rfl) (sRun (xLoad Try.underlying3 rfl rfl ((hL.bk 2 rfl).cell (i := 0) rfl)) (sRun (xSubW rfl rfl) (sCall (eCall cal73 rfl) (sp_m_ir_within _ a2.Src.Val (wr (a0.Params - (1 : Int)))) ?_)))))))))
        rintro _ w14 ⟨rfl, he14⟩
        replace hL := hL.ext he14
        refine sRun (xAsB rfl) (sNil (wRet ?_))
        subst hM
        refine res1 (P := Try.prog) (fn := Try.f123) rfl ?_
        exact ⟨rfl, hL.1⟩
       ·try rw [decide_eq_false h13]
        rw [if_neg h13] at hM
        refine wIfF rfl (wSkip (wSeq (wReg (sRun (xAsB rfl) (sNil (wRet ?_))))))
        subst hM
        refine res1 (P := Try.prog) (fn := Try.f123) rfl ?_
        exact ⟨rfl, hL.1⟩
   ·have h7n : (m_ir_within a2.Piece (3 : Int)) = false := Bool.eq_false_iff.2 h7
    try rw [h7n]
    rw [if_neg h7] at hM
    refine sGo rfl (sRun (xNot rfl) (sRun (xPkFB rfl rfl) (sNil (wIfT rfl (wSeq (wReg (sRun (xAsB rfl) (sNil (wRet ?_)))))))))
    subst hM
    refine res1 (P := Try.prog) (fn := Try.f123) rfl ?_
    exact ⟨rfl, hL.1⟩
  ·have h5n : (m_ir_within a2.Var (23 : Int)) = false := Bool.eq_false_iff.2 h5
   try rw [h5n]
   rw [if_neg h5] at hM
   refine sRun (xNot rfl) (sRun (xMvB rfl) (sNo rfl (sNo rfl (sNo rfl (sNo rfl (sRun (xPkTB rfl rfl) (sNil (wIfT rfl (wSeq (wReg (sRun (xAsB rfl) (sNil (wRet ?_)))))))))))))
   subst hM
   refine res1 (P := Try.prog) (fn := Try.f123) rfl ?_
   exact ⟨rfl, hL.1⟩

def m_ir_rightTerm_J0 (a0 : (GCode List)) (a1_params : Int) (a1_defined : List (Int × Int)) (a2 : (GTerm List)) (a3 : Int) : Lp (Int) (Bool) :=
  if a2.Kind = (1 : Int) then
   .go (1 : Int)
  else
   if a2.Kind = (2 : Int) then
    .go (2 : Int)
   else
    if a2.Kind = (3 : Int) then
     if (m_ir_absent a2.To.e1) = true then
      .go (1 : Int)
     else
      .go (2 : Int)
    else
     if ((decide (a2.Kind = (4 : Int))) || ((decide (a2.Kind = (5 : Int))) || (decide (a2.Kind = (6 : Int))))) = true then
      .go (0 : Int)
     else
      .out (false)
def m_ir_rightTerm_J1 (a0 : (GCode List)) (a1_params : Int) (a1_defined : List (Int × Int)) (a2 : (GTerm List)) (a3 : Int) (u12 : Int) : Lp (Unit) (Bool) :=
  if (((decide (a2.Kind = (2 : Int))) || (decide (a2.Kind = (4 : Int)))) || (decide (a2.Kind = (5 : Int)))) = true then
   if (m_ir_scope_has a1_params a1_defined a2.A a3) = true then
    .go ()
   else
    .out (false)
  else
   if a2.A ≠ (0 : Int) then
    .out (false)
   else
    .go ()
def m_ir_rightTerm_J2 (a0 : (GCode List)) (a1_params : Int) (a1_defined : List (Int × Int)) (a2 : (GTerm List)) (a3 : Int) (u12 : Int) : Lp (Unit) (Bool) :=
  if ((decide (a2.Kind = (3 : Int))) || (decide (a2.Kind = (6 : Int)))) = true then
   if ((!(m_ir_within a2.N (7 : Int))) || (decide ((4 : Int) < ((a2.Args.length : Nat) : Int)))) = true then
    .out (false)
   else
    .go ()
  else
   if ((decide (a2.N ≠ (0 : Int))) || (decide (((a2.Args.length : Nat) : Int) ≠ (0 : Int)))) = true then
    .out (false)
   else
    .go ()
def m_ir_rightTerm_L3 (a0 : (GCode List)) (a1_params : Int) (a1_defined : List (Int × Int)) (a2 : (GTerm List)) (a3 : Int) (u12 : Int) : List (GEdge List) → Nat → Lp (Unit) (Bool)
  | [], _ => .go ()
  | x55 :: r55, k55 =>
  if (((decide (((k55 : Nat) : Int) < u12)) && (!(m_ir_rightEdge a0 x55 a2.Kind))) || ((decide (u12 ≤ ((k55 : Nat) : Int))) && (!(m_ir_absent x55)))) = true then
   .out (false)
  else
   m_ir_rightTerm_L3 a0 a1_params a1_defined a2 a3 u12 r55 (k55 + 1)
def m_ir_rightTerm (a0 : (GCode List)) (a1_params : Int) (a1_defined : List (Int × Int)) (a2 : (GTerm List)) (a3 : Int) : Bool :=
 if (((!(m_ir_scope_all a1_params a1_defined a3 a2.Args)) || (!(m_ir_scope_all a1_params a1_defined a3 a2.To.e0.Args))) || (!(m_ir_scope_all a1_params a1_defined a3 a2.To.e1.Args))) = true then
  false
 else
  (m_ir_rightTerm_J0 a0 a1_params a1_defined a2 a3).el (fun u12 =>
   (m_ir_rightTerm_J1 a0 a1_params a1_defined a2 a3 u12).el (fun _ =>
    (m_ir_rightTerm_J2 a0 a1_params a1_defined a2 a3 u12).el (fun _ =>
     (m_ir_rightTerm_L3 a0 a1_params a1_defined a2 a3 u12 ([a2.To.e0, a2.To.e1]) 0).el (fun _ =>
      true
       ) (fun o => o)
      ) (fun o => o)
     ) (fun o => o)
    ) (fun o => o)
set_option maxHeartbeats 12800000 in
theorem sp_m_ir_rightTerm (w0 : World) (a0 : (GCode Lst)) (h0 : Dat.ok (fun _ => True) w0 a0) (a1_params : Int) (a1_definedb : Nat) (a1_defined : List (Int × Int)) (a1_definedh : Mp ekI evI w0 a1_definedb a1_defined) (a2 : (GTerm Lst)) (h2 : Dat.ok (fun _ => True) w0 a2) (a3 : Int) : Calls Try.prog 124 #[.agg (GCode.cells a0).toArray, .agg #[.int .i64 a1_params, .map (some a1_definedb)], .agg (GTerm.cells a2).toArray, .int .i64 a3] w0 (Ret fun v w => v = .bool (m_ir_rightTerm (GCode.er a0) a1_params a1_defined (GTerm.er a2) a3) ∧ Ext w0 w) := by
  obtain ⟨X, hM⟩ : ∃ X, m_ir_rightTerm (GCode.er a0) a1_params a1_defined (GTerm.er a2) a3 = X := ⟨_, rfl⟩
  rw [hM]
  unfold m_ir_rightTerm at hM
  try simp only [er1, er2, er3, er4, er5, er6, er7, er8, er9, er10, er11, er12, er13, er14, er15, er16, er17, List.length_map] at hM
  have hL : Bx w0 w0 [] := Bx.nil
  refine calls_of Try.func124 rfl (Nat.le_of_ble_eq_true rfl) (by kernel_rfl) ?_
  refine wCut [(0, .agg (GCode.cells a0).toArray), (1, .agg #[.int .i64 a1_params, .map (some a1_definedb)]), (2, .agg (GTerm.cells a2).toArray), (3, .int .i64 a3)] ⟨rfl, rfl, rfl, rfl, trivial⟩ fun g => ?_
  refine wSeq (wReg (sTo (aNew (mBox rfl)) ?_))
  rintro _ w1 ⟨b1, rfl, hge1, hB1, he1⟩
  replace hL := hL.new hge1 hB1 he1
  refine sTo (aNew (mBox rfl)) ?_
  rintro _ w2 ⟨b2, rfl, hge2, hB2, he2⟩
  replace hL := hL.new hge2 hB2 he2
  refine sTo (aNew (mBox rfl)) ?_
  rintro _ w3 ⟨b3, rfl, hge3, hB3, he3⟩
  replace hL := hL.new hge3 hB3 he3
  refine sRun (xAsB rfl) (sNil (wSeq (wSeq ?_)))
  obtain ⟨E4, hE4⟩ : ∃ E, (((!(m_ir_scope_all a1_params a1_defined a3 a2.Args.l)) || (!(m_ir_scope_all a1_params a1_defined a3 a2.To.e0.Args.l))) || (!(m_ir_scope_all a1_params a1_defined a3 a2.To.e1.Args.l))) = E := ⟨_, rfl⟩
  refine wJ (fun f w => Has f [(3, .int .i64 a3), (4, .pointer (some ⟨b1, 0, none⟩)), (5, .pointer (some ⟨b2, 0, none⟩)), (6, .pointer (some ⟨b3, 0, none⟩)), (38, .bool E4)] ∧ Bx w0 w [.box b3 58 (GTerm.cells a2).toArray, .box b2 199 #[.int .i64 a1_params, .map (some a1_definedb)], .box b1 26 (GCode.cells a0).toArray]) ?_ ?_
  ·refine wReg (sRun (xLoadS [.int .i64 a1_params, .map (some a1_definedb)] Try.underlying199 rfl ti199 rfl rfl ((hL.bk 1 rfl).part rfl)) (sRun (xMvI rfl) (sRun (xFld (k := 3) Try.underlying58 rfl rfl ti37 (by decide) rfl) (sRun (xLoad Try.underlying37 rfl rfl ((hL.bk 0 rfl).cell (i := 3) rfl)) (sCall (eCall cal155 rfl) (sp_m_ir_scope_all _ a1_params a1_definedb a1_defined (a1_definedh.ext hL.1) a3 a2.Args (Dat.all (Dat.ext (x := a2.Args) h2.1 hL.1))) ?_)))))
   rintro _ w5 ⟨rfl, he5⟩
   replace hL := hL.ext he5
   by_cases h6 : (m_ir_scope_all a1_params a1_defined a3 a2.Args.l) = true
   ·try rw [h6]
    refine sRun (xNot rfl) (sRun (xMvB rfl) (sGo rfl (sRun (xLoadS [.int .i64 a1_params, .map (some a1_definedb)] Try.underlying199 rfl ti199 rfl rfl ((hL.bk 1 rfl).part rfl)) (sGo rfl (sRun (xMvI rfl) (sGo rfl (sRun (xFld (k := 4) Try.underlying58 rfl rfl ti56 (by decide) rfl) (sGo rfl (sRun (xIdxA 0 Try.underlying56 ti55 rfl rfl (by omega) (by omega)) (sGo rfl (sRun (xFld (k := 1) Try.underlying55 rfl rfl ti37 (by decide) rfl) (sGo rfl (sRun (xLoad Try.underlying37 rfl rfl ((hL.bk 0 rfl).cell (i := 5) rfl)) ?_)))))))))))))
    refine sGo rfl (sCall (eCall cal155 rfl) (sp_m_ir_scope_all _ a1_params a1_definedb a1_defined (a1_definedh.ext hL.1) a3 a2.To.e0.Args (Dat.all (Dat.ext (x := a2.To.e0.Args) h2.2.1 hL.1))) ?_)
    rintro _ w7 ⟨rfl, he7⟩
    replace hL := hL.ext he7
    by_cases h8 : (m_ir_scope_all a1_params a1_defined a3 a2.To.e0.Args.l) = true
    ·try rw [h8]
     refine sGo rfl (sRun (xNot rfl) (sRun (xPkFB rfl rfl) (sRun (xMvB rfl) (sGo rfl (sRun (xLoadS [.int .i64 a1_params, .map (some a1_definedb)] Try.underlying199 rfl ti199 rfl rfl ((hL.bk 1 rfl).part rfl)) (sGo rfl (sRun (xMvI rfl) (sGo rfl (sRun (xFld (k := 4) Try.underlying58 rfl rfl ti56 (by decide) rfl) (sGo rfl (sRun (xIdxA 1 Try.underlying56 ti55 rfl rfl (by omega) (by omega)) (sGo rfl (sRun (xFld (k := 1) Try.underlying55 rfl rfl ti37 (by decide) rfl) ?_)))))))))))))
     refine sGo rfl (sRun (xLoad Try.underlying37 rfl rfl ((hL.bk 0 rfl).cell (i := 7) rfl)) (sGo rfl (sCall (eCall cal155 rfl) (sp_m_ir_scope_all _ a1_params a1_definedb a1_defined (a1_definedh.ext hL.1) a3 a2.To.e1.Args (Dat.all (Dat.ext (x := a2.To.e1.Args) h2.2.2 hL.1))) ?_)))
     rintro _ w9 ⟨rfl, he9⟩
     replace hL := hL.ext he9
     by_cases h10 : (m_ir_scope_all a1_params a1_defined a3 a2.To.e1.Args.l) = true
     ·try rw [h10]
      refine sGo rfl (sRun (xNot rfl) (sRun (xPkFB rfl rfl) (sNil ?_)))
      exact ⟨⟨rfl, rfl, rfl, rfl, (congrArg Value.bool (by rw [← hE4]; first | (simp [h6, h8, h10]; done) | (simp only [h6, h8, h10]; done) | grind)), trivial⟩, hL⟩
     ·have h10n : (m_ir_scope_all a1_params a1_defined a3 a2.To.e1.Args.l) = false := Bool.eq_false_iff.2 h10
      try rw [h10n]
      refine sGo rfl (sRun (xNot rfl) (sRun (xPkFB rfl rfl) (sNil ?_)))
      exact ⟨⟨rfl, rfl, rfl, rfl, (congrArg Value.bool (by rw [← hE4]; first | (simp [h6, h8, h10n]; done) | (simp only [h6, h8, h10n]; done) | grind)), trivial⟩, hL⟩
    ·have h8n : (m_ir_scope_all a1_params a1_defined a3 a2.To.e0.Args.l) = false := Bool.eq_false_iff.2 h8
     try rw [h8n]
     refine sGo rfl (sRun (xNot rfl) (sRun (xPkFB rfl rfl) (sRun (xMvB rfl) (sNo rfl (sNo rfl (sNo rfl (sNo rfl (sNo rfl (sNo rfl (sNo rfl (sNo rfl (sRun (xPkTB rfl rfl) (sNil ?_)))))))))))))
     exact ⟨⟨rfl, rfl, rfl, rfl, (congrArg Value.bool (by rw [← hE4]; first | (simp [h6, h8n]; done) | (simp only [h6, h8n]; done) | grind)), trivial⟩, hL⟩
   ·have h6n : (m_ir_scope_all a1_params a1_defined a3 a2.Args.l) = false := Bool.eq_false_iff.2 h6
    try rw [h6n]
    refine sRun (xNot rfl) (sRun (xMvB rfl) (sNo rfl (sNo rfl (sNo rfl (sNo rfl (sNo rfl (sNo rfl (sNo rfl (sNo rfl (sRun (xPkTB rfl rfl) (sRun (xMvB rfl) (sNo rfl (sNo rfl ?_)))))))))))))
    refine sNo rfl (sNo rfl (sNo rfl (sNo rfl (sNo rfl (sNo rfl (sRun (xPkTB rfl rfl) (sNil ?_)))))))
    exact ⟨⟨rfl, rfl, rfl, rfl, (congrArg Value.bool (by rw [← hE4]; first | (simp [h6n]; done) | (simp only [h6n]; done) | grind)), trivial⟩, hL⟩
  ·clear hL
   subst hE4
   rintro f w ⟨hf, hL⟩
   obtain ⟨g, rfl⟩ := has_updL _ _ hf
   clear hf
   by_cases h11 : (((!(m_ir_scope_all a1_params a1_defined a3 a2.Args.l)) || (!(m_ir_scope_all a1_params a1_defined a3 a2.To.e0.Args.l))) || (!(m_ir_scope_all a1_params a1_defined a3 a2.To.e1.Args.l))) = true
   ·try rw [h11]
    rw [if_pos h11] at hM
    refine wIfT rfl (wSeq (wReg (sRun (xAsB rfl) (sNil (wRet ?_)))))
    subst hM
    refine res1 (P := Try.prog) (fn := Try.f124) rfl ?_
    exact ⟨rfl, hL.1⟩
   ·have h11n : (((!(m_ir_scope_all a1_params a1_defined a3 a2.Args.l)) || (!(m_ir_scope_all a1_params a1_defined a3 a2.To.e0.Args.l))) || (!(m_ir_scope_all a1_params a1_defined a3 a2.To.e1.Args.l))) = false := Bool.eq_false_iff.2 h11
    try rw [h11n]
    rw [if_neg h11] at hM
    refine wIfF rfl (wSkip (wSeq (wReg (sRun (xAsI rfl) (sNil (wSeq (wSeq (wReg (sRun (xFld0 Try.underlying58 rfl rfl ti3 (by decide) rfl) (sRun (xLoad Try.underlying3 rfl rfl ((hL.bk 0 rfl).cell (i := 0) rfl)) (sNil ?_)))))))))))
    obtain ⟨Y12, hY12⟩ : ∃ Y, m_ir_rightTerm_J0 (GCode.er a0) a1_params a1_defined (GTerm.er a2) a3 = Y := ⟨_, rfl⟩
    rw [hY12] at hM
    refine wJ (fun f w => ∃ (s12_0 : Int), Has f [(3, .int .i64 a3), (4, .pointer (some ⟨b1, 0, none⟩)), (5, .pointer (some ⟨b2, 0, none⟩)), (6, .pointer (some ⟨b3, 0, none⟩)), (9, .int .i64 s12_0)] ∧ Bx w0 w [.box b3 58 (GTerm.cells a2).toArray, .box b2 199 #[.int .i64 a1_params, .map (some a1_definedb)], .box b1 26 (GCode.cells a0).toArray] ∧ Lp.go s12_0 = Y12) ?_ ?_
    ·unfold m_ir_rightTerm_J0 at hY12
     try simp only [er1, er2, er3, er4, er5, er6, er7, er8, er9, er10, er11, er12, er13, er14, er15, er16, er17, List.length_map] at hY12
     refine wBlock (wSeq (wReg (sRun (xEqlD rfl rfl) (sRun (xAsB rfl) (sNil ?_)))))
     by_cases h13 : a2.Kind = (1 : Int)
     ·try rw [decide_eq_true h13]
      rw [if_pos h13] at hY12
      refine wIfT rfl (wReg (sRun (xAsI rfl) (sNil ?_)))
      exact ⟨(1 : Int), ⟨rfl, rfl, rfl, rfl, rfl, trivial⟩, hL, hY12⟩
     ·try rw [decide_eq_false h13]
      rw [if_neg h13] at hY12
      refine wIfF rfl (wSeq (wReg (sRun (xEqlD rfl rfl) (sRun (xAsB rfl) (sNil ?_)))))
      by_cases h14 : a2.Kind = (2 : Int)
      ·try rw [decide_eq_true h14]
       rw [if_pos h14] at hY12
       refine wIfT rfl (wReg (sRun (xAsI rfl) (sNil ?_)))
       exact ⟨(2 : Int), ⟨rfl, rfl, rfl, rfl, rfl, trivial⟩, hL, hY12⟩
      ·try rw [decide_eq_false h14]
       rw [if_neg h14] at hY12
       refine wIfF rfl (wSeq (wReg (sRun (xEqlD rfl rfl) (sRun (xAsB rfl) (sNil ?_)))))
       by_cases h15 : a2.Kind = (3 : Int)
       ·try rw [decide_eq_true h15]
        rw [if_pos h15] at hY12
        refine wIfT rfl (wSeq (wReg (sRun (xAsI rfl) (sNil (wSeq (wReg (sRun (xFld (k := 4) Try.underlying58 rfl rfl ti56 (by decide) rfl) (sRun (xIdxA 1 Try.underlying56 ti55 rfl rfl (by omega) (by omega)) (sRun (xLoadS (GEdge.cells a2.To.e1) Try.underlying55 rfl ti55 rfl rfl ((hL.bk 0 rfl).part rfl)) (sCall (eCall cal156 rfl) (sp_m_ir_absent _ a2.To.e1 (Dat.all (Dat.ext (x := a2.To.e1) h2.2.2 hL.1))) ?_))))))))))
        rintro _ w16 ⟨rfl, he16⟩
        replace hL := hL.ext he16
        by_cases h17 : (m_ir_absent (GEdge.er a2.To.e1)) = true
        ·try rw [h17]
         rw [if_pos h17] at hY12
         refine sRun (xNot rfl) (sNil (wIfF rfl (wSkip ?_)))
         exact ⟨(1 : Int), ⟨rfl, rfl, rfl, rfl, rfl, trivial⟩, hL, hY12⟩
        ·have h17n : (m_ir_absent (GEdge.er a2.To.e1)) = false := Bool.eq_false_iff.2 h17
         try rw [h17n]
         rw [if_neg h17] at hY12
         refine sRun (xNot rfl) (sNil (wIfT rfl (wReg (sRun (xAsI rfl) (sNil ?_)))))
         exact ⟨(2 : Int), ⟨rfl, rfl, rfl, rfl, rfl, trivial⟩, hL, hY12⟩
       ·try rw [decide_eq_false h15]
        rw [if_neg h15] at hY12
        refine wIfF rfl (wSeq (wSeq (wReg (sRun (xEqlD rfl rfl) (sRun (xAsB rfl) (sNil ?_))))))
        obtain ⟨E18, hE18⟩ : ∃ E, ((decide (a2.Kind = (4 : Int))) || ((decide (a2.Kind = (5 : Int))) || (decide (a2.Kind = (6 : Int))))) = E := ⟨_, rfl⟩
        refine wJ (fun f w => Has f [(3, .int .i64 a3), (4, .pointer (some ⟨b1, 0, none⟩)), (5, .pointer (some ⟨b2, 0, none⟩)), (6, .pointer (some ⟨b3, 0, none⟩)), (9, .int .i64 (0 : Int)), (52, .bool E18)] ∧ Bx w0 w [.box b3 58 (GTerm.cells a2).toArray, .box b2 199 #[.int .i64 a1_params, .map (some a1_definedb)], .box b1 26 (GCode.cells a0).toArray]) ?_ ?_
        ·by_cases h19 : a2.Kind = (4 : Int)
         ·try rw [decide_eq_true h19]
          refine wIfT rfl (wSkip ?_)
          exact ⟨⟨rfl, rfl, rfl, rfl, rfl, (congrArg Value.bool (by rw [← hE18]; first | (simp [h19]; done) | (simp only [decide_eq_true h19]; done) | grind)), trivial⟩, hL⟩
         ·try rw [decide_eq_false h19]
          refine wIfF rfl (wSeq (wReg (sRun (xEqlD rfl rfl) (sRun (xAsB rfl) (sNil ?_)))))
          obtain ⟨E20, hE20⟩ : ∃ E, ((decide (a2.Kind = (5 : Int))) || (decide (a2.Kind = (6 : Int)))) = E := ⟨_, rfl⟩
          refine wJ (fun f w => Has f [(3, .int .i64 a3), (4, .pointer (some ⟨b1, 0, none⟩)), (5, .pointer (some ⟨b2, 0, none⟩)), (6, .pointer (some ⟨b3, 0, none⟩)), (9, .int .i64 (0 : Int)), (52, .bool E20)] ∧ Bx w0 w [.box b3 58 (GTerm.cells a2).toArray, .box b2 199 #[.int .i64 a1_params, .map (some a1_definedb)], .box b1 26 (GCode.cells a0).toArray]) ?_ ?_
          ·by_cases h21 : a2.Kind = (5 : Int)
           ·try rw [decide_eq_true h21]
            refine wIfT rfl (wSkip ?_)
            exact ⟨⟨rfl, rfl, rfl, rfl, rfl, (congrArg Value.bool (by rw [← hE20]; first | (simp [h21]; done) | (simp only [decide_eq_true h21]; done) | grind)), trivial⟩, hL⟩
           ·try rw [decide_eq_false h21]
            refine wIfF rfl (wReg (sRun (xEqlD rfl rfl) (sRun (xAsB rfl) (sNil ?_))))
            exact ⟨⟨rfl, rfl, rfl, rfl, rfl, (congrArg Value.bool (by rw [← hE20]; first | (simp [h21]; done) | (simp only [decide_eq_false h21]; done) | grind)), trivial⟩, hL⟩
          ·clear hL
           subst hE20
           rintro f w ⟨hf, hL⟩
           obtain ⟨g, rfl⟩ := has_updL _ _ hf
           clear hf
           exact ⟨⟨rfl, rfl, rfl, rfl, rfl, (congrArg Value.bool (by rw [← hE18]; first | (simp [h19]; done) | (simp only [decide_eq_false h19]; done) | grind)), trivial⟩, hL⟩
        ·clear hL
         subst hE18
         rintro f w ⟨hf, hL⟩
         obtain ⟨g, rfl⟩ := has_updL _ _ hf
         clear hf
         by_cases h22 : ((decide (a2.Kind = (4 : Int))) || ((decide (a2.Kind = (5 : Int))) || (decide (a2.Kind = (6 : Int))))) = true
         ·try rw [h22]
          rw [if_pos h22] at hY12
          refine wIfT rfl (wSkip ?_)
          exact ⟨(0 : Int), ⟨rfl, rfl, rfl, rfl, rfl, trivial⟩, hL, hY12⟩
         ·have h22n : ((decide (a2.Kind = (4 : Int))) || ((decide (a2.Kind = (5 : Int))) || (decide (a2.Kind = (6 : Int))))) = false := Bool.eq_false_iff.2 h22
          try rw [h22n]
          rw [if_neg h22] at hY12
          have h23 : ¬ (a2.Kind = (4 : Int)) := fun hq => by rw [decide_eq_true hq] at h22; simp at h22
          have h24 : ¬ (a2.Kind = (5 : Int)) := fun hq => by rw [decide_eq_true hq] at h22; simp at h22
          have h25 : ¬ (a2.Kind = (6 : Int)) := fun hq => by rw [decide_eq_true hq] at h22; simp at h22
          refine wIfF rfl (wSeq (wReg (sRun (xAsB rfl) (sNil (wRet ?_)))))
          subst hY12
          rw [Lp.el_out] at hM
          try dsimp only at hM
          subst hM
          refine res1 (P := Try.prog) (fn := Try.f124) rfl ?_
          exact ⟨rfl, hL.1⟩
    ·clear hL
     rintro f w ⟨s12_0, hf, hL, hZ12⟩
     obtain ⟨g, rfl⟩ := has_updL _ _ hf
     clear hf
     subst hZ12
     rw [Lp.el_go] at hM
     try dsimp only at hM
     refine wSeq (wSeq ?_)
     obtain ⟨E26, hE26⟩ : ∃ E, (((decide (a2.Kind = (2 : Int))) || (decide (a2.Kind = (4 : Int)))) || (decide (a2.Kind = (5 : Int)))) = E := ⟨_, rfl⟩
     refine wJ (fun f w => Has f [(3, .int .i64 a3), (4, .pointer (some ⟨b1, 0, none⟩)), (5, .pointer (some ⟨b2, 0, none⟩)), (6, .pointer (some ⟨b3, 0, none⟩)), (9, .int .i64 s12_0), (10, .bool E26)] ∧ Bx w0 w [.box b3 58 (GTerm.cells a2).toArray, .box b2 199 #[.int .i64 a1_params, .map (some a1_definedb)], .box b1 26 (GCode.cells a0).toArray]) ?_ ?_
     ·refine wReg (sRun (xFld0 Try.underlying58 rfl rfl ti3 (by decide) rfl) (sRun (xLoad Try.underlying3 rfl rfl ((hL.bk 0 rfl).cell (i := 0) rfl)) (sRun (xEqlD rfl rfl) (sRun (xMvB rfl) ?_))))
      by_cases h27 : a2.Kind = (2 : Int)
      ·try rw [decide_eq_true h27]
       refine sNo rfl (sNo rfl (sNo rfl (sRun (xPkTB rfl rfl) (sRun (xMvB rfl) (sNo rfl (sNo rfl (sNo rfl (sRun (xPkTB rfl rfl) (sRun (xAsB rfl) (sNil ?_))))))))))
       exact ⟨⟨rfl, rfl, rfl, rfl, rfl, (congrArg Value.bool (by rw [← hE26]; first | (simp [h27]; done) | (simp only [decide_eq_true h27]; done) | grind)), trivial⟩, hL⟩
      ·try rw [decide_eq_false h27]
       refine sGo rfl (sRun (xFld0 Try.underlying58 rfl rfl ti3 (by decide) rfl) (sGo rfl (sRun (xLoad Try.underlying3 rfl rfl ((hL.bk 0 rfl).cell (i := 0) rfl)) (sGo rfl (sRun (xEqlD rfl rfl) (sRun (xPkFB rfl rfl) (sRun (xMvB rfl) ?_)))))))
       by_cases h28 : a2.Kind = (4 : Int)
       ·try rw [decide_eq_true h28]
        refine sNo rfl (sNo rfl (sNo rfl (sRun (xPkTB rfl rfl) (sRun (xAsB rfl) (sNil ?_)))))
        exact ⟨⟨rfl, rfl, rfl, rfl, rfl, (congrArg Value.bool (by rw [← hE26]; first | (simp [h27, h28]; done) | (simp only [decide_eq_false h27, decide_eq_true h28]; done) | grind)), trivial⟩, hL⟩
       ·try rw [decide_eq_false h28]
        refine sGo rfl (sRun (xFld0 Try.underlying58 rfl rfl ti3 (by decide) rfl) (sGo rfl (sRun (xLoad Try.underlying3 rfl rfl ((hL.bk 0 rfl).cell (i := 0) rfl)) (sGo rfl (sRun (xEqlD rfl rfl) (sRun (xPkFB rfl rfl) (sRun (xAsB rfl) (sNil ?_))))))))
        exact ⟨⟨rfl, rfl, rfl, rfl, rfl, (congrArg Value.bool (by rw [← hE26]; first | (simp [h27, h28]; done) | (simp only [decide_eq_false h27, decide_eq_false h28]; done) | grind)), trivial⟩, hL⟩
     ·clear hL
      subst hE26
      rintro f w ⟨hf, hL⟩
      obtain ⟨g, rfl⟩ := has_updL _ _ hf
      clear hf
      refine wSeq (wReg (sRun (xMvB rfl) (sNil ?_)))
      obtain ⟨Y29, hY29⟩ : ∃ Y, m_ir_rightTerm_J1 (GCode.er a0) a1_params a1_defined (GTerm.er a2) a3 s12_0 = Y := ⟨_, rfl⟩
      rw [hY29] at hM
      refine wJ (fun f w => Has f [(4, .pointer (some ⟨b1, 0, none⟩)), (6, .pointer (some ⟨b3, 0, none⟩)), (9, .int .i64 s12_0)] ∧ Bx w0 w [.box b3 58 (GTerm.cells a2).toArray, .box b2 199 #[.int .i64 a1_params, .map (some a1_definedb)], .box b1 26 (GCode.cells a0).toArray] ∧ Lp.go () = Y29) ?_ ?_
      ·unfold m_ir_rightTerm_J1 at hY29
       try simp only [er1, er2, er3, er4, er5, er6, er7, er8, er9, er10, er11, er12, er13, er14, er15, er16, er17, List.length_map] at hY29
       by_cases h30 : (((decide (a2.Kind = (2 : Int))) || (decide (a2.Kind = (4 : Int)))) || (decide (a2.Kind = (5 : Int)))) = true
       ·try rw [h30]
        rw [if_pos h30] at hY29
        refine wIfT rfl (wSeq (wReg (sRun (xLoadS [.int .i64 a1_params, .map (some a1_definedb)] Try.underlying199 rfl ti199 rfl rfl ((hL.bk 1 rfl).part rfl)) (sRun (xFld (k := 1) Try.underlying58 rfl rfl ti3 (by decide) rfl) (sRun (xLoad Try.underlying3 rfl rfl ((hL.bk 0 rfl).cell (i := 1) rfl)) (sRun (xMvI rfl) (sCall (eCall cal154 rfl) (sp_m_ir_scope_has _ a1_params a1_definedb a1_defined (a1_definedh.ext hL.1) a2.A a3) ?_)))))))
        rintro _ w31 ⟨rfl, he31⟩
        replace hL := hL.ext he31
        by_cases h32 : (m_ir_scope_has a1_params a1_defined a2.A a3) = true
        ·try rw [h32]
         rw [if_pos h32] at hY29
         refine sRun (xNot rfl) (sNil (wIfF rfl (wSkip ?_)))
         exact ⟨⟨rfl, rfl, rfl, trivial⟩, hL, hY29⟩
        ·have h32n : (m_ir_scope_has a1_params a1_defined a2.A a3) = false := Bool.eq_false_iff.2 h32
         try rw [h32n]
         rw [if_neg h32] at hY29
         refine sRun (xNot rfl) (sNil (wIfT rfl (wSeq (wReg (sRun (xAsB rfl) (sNil (wRet ?_)))))))
         subst hY29
         rw [Lp.el_out] at hM
         try dsimp only at hM
         subst hM
         refine res1 (P := Try.prog) (fn := Try.f124) rfl ?_
         exact ⟨rfl, hL.1⟩
       ·have h30n : (((decide (a2.Kind = (2 : Int))) || (decide (a2.Kind = (4 : Int)))) || (decide (a2.Kind = (5 : Int)))) = false := Bool.eq_false_iff.2 h30
        try rw [h30n]
        rw [if_neg h30] at hY29
        have h33 : ¬ (a2.Kind = (2 : Int)) := fun hq => by rw [decide_eq_true hq] at h30; simp at h30
        have h34 : ¬ (a2.Kind = (4 : Int)) := fun hq => by rw [decide_eq_true hq] at h30; simp at h30
        have h35 : ¬ (a2.Kind = (5 : Int)) := fun hq => by rw [decide_eq_true hq] at h30; simp at h30
        refine wIfF rfl (wSeq (wReg (sRun (xFld (k := 1) Try.underlying58 rfl rfl ti3 (by decide) rfl) (sRun (xLoad Try.underlying3 rfl rfl ((hL.bk 0 rfl).cell (i := 1) rfl)) (sRun (xNeqD rfl rfl) (sNil ?_))))))
        by_cases h36 : a2.A ≠ (0 : Int)
        ·try rw [decide_eq_true h36]
         rw [if_pos h36] at hY29
         refine wIfT rfl (wSeq (wReg (sRun (xAsB rfl) (sNil (wRet ?_)))))
         subst hY29
         rw [Lp.el_out] at hM
         try dsimp only at hM
         subst hM
         refine res1 (P := Try.prog) (fn := Try.f124) rfl ?_
         exact ⟨rfl, hL.1⟩
        ·try rw [decide_eq_false h36]
         rw [if_neg h36] at hY29
         refine wIfF rfl (wSkip ?_)
         exact ⟨⟨rfl, rfl, rfl, trivial⟩, hL, hY29⟩
      ·clear hL
       rintro f w ⟨hf, hL, hZ29⟩
       obtain ⟨g, rfl⟩ := has_updL _ _ hf
       clear hf
       subst hZ29
       rw [Lp.el_go] at hM
       try dsimp only at hM
       refine wSeq (wSeq ?_)
       obtain ⟨E37, hE37⟩ : ∃ E, ((decide (a2.Kind = (3 : Int))) || (decide (a2.Kind = (6 : Int)))) = E := ⟨_, rfl⟩
       refine wJ (fun f w => Has f [(4, .pointer (some ⟨b1, 0, none⟩)), (6, .pointer (some ⟨b3, 0, none⟩)), (9, .int .i64 s12_0), (86, .bool E37)] ∧ Bx w0 w [.box b3 58 (GTerm.cells a2).toArray, .box b2 199 #[.int .i64 a1_params, .map (some a1_definedb)], .box b1 26 (GCode.cells a0).toArray]) ?_ ?_
       ·refine wReg (sRun (xFld0 Try.underlying58 rfl rfl ti3 (by decide) rfl) (sRun (xLoad Try.underlying3 rfl rfl ((hL.bk 0 rfl).cell (i := 0) rfl)) (sRun (xEqlD rfl rfl) (sRun (xMvB rfl) ?_))))
        by_cases h38 : a2.Kind = (3 : Int)
        ·try rw [decide_eq_true h38]
         refine sNo rfl (sNo rfl (sNo rfl (sRun (xPkTB rfl rfl) (sNil ?_))))
         exact ⟨⟨rfl, rfl, rfl, (congrArg Value.bool (by rw [← hE37]; first | (simp [h38]; done) | (simp only [decide_eq_true h38]; done) | grind)), trivial⟩, hL⟩
        ·try rw [decide_eq_false h38]
         refine sGo rfl (sRun (xFld0 Try.underlying58 rfl rfl ti3 (by decide) rfl) (sGo rfl (sRun (xLoad Try.underlying3 rfl rfl ((hL.bk 0 rfl).cell (i := 0) rfl)) (sGo rfl (sRun (xEqlD rfl rfl) (sRun (xPkFB rfl rfl) (sNil ?_)))))))
         exact ⟨⟨rfl, rfl, rfl, (congrArg Value.bool (by rw [← hE37]; first | (simp [h38]; done) | (simp only [decide_eq_false h38]; done) | grind)), trivial⟩, hL⟩
       ·clear hL
        subst hE37
        rintro f w ⟨hf, hL⟩
        obtain ⟨g, rfl⟩ := has_updL _ _ hf
        clear hf
        obtain ⟨Y39, hY39⟩ : ∃ Y, m_ir_rightTerm_J2 (GCode.er a0) a1_params a1_defined (GTerm.er a2) a3 s12_0 = Y := ⟨_, rfl⟩
        rw [hY39] at hM
        refine wJ (fun f w => Has f [(4, .pointer (some ⟨b1, 0, none⟩)), (6, .pointer (some ⟨b3, 0, none⟩)), (9, .int .i64 s12_0)] ∧ Bx w0 w [.box b3 58 (GTerm.cells a2).toArray, .box b2 199 #[.int .i64 a1_params, .map (some a1_definedb)], .box b1 26 (GCode.cells a0).toArray] ∧ Lp.go () = Y39) ?_ ?_
        ·unfold m_ir_rightTerm_J2 at hY39
         try simp only [er1, er2, er3, er4, er5, er6, er7, er8, er9, er10, er11, er12, er13, er14, er15, er16, er17, List.length_map] at hY39
         by_cases h40 : ((decide (a2.Kind = (3 : Int))) || (decide (a2.Kind = (6 : Int)))) = true
         ·try rw [h40]
          rw [if_pos h40] at hY39
          refine wIfT rfl (wSeq ?_)
          obtain ⟨E41, hE41⟩ : ∃ E, ((!(m_ir_within a2.N (7 : Int))) || (decide ((4 : Int) < ((a2.Args.l.length : Nat) : Int)))) = E := ⟨_, rfl⟩
          refine wJ (fun f w => Has f [(4, .pointer (some ⟨b1, 0, none⟩)), (6, .pointer (some ⟨b3, 0, none⟩)), (9, .int .i64 s12_0), (96, .bool E41)] ∧ Bx w0 w [.box b3 58 (GTerm.cells a2).toArray, .box b2 199 #[.int .i64 a1_params, .map (some a1_definedb)], .box b1 26 (GCode.cells a0).toArray]) ?_ ?_
          ·refine wReg (sRun (xFld (k := 2) Try.underlying58 rfl rfl ti3 (by decide) rfl) (sRun (xLoad Try.underlying3 rfl rfl ((hL.bk 0 rfl).cell (i := 2) rfl)) (sCall (eCall cal73 rfl) (sp_m_ir_within _ a2.N (7 : Int)) ?_)))
           rintro _ w42 ⟨rfl, he42⟩
           replace hL := hL.ext he42
           by_cases h43 : (m_ir_within a2.N (7 : Int)) = true
           ·try rw [h43]
            refine sRun (xNot rfl) (sRun (xMvB rfl) (sGo rfl (sRun (xFld (k := 3) Try.underlying58 rfl rfl ti37 (by decide) rfl) (sGo rfl (sRun (xLoad Try.underlying37 rfl rfl ((hL.bk 0 rfl).cell (i := 3) rfl)) (sGo rfl ?_))))))
            have hl44 : a2.Args.l.length * 8 ≤ 140737488355328 := Lst.bd h2.1
            refine sRun (xLnL (s := a2.Args) Try.underlying37 rfl) (sGo rfl (sRun (xGtr rfl rfl) (sRun (xPkFB rfl rfl) (sNil ?_))))
            exact ⟨⟨rfl, rfl, rfl, (congrArg Value.bool (by rw [← hE41]; first | (simp [h43]; done) | (simp only [h43]; done) | grind)), trivial⟩, hL⟩
           ·have h43n : (m_ir_within a2.N (7 : Int)) = false := Bool.eq_false_iff.2 h43
            try rw [h43n]
            refine sRun (xNot rfl) (sRun (xMvB rfl) (sNo rfl (sNo rfl (sNo rfl (sNo rfl (sRun (xPkTB rfl rfl) (sNil ?_)))))))
            exact ⟨⟨rfl, rfl, rfl, (congrArg Value.bool (by rw [← hE41]; first | (simp [h43n]; done) | (simp only [h43n]; done) | grind)), trivial⟩, hL⟩
          ·clear hL
           subst hE41
           rintro f w ⟨hf, hL⟩
           obtain ⟨g, rfl⟩ := has_updL _ _ hf
           clear hf
           by_cases h45 : ((!(m_ir_within a2.N (7 : Int))) || (decide ((4 : Int) < ((a2.Args.l.length : Nat) : Int)))) = true
           ·try rw [h45]
            rw [if_pos h45] at hY39
            refine wIfT rfl (wSeq (wReg (sRun (xAsB rfl) (sNil (wRet ?_)))))
            subst hY39
            rw [Lp.el_out] at hM
            try dsimp only at hM
            subst hM
            refine res1 (P := Try.prog) (fn := Try.f124) rfl ?_
            exact ⟨rfl, hL.1⟩
           ·have h45n : ((!(m_ir_within a2.N (7 : Int))) || (decide ((4 : Int) < ((a2.Args.l.length : Nat) : Int)))) = false := Bool.eq_false_iff.2 h45
            try rw [h45n]
            rw [if_neg h45] at hY39
            have h46 : ¬ ((4 : Int) < ((a2.Args.l.length : Nat) : Int)) := fun hq => by rw [decide_eq_true hq] at h45; simp at h45
            refine wIfF rfl (wSkip ?_)
            exact ⟨⟨rfl, rfl, rfl, trivial⟩, hL, hY39⟩
         ·have h40n : ((decide (a2.Kind = (3 : Int))) || (decide (a2.Kind = (6 : Int)))) = false := Bool.eq_false_iff.2 h40
          try rw [h40n]
          rw [if_neg h40] at hY39
          have h47 : ¬ (a2.Kind = (3 : Int)) := fun hq => by rw [decide_eq_true hq] at h40; simp at h40
          have h48 : ¬ (a2.Kind = (6 : Int)) := fun hq => by rw [decide_eq_true hq] at h40; simp at h40
          refine wIfF rfl (wSeq ?_)
          obtain ⟨E49, hE49⟩ : ∃ E, ((decide (a2.N ≠ (0 : Int))) || (decide (((a2.Args.l.length : Nat) : Int) ≠ (0 : Int)))) = E := ⟨_, rfl⟩
          refine wJ (fun f w => Has f [(4, .pointer (some ⟨b1, 0, none⟩)), (6, .pointer (some ⟨b3, 0, none⟩)), (9, .int .i64 s12_0), (105, .bool E49)] ∧ Bx w0 w [.box b3 58 (GTerm.cells a2).toArray, .box b2 199 #[.int .i64 a1_params, .map (some a1_definedb)], .box b1 26 (GCode.cells a0).toArray]) ?_ ?_
          ·refine wReg (sRun (xFld (k := 2) Try.underlying58 rfl rfl ti3 (by decide) rfl) (sRun (xLoad Try.underlying3 rfl rfl ((hL.bk 0 rfl).cell (i := 2) rfl)) (sRun (xNeqD rfl rfl) (sRun (xMvB rfl) ?_))))
           by_cases h50 : a2.N ≠ (0 : Int)
           ·try rw [decide_eq_true h50]
            refine sNo rfl (sNo rfl (sNo rfl (sNo rfl (sRun (xPkTB rfl rfl) (sNil ?_)))))
            exact ⟨⟨rfl, rfl, rfl, (congrArg Value.bool (by rw [← hE49]; first | (simp [h50]; done) | (simp only [decide_eq_true h50]; done) | grind)), trivial⟩, hL⟩
           ·try rw [decide_eq_false h50]
            refine sGo rfl (sRun (xFld (k := 3) Try.underlying58 rfl rfl ti37 (by decide) rfl) (sGo rfl (sRun (xLoad Try.underlying37 rfl rfl ((hL.bk 0 rfl).cell (i := 3) rfl)) (sGo rfl ?_))))
            have hl51 : a2.Args.l.length * 8 ≤ 140737488355328 := Lst.bd h2.1
            refine sRun (xLnL (s := a2.Args) Try.underlying37 rfl) (sGo rfl (sRun (xNeqD rfl rfl) (sRun (xPkFB rfl rfl) (sNil ?_))))
            exact ⟨⟨rfl, rfl, rfl, (congrArg Value.bool (by rw [← hE49]; first | (simp [h50]; done) | (simp only [decide_eq_false h50]; done) | grind)), trivial⟩, hL⟩
          ·clear hL
           subst hE49
           rintro f w ⟨hf, hL⟩
           obtain ⟨g, rfl⟩ := has_updL _ _ hf
           clear hf
           by_cases h52 : ((decide (a2.N ≠ (0 : Int))) || (decide (((a2.Args.l.length : Nat) : Int) ≠ (0 : Int)))) = true
           ·try rw [h52]
            rw [if_pos h52] at hY39
            refine wIfT rfl (wSeq (wReg (sRun (xAsB rfl) (sNil (wRet ?_)))))
            subst hY39
            rw [Lp.el_out] at hM
            try dsimp only at hM
            subst hM
            refine res1 (P := Try.prog) (fn := Try.f124) rfl ?_
            exact ⟨rfl, hL.1⟩
           ·have h52n : ((decide (a2.N ≠ (0 : Int))) || (decide (((a2.Args.l.length : Nat) : Int) ≠ (0 : Int)))) = false := Bool.eq_false_iff.2 h52
            try rw [h52n]
            rw [if_neg h52] at hY39
            have h53 : ¬ (a2.N ≠ (0 : Int)) := fun hq => by rw [decide_eq_true hq] at h52; simp at h52
            have h54 : ¬ (((a2.Args.l.length : Nat) : Int) ≠ (0 : Int)) := fun hq => by rw [decide_eq_true hq] at h52; simp at h52
            refine wIfF rfl (wSkip ?_)
            exact ⟨⟨rfl, rfl, rfl, trivial⟩, hL, hY39⟩
        ·clear hL
         rintro f w ⟨hf, hL, hZ39⟩
         obtain ⟨g, rfl⟩ := has_updL _ _ hf
         clear hf
         subst hZ39
         rw [Lp.el_go] at hM
         try dsimp only at hM
         refine wSeq (wSeq (wReg (sRun (xFld (k := 4) Try.underlying58 rfl rfl ti56 (by decide) rfl) (sRun (xLoadS (GArr56.cells a2.To) Try.underlying56 rfl ti56 rfl rfl ((hL.bk 0 rfl).part rfl)) (sRun (xMvI rfl) (sNil ?_))))))
         obtain ⟨Y55, hY55⟩ : ∃ Y, m_ir_rightTerm_L3 (GCode.er a0) a1_params a1_defined (GTerm.er a2) a3 s12_0 (([a2.To.e0, a2.To.e1] : List (GEdge Lst)).map GEdge.er) 0 = Y := ⟨_, rfl⟩
         rw [show m_ir_rightTerm_L3 (GCode.er a0) a1_params a1_defined (GTerm.er a2) a3 s12_0 [GEdge.er a2.To.e0, GEdge.er a2.To.e1] 0 = Y55 from hY55] at hM
         refine wJ (fun f w => Has f [(4, .pointer (some ⟨b1, 0, none⟩)), (6, .pointer (some ⟨b3, 0, none⟩)), (9, .int .i64 s12_0), (107, .agg (GArr56.cells a2.To).toArray)] ∧ Bx w0 w [.box b3 58 (GTerm.cells a2).toArray, .box b2 199 #[.int .i64 a1_params, .map (some a1_definedb)], .box b1 26 (GCode.cells a0).toArray] ∧ Lp.go () = Y55) ?_ ?_
         ·refine wBlock (wLoopG (fun n f w => ∃ (k55 : Nat), n = 2 - k55 ∧ k55 ≤ 2 ∧ Has f [(108, .int .i64 ((k55 : Nat) : Int)), (4, .pointer (some ⟨b1, 0, none⟩)), (6, .pointer (some ⟨b3, 0, none⟩)), (9, .int .i64 s12_0), (107, .agg (GArr56.cells a2.To).toArray)] ∧ Bx w0 w [.box b3 58 (GTerm.cells a2).toArray, .box b2 199 #[.int .i64 a1_params, .map (some a1_definedb)], .box b1 26 (GCode.cells a0).toArray] ∧ m_ir_rightTerm_L3 (GCode.er a0) a1_params a1_defined (GTerm.er a2) a3 s12_0 ((([a2.To.e0, a2.To.e1] : List (GEdge Lst)).map GEdge.er).drop k55) k55 = Y55) (2) ⟨0, rfl, Nat.zero_le _, ⟨rfl, rfl, rfl, rfl, rfl, trivial⟩, hL, hY55⟩ ?_)
          clear hL hY55
          rintro n f w ⟨k55, rfl, hk55, hf, hL, hY55⟩
          obtain ⟨g, rfl⟩ := has_updL _ _ hf
          clear hf
          rcases Nat.lt_or_ge k55 2 with hk55b | hk55b
          ·obtain ⟨x55, hx55⟩ := get_ex (l := ([a2.To.e0, a2.To.e1] : List (GEdge Lst))) hk55b
           rw [drop_map hx55, m_ir_rightTerm_L3] at hY55
           try simp only [er1, er2, er3, er4, er5, er6, er7, er8, er9, er10, er11, er12, er13, er14, er15, er16, er17, List.length_map] at hY55
           refine wSeq (wReg (sRun (xLssT rfl rfl (by omega)) (sNil (wSeq (wIfT rfl (wSkip (wSeq (wBlock (wSeq (wReg (sRun (xMvI rfl) (sRun (xIdV (l := ([a2.To.e0, a2.To.e1] : List (GEdge Lst))) Try.underlying56 ti55 hx55 (by kernel_rfl) rfl rfl rfl rfl rfl) (sTo (aNew (mAlloc ti55)) ?_)))))))))))))
           rintro _ w56 ⟨b56, rfl, hge56, hB56, he56⟩
           replace hL := hL.new hge56 hB56 he56
           refine sRun (xAsI rfl) (sStS ti55 rfl rfl rfl (by simp [Value.oneCell', Dat.cells, GEdge.cells]) (hL.bk 0 rfl) rfl ?_)
           intro w57 hB57 hC57
           replace hL : Bx w0 w57 [.box b56 55 (GEdge.cells x55).toArray, .box b3 58 (GTerm.cells a2).toArray, .box b2 199 #[.int .i64 a1_params, .map (some a1_definedb)], .box b1 26 (GCode.cells a0).toArray] := hL.wr 0 rfl hC57 hB57
           refine sNil (wSeq ?_)
           obtain ⟨E58, hE58⟩ : ∃ E, (((decide (((k55 : Nat) : Int) < s12_0)) && (!(m_ir_rightEdge (GCode.er a0) (GEdge.er x55) a2.Kind))) || ((decide (s12_0 ≤ ((k55 : Nat) : Int))) && (!(m_ir_absent (GEdge.er x55))))) = E := ⟨_, rfl⟩
           refine wJ (fun f w => Has f [(4, .pointer (some ⟨b1, 0, none⟩)), (6, .pointer (some ⟨b3, 0, none⟩)), (9, .int .i64 s12_0), (107, .agg (GArr56.cells a2.To).toArray), (108, .int .i64 ((k55 : Nat) : Int)), (132, .bool E58)] ∧ Bx w0 w [.box b56 55 (GEdge.cells x55).toArray, .box b3 58 (GTerm.cells a2).toArray, .box b2 199 #[.int .i64 a1_params, .map (some a1_definedb)], .box b1 26 (GCode.cells a0).toArray]) ?_ ?_
           ·refine wReg (sRun (xMvI rfl) (sRun (xMvI rfl) (sRun (xLss rfl rfl) (sRun (xMvB rfl) ?_))))
            by_cases h59 : ((k55 : Nat) : Int) < s12_0
            ·try rw [decide_eq_true h59]
             refine sGo rfl (sRun (xLoadS (GCode.cells a0) Try.underlying26 rfl ti26 rfl rfl ((hL.bk 3 rfl).part rfl)) (sGo rfl (sRun (xLoadS (GEdge.cells x55) Try.underlying55 rfl ti55 rfl rfl ((hL.bk 0 rfl).part rfl)) (sGo rfl (sRun (xFld0 Try.underlying58 rfl rfl ti3 (by decide) rfl) (sGo rfl (sRun (xLoad Try.underlying3 rfl rfl ((hL.bk 1 rfl).cell (i := 0) rfl)) (sGo rfl (sCall (eCall cal157 rfl) (sp_m_ir_rightEdge _ a0 (Dat.all (Dat.ext (x := a0) h0 hL.1)) x55 (Dat.all (Dat.ext (x := x55) (get2 h2.2.1 h2.2.2 hx55) hL.1)) a2.Kind) ?_)))))))))
             rintro _ w60 ⟨rfl, he60⟩
             replace hL := hL.ext he60
             by_cases h61 : (m_ir_rightEdge (GCode.er a0) (GEdge.er x55) a2.Kind) = true
             ·try rw [h61]
              refine sGo rfl (sRun (xNot rfl) (sRun (xPkTB rfl rfl) (sRun (xMvB rfl) (sGo rfl (sRun (xMvI rfl) (sGo rfl (sRun (xMvI rfl) (sGo rfl (sRun (xGeqF rfl rfl (by omega)) (sGo rfl (sRun (xMvB rfl) (sNo rfl (sNo rfl ?_)))))))))))))
              refine sNo rfl (sGo rfl (sRun (xPkFB rfl rfl) (sRun (xPkFB rfl rfl) (sNil ?_))))
              exact ⟨⟨rfl, rfl, rfl, rfl, rfl, (congrArg Value.bool (by rw [← hE58]; first | (simp [h59, h61]; done) | (simp only [decide_eq_true h59, h61, decide_eq_false (show ¬ (s12_0 ≤ ((k55 : Nat) : Int)) by omega)]; done) | grind)), trivial⟩, hL⟩
             ·have h61n : (m_ir_rightEdge (GCode.er a0) (GEdge.er x55) a2.Kind) = false := Bool.eq_false_iff.2 h61
              try rw [h61n]
              refine sGo rfl (sRun (xNot rfl) (sRun (xPkTB rfl rfl) (sRun (xMvB rfl) (sNo rfl (sNo rfl (sNo rfl (sNo rfl (sNo rfl (sNo rfl (sNo rfl (sNo rfl (sRun (xPkTB rfl rfl) (sNil ?_)))))))))))))
              exact ⟨⟨rfl, rfl, rfl, rfl, rfl, (congrArg Value.bool (by rw [← hE58]; first | (simp [h59, h61n]; done) | (simp only [decide_eq_true h59, h61n]; done) | grind)), trivial⟩, hL⟩
            ·try rw [decide_eq_false h59]
             refine sNo rfl (sNo rfl (sNo rfl (sNo rfl (sNo rfl (sNo rfl (sRun (xPkFB rfl rfl) (sRun (xMvB rfl) (sGo rfl (sRun (xMvI rfl) (sGo rfl (sRun (xMvI rfl) (sGo rfl (sRun (xGeqT rfl rfl (by omega)) ?_)))))))))))))
             refine sGo rfl (sRun (xMvB rfl) (sGo rfl (sRun (xLoadS (GEdge.cells x55) Try.underlying55 rfl ti55 rfl rfl ((hL.bk 0 rfl).part rfl)) (sGo rfl (sCall (eCall cal156 rfl) (sp_m_ir_absent _ x55 (Dat.all (Dat.ext (x := x55) (get2 h2.2.1 h2.2.2 hx55) hL.1))) ?_)))))
             rintro _ w62 ⟨rfl, he62⟩
             replace hL := hL.ext he62
             by_cases h63 : (m_ir_absent (GEdge.er x55)) = true
             ·try rw [h63]
              refine sGo rfl (sRun (xNot rfl) (sGo rfl (sRun (xPkTB rfl rfl) (sRun (xPkFB rfl rfl) (sNil ?_)))))
              exact ⟨⟨rfl, rfl, rfl, rfl, rfl, (congrArg Value.bool (by rw [← hE58]; first | (simp [h59, h63]; done) | (simp only [decide_eq_false h59, h63, decide_eq_true (show s12_0 ≤ ((k55 : Nat) : Int) by omega)]; done) | grind)), trivial⟩, hL⟩
             ·have h63n : (m_ir_absent (GEdge.er x55)) = false := Bool.eq_false_iff.2 h63
              try rw [h63n]
              refine sGo rfl (sRun (xNot rfl) (sGo rfl (sRun (xPkTB rfl rfl) (sRun (xPkFB rfl rfl) (sNil ?_)))))
              exact ⟨⟨rfl, rfl, rfl, rfl, rfl, (congrArg Value.bool (by rw [← hE58]; first | (simp [h59, h63n]; done) | (simp only [decide_eq_false h59, h63n, decide_eq_true (show s12_0 ≤ ((k55 : Nat) : Int) by omega)]; done) | grind)), trivial⟩, hL⟩
           ·clear hL
            subst hE58
            rintro f w ⟨hf, hL⟩
            obtain ⟨g, rfl⟩ := has_updL _ _ hf
            clear hf
            by_cases h64 : (((decide (((k55 : Nat) : Int) < s12_0)) && (!(m_ir_rightEdge (GCode.er a0) (GEdge.er x55) a2.Kind))) || ((decide (s12_0 ≤ ((k55 : Nat) : Int))) && (!(m_ir_absent (GEdge.er x55))))) = true
            ·try rw [h64]
             rw [if_pos h64] at hY55
             refine wIfT rfl (wSeq (wReg (sRun (xAsB rfl) (sNil (wRet ?_)))))
             subst hY55
             rw [Lp.el_out] at hM
             try dsimp only at hM
             subst hM
             refine res1 (P := Try.prog) (fn := Try.f124) rfl ?_
             exact ⟨rfl, hL.1⟩
            ·have h64n : (((decide (((k55 : Nat) : Int) < s12_0)) && (!(m_ir_rightEdge (GCode.er a0) (GEdge.er x55) a2.Kind))) || ((decide (s12_0 ≤ ((k55 : Nat) : Int))) && (!(m_ir_absent (GEdge.er x55))))) = false := Bool.eq_false_iff.2 h64
             try rw [h64n]
             rw [if_neg h64] at hY55
             refine wIfF rfl (wSkip (wReg (sRun (xAdd64 rfl rfl (by omega) (by omega)) (sRun (xMvI rfl) (sNil ?_)))))
             exact ⟨2 - (k55 + 1), by omega, k55 + 1, rfl, by omega, ⟨rfl, rfl, rfl, rfl, rfl, trivial⟩, hL.tl, hY55⟩
          ·obtain rfl : k55 = 2 := by omega
           rw [show (([a2.To.e0, a2.To.e1] : List (GEdge Lst)).map GEdge.er).drop 2 = [] from rfl, m_ir_rightTerm_L3] at hY55
           refine wSeq (wReg (sRun (xLssF rfl rfl (by omega)) (sNil (wSeq (wIfF rfl (wExit ?_))))))
           exact ⟨⟨rfl, rfl, rfl, rfl, trivial⟩, hL, hY55⟩
         ·clear hL
          rintro f w ⟨hf, hL, hZ55⟩
          obtain ⟨g, rfl⟩ := has_updL _ _ hf
          clear hf
          subst hZ55
          rw [Lp.el_go] at hM
          try dsimp only at hM
          refine wSeq (wReg (sRun (xAsB rfl) (sNil (wRet ?_))))
          subst hM
          refine res1 (P := Try.prog) (fn := Try.f124) rfl ?_
          exact ⟨rfl, hL.1⟩

end Go.Proofs.Ytbpccmnalhdpmaa
