/- Contracts, printed by gen2.py. -/
import Derived.Test.YtbpccmnalhdpmaaGa
set_option linter.unusedVariables false
set_option linter.unusedSimpArgs false
set_option maxRecDepth 4000
namespace Go.Proofs.Ytbpccmnalhdpmaa
open Go.RowKit Go.Fw
def m_r06_heads_L2 (a0 : (GCode List)) (x27 : GObject) (k27 : Nat) : Nat → Int → Lp (Unit) (Bool)
  | 0, _ => .go ()
  | n43 + 1, i43 =>
  if (a0.Objects[(i43).toNat]?.getD (⟨(0 : Int), (0 : Int), (0 : Int)⟩ : GObject)).Ctx = x27.Ctx then
   if (a0.Objects[(i43).toNat]?.getD (⟨(0 : Int), (0 : Int), (0 : Int)⟩ : GObject)).Var = x27.Var then
    .out (false)
   else
    m_r06_heads_L2 a0 x27 k27 n43 (i43 + 1)
  else
   m_r06_heads_L2 a0 x27 k27 n43 (i43 + 1)
def m_r06_heads_L1 (a0 : (GCode List)) : List GObject → Nat → Lp (Unit) (Bool)
  | [], _ => .go ()
  | x27 :: r27, k27 =>
  if ((((((decide (x27.Ctx < (0 : Int))) || (decide (((a0.Contexts.length : Nat) : Int) ≤ x27.Ctx))) || (decide (x27.Var < (0 : Int)))) || (decide ((24 : Int) ≤ x27.Var))) || (decide (x27.Words < (1 : Int)))) || (decide ((8 : Int) < x27.Words))) = true then
   .out (false)
  else
   (m_r06_heads_L2 a0 x27 k27 (((k27 : Nat) : Int) - (0 : Int)).toNat (0 : Int)).el (fun _ =>
    m_r06_heads_L1 a0 r27 (k27 + 1)
     ) (fun o => .out o)
def m_r06_heads_L0 (a0 : (GCode List)) : List GContext → Nat → Lp (Unit) (Bool)
  | [], _ => .go ()
  | x10 :: r10, k10 =>
  if ((((decide (x10.Func < (0 : Int))) || (decide ((8 : Int) ≤ x10.Func))) || ((decide (((k10 : Nat) : Int) = (0 : Int))) && ((decide (x10.Parent ≠ (-1 : Int))) || (decide (x10.Stmt ≠ (-1 : Int)))))) || ((decide ((0 : Int) < ((k10 : Nat) : Int))) && ((((decide (x10.Parent < (0 : Int))) || (decide (((k10 : Nat) : Int) ≤ x10.Parent))) || (decide (x10.Stmt < (0 : Int)))) || (decide ((9999 : Int) < x10.Stmt))))) = true then
   .out (false)
  else
   m_r06_heads_L0 a0 r10 (k10 + 1)
def m_r06_heads (a0 : (GCode List)) : Bool :=
 if a0.Params < (0 : Int) then
  false
 else
  if (4 : Int) < a0.Params then
   false
  else
   if ((a0.Blocks.length : Nat) : Int) = (0 : Int) then
    false
   else
    if (a0.Blocks[0]?.getD (⟨(0 : Int), [], (⟨(0 : Int), (0 : Int), (0 : Int), [], (⟨(⟨(0 : Int), []⟩ : (GEdge List)), (⟨(0 : Int), []⟩ : (GEdge List))⟩ : (GArr56 List))⟩ : (GTerm List))⟩ : (GBlock List))).Params ≠ a0.Params then
     false
    else
     if ((a0.Contexts.length : Nat) : Int) = (0 : Int) then
      false
     else
      (m_r06_heads_L0 a0 a0.Contexts 0).el (fun _ =>
       (m_r06_heads_L1 a0 a0.Objects 0).el (fun _ =>
        true
         ) (fun o => o)
        ) (fun o => o)
set_option maxHeartbeats 12800000 in
theorem sp_m_r06_heads (w0 : World) (a0 : (GCode Lst)) (h0 : Dat.ok (fun _ => True) w0 a0) : Calls Try.prog 42 #[.agg (GCode.cells a0).toArray] w0 (Ret fun v w => v = .bool (m_r06_heads (GCode.er a0)) ∧ Ext w0 w) := by
  obtain ⟨X, hM⟩ : ∃ X, m_r06_heads (GCode.er a0) = X := ⟨_, rfl⟩
  rw [hM]
  unfold m_r06_heads at hM
  try simp only [er1, er2, er3, er4, er5, er6, er7, er8, er9, er10, er11, er12, er13, er14, er15, er16, er17, List.length_map] at hM
  have hL : Bx w0 w0 [] := Bx.nil
  refine calls_of Try.func42 rfl (Nat.le_of_ble_eq_true rfl) (by kernel_rfl) ?_
  refine wCut [(0, .agg (GCode.cells a0).toArray)] ⟨rfl, trivial⟩ fun g => ?_
  refine wSeq (wReg (sTo (aNew (mBox rfl)) ?_))
  rintro _ w1 ⟨b1, rfl, hge1, hB1, he1⟩
  replace hL := hL.new hge1 hB1 he1
  refine sRun (xAsB rfl) (sNil (wSeq (wSeq ?_)))
  replace hL := hL.drew
  refine wDraw (fun wS => Bx w0 wS [.box b1 26 (GCode.cells a0).toArray]) [] (by kernel_rfl) (hTake 0 rfl (by kernel_rfl) rfl (fun wS => (xFld0 Try.underlying26 rfl rfl ti3 (by decide) rfl)) (sl_of hL) (hTakeS 1 rfl (by kernel_rfl) (by kernel_rfl) rfl (fun wS hS => (xLoad Try.underlying3 rfl rfl ((hS.bk 0 rfl).cell (i := 0) rfl))) (sl_of hL) (hTake 2 rfl (by kernel_rfl) rfl (fun wS => (xLss rfl rfl)) (sl_of hL) (hTake 3 rfl (by kernel_rfl) rfl (fun wS => (xMvB rfl)) (sl_of hL) ?_))))
  by_cases h2 : a0.Params < (0 : Int)
  ·try rw [decide_eq_true h2]
   rw [if_pos h2] at hM
   refine hSkip 4 rfl (by kernel_rfl) rfl (sl_of hL) (hSkip 5 rfl (by kernel_rfl) rfl (sl_of hL) (hSkip 6 rfl (by kernel_rfl) rfl (sl_of hL) (hTake 7 rfl (by kernel_rfl) rfl (fun wS => (xPkTB rfl rfl)) (sl_of hL) (hTake 8 rfl (by kernel_rfl) rfl (fun wS => (xMvB rfl)) (sl_of hL) (hSkip 9 rfl (by kernel_rfl) rfl (sl_of hL) (hSkip 10 rfl (by kernel_rfl) rfl (sl_of hL) (hSkip 11 rfl (by kernel_rfl) rfl (sl_of hL) (hSkip 12 rfl (by kernel_rfl) rfl (sl_of hL) (hTake 13 rfl (by kernel_rfl) rfl (fun wS => (xPkTB rfl rfl)) (sl_of hL) (hTake 14 rfl (by kernel_rfl) rfl (fun wS => (xMvB rfl)) (sl_of hL) (hSkip 15 rfl (by kernel_rfl) rfl (sl_of hL) (hSkip 16 rfl (by kernel_rfl) rfl (sl_of hL) (hSkip 17 rfl (by kernel_rfl) rfl (sl_of hL) ?_)))))))))))))
   refine hSkip 18 rfl (by kernel_rfl) rfl (sl_of hL) (hSkip 19 rfl (by kernel_rfl) rfl (sl_of hL) (hSkip 20 rfl (by kernel_rfl) rfl (sl_of hL) (hSkip 21 rfl (by kernel_rfl) rfl (sl_of hL) (hSkip 22 rfl (by kernel_rfl) rfl (sl_of hL) (hTake 23 rfl (by kernel_rfl) rfl (fun wS => (xPkTB rfl rfl)) (sl_of hL) (hTake 24 rfl (by kernel_rfl) rfl (fun wS => (xMvB rfl)) (sl_of hL) (hSkip 25 rfl (by kernel_rfl) rfl (sl_of hL) (hSkip 26 rfl (by kernel_rfl) rfl (sl_of hL) (hSkip 27 rfl (by kernel_rfl) rfl (sl_of hL) (hSkip 28 rfl (by kernel_rfl) rfl (sl_of hL) (hTake 29 rfl (by kernel_rfl) rfl (fun wS => (xPkTB rfl rfl)) (sl_of hL) (hDone (by kernel_rfl) (wIfT rfl ?_)))))))))))))
   refine wSeq (wReg (sRun (xAsB rfl) (sNil (wRet ?_))))
   subst hM
   refine res1 (P := Try.prog) (fn := Try.f42) rfl ?_
   exact ⟨rfl, hL.1⟩
  ·try rw [decide_eq_false h2]
   rw [if_neg h2] at hM
   refine hTake 4 rfl (by kernel_rfl) rfl (fun wS => (xFld0 Try.underlying26 rfl rfl ti3 (by decide) rfl)) (sl_of hL) (hTakeS 5 rfl (by kernel_rfl) (by kernel_rfl) rfl (fun wS hS => (xLoad Try.underlying3 rfl rfl ((hS.bk 0 rfl).cell (i := 0) rfl))) (sl_of hL) (hTake 6 rfl (by kernel_rfl) rfl (fun wS => (xGtr rfl rfl)) (sl_of hL) (hTake 7 rfl (by kernel_rfl) rfl (fun wS => (xPkFB rfl rfl)) (sl_of hL) (hTake 8 rfl (by kernel_rfl) rfl (fun wS => (xMvB rfl)) (sl_of hL) ?_))))
   by_cases h3 : (4 : Int) < a0.Params
   ·try rw [decide_eq_true h3]
    rw [if_pos h3] at hM
    refine hSkip 9 rfl (by kernel_rfl) rfl (sl_of hL) (hSkip 10 rfl (by kernel_rfl) rfl (sl_of hL) (hSkip 11 rfl (by kernel_rfl) rfl (sl_of hL) (hSkip 12 rfl (by kernel_rfl) rfl (sl_of hL) (hTake 13 rfl (by kernel_rfl) rfl (fun wS => (xPkTB rfl rfl)) (sl_of hL) (hTake 14 rfl (by kernel_rfl) rfl (fun wS => (xMvB rfl)) (sl_of hL) (hSkip 15 rfl (by kernel_rfl) rfl (sl_of hL) (hSkip 16 rfl (by kernel_rfl) rfl (sl_of hL) (hSkip 17 rfl (by kernel_rfl) rfl (sl_of hL) (hSkip 18 rfl (by kernel_rfl) rfl (sl_of hL) (hSkip 19 rfl (by kernel_rfl) rfl (sl_of hL) (hSkip 20 rfl (by kernel_rfl) rfl (sl_of hL) (hSkip 21 rfl (by kernel_rfl) rfl (sl_of hL) (hSkip 22 rfl (by kernel_rfl) rfl (sl_of hL) ?_)))))))))))))
    refine hTake 23 rfl (by kernel_rfl) rfl (fun wS => (xPkTB rfl rfl)) (sl_of hL) (hTake 24 rfl (by kernel_rfl) rfl (fun wS => (xMvB rfl)) (sl_of hL) (hSkip 25 rfl (by kernel_rfl) rfl (sl_of hL) (hSkip 26 rfl (by kernel_rfl) rfl (sl_of hL) (hSkip 27 rfl (by kernel_rfl) rfl (sl_of hL) (hSkip 28 rfl (by kernel_rfl) rfl (sl_of hL) (hTake 29 rfl (by kernel_rfl) rfl (fun wS => (xPkTB rfl rfl)) (sl_of hL) (hDone (by kernel_rfl) (wIfT rfl (wSeq (wReg (sRun (xAsB rfl) (sNil (wRet ?_)))))))))))))
    subst hM
    refine res1 (P := Try.prog) (fn := Try.f42) rfl ?_
    exact ⟨rfl, hL.1⟩
   ·try rw [decide_eq_false h3]
    rw [if_neg h3] at hM
    refine hTake 9 rfl (by kernel_rfl) rfl (fun wS => (xFld (k := 1) Try.underlying26 rfl rfl ti22 (by decide) rfl)) (sl_of hL) (hTakeS 10 rfl (by kernel_rfl) (by kernel_rfl) rfl (fun wS hS => (xLoad Try.underlying22 rfl rfl ((hS.bk 0 rfl).cell (i := 1) rfl))) (sl_of hL) ?_)
    have hl4 : a0.Blocks.l.length * 144 ≤ 140737488355328 := Lst.bd h0.1
    refine hTake 11 rfl (by kernel_rfl) rfl (fun wS => (xLnL (s := a0.Blocks) Try.underlying22 rfl)) (sl_of hL) (hTake 12 rfl (by kernel_rfl) rfl (fun wS => (xEqlD rfl rfl)) (sl_of hL) (hTake 13 rfl (by kernel_rfl) rfl (fun wS => (xPkFB rfl rfl)) (sl_of hL) (hTake 14 rfl (by kernel_rfl) rfl (fun wS => (xMvB rfl)) (sl_of hL) ?_)))
    by_cases h5 : ((a0.Blocks.l.length : Nat) : Int) = (0 : Int)
    ·try rw [decide_eq_true h5]
     rw [if_pos h5] at hM
     refine hSkip 15 rfl (by kernel_rfl) rfl (sl_of hL) (hSkip 16 rfl (by kernel_rfl) rfl (sl_of hL) (hSkip 17 rfl (by kernel_rfl) rfl (sl_of hL) (hSkip 18 rfl (by kernel_rfl) rfl (sl_of hL) (hSkip 19 rfl (by kernel_rfl) rfl (sl_of hL) (hSkip 20 rfl (by kernel_rfl) rfl (sl_of hL) (hSkip 21 rfl (by kernel_rfl) rfl (sl_of hL) (hSkip 22 rfl (by kernel_rfl) rfl (sl_of hL) (hTake 23 rfl (by kernel_rfl) rfl (fun wS => (xPkTB rfl rfl)) (sl_of hL) (hTake 24 rfl (by kernel_rfl) rfl (fun wS => (xMvB rfl)) (sl_of hL) (hSkip 25 rfl (by kernel_rfl) rfl (sl_of hL) (hSkip 26 rfl (by kernel_rfl) rfl (sl_of hL) (hSkip 27 rfl (by kernel_rfl) rfl (sl_of hL) (hSkip 28 rfl (by kernel_rfl) rfl (sl_of hL) ?_)))))))))))))
     refine hTake 29 rfl (by kernel_rfl) rfl (fun wS => (xPkTB rfl rfl)) (sl_of hL) (hDone (by kernel_rfl) (wIfT rfl (wSeq (wReg (sRun (xAsB rfl) (sNil (wRet ?_)))))))
     subst hM
     refine res1 (P := Try.prog) (fn := Try.f42) rfl ?_
     exact ⟨rfl, hL.1⟩
    ·try rw [decide_eq_false h5]
     rw [if_neg h5] at hM
     refine hTake 15 rfl (by kernel_rfl) rfl (fun wS => (xFld (k := 1) Try.underlying26 rfl rfl ti22 (by decide) rfl)) (sl_of hL) (hTakeS 16 rfl (by kernel_rfl) (by kernel_rfl) rfl (fun wS hS => (xLoad Try.underlying22 rfl rfl ((hS.bk 0 rfl).cell (i := 1) rfl))) (sl_of hL) ?_)
     obtain ⟨x6, hx6⟩ := get_ex (l := a0.Blocks.l) (k := 0) (by omega)
     try rw [show (a0.Blocks.l.map GBlock.er)[0]?.getD (⟨(0 : Int), [], (⟨(0 : Int), (0 : Int), (0 : Int), [], (⟨(⟨(0 : Int), []⟩ : (GEdge List)), (⟨(0 : Int), []⟩ : (GEdge List))⟩ : (GArr56 List))⟩ : (GTerm List))⟩ : (GBlock List)) = GBlock.er x6 from getD_map hx6] at hM
     try simp only [er1, er2, er3, er4, er5, er6, er7, er8, er9, er10, er11, er12, er13, er14, er15, er16, er17, List.length_map] at hM
     refine hTake 17 rfl (by kernel_rfl) rfl (fun wS => (xIdL Try.underlying22 ti60 rfl rfl rfl h0.1 hx6)) (sl_of hL) (hTake 18 rfl (by kernel_rfl) rfl (fun wS => (xFld0 Try.underlying60 rfl rfl ti3 (by decide) rfl)) (sl_of hL) (hTakeS 19 rfl (by kernel_rfl) (by kernel_rfl) rfl (fun wS hS => (xLoad Try.underlying3 rfl rfl (((Lst.el h0.1 hx6).ext hS.1) 0 _ rfl))) (sl_of hL) (hTake 20 rfl (by kernel_rfl) rfl (fun wS => (xFld0 Try.underlying26 rfl rfl ti3 (by decide) rfl)) (sl_of hL) (hTakeS 21 rfl (by kernel_rfl) (by kernel_rfl) rfl (fun wS hS => (xLoad Try.underlying3 rfl rfl ((hS.bk 0 rfl).cell (i := 0) rfl))) (sl_of hL) (hTake 22 rfl (by kernel_rfl) rfl (fun wS => (xNeqD rfl rfl)) (sl_of hL) (hTake 23 rfl (by kernel_rfl) rfl (fun wS => (xPkFB rfl rfl)) (sl_of hL) (hTake 24 rfl (by kernel_rfl) rfl (fun wS => (xMvB rfl)) (sl_of hL) ?_)))))))
     by_cases h7 : x6.Params ≠ a0.Params
     ·try rw [decide_eq_true h7]
      rw [if_pos h7] at hM
      refine hSkip 25 rfl (by kernel_rfl) rfl (sl_of hL) (hSkip 26 rfl (by kernel_rfl) rfl (sl_of hL) (hSkip 27 rfl (by kernel_rfl) rfl (sl_of hL) (hSkip 28 rfl (by kernel_rfl) rfl (sl_of hL) (hTake 29 rfl (by kernel_rfl) rfl (fun wS => (xPkTB rfl rfl)) (sl_of hL) (hDone (by kernel_rfl) (wIfT rfl (wSeq (wReg (sRun (xAsB rfl) (sNil (wRet ?_)))))))))))
      subst hM
      refine res1 (P := Try.prog) (fn := Try.f42) rfl ?_
      exact ⟨rfl, hL.1⟩
     ·try rw [decide_eq_false h7]
      rw [if_neg h7] at hM
      refine hTake 25 rfl (by kernel_rfl) rfl (fun wS => (xFld (k := 2) Try.underlying26 rfl rfl ti23 (by decide) rfl)) (sl_of hL) (hTakeS 26 rfl (by kernel_rfl) (by kernel_rfl) rfl (fun wS hS => (xLoad Try.underlying23 rfl rfl ((hS.bk 0 rfl).cell (i := 2) rfl))) (sl_of hL) ?_)
      have hl8 : a0.Contexts.l.length * 24 ≤ 140737488355328 := Lst.bd h0.2.1
      refine hTake 27 rfl (by kernel_rfl) rfl (fun wS => (xLnL (s := a0.Contexts) Try.underlying23 rfl)) (sl_of hL) (hTake 28 rfl (by kernel_rfl) rfl (fun wS => (xEqlD rfl rfl)) (sl_of hL) (hTake 29 rfl (by kernel_rfl) rfl (fun wS => (xPkFB rfl rfl)) (sl_of hL) (hDone (by kernel_rfl) ?_)))
      by_cases h9 : ((a0.Contexts.l.length : Nat) : Int) = (0 : Int)
      ·try rw [decide_eq_true h9]
       rw [if_pos h9] at hM
       refine wIfT rfl (wSeq (wReg (sRun (xAsB rfl) (sNil (wRet ?_)))))
       subst hM
       refine res1 (P := Try.prog) (fn := Try.f42) rfl ?_
       exact ⟨rfl, hL.1⟩
      ·try rw [decide_eq_false h9]
       rw [if_neg h9] at hM
       refine wIfF rfl (wSkip (wSeq (wSeq (wReg (sRun (xFld (k := 2) Try.underlying26 rfl rfl ti23 (by decide) rfl) (sRun (xLoad Try.underlying23 rfl rfl ((hL.bk 0 rfl).cell (i := 2) rfl)) (sRun (xLnL (s := a0.Contexts) Try.underlying23 rfl) (sRun (xMvI rfl) (sNil ?_)))))))))
       obtain ⟨Y10, hY10⟩ : ∃ Y, m_r06_heads_L0 (GCode.er a0) a0.Contexts.l 0 = Y := ⟨_, rfl⟩
       rw [hY10] at hM
       refine wJ (fun f w => Has f [(1, .pointer (some ⟨b1, 0, none⟩)), (39, .slice a0.Contexts.a a0.Contexts.l.length a0.Contexts.c), (40, .int .i64 ((a0.Contexts.l.length : Nat) : Int))] ∧ Bx w0 w [.box b1 26 (GCode.cells a0).toArray] ∧ Lp.go () = Y10) ?_ ?_
       ·refine wBlock (wLoopG (fun n f w => ∃ (k10 : Nat), n = a0.Contexts.l.length - k10 ∧ k10 ≤ a0.Contexts.l.length ∧ Has f [(41, .int .i64 ((k10 : Nat) : Int)), (1, .pointer (some ⟨b1, 0, none⟩)), (39, .slice a0.Contexts.a a0.Contexts.l.length a0.Contexts.c), (40, .int .i64 ((a0.Contexts.l.length : Nat) : Int))] ∧ Bx w0 w [.box b1 26 (GCode.cells a0).toArray] ∧ m_r06_heads_L0 (GCode.er a0) (a0.Contexts.l.drop k10) k10 = Y10) (a0.Contexts.l.length) ⟨0, rfl, Nat.zero_le _, ⟨rfl, rfl, rfl, rfl, trivial⟩, hL, hY10⟩ ?_)
        clear hL hY10
        rintro n f w ⟨k10, rfl, hk10, hf, hL, hY10⟩
        obtain ⟨g, rfl⟩ := has_updL _ _ hf
        clear hf
        rcases Nat.lt_or_ge k10 a0.Contexts.l.length with hk10b | hk10b
        ·obtain ⟨x10, hx10⟩ := get_ex (l := a0.Contexts.l) hk10b
         rw [drop_id hx10, m_r06_heads_L0] at hY10
         try simp only [er1, er2, er3, er4, er5, er6, er7, er8, er9, er10, er11, er12, er13, er14, er15, er16, er17, List.length_map] at hY10
         refine wSeq (wReg (sRun (xLssT rfl rfl (by omega)) (sNil (wSeq (wIfT rfl (wSkip (wSeq (wBlock (wSeq (wReg (sRun (xMvI rfl) (sRun (xIdL Try.underlying23 ti69 rfl rfl rfl h0.2.1 hx10) (sRun (xLoadS (GContext.cells x10) Try.underlying69 rfl ti69 rfl rfl ((Lst.el h0.2.1 hx10).ext hL.1)) ?_)))))))))))))
         refine sTo (aNew (mAlloc ti69)) ?_
         rintro _ w11 ⟨b11, rfl, hge11, hB11, he11⟩
         replace hL := hL.new hge11 hB11 he11
         refine sRun (xAsI rfl) (sStS ti69 rfl rfl rfl (by simp [Value.oneCell', Dat.cells, GContext.cells]) (hL.bk 0 rfl) rfl ?_)
         intro w12 hB12 hC12
         replace hL : Bx w0 w12 [.box b11 69 (GContext.cells x10).toArray, .box b1 26 (GCode.cells a0).toArray] := hL.wr 0 rfl hC12 hB12
         refine sNil (wSeq ?_)
         obtain ⟨E13, hE13⟩ : ∃ E, ((((decide (x10.Func < (0 : Int))) || (decide ((8 : Int) ≤ x10.Func))) || ((decide (((k10 : Nat) : Int) = (0 : Int))) && ((decide (x10.Parent ≠ (-1 : Int))) || (decide (x10.Stmt ≠ (-1 : Int)))))) || ((decide ((0 : Int) < ((k10 : Nat) : Int))) && ((((decide (x10.Parent < (0 : Int))) || (decide (((k10 : Nat) : Int) ≤ x10.Parent))) || (decide (x10.Stmt < (0 : Int)))) || (decide ((9999 : Int) < x10.Stmt))))) = E := ⟨_, rfl⟩
         refine wJ (fun f w => Has f [(1, .pointer (some ⟨b1, 0, none⟩)), (39, .slice a0.Contexts.a a0.Contexts.l.length a0.Contexts.c), (40, .int .i64 ((a0.Contexts.l.length : Nat) : Int)), (41, .int .i64 ((k10 : Nat) : Int)), (92, .bool E13)] ∧ Bx w0 w [.box b11 69 (GContext.cells x10).toArray, .box b1 26 (GCode.cells a0).toArray]) ?_ ?_
         ·refine wReg (sRun (xFld (k := 2) Try.underlying69 rfl rfl ti3 (by decide) rfl) (sRun (xLoad Try.underlying3 rfl rfl ((hL.bk 0 rfl).cell (i := 2) rfl)) (sRun (xLss rfl rfl) (sRun (xMvB rfl) ?_))))
          by_cases h14 : x10.Func < (0 : Int)
          ·try rw [decide_eq_true h14]
           refine sNo rfl (sNo rfl (sNo rfl (sRun (xPkTB rfl rfl) (sRun (xMvB rfl) (sNo rfl (sNo rfl (sNo rfl (sNo rfl (sNo rfl (sNo rfl (sNo rfl (sNo rfl (sNo rfl ?_)))))))))))))
           refine sNo rfl (sNo rfl (sNo rfl (sRun (xPkTB rfl rfl) (sRun (xMvB rfl) (sNo rfl (sNo rfl (sNo rfl (sNo rfl (sNo rfl (sNo rfl (sNo rfl (sNo rfl (sNo rfl ?_)))))))))))))
           refine sNo rfl (sNo rfl (sNo rfl (sNo rfl (sNo rfl (sNo rfl (sNo rfl (sNo rfl (sNo rfl (sNo rfl (sNo rfl (sNo rfl (sNo rfl (sNo rfl ?_)))))))))))))
           refine sRun (xPkTB rfl rfl) (sNil ?_)
           exact ⟨⟨rfl, rfl, rfl, rfl, (congrArg Value.bool (by rw [← hE13]; first | (simp [h14]; done) | (simp only [decide_eq_true h14]; done) | grind)), trivial⟩, hL⟩
          ·try rw [decide_eq_false h14]
           refine sGo rfl (sRun (xFld (k := 2) Try.underlying69 rfl rfl ti3 (by decide) rfl) (sGo rfl (sRun (xLoad Try.underlying3 rfl rfl ((hL.bk 0 rfl).cell (i := 2) rfl)) (sGo rfl (sRun (xGeq rfl rfl) (sRun (xPkFB rfl rfl) (sRun (xMvB rfl) ?_)))))))
           by_cases h15 : (8 : Int) ≤ x10.Func
           ·try rw [decide_eq_true h15]
            refine sNo rfl (sNo rfl (sNo rfl (sNo rfl (sNo rfl (sNo rfl (sNo rfl (sNo rfl (sNo rfl (sNo rfl (sNo rfl (sNo rfl (sRun (xPkTB rfl rfl) (sRun (xMvB rfl) ?_)))))))))))))
            refine sNo rfl (sNo rfl (sNo rfl (sNo rfl (sNo rfl (sNo rfl (sNo rfl (sNo rfl (sNo rfl (sNo rfl (sNo rfl (sNo rfl (sNo rfl (sNo rfl ?_)))))))))))))
            refine sNo rfl (sNo rfl (sNo rfl (sNo rfl (sNo rfl (sNo rfl (sNo rfl (sNo rfl (sNo rfl (sRun (xPkTB rfl rfl) (sNil ?_))))))))))
            exact ⟨⟨rfl, rfl, rfl, rfl, (congrArg Value.bool (by rw [← hE13]; first | (simp [h14, h15]; done) | (simp only [decide_eq_false h14, decide_eq_true h15]; done) | grind)), trivial⟩, hL⟩
           ·try rw [decide_eq_false h15]
            refine sGo rfl (sRun (xMvI rfl) (sGo rfl (sRun (xEqlD rfl rfl) (sGo rfl (sRun (xMvB rfl) ?_)))))
            by_cases h16 : ((k10 : Nat) : Int) = (0 : Int)
            ·try rw [decide_eq_true h16]
             refine sGo rfl (sRun (xFld0 Try.underlying69 rfl rfl ti3 (by decide) rfl) (sGo rfl (sRun (xLoad Try.underlying3 rfl rfl ((hL.bk 0 rfl).cell (i := 0) rfl)) (sGo rfl (sRun (xNeqD rfl rfl) (sGo rfl (sRun (xMvB rfl) ?_)))))))
             by_cases h17 : x10.Parent ≠ (-1 : Int)
             ·try rw [decide_eq_true h17]
              refine sNo rfl (sNo rfl (sNo rfl (sGo rfl (sRun (xPkTB rfl rfl) (sGo rfl (sRun (xPkTB rfl rfl) (sRun (xPkFB rfl rfl) (sRun (xMvB rfl) (sNo rfl (sNo rfl (sNo rfl (sNo rfl (sNo rfl ?_)))))))))))))
              refine sNo rfl (sNo rfl (sNo rfl (sNo rfl (sNo rfl (sNo rfl (sNo rfl (sNo rfl (sNo rfl (sNo rfl (sNo rfl (sNo rfl (sNo rfl (sNo rfl ?_)))))))))))))
              refine sNo rfl (sNo rfl (sNo rfl (sNo rfl (sRun (xPkTB rfl rfl) (sNil ?_)))))
              exact ⟨⟨rfl, rfl, rfl, rfl, (congrArg Value.bool (by rw [← hE13]; first | (simp [h14, h15, h16, h17]; done) | (simp only [decide_eq_false h14, decide_eq_false h15, decide_eq_true h16, decide_eq_true h17]; done) | grind)), trivial⟩, hL⟩
             ·try rw [decide_eq_false h17]
              refine sGo rfl (sRun (xFld (k := 1) Try.underlying69 rfl rfl ti3 (by decide) rfl) (sGo rfl (sRun (xLoad Try.underlying3 rfl rfl ((hL.bk 0 rfl).cell (i := 1) rfl)) (sGo rfl (sRun (xNeqD rfl rfl) (sGo rfl (sRun (xPkFB rfl rfl) (sGo rfl (sRun (xPkTB rfl rfl) (sRun (xPkFB rfl rfl) (sRun (xMvB rfl) ?_)))))))))))
              by_cases h18 : x10.Stmt ≠ (-1 : Int)
              ·try rw [decide_eq_true h18]
               refine sNo rfl (sNo rfl (sNo rfl (sNo rfl (sNo rfl (sNo rfl (sNo rfl (sNo rfl (sNo rfl (sNo rfl (sNo rfl (sNo rfl (sNo rfl (sNo rfl ?_)))))))))))))
               refine sNo rfl (sNo rfl (sNo rfl (sNo rfl (sNo rfl (sNo rfl (sNo rfl (sNo rfl (sNo rfl (sRun (xPkTB rfl rfl) (sNil ?_))))))))))
               exact ⟨⟨rfl, rfl, rfl, rfl, (congrArg Value.bool (by rw [← hE13]; first | (simp [h14, h15, h16, h17, h18]; done) | (simp only [decide_eq_false h14, decide_eq_false h15, decide_eq_true h16, decide_eq_false h17, decide_eq_true h18]; done) | grind)), trivial⟩, hL⟩
              ·try rw [decide_eq_false h18]
               refine sGo rfl (sRun (xMvI rfl) (sGo rfl (sRun (xGtrF rfl rfl (by omega)) (sGo rfl (sRun (xMvB rfl) (sNo rfl (sNo rfl (sNo rfl (sNo rfl (sNo rfl (sNo rfl (sNo rfl (sNo rfl ?_)))))))))))))
               refine sNo rfl (sNo rfl (sNo rfl (sNo rfl (sNo rfl (sNo rfl (sNo rfl (sNo rfl (sNo rfl (sNo rfl (sNo rfl (sGo rfl (sRun (xPkFB rfl rfl) (sRun (xPkFB rfl rfl) ?_)))))))))))))
               refine sNil ?_
               exact ⟨⟨rfl, rfl, rfl, rfl, (congrArg Value.bool (by rw [← hE13]; first | (simp [h14, h15, h16, h17, h18]; done) | (simp only [decide_eq_false h14, decide_eq_false h15, decide_eq_true h16, decide_eq_false h17, decide_eq_false h18, decide_eq_false (show ¬ ((0 : Int) < ((k10 : Nat) : Int)) by omega)]; done) | grind)), trivial⟩, hL⟩
            ·try rw [decide_eq_false h16]
             refine sNo rfl (sNo rfl (sNo rfl (sNo rfl (sNo rfl (sNo rfl (sNo rfl (sNo rfl (sGo rfl (sRun (xPkFB rfl rfl) (sRun (xPkFB rfl rfl) (sRun (xMvB rfl) (sGo rfl (sRun (xMvI rfl) ?_)))))))))))))
             refine sGo rfl (sRun (xGtr rfl rfl) (sGo rfl (sRun (xMvB rfl) ?_)))
             by_cases h19 : (0 : Int) < ((k10 : Nat) : Int)
             ·try rw [decide_eq_true h19]
              refine sGo rfl (sRun (xFld0 Try.underlying69 rfl rfl ti3 (by decide) rfl) (sGo rfl (sRun (xLoad Try.underlying3 rfl rfl ((hL.bk 0 rfl).cell (i := 0) rfl)) (sGo rfl (sRun (xLss rfl rfl) (sGo rfl (sRun (xMvB rfl) ?_)))))))
              by_cases h20 : x10.Parent < (0 : Int)
              ·try rw [decide_eq_true h20]
               refine sNo rfl (sNo rfl (sNo rfl (sNo rfl (sGo rfl (sRun (xPkTB rfl rfl) (sGo rfl (sRun (xMvB rfl) (sNo rfl (sNo rfl (sNo rfl (sGo rfl (sRun (xPkTB rfl rfl) (sGo rfl ?_)))))))))))))
               refine sRun (xMvB rfl) (sNo rfl (sNo rfl (sNo rfl (sGo rfl (sRun (xPkTB rfl rfl) (sGo rfl (sRun (xPkTB rfl rfl) (sRun (xPkFB rfl rfl) (sNil ?_)))))))))
               exact ⟨⟨rfl, rfl, rfl, rfl, (congrArg Value.bool (by rw [← hE13]; first | (simp [h14, h15, h16, h19, h20]; done) | (simp only [decide_eq_false h14, decide_eq_false h15, decide_eq_false h16, decide_eq_true h19, decide_eq_true h20]; done) | grind)), trivial⟩, hL⟩
              ·try rw [decide_eq_false h20]
               refine sGo rfl (sRun (xFld0 Try.underlying69 rfl rfl ti3 (by decide) rfl) (sGo rfl (sRun (xLoad Try.underlying3 rfl rfl ((hL.bk 0 rfl).cell (i := 0) rfl)) (sGo rfl (sRun (xMvI rfl) (sGo rfl (sRun (xGeq rfl rfl) (sGo rfl (sRun (xPkFB rfl rfl) (sGo rfl (sRun (xMvB rfl) ?_)))))))))))
               by_cases h21 : ((k10 : Nat) : Int) ≤ x10.Parent
               ·try rw [decide_eq_true h21]
                refine sNo rfl (sNo rfl (sNo rfl (sGo rfl (sRun (xPkTB rfl rfl) (sGo rfl (sRun (xMvB rfl) (sNo rfl (sNo rfl (sNo rfl (sGo rfl (sRun (xPkTB rfl rfl) (sGo rfl (sRun (xPkTB rfl rfl) ?_)))))))))))))
                refine sRun (xPkFB rfl rfl) (sNil ?_)
                exact ⟨⟨rfl, rfl, rfl, rfl, (congrArg Value.bool (by rw [← hE13]; first | (simp [h14, h15, h16, h19, h20, h21]; done) | (simp only [decide_eq_false h14, decide_eq_false h15, decide_eq_false h16, decide_eq_true h19, decide_eq_false h20, decide_eq_true h21]; done) | grind)), trivial⟩, hL⟩
               ·try rw [decide_eq_false h21]
                refine sGo rfl (sRun (xFld (k := 1) Try.underlying69 rfl rfl ti3 (by decide) rfl) (sGo rfl (sRun (xLoad Try.underlying3 rfl rfl ((hL.bk 0 rfl).cell (i := 1) rfl)) (sGo rfl (sRun (xLss rfl rfl) (sGo rfl (sRun (xPkFB rfl rfl) (sGo rfl (sRun (xMvB rfl) ?_)))))))))
                by_cases h22 : x10.Stmt < (0 : Int)
                ·try rw [decide_eq_true h22]
                 refine sNo rfl (sNo rfl (sNo rfl (sGo rfl (sRun (xPkTB rfl rfl) (sGo rfl (sRun (xPkTB rfl rfl) (sRun (xPkFB rfl rfl) (sNil ?_))))))))
                 exact ⟨⟨rfl, rfl, rfl, rfl, (congrArg Value.bool (by rw [← hE13]; first | (simp [h14, h15, h16, h19, h20, h21, h22]; done) | (simp only [decide_eq_false h14, decide_eq_false h15, decide_eq_false h16, decide_eq_true h19, decide_eq_false h20, decide_eq_false h21, decide_eq_true h22]; done) | grind)), trivial⟩, hL⟩
                ·try rw [decide_eq_false h22]
                 refine sGo rfl (sRun (xFld (k := 1) Try.underlying69 rfl rfl ti3 (by decide) rfl) (sGo rfl (sRun (xLoad Try.underlying3 rfl rfl ((hL.bk 0 rfl).cell (i := 1) rfl)) (sGo rfl (sRun (xGtr rfl rfl) (sGo rfl (sRun (xPkFB rfl rfl) (sGo rfl (sRun (xPkTB rfl rfl) (sRun (xPkFB rfl rfl) (sNil ?_)))))))))))
                 exact ⟨⟨rfl, rfl, rfl, rfl, (congrArg Value.bool (by rw [← hE13]; first | (simp [h14, h15, h16, h19, h20, h21, h22]; done) | (simp only [decide_eq_false h14, decide_eq_false h15, decide_eq_false h16, decide_eq_true h19, decide_eq_false h20, decide_eq_false h21, decide_eq_false h22]; done) | grind)), trivial⟩, hL⟩
             ·try rw [decide_eq_false h19]
              refine sNo rfl (sNo rfl (sNo rfl (sNo rfl (sNo rfl (sNo rfl (sNo rfl (sNo rfl (sNo rfl (sNo rfl (sNo rfl (sNo rfl (sNo rfl (sNo rfl ?_)))))))))))))
              refine sNo rfl (sNo rfl (sNo rfl (sNo rfl (sNo rfl (sGo rfl (sRun (xPkFB rfl rfl) (sRun (xPkFB rfl rfl) (sNil ?_))))))))
              exact ⟨⟨rfl, rfl, rfl, rfl, (congrArg Value.bool (by rw [← hE13]; first | (simp [h14, h15, h16, h19]; done) | (simp only [decide_eq_false h14, decide_eq_false h15, decide_eq_false h16, decide_eq_false h19]; done) | grind)), trivial⟩, hL⟩
         ·clear hL
          subst hE13
          rintro f w ⟨hf, hL⟩
          obtain ⟨g, rfl⟩ := has_updL _ _ hf
          clear hf
          by_cases h23 : ((((decide (x10.Func < (0 : Int))) || (decide ((8 : Int) ≤ x10.Func))) || ((decide (((k10 : Nat) : Int) = (0 : Int))) && ((decide (x10.Parent ≠ (-1 : Int))) || (decide (x10.Stmt ≠ (-1 : Int)))))) || ((decide ((0 : Int) < ((k10 : Nat) : Int))) && ((((decide (x10.Parent < (0 : Int))) || (decide (((k10 : Nat) : Int) ≤ x10.Parent))) || (decide (x10.Stmt < (0 : Int)))) || (decide ((9999 : Int) < x10.Stmt))))) = true
          ·try rw [h23]
           rw [if_pos h23] at hY10
           refine wIfT rfl (wSeq (wReg (sRun (xAsB rfl) (sNil (wRet ?_)))))
           subst hY10
           rw [Lp.el_out] at hM
           try dsimp only at hM
           subst hM
           refine res1 (P := Try.prog) (fn := Try.f42) rfl ?_
           exact ⟨rfl, hL.1⟩
          ·have h23n : ((((decide (x10.Func < (0 : Int))) || (decide ((8 : Int) ≤ x10.Func))) || ((decide (((k10 : Nat) : Int) = (0 : Int))) && ((decide (x10.Parent ≠ (-1 : Int))) || (decide (x10.Stmt ≠ (-1 : Int)))))) || ((decide ((0 : Int) < ((k10 : Nat) : Int))) && ((((decide (x10.Parent < (0 : Int))) || (decide (((k10 : Nat) : Int) ≤ x10.Parent))) || (decide (x10.Stmt < (0 : Int)))) || (decide ((9999 : Int) < x10.Stmt))))) = false := Bool.eq_false_iff.2 h23
           try rw [h23n]
           rw [if_neg h23] at hY10
           have h24 : ¬ (x10.Func < (0 : Int)) := fun hq => by rw [decide_eq_true hq] at h23; simp at h23
           have h25 : ¬ ((8 : Int) ≤ x10.Func) := fun hq => by rw [decide_eq_true hq] at h23; simp at h23
           refine wIfF rfl (wSkip (wReg (sRun (xAdd64 rfl rfl (by omega) (by omega)) (sRun (xMvI rfl) (sNil ?_)))))
           exact ⟨a0.Contexts.l.length - (k10 + 1), by omega, k10 + 1, rfl, by omega, ⟨rfl, rfl, rfl, rfl, trivial⟩, hL.tl, hY10⟩
        ·obtain rfl : k10 = a0.Contexts.l.length := by omega
         rw [drop_end, m_r06_heads_L0] at hY10
         refine wSeq (wReg (sRun (xLssF rfl rfl (by omega)) (sNil (wSeq (wIfF rfl (wExit ?_))))))
         exact ⟨⟨rfl, rfl, rfl, trivial⟩, hL, hY10⟩
       ·clear hL
        rintro f w ⟨hf, hL, hZ10⟩
        obtain ⟨g, rfl⟩ := has_updL _ _ hf
        clear hf
        subst hZ10
        rw [Lp.el_go] at hM
        try dsimp only at hM
        refine wSeq (wSeq (wReg (sRun (xFld (k := 3) Try.underlying26 rfl rfl ti24 (by decide) rfl) (sRun (xLoad Try.underlying24 rfl rfl ((hL.bk 0 rfl).cell (i := 3) rfl)) ?_))))
        have hl26 : a0.Objects.l.length * 24 ≤ 140737488355328 := Lst.bd h0.2.2
        refine sRun (xLnL (s := a0.Objects) Try.underlying24 rfl) (sRun (xMvI rfl) (sNil ?_))
        obtain ⟨Y27, hY27⟩ : ∃ Y, m_r06_heads_L1 (GCode.er a0) a0.Objects.l 0 = Y := ⟨_, rfl⟩
        rw [hY27] at hM
        refine wJ (fun f w => Has f [(1, .pointer (some ⟨b1, 0, none⟩)), (95, .slice a0.Objects.a a0.Objects.l.length a0.Objects.c), (96, .int .i64 ((a0.Objects.l.length : Nat) : Int))] ∧ Bx w0 w [.box b1 26 (GCode.cells a0).toArray] ∧ Lp.go () = Y27) ?_ ?_
        ·refine wBlock (wLoopG (fun n f w => ∃ (k27 : Nat), n = a0.Objects.l.length - k27 ∧ k27 ≤ a0.Objects.l.length ∧ Has f [(97, .int .i64 ((k27 : Nat) : Int)), (1, .pointer (some ⟨b1, 0, none⟩)), (95, .slice a0.Objects.a a0.Objects.l.length a0.Objects.c), (96, .int .i64 ((a0.Objects.l.length : Nat) : Int))] ∧ Bx w0 w [.box b1 26 (GCode.cells a0).toArray] ∧ m_r06_heads_L1 (GCode.er a0) (a0.Objects.l.drop k27) k27 = Y27) (a0.Objects.l.length) ⟨0, rfl, Nat.zero_le _, ⟨rfl, rfl, rfl, rfl, trivial⟩, hL, hY27⟩ ?_)
         clear hL hY27
         rintro n f w ⟨k27, rfl, hk27, hf, hL, hY27⟩
         obtain ⟨g, rfl⟩ := has_updL _ _ hf
         clear hf
         rcases Nat.lt_or_ge k27 a0.Objects.l.length with hk27b | hk27b
         ·obtain ⟨x27, hx27⟩ := get_ex (l := a0.Objects.l) hk27b
          rw [drop_id hx27, m_r06_heads_L1] at hY27
          try simp only [er1, er2, er3, er4, er5, er6, er7, er8, er9, er10, er11, er12, er13, er14, er15, er16, er17, List.length_map] at hY27
          refine wSeq (wReg (sRun (xLssT rfl rfl (by omega)) (sNil (wSeq (wIfT rfl (wSkip (wSeq (wBlock (wSeq (wReg (sRun (xMvI rfl) (sRun (xIdL Try.underlying24 ti72 rfl rfl rfl h0.2.2 hx27) (sRun (xLoadS (GObject.cells x27) Try.underlying72 rfl ti72 rfl rfl ((Lst.el h0.2.2 hx27).ext hL.1)) ?_)))))))))))))
          refine sTo (aNew (mAlloc ti72)) ?_
          rintro _ w28 ⟨b28, rfl, hge28, hB28, he28⟩
          replace hL := hL.new hge28 hB28 he28
          refine sRun (xAsI rfl) (sStS ti72 rfl rfl rfl (by simp [Value.oneCell', Dat.cells, GObject.cells]) (hL.bk 0 rfl) rfl ?_)
          intro w29 hB29 hC29
          replace hL : Bx w0 w29 [.box b28 72 (GObject.cells x27).toArray, .box b1 26 (GCode.cells a0).toArray] := hL.wr 0 rfl hC29 hB29
          refine sNil (wSeq (wSeq ?_))
          obtain ⟨E30, hE30⟩ : ∃ E, ((((((decide (x27.Ctx < (0 : Int))) || (decide (((a0.Contexts.l.length : Nat) : Int) ≤ x27.Ctx))) || (decide (x27.Var < (0 : Int)))) || (decide ((24 : Int) ≤ x27.Var))) || (decide (x27.Words < (1 : Int)))) || (decide ((8 : Int) < x27.Words))) = E := ⟨_, rfl⟩
          refine wJ (fun f w => Has f [(1, .pointer (some ⟨b1, 0, none⟩)), (5, .int .i64 ((k27 : Nat) : Int)), (6, .pointer (some ⟨b28, 0, none⟩)), (95, .slice a0.Objects.a a0.Objects.l.length a0.Objects.c), (96, .int .i64 ((a0.Objects.l.length : Nat) : Int)), (97, .int .i64 ((k27 : Nat) : Int)), (132, .bool E30)] ∧ Bx w0 w [.box b28 72 (GObject.cells x27).toArray, .box b1 26 (GCode.cells a0).toArray]) ?_ ?_
          ·refine wReg (sRun (xFld0 Try.underlying72 rfl rfl ti3 (by decide) rfl) (sRun (xLoad Try.underlying3 rfl rfl ((hL.bk 0 rfl).cell (i := 0) rfl)) (sRun (xLss rfl rfl) (sRun (xMvB rfl) ?_))))
           by_cases h31 : x27.Ctx < (0 : Int)
           ·try rw [decide_eq_true h31]
            refine sNo rfl (sNo rfl (sNo rfl (sNo rfl (sNo rfl (sNo rfl (sRun (xPkTB rfl rfl) (sRun (xMvB rfl) (sNo rfl (sNo rfl (sNo rfl (sRun (xPkTB rfl rfl) (sRun (xMvB rfl) (sNo rfl ?_)))))))))))))
            refine sNo rfl (sNo rfl (sRun (xPkTB rfl rfl) (sRun (xMvB rfl) (sNo rfl (sNo rfl (sNo rfl (sRun (xPkTB rfl rfl) (sRun (xMvB rfl) (sNo rfl (sNo rfl (sNo rfl (sRun (xPkTB rfl rfl) (sNil ?_)))))))))))))
            exact ⟨⟨rfl, rfl, rfl, rfl, rfl, rfl, (congrArg Value.bool (by rw [← hE30]; first | (simp [h31]; done) | (simp only [decide_eq_true h31]; done) | grind)), trivial⟩, hL⟩
           ·try rw [decide_eq_false h31]
            refine sGo rfl (sRun (xFld0 Try.underlying72 rfl rfl ti3 (by decide) rfl) (sGo rfl (sRun (xLoad Try.underlying3 rfl rfl ((hL.bk 0 rfl).cell (i := 0) rfl)) (sGo rfl (sRun (xFld (k := 2) Try.underlying26 rfl rfl ti23 (by decide) rfl) (sGo rfl (sRun (xLoad Try.underlying23 rfl rfl ((hL.bk 1 rfl).cell (i := 2) rfl)) (sGo rfl (sRun (xLnL (s := a0.Contexts) Try.underlying23 rfl) (sGo rfl (sRun (xGeq rfl rfl) (sRun (xPkFB rfl rfl) (sRun (xMvB rfl) ?_)))))))))))))
            by_cases h32 : ((a0.Contexts.l.length : Nat) : Int) ≤ x27.Ctx
            ·try rw [decide_eq_true h32]
             refine sNo rfl (sNo rfl (sNo rfl (sRun (xPkTB rfl rfl) (sRun (xMvB rfl) (sNo rfl (sNo rfl (sNo rfl (sRun (xPkTB rfl rfl) (sRun (xMvB rfl) (sNo rfl (sNo rfl (sNo rfl (sRun (xPkTB rfl rfl) ?_)))))))))))))
             refine sRun (xMvB rfl) (sNo rfl (sNo rfl (sNo rfl (sRun (xPkTB rfl rfl) (sNil ?_)))))
             exact ⟨⟨rfl, rfl, rfl, rfl, rfl, rfl, (congrArg Value.bool (by rw [← hE30]; first | (simp [h31, h32]; done) | (simp only [decide_eq_false h31, decide_eq_true h32]; done) | grind)), trivial⟩, hL⟩
            ·try rw [decide_eq_false h32]
             refine sGo rfl (sRun (xFld (k := 1) Try.underlying72 rfl rfl ti3 (by decide) rfl) (sGo rfl (sRun (xLoad Try.underlying3 rfl rfl ((hL.bk 0 rfl).cell (i := 1) rfl)) (sGo rfl (sRun (xLss rfl rfl) (sRun (xPkFB rfl rfl) (sRun (xMvB rfl) ?_)))))))
             by_cases h33 : x27.Var < (0 : Int)
             ·try rw [decide_eq_true h33]
              refine sNo rfl (sNo rfl (sNo rfl (sRun (xPkTB rfl rfl) (sRun (xMvB rfl) (sNo rfl (sNo rfl (sNo rfl (sRun (xPkTB rfl rfl) (sRun (xMvB rfl) (sNo rfl (sNo rfl (sNo rfl (sRun (xPkTB rfl rfl) ?_)))))))))))))
              refine sNil ?_
              exact ⟨⟨rfl, rfl, rfl, rfl, rfl, rfl, (congrArg Value.bool (by rw [← hE30]; first | (simp [h31, h32, h33]; done) | (simp only [decide_eq_false h31, decide_eq_false h32, decide_eq_true h33]; done) | grind)), trivial⟩, hL⟩
             ·try rw [decide_eq_false h33]
              refine sGo rfl (sRun (xFld (k := 1) Try.underlying72 rfl rfl ti3 (by decide) rfl) (sGo rfl (sRun (xLoad Try.underlying3 rfl rfl ((hL.bk 0 rfl).cell (i := 1) rfl)) (sGo rfl (sRun (xGeq rfl rfl) (sRun (xPkFB rfl rfl) (sRun (xMvB rfl) ?_)))))))
              by_cases h34 : (24 : Int) ≤ x27.Var
              ·try rw [decide_eq_true h34]
               refine sNo rfl (sNo rfl (sNo rfl (sRun (xPkTB rfl rfl) (sRun (xMvB rfl) (sNo rfl (sNo rfl (sNo rfl (sRun (xPkTB rfl rfl) (sNil ?_)))))))))
               exact ⟨⟨rfl, rfl, rfl, rfl, rfl, rfl, (congrArg Value.bool (by rw [← hE30]; first | (simp [h31, h32, h33, h34]; done) | (simp only [decide_eq_false h31, decide_eq_false h32, decide_eq_false h33, decide_eq_true h34]; done) | grind)), trivial⟩, hL⟩
              ·try rw [decide_eq_false h34]
               refine sGo rfl (sRun (xFld (k := 2) Try.underlying72 rfl rfl ti3 (by decide) rfl) (sGo rfl (sRun (xLoad Try.underlying3 rfl rfl ((hL.bk 0 rfl).cell (i := 2) rfl)) (sGo rfl (sRun (xLss rfl rfl) (sRun (xPkFB rfl rfl) (sRun (xMvB rfl) ?_)))))))
               by_cases h35 : x27.Words < (1 : Int)
               ·try rw [decide_eq_true h35]
                refine sNo rfl (sNo rfl (sNo rfl (sRun (xPkTB rfl rfl) (sNil ?_))))
                exact ⟨⟨rfl, rfl, rfl, rfl, rfl, rfl, (congrArg Value.bool (by rw [← hE30]; first | (simp [h31, h32, h33, h34, h35]; done) | (simp only [decide_eq_false h31, decide_eq_false h32, decide_eq_false h33, decide_eq_false h34, decide_eq_true h35]; done) | grind)), trivial⟩, hL⟩
               ·try rw [decide_eq_false h35]
                refine sGo rfl (sRun (xFld (k := 2) Try.underlying72 rfl rfl ti3 (by decide) rfl) (sGo rfl (sRun (xLoad Try.underlying3 rfl rfl ((hL.bk 0 rfl).cell (i := 2) rfl)) (sGo rfl (sRun (xGtr rfl rfl) (sRun (xPkFB rfl rfl) (sNil ?_)))))))
                exact ⟨⟨rfl, rfl, rfl, rfl, rfl, rfl, (congrArg Value.bool (by rw [← hE30]; first | (simp [h31, h32, h33, h34, h35]; done) | (simp only [decide_eq_false h31, decide_eq_false h32, decide_eq_false h33, decide_eq_false h34, decide_eq_false h35]; done) | grind)), trivial⟩, hL⟩
          ·clear hL
           subst hE30
           rintro f w ⟨hf, hL⟩
           obtain ⟨g, rfl⟩ := has_updL _ _ hf
           clear hf
           by_cases h36 : ((((((decide (x27.Ctx < (0 : Int))) || (decide (((a0.Contexts.l.length : Nat) : Int) ≤ x27.Ctx))) || (decide (x27.Var < (0 : Int)))) || (decide ((24 : Int) ≤ x27.Var))) || (decide (x27.Words < (1 : Int)))) || (decide ((8 : Int) < x27.Words))) = true
           ·try rw [h36]
            rw [if_pos h36] at hY27
            refine wIfT rfl (wSeq (wReg (sRun (xAsB rfl) (sNil (wRet ?_)))))
            subst hY27
            rw [Lp.el_out] at hM
            try dsimp only at hM
            subst hM
            refine res1 (P := Try.prog) (fn := Try.f42) rfl ?_
            exact ⟨rfl, hL.1⟩
           ·have h36n : ((((((decide (x27.Ctx < (0 : Int))) || (decide (((a0.Contexts.l.length : Nat) : Int) ≤ x27.Ctx))) || (decide (x27.Var < (0 : Int)))) || (decide ((24 : Int) ≤ x27.Var))) || (decide (x27.Words < (1 : Int)))) || (decide ((8 : Int) < x27.Words))) = false := Bool.eq_false_iff.2 h36
            try rw [h36n]
            rw [if_neg h36] at hY27
            have h37 : ¬ (x27.Ctx < (0 : Int)) := fun hq => by rw [decide_eq_true hq] at h36; simp at h36
            have h38 : ¬ (((a0.Contexts.l.length : Nat) : Int) ≤ x27.Ctx) := fun hq => by rw [decide_eq_true hq] at h36; simp at h36
            have h39 : ¬ (x27.Var < (0 : Int)) := fun hq => by rw [decide_eq_true hq] at h36; simp at h36
            have h40 : ¬ ((24 : Int) ≤ x27.Var) := fun hq => by rw [decide_eq_true hq] at h36; simp at h36
            have h41 : ¬ (x27.Words < (1 : Int)) := fun hq => by rw [decide_eq_true hq] at h36; simp at h36
            have h42 : ¬ ((8 : Int) < x27.Words) := fun hq => by rw [decide_eq_true hq] at h36; simp at h36
            refine wIfF rfl (wSkip (wSeq (wReg (sRun (xAsI rfl) (sNil ?_)))))
            obtain ⟨Y43, hY43⟩ : ∃ Y, m_r06_heads_L2 (GCode.er a0) x27 k27 (((k27 : Nat) : Int) - (0 : Int)).toNat (0 : Int) = Y := ⟨_, rfl⟩
            rw [hY43] at hY27
            refine wJ (fun f w => Has f [(1, .pointer (some ⟨b1, 0, none⟩)), (5, .int .i64 ((k27 : Nat) : Int)), (6, .pointer (some ⟨b28, 0, none⟩)), (95, .slice a0.Objects.a a0.Objects.l.length a0.Objects.c), (96, .int .i64 ((a0.Objects.l.length : Nat) : Int)), (97, .int .i64 ((k27 : Nat) : Int))] ∧ Bx w0 w [.box b28 72 (GObject.cells x27).toArray, .box b1 26 (GCode.cells a0).toArray] ∧ Lp.go () = Y43) ?_ ?_
            ·refine wBlock (wLoopG (fun n f w => ∃ (i43 : Int), n = (((k27 : Nat) : Int) - i43).toNat ∧ (0 : Int) ≤ i43 ∧ (i43 ≤ ((k27 : Nat) : Int) ∨ i43 = (0 : Int)) ∧ Has f [(7, .int .i64 i43), (1, .pointer (some ⟨b1, 0, none⟩)), (5, .int .i64 ((k27 : Nat) : Int)), (6, .pointer (some ⟨b28, 0, none⟩)), (95, .slice a0.Objects.a a0.Objects.l.length a0.Objects.c), (96, .int .i64 ((a0.Objects.l.length : Nat) : Int)), (97, .int .i64 ((k27 : Nat) : Int))] ∧ Bx w0 w [.box b28 72 (GObject.cells x27).toArray, .box b1 26 (GCode.cells a0).toArray] ∧ m_r06_heads_L2 (GCode.er a0) x27 k27 n i43 = Y43) (((k27 : Nat) : Int) - (0 : Int)).toNat ⟨(0 : Int), rfl, Int.le_refl _, Or.inr rfl, ⟨rfl, rfl, rfl, rfl, rfl, rfl, rfl, trivial⟩, hL, hY43⟩ ?_)
             clear hL hY43
             rintro n43 f w ⟨i43, hn43, hk43, hj43, hf, hL, hY43⟩
             obtain ⟨g, rfl⟩ := has_updL _ _ hf
             clear hf
             by_cases hk43b : i43 < ((k27 : Nat) : Int)
             ·obtain ⟨m43, rfl⟩ : ∃ m, n43 = m + 1 := ⟨n43 - 1, by omega⟩
              rw [m_r06_heads_L2] at hY43
              try simp only [er1, er2, er3, er4, er5, er6, er7, er8, er9, er10, er11, er12, er13, er14, er15, er16, er17, List.length_map] at hY43
              refine wSeq (wSeq (wReg (sRun (xMvI rfl) (sRun (xMvI rfl) (sRun (xLssT rfl rfl (by omega)) (sNil (wIfT rfl (wSkip (wSeq (wBlock (wSeq ?_)))))))))))
              replace hL := hL.drew
              refine wDraw (fun wS => Bx w0 wS [.box b28 72 (GObject.cells x27).toArray, .box b1 26 (GCode.cells a0).toArray]) [] (by kernel_rfl) (hTake 0 rfl (by kernel_rfl) rfl (fun wS => (xFld (k := 3) Try.underlying26 rfl rfl ti24 (by decide) rfl)) (sl_of hL) (hTakeS 1 rfl (by kernel_rfl) (by kernel_rfl) rfl (fun wS hS => (xLoad Try.underlying24 rfl rfl ((hS.bk 1 rfl).cell (i := 3) rfl))) (sl_of hL) (hTake 2 rfl (by kernel_rfl) rfl (fun wS => (xMvI rfl)) (sl_of hL) ?_)))
              obtain ⟨x44, hx44⟩ := get_ex (l := a0.Objects.l) (k := (i43).toNat) (by omega)
              try rw [show a0.Objects.l[(i43).toNat]?.getD (⟨(0 : Int), (0 : Int), (0 : Int)⟩ : GObject) = x44 from getD_of hx44] at hY43
              try simp only [er1, er2, er3, er4, er5, er6, er7, er8, er9, er10, er11, er12, er13, er14, er15, er16, er17, List.length_map] at hY43
              refine hTake 3 rfl (by kernel_rfl) rfl (fun wS => (xIdL Try.underlying24 ti72 rfl rfl (by omega) h0.2.2 hx44)) (sl_of hL) (hTake 4 rfl (by kernel_rfl) rfl (fun wS => (xFld0 Try.underlying72 rfl rfl ti3 (by decide) rfl)) (sl_of hL) (hTakeS 5 rfl (by kernel_rfl) (by kernel_rfl) rfl (fun wS hS => (xLoad Try.underlying3 rfl rfl (((Lst.el h0.2.2 hx44).ext hS.1) 0 _ rfl))) (sl_of hL) (hTake 6 rfl (by kernel_rfl) rfl (fun wS => (xFld0 Try.underlying72 rfl rfl ti3 (by decide) rfl)) (sl_of hL) (hTakeS 7 rfl (by kernel_rfl) (by kernel_rfl) rfl (fun wS hS => (xLoad Try.underlying3 rfl rfl ((hS.bk 0 rfl).cell (i := 0) rfl))) (sl_of hL) (hTake 8 rfl (by kernel_rfl) rfl (fun wS => (xEqlD rfl rfl)) (sl_of hL) (hTake 9 rfl (by kernel_rfl) rfl (fun wS => (xMvB rfl)) (sl_of hL) ?_))))))
              by_cases h45 : x44.Ctx = x27.Ctx
              ·try rw [decide_eq_true h45]
               rw [if_pos h45] at hY43
               refine hTake 10 rfl (by kernel_rfl) rfl (fun wS => (xFld (k := 3) Try.underlying26 rfl rfl ti24 (by decide) rfl)) (sl_of hL) (hTakeS 11 rfl (by kernel_rfl) (by kernel_rfl) rfl (fun wS hS => (xLoad Try.underlying24 rfl rfl ((hS.bk 1 rfl).cell (i := 3) rfl))) (sl_of hL) (hTake 12 rfl (by kernel_rfl) rfl (fun wS => (xMvI rfl)) (sl_of hL) (hTake 13 rfl (by kernel_rfl) rfl (fun wS => (xIdL Try.underlying24 ti72 rfl rfl (by omega) h0.2.2 hx44)) (sl_of hL) (hTake 14 rfl (by kernel_rfl) rfl (fun wS => (xFld (k := 1) Try.underlying72 rfl rfl ti3 (by decide) rfl)) (sl_of hL) (hTakeS 15 rfl (by kernel_rfl) (by kernel_rfl) rfl (fun wS hS => (xLoad Try.underlying3 rfl rfl (((Lst.el h0.2.2 hx44).ext hS.1) 1 _ rfl))) (sl_of hL) (hTake 16 rfl (by kernel_rfl) rfl (fun wS => (xFld (k := 1) Try.underlying72 rfl rfl ti3 (by decide) rfl)) (sl_of hL) (hTakeS 17 rfl (by kernel_rfl) (by kernel_rfl) rfl (fun wS hS => (xLoad Try.underlying3 rfl rfl ((hS.bk 0 rfl).cell (i := 1) rfl))) (sl_of hL) (hTake 18 rfl (by kernel_rfl) rfl (fun wS => (xEqlD rfl rfl)) (sl_of hL) (hTake 19 rfl (by kernel_rfl) rfl (fun wS => (xPkTB rfl rfl)) (sl_of hL) (hDone (by kernel_rfl) ?_))))))))))
               by_cases h46 : x44.Var = x27.Var
               ·try rw [decide_eq_true h46]
                rw [if_pos h46] at hY43
                refine wIfT rfl (wSeq (wReg (sRun (xAsB rfl) (sNil (wRet ?_)))))
                subst hY43
                rw [Lp.el_out] at hY27
                try dsimp only at hY27
                subst hY27
                rw [Lp.el_out] at hM
                try dsimp only at hM
                subst hM
                refine res1 (P := Try.prog) (fn := Try.f42) rfl ?_
                exact ⟨rfl, hL.1⟩
               ·try rw [decide_eq_false h46]
                rw [if_neg h46] at hY43
                refine wIfF rfl (wSkip (wReg (sRun (xMvI rfl) (sRun (xAdd64 rfl rfl (by omega) (by omega)) (sRun (xAsI rfl) (sNil ?_))))))
                exact ⟨m43, by omega, (i43 + 1), by omega, by omega, Or.inl (by omega), ⟨rfl, rfl, rfl, rfl, rfl, rfl, rfl, trivial⟩, hL, hY43⟩
              ·try rw [decide_eq_false h45]
               rw [if_neg h45] at hY43
               refine hSkip 10 rfl (by kernel_rfl) rfl (sl_of hL) (hSkip 11 rfl (by kernel_rfl) rfl (sl_of hL) (hSkip 12 rfl (by kernel_rfl) rfl (sl_of hL) (hSkip 13 rfl (by kernel_rfl) rfl (sl_of hL) (hSkip 14 rfl (by kernel_rfl) rfl (sl_of hL) (hSkip 15 rfl (by kernel_rfl) rfl (sl_of hL) (hSkip 16 rfl (by kernel_rfl) rfl (sl_of hL) (hSkip 17 rfl (by kernel_rfl) rfl (sl_of hL) (hSkip 18 rfl (by kernel_rfl) rfl (sl_of hL) (hTake 19 rfl (by kernel_rfl) rfl (fun wS => (xPkFB rfl rfl)) (sl_of hL) (hDone (by kernel_rfl) (wIfF rfl (wSkip (wReg ?_)))))))))))))
               refine sRun (xMvI rfl) (sRun (xAdd64 rfl rfl (by omega) (by omega)) (sRun (xAsI rfl) (sNil ?_)))
               exact ⟨m43, by omega, (i43 + 1), by omega, by omega, Or.inl (by omega), ⟨rfl, rfl, rfl, rfl, rfl, rfl, rfl, trivial⟩, hL, hY43⟩
             ·obtain rfl : n43 = 0 := by omega
              rw [m_r06_heads_L2] at hY43
              refine wSeq (wSeq (wReg (sRun (xMvI rfl) (sRun (xMvI rfl) (sRun (xLssF rfl rfl (by omega)) (sNil (wIfF rfl (wExit ?_))))))))
              exact ⟨⟨rfl, rfl, rfl, rfl, rfl, rfl, trivial⟩, hL, hY43⟩
            ·clear hL
             rintro f w ⟨hf, hL, hZ43⟩
             obtain ⟨g, rfl⟩ := has_updL _ _ hf
             clear hf
             subst hZ43
             rw [Lp.el_go] at hY27
             try dsimp only at hY27
             refine wReg (sRun (xAdd64 rfl rfl (by omega) (by omega)) (sRun (xMvI rfl) (sNil ?_)))
             exact ⟨a0.Objects.l.length - (k27 + 1), by omega, k27 + 1, rfl, by omega, ⟨rfl, rfl, rfl, rfl, trivial⟩, hL.tl, hY27⟩
         ·obtain rfl : k27 = a0.Objects.l.length := by omega
          rw [drop_end, m_r06_heads_L1] at hY27
          refine wSeq (wReg (sRun (xLssF rfl rfl (by omega)) (sNil (wSeq (wIfF rfl (wExit ?_))))))
          exact ⟨⟨rfl, rfl, rfl, trivial⟩, hL, hY27⟩
        ·clear hL
         rintro f w ⟨hf, hL, hZ27⟩
         obtain ⟨g, rfl⟩ := has_updL _ _ hf
         clear hf
         subst hZ27
         rw [Lp.el_go] at hM
         try dsimp only at hM
         refine wSeq (wReg (sRun (xAsB rfl) (sNil (wRet ?_))))
         subst hM
         refine res1 (P := Try.prog) (fn := Try.f42) rfl ?_
         exact ⟨rfl, hL.1⟩

end Go.Proofs.Ytbpccmnalhdpmaa
