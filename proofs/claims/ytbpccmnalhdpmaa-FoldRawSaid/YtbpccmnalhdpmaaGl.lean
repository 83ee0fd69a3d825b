/- Contracts, printed by gen2.py. -/
import Derived.Test.YtbpccmnalhdpmaaGa
set_option linter.unusedVariables false
set_option linter.unusedSimpArgs false
set_option maxRecDepth 4000
namespace Go.Proofs.Ytbpccmnalhdpmaa
open Go.RowKit Go.Fw
def m_kit_Small_L0 (a0 : (GCode List)) : List (GBlock List) → Nat → Int → Lp (Int) (Bool)
  | [], _, s6_0 => .go s6_0
  | x6 :: r6, k6, s6_0 =>
  if (100 : Int) < x6.Params then
   .out (false)
  else
   m_kit_Small_L0 a0 r6 (k6 + 1) (wr ((wr ((wr ((wr (s6_0 + (4 : Int))) + ((x6.Term.Args.length : Nat) : Int))) + ((x6.Term.To.e0.Args.length : Nat) : Int))) + ((x6.Term.To.e1.Args.length : Nat) : Int)))
def m_kit_Small (a0 : (GCode List)) : Bool :=
 (m_kit_Small_L0 a0 a0.Blocks 0 (wr ((wr (((a0.Contexts.length : Nat) : Int) + ((a0.Objects.length : Nat) : Int))) + (m_r06_Ops a0)))).el (fun u6 =>
  (decide (u6 ≤ (600 : Int)))
   ) (fun o => o)
set_option maxHeartbeats 12800000 in
theorem sp_m_kit_Small (w0 : World) (a0 : (GCode Lst)) (h0 : Dat.ok (fun _ => True) w0 a0) : Calls Try.prog 8 #[.agg (GCode.cells a0).toArray] w0 (Ret fun v w => v = .bool (m_kit_Small (GCode.er a0)) ∧ Ext w0 w) := by
  obtain ⟨X, hM⟩ : ∃ X, m_kit_Small (GCode.er a0) = X := ⟨_, rfl⟩
  rw [hM]
  unfold m_kit_Small at hM
  try simp only [er1, er2, er3, er4, er5, er6, er7, er8, er9, er10, er11, er12, er13, er14, er15, er16, er17, List.length_map] at hM
  have hL : Bx w0 w0 [] := Bx.nil
  refine calls_of Try.func8 rfl (Nat.le_of_ble_eq_true rfl) (by kernel_rfl) ?_
  refine wCut [(0, .agg (GCode.cells a0).toArray)] ⟨rfl, trivial⟩ fun g => ?_
  refine wSeq (wReg (sTo (aNew (mBox rfl)) ?_))
  rintro _ w1 ⟨b1, rfl, hge1, hB1, he1⟩
  replace hL := hL.new hge1 hB1 he1
  refine sRun (xAsB rfl) (sNil (wSeq ?_))
  replace hL := hL.drew
  refine wDraw (fun wS => Bx w0 wS [.box b1 26 (GCode.cells a0).toArray]) [] (by kernel_rfl) (hTake 0 rfl (by kernel_rfl) rfl (fun wS => (xFld (k := 2) Try.underlying26 rfl rfl ti23 (by decide) rfl)) (sl_of hL) (hTakeS 1 rfl (by kernel_rfl) (by kernel_rfl) rfl (fun wS hS => (xLoad Try.underlying23 rfl rfl ((hS.bk 0 rfl).cell (i := 2) rfl))) (sl_of hL) ?_))
  have hl2 : a0.Contexts.l.length * 24 ≤ 140737488355328 := Lst.bd h0.2.1
  refine hTake 2 rfl (by kernel_rfl) rfl (fun wS => (xLnL (s := a0.Contexts) Try.underlying23 rfl)) (sl_of hL) (hTake 3 rfl (by kernel_rfl) rfl (fun wS => (xFld (k := 3) Try.underlying26 rfl rfl ti24 (by decide) rfl)) (sl_of hL) (hTakeS 4 rfl (by kernel_rfl) (by kernel_rfl) rfl (fun wS hS => (xLoad Try.underlying24 rfl rfl ((hS.bk 0 rfl).cell (i := 3) rfl))) (sl_of hL) ?_))
  have hl3 : a0.Objects.l.length * 24 ≤ 140737488355328 := Lst.bd h0.2.2
  refine hTake 5 rfl (by kernel_rfl) rfl (fun wS => (xLnL (s := a0.Objects) Try.underlying24 rfl)) (sl_of hL) (hTake 6 rfl (by kernel_rfl) rfl (fun wS => (xAddW rfl rfl)) (sl_of hL) (hTakeS 7 rfl (by kernel_rfl) (by kernel_rfl) rfl (fun wS hS => (xLoadS (GCode.cells a0) Try.underlying26 rfl ti26 rfl rfl ((hS.bk 0 rfl).part rfl))) (sl_of hL) ?_))
  refine hOne 8 (by kernel_rfl) (oCall rfl rfl (eCall cal27 rfl) (sp_m_r06_Ops _ a0 (Dat.all (Dat.ext (x := a0) h0 hL.1))) ?_)
  rintro _ w4 ⟨rfl, he4⟩
  replace hL := hL.ext he4
  refine ⟨(sl_of hL), ?_⟩
  refine hTake 9 rfl (by kernel_rfl) rfl (fun wS => (xAddW rfl rfl)) (sl_of hL) (hTake 10 rfl (by kernel_rfl) rfl (fun wS => (xAsI rfl)) (sl_of hL) (hDone (by kernel_rfl) (wSeq (wSeq (wReg (sRun (xFld (k := 1) Try.underlying26 rfl rfl ti22 (by decide) rfl) (sRun (xLoad Try.underlying22 rfl rfl ((hL.bk 0 rfl).cell (i := 1) rfl)) ?_)))))))
  have hl5 : a0.Blocks.l.length * 144 ≤ 140737488355328 := Lst.bd h0.1
  refine sRun (xLnL (s := a0.Blocks) Try.underlying22 rfl) (sRun (xMvI rfl) (sNil ?_))
  obtain ⟨Y6, hY6⟩ : ∃ Y, m_kit_Small_L0 (GCode.er a0) (a0.Blocks.l.map GBlock.er) 0 (wr ((wr (((a0.Contexts.l.length : Nat) : Int) + ((a0.Objects.l.length : Nat) : Int))) + (m_r06_Ops (GCode.er a0)))) = Y := ⟨_, rfl⟩
  rw [hY6] at hM
  refine wJ (fun f w => ∃ (s6_0 : Int), Has f [(3, .int .i64 s6_0), (17, .slice a0.Blocks.a a0.Blocks.l.length a0.Blocks.c), (18, .int .i64 ((a0.Blocks.l.length : Nat) : Int))] ∧ Bx w0 w [.box b1 26 (GCode.cells a0).toArray] ∧ Lp.go s6_0 = Y6) ?_ ?_
  ·refine wBlock (wLoopG (fun n f w => ∃ (k6 : Nat) (s6_0 : Int), n = a0.Blocks.l.length - k6 ∧ k6 ≤ a0.Blocks.l.length ∧ Has f [(19, .int .i64 ((k6 : Nat) : Int)), (3, .int .i64 s6_0), (17, .slice a0.Blocks.a a0.Blocks.l.length a0.Blocks.c), (18, .int .i64 ((a0.Blocks.l.length : Nat) : Int))] ∧ Bx w0 w [.box b1 26 (GCode.cells a0).toArray] ∧ m_kit_Small_L0 (GCode.er a0) ((a0.Blocks.l.map GBlock.er).drop k6) k6 s6_0 = Y6) (a0.Blocks.l.length) ⟨0, (wr ((wr (((a0.Contexts.l.length : Nat) : Int) + ((a0.Objects.l.length : Nat) : Int))) + (m_r06_Ops (GCode.er a0)))), rfl, Nat.zero_le _, ⟨rfl, rfl, rfl, rfl, trivial⟩, hL, hY6⟩ ?_)
   clear hL hY6
   rintro n f w ⟨k6, s6_0, rfl, hk6, hf, hL, hY6⟩
   obtain ⟨g, rfl⟩ := has_updL _ _ hf
   clear hf
   rcases Nat.lt_or_ge k6 a0.Blocks.l.length with hk6b | hk6b
   ·obtain ⟨x6, hx6⟩ := get_ex (l := a0.Blocks.l) hk6b
    rw [drop_map hx6, m_kit_Small_L0] at hY6
    try simp only [er1, er2, er3, er4, er5, er6, er7, er8, er9, er10, er11, er12, er13, er14, er15, er16, er17, List.length_map] at hY6
    refine wSeq (wReg (sRun (xLssT rfl rfl (by omega)) (sNil (wSeq (wIfT rfl (wSkip (wSeq (wBlock (wSeq (wReg (sRun (xIdL Try.underlying22 ti60 rfl rfl rfl h0.1 hx6) (sRun (xLoadS (GBlock.cells x6) Try.underlying60 rfl ti60 rfl rfl ((Lst.el h0.1 hx6).ext hL.1)) (sTo (aNew (mAlloc ti60)) ?_)))))))))))))
    rintro _ w7 ⟨b7, rfl, hge7, hB7, he7⟩
    replace hL := hL.new hge7 hB7 he7
    refine sStS ti60 rfl rfl rfl (by simp [Value.oneCell', Dat.cells, GBlock.cells]) (hL.bk 0 rfl) rfl ?_
    intro w8 hB8 hC8
    replace hL : Bx w0 w8 [.box b7 60 (GBlock.cells x6).toArray, .box b1 26 (GCode.cells a0).toArray] := hL.wr 0 rfl hC8 hB8
    refine sNil (wSeq (wReg (sRun (xMvI rfl) (sRun (xAddW rfl rfl) (sRun (xFld (k := 2) Try.underlying60 rfl rfl ti58 (by decide) rfl) (sRun (xFld (k := 3) Try.underlying58 rfl rfl ti37 (by decide) rfl) (sRun (xLoad Try.underlying37 rfl rfl ((hL.bk 0 rfl).cell (i := 5) rfl)) ?_)))))))
    have hl9 : x6.Term.Args.l.length * 8 ≤ 140737488355328 := Lst.bd ((Lst.elok h0.1 hx6).2.1)
    refine sRun (xLnL (s := x6.Term.Args) Try.underlying37 rfl) (sRun (xAddW rfl rfl) (sRun (xFld (k := 2) Try.underlying60 rfl rfl ti58 (by decide) rfl) (sRun (xFld (k := 4) Try.underlying58 rfl rfl ti56 (by decide) rfl) (sRun (xIdxA 0 Try.underlying56 ti55 rfl rfl (by omega) (by omega)) (sRun (xFld (k := 1) Try.underlying55 rfl rfl ti37 (by decide) rfl) (sRun (xLoad Try.underlying37 rfl rfl ((hL.bk 0 rfl).cell (i := 7) rfl)) ?_))))))
    have hl10 : x6.Term.To.e0.Args.l.length * 8 ≤ 140737488355328 := Lst.bd ((Lst.elok h0.1 hx6).2.2.1)
    refine sRun (xLnL (s := x6.Term.To.e0.Args) Try.underlying37 rfl) (sRun (xAddW rfl rfl) (sRun (xFld (k := 2) Try.underlying60 rfl rfl ti58 (by decide) rfl) (sRun (xFld (k := 4) Try.underlying58 rfl rfl ti56 (by decide) rfl) (sRun (xIdxA 1 Try.underlying56 ti55 rfl rfl (by omega) (by omega)) (sRun (xFld (k := 1) Try.underlying55 rfl rfl ti37 (by decide) rfl) (sRun (xLoad Try.underlying37 rfl rfl ((hL.bk 0 rfl).cell (i := 9) rfl)) ?_))))))
    have hl11 : x6.Term.To.e1.Args.l.length * 8 ≤ 140737488355328 := Lst.bd ((Lst.elok h0.1 hx6).2.2.2)
    refine sRun (xLnL (s := x6.Term.To.e1.Args) Try.underlying37 rfl) (sRun (xAddW rfl rfl) (sRun (xAsI rfl) (sNil (wSeq (wReg (sRun (xFld0 Try.underlying60 rfl rfl ti3 (by decide) rfl) (sRun (xLoad Try.underlying3 rfl rfl ((hL.bk 0 rfl).cell (i := 0) rfl)) (sRun (xGtr rfl rfl) (sNil ?_)))))))))
    by_cases h12 : (100 : Int) < x6.Params
    ·try rw [decide_eq_true h12]
     rw [if_pos h12] at hY6
     refine wIfT rfl (wSeq (wReg (sRun (xAsB rfl) (sNil (wRet ?_)))))
     subst hY6
     rw [Lp.el_out] at hM
     try dsimp only at hM
     subst hM
     refine res1 (P := Try.prog) (fn := Try.f8) rfl ?_
     exact ⟨rfl, hL.1⟩
    ·try rw [decide_eq_false h12]
     rw [if_neg h12] at hY6
     refine wIfF rfl (wSkip (wReg (sRun (xAdd64 rfl rfl (by omega) (by omega)) (sRun (xMvI rfl) (sNil ?_)))))
     exact ⟨a0.Blocks.l.length - (k6 + 1), by omega, k6 + 1, (wr ((wr ((wr ((wr (s6_0 + (4 : Int))) + ((x6.Term.Args.l.length : Nat) : Int))) + ((x6.Term.To.e0.Args.l.length : Nat) : Int))) + ((x6.Term.To.e1.Args.l.length : Nat) : Int))), rfl, by omega, ⟨rfl, rfl, rfl, rfl, trivial⟩, hL.tl, hY6⟩
   ·obtain rfl : k6 = a0.Blocks.l.length := by omega
    rw [drop_endm, m_kit_Small_L0] at hY6
    refine wSeq (wReg (sRun (xLssF rfl rfl (by omega)) (sNil (wSeq (wIfF rfl (wExit ?_))))))
    exact ⟨s6_0, ⟨rfl, rfl, rfl, trivial⟩, hL, hY6⟩
  ·clear hL
   rintro f w ⟨s6_0, hf, hL, hZ6⟩
   obtain ⟨g, rfl⟩ := has_updL _ _ hf
   clear hf
   subst hZ6
   rw [Lp.el_go] at hM
   try dsimp only at hM
   refine wSeq (wReg (sRun (xMvI rfl) (sRun (xLeq rfl rfl) (sRun (xAsB rfl) (sNil (wRet ?_))))))
   subst hM
   refine res1 (P := Try.prog) (fn := Try.f8) rfl ?_
   exact ⟨rfl, hL.1⟩

def m_kit_SmallModule_L0 (a0 : (GModule List)) : List (GCode List) → Nat → Lp (Unit) (Bool)
  | [], _ => .go ()
  | x4 :: r4, k4 =>
  if (m_kit_Small x4) = true then
   m_kit_SmallModule_L0 a0 r4 (k4 + 1)
  else
   .out (false)
def m_kit_SmallModule (a0 : (GModule List)) : Bool :=
 if (10 : Int) < ((a0.Funcs.length : Nat) : Int) then
  false
 else
  (m_kit_SmallModule_L0 a0 a0.Funcs 0).el (fun _ =>
   true
    ) (fun o => o)
set_option maxHeartbeats 12800000 in
theorem sp_m_kit_SmallModule (w0 : World) (a0 : (GModule Lst)) (h0 : Dat.ok (fun _ => True) w0 a0) : Calls Try.prog 17 #[.agg (GModule.cells a0).toArray] w0 (Ret fun v w => v = .bool (m_kit_SmallModule (GModule.er a0)) ∧ Ext w0 w) := by
  obtain ⟨X, hM⟩ : ∃ X, m_kit_SmallModule (GModule.er a0) = X := ⟨_, rfl⟩
  rw [hM]
  unfold m_kit_SmallModule at hM
  try simp only [er1, er2, er3, er4, er5, er6, er7, er8, er9, er10, er11, er12, er13, er14, er15, er16, er17, List.length_map] at hM
  have hL : Bx w0 w0 [] := Bx.nil
  refine calls_of Try.func17 rfl (Nat.le_of_ble_eq_true rfl) (by kernel_rfl) ?_
  refine wCut [(0, .agg (GModule.cells a0).toArray)] ⟨rfl, trivial⟩ fun g => ?_
  refine wSeq (wReg (sTo (aNew (mBox rfl)) ?_))
  rintro _ w1 ⟨b1, rfl, hge1, hB1, he1⟩
  replace hL := hL.new hge1 hB1 he1
  refine sRun (xAsB rfl) (sNil (wSeq (wSeq (wReg (sRun (xFld0 Try.underlying35 rfl rfl ti33 (by decide) rfl) (sRun (xLoad Try.underlying33 rfl rfl ((hL.bk 0 rfl).cell (i := 0) rfl)) ?_))))))
  have hl2 : a0.Funcs.l.length * 80 ≤ 140737488355328 := Lst.bd h0
  refine sRun (xLnL (s := a0.Funcs) Try.underlying33 rfl) (sRun (xGtr rfl rfl) (sNil ?_))
  by_cases h3 : (10 : Int) < ((a0.Funcs.l.length : Nat) : Int)
  ·try rw [decide_eq_true h3]
   rw [if_pos h3] at hM
   refine wIfT rfl (wSeq (wReg (sRun (xAsB rfl) (sNil (wRet ?_)))))
   subst hM
   refine res1 (P := Try.prog) (fn := Try.f17) rfl ?_
   exact ⟨rfl, hL.1⟩
  ·try rw [decide_eq_false h3]
   rw [if_neg h3] at hM
   refine wIfF rfl (wSkip (wSeq (wSeq (wReg (sRun (xFld0 Try.underlying35 rfl rfl ti33 (by decide) rfl) (sRun (xLoad Try.underlying33 rfl rfl ((hL.bk 0 rfl).cell (i := 0) rfl)) (sRun (xLnL (s := a0.Funcs) Try.underlying33 rfl) (sRun (xMvI rfl) (sNil ?_)))))))))
   obtain ⟨Y4, hY4⟩ : ∃ Y, m_kit_SmallModule_L0 (GModule.er a0) (a0.Funcs.l.map GCode.er) 0 = Y := ⟨_, rfl⟩
   rw [hY4] at hM
   refine wJ (fun f w => Has f [(10, .slice a0.Funcs.a a0.Funcs.l.length a0.Funcs.c), (11, .int .i64 ((a0.Funcs.l.length : Nat) : Int))] ∧ Bx w0 w [.box b1 35 (GModule.cells a0).toArray] ∧ Lp.go () = Y4) ?_ ?_
   ·refine wBlock (wLoopG (fun n f w => ∃ (k4 : Nat), n = a0.Funcs.l.length - k4 ∧ k4 ≤ a0.Funcs.l.length ∧ Has f [(12, .int .i64 ((k4 : Nat) : Int)), (10, .slice a0.Funcs.a a0.Funcs.l.length a0.Funcs.c), (11, .int .i64 ((a0.Funcs.l.length : Nat) : Int))] ∧ Bx w0 w [.box b1 35 (GModule.cells a0).toArray] ∧ m_kit_SmallModule_L0 (GModule.er a0) ((a0.Funcs.l.map GCode.er).drop k4) k4 = Y4) (a0.Funcs.l.length) ⟨0, rfl, Nat.zero_le _, ⟨rfl, rfl, rfl, trivial⟩, hL, hY4⟩ ?_)
    clear hL hY4
    rintro n f w ⟨k4, rfl, hk4, hf, hL, hY4⟩
    obtain ⟨g, rfl⟩ := has_updL _ _ hf
    clear hf
    rcases Nat.lt_or_ge k4 a0.Funcs.l.length with hk4b | hk4b
    ·obtain ⟨x4, hx4⟩ := get_ex (l := a0.Funcs.l) hk4b
     rw [drop_map hx4, m_kit_SmallModule_L0] at hY4
     try simp only [er1, er2, er3, er4, er5, er6, er7, er8, er9, er10, er11, er12, er13, er14, er15, er16, er17, List.length_map] at hY4
     refine wSeq (wReg (sRun (xLssT rfl rfl (by omega)) (sNil (wSeq (wIfT rfl (wSkip (wSeq (wBlock (wSeq (wReg (sRun (xIdL Try.underlying33 ti26 rfl rfl rfl h0 hx4) (sRun (xLoadS (GCode.cells x4) Try.underlying26 rfl ti26 rfl rfl ((Lst.el h0 hx4).ext hL.1)) (sTo (aNew (mAlloc ti26)) ?_)))))))))))))
     rintro _ w5 ⟨b5, rfl, hge5, hB5, he5⟩
     replace hL := hL.new hge5 hB5 he5
     refine sStS ti26 rfl rfl rfl (by simp [Value.oneCell', Dat.cells, GCode.cells]) (hL.bk 0 rfl) rfl ?_
     intro w6 hB6 hC6
     replace hL : Bx w0 w6 [.box b5 26 (GCode.cells x4).toArray, .box b1 35 (GModule.cells a0).toArray] := hL.wr 0 rfl hC6 hB6
     refine sNil (wSeq (wReg (sRun (xLoadS (GCode.cells x4) Try.underlying26 rfl ti26 rfl rfl ((hL.bk 0 rfl).part rfl)) (sCall (eCall cal8 rfl) (sp_m_kit_Small _ x4 (Dat.all (Dat.ext (x := x4) (Lst.elok h0 hx4) hL.1))) ?_))))
     rintro _ w7 ⟨rfl, he7⟩
     replace hL := hL.ext he7
     by_cases h8 : (m_kit_Small (GCode.er x4)) = true
     ·try rw [h8]
      rw [if_pos h8] at hY4
      refine sRun (xNot rfl) (sNil (wIfF rfl (wSkip (wReg (sRun (xAdd64 rfl rfl (by omega) (by omega)) (sRun (xMvI rfl) (sNil ?_)))))))
      exact ⟨a0.Funcs.l.length - (k4 + 1), by omega, k4 + 1, rfl, by omega, ⟨rfl, rfl, rfl, trivial⟩, hL.tl, hY4⟩
     ·have h8n : (m_kit_Small (GCode.er x4)) = false := Bool.eq_false_iff.2 h8
      try rw [h8n]
      rw [if_neg h8] at hY4
      refine sRun (xNot rfl) (sNil (wIfT rfl (wSeq (wReg (sRun (xAsB rfl) (sNil (wRet ?_)))))))
      subst hY4
      rw [Lp.el_out] at hM
      try dsimp only at hM
      subst hM
      refine res1 (P := Try.prog) (fn := Try.f17) rfl ?_
      exact ⟨rfl, hL.1⟩
    ·obtain rfl : k4 = a0.Funcs.l.length := by omega
     rw [drop_endm, m_kit_SmallModule_L0] at hY4
     refine wSeq (wReg (sRun (xLssF rfl rfl (by omega)) (sNil (wSeq (wIfF rfl (wExit ?_))))))
     exact ⟨⟨rfl, rfl, trivial⟩, hL, hY4⟩
   ·clear hL
    rintro f w ⟨hf, hL, hZ4⟩
    obtain ⟨g, rfl⟩ := has_updL _ _ hf
    clear hf
    subst hZ4
    rw [Lp.el_go] at hM
    try dsimp only at hM
    refine wSeq (wReg (sRun (xAsB rfl) (sNil (wRet ?_))))
    subst hM
    refine res1 (P := Try.prog) (fn := Try.f17) rfl ?_
    exact ⟨rfl, hL.1⟩

end Go.Proofs.Ytbpccmnalhdpmaa
