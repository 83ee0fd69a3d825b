/- IrChecks: Gk. -/
import Derived.Test.YtbpccmnalhdpmaaJ11
set_option linter.unusedVariables false
set_option linter.unusedSimpArgs false
set_option maxRecDepth 4000
namespace Go.Proofs.Ytbpccmnalhdpmaa
open Go.RowKit Go.Fw
def m_ir_rightCalls_L0 (a0 : (GModule List)) (a1 : (GCode List)) : List (GBlock List) → Nat → Lp (Unit) (Bool)
 | [], _ => .go ()
 | x4 :: r4, k4 =>
 if x4.Term.Kind ≠ (3 : Int) then
  if x4.Term.Kind ≠ (6 : Int) then
   m_ir_rightCalls_L0 a0 a1 r4 (k4 + 1)
  else
   if ((a0.Funcs.length : Nat) : Int) ≤ x4.Term.N then
    .out (false)
   else
    if ((x4.Term.Args.length : Nat) : Int) ≠ (a0.Funcs[(x4.Term.N).toNat]?.getD (⟨(0 : Int), [], [], []⟩ : (GCode List))).Params then
     .out (false)
    else
     m_ir_rightCalls_L0 a0 a1 r4 (k4 + 1)
 else
  if ((a0.Funcs.length : Nat) : Int) ≤ x4.Term.N then
   .out (false)
  else
   if ((x4.Term.Args.length : Nat) : Int) ≠ (a0.Funcs[(x4.Term.N).toNat]?.getD (⟨(0 : Int), [], [], []⟩ : (GCode List))).Params then
    .out (false)
   else
    m_ir_rightCalls_L0 a0 a1 r4 (k4 + 1)
def m_ir_rightCalls (a0 : (GModule List)) (a1 : (GCode List)) : Bool :=
 (m_ir_rightCalls_L0 a0 a1 a1.Blocks 0).el (fun _ =>
  true
   ) (fun o => o)
set_option maxHeartbeats 12800000 in
theorem sp_m_ir_rightCalls (w0 : World) (a0 : (GModule Lst)) (h0 : Dat.ok (fun _ => True) w0 a0) (a1 : (GCode Lst)) (h1 : Dat.ok (fun _ => True) w0 a1) (hp : ∀ (i : Nat) (x : GBlock Lst), a1.Blocks.l[i]? = some x → (x.Term.Kind = 3 ∨ x.Term.Kind = 6) → 0 ≤ x.Term.N) : Calls Try.prog 106 #[.agg (GModule.cells a0).toArray, .agg (GCode.cells a1).toArray] w0 (Ret fun v w => v = .bool (m_ir_rightCalls (GModule.er a0) (GCode.er a1)) ∧ Ext w0 w) := by
 obtain ⟨X, hM⟩ : ∃ X, m_ir_rightCalls (GModule.er a0) (GCode.er a1) = X := ⟨_, rfl⟩
 rw [hM]
 unfold m_ir_rightCalls at hM
 try simp only [er1, er2, er3, er4, er5, er6, er7, er8, er9, er10, er11, er12, er13, er14, er15, er16, er17, List.length_map] at hM
 have hL : Bx w0 w0 [] := Bx.nil
 refine calls_of Try.func106 rfl (Nat.le_of_ble_eq_true rfl) (by kernel_rfl) ?_
 refine wCut [(0, .agg (GModule.cells a0).toArray), (1, .agg (GCode.cells a1).toArray)] ⟨rfl, rfl, trivial⟩ fun g => ?_
 refine wSeq (wReg (sTo (aNew (mBox rfl)) ?_))
 rintro _ w1 ⟨b1, rfl, hge1, hB1, he1⟩
 replace hL := hL.new hge1 hB1 he1
 refine sTo (aNew (mBox rfl)) ?_
 rintro _ w2 ⟨b2, rfl, hge2, hB2, he2⟩
 replace hL := hL.new hge2 hB2 he2
 refine sRun (xAsB rfl) (sNil (wSeq (wSeq (wReg (sRun (xFld (k := 1) Try.underlying26 rfl rfl ti22 (by decide) rfl) (sRun (xLoad Try.underlying22 rfl rfl ((hL.bk 0 rfl).cell (i := 1) rfl)) ?_))))))
 have hl3 : a1.Blocks.l.length * 144 ≤ 140737488355328 := Lst.bd h1.1
 refine sRun (xLnL (s := a1.Blocks) Try.underlying22 rfl) (sRun (xMvI rfl) (sNil ?_))
 obtain ⟨Y4, hY4⟩ : ∃ Y, m_ir_rightCalls_L0 (GModule.er a0) (GCode.er a1) (a1.Blocks.l.map GBlock.er) 0 = Y := ⟨_, rfl⟩
 rw [hY4] at hM
 refine wJ (fun f w => Has f [(2, .pointer (some ⟨b1, 0, none⟩)), (9, .slice a1.Blocks.a a1.Blocks.l.length a1.Blocks.c), (10, .int .i64 ((a1.Blocks.l.length : Nat) : Int))] ∧ Bx w0 w [.box b2 26 (GCode.cells a1).toArray, .box b1 35 (GModule.cells a0).toArray] ∧ Lp.go () = Y4) ?_ ?_
 ·refine wBlock (wLoopG (fun n f w => ∃ (k4 : Nat), n = a1.Blocks.l.length - k4 ∧ k4 ≤ a1.Blocks.l.length ∧ Has f [(11, .int .i64 ((k4 : Nat) : Int)), (2, .pointer (some ⟨b1, 0, none⟩)), (9, .slice a1.Blocks.a a1.Blocks.l.length a1.Blocks.c), (10, .int .i64 ((a1.Blocks.l.length : Nat) : Int))] ∧ Bx w0 w [.box b2 26 (GCode.cells a1).toArray, .box b1 35 (GModule.cells a0).toArray] ∧ m_ir_rightCalls_L0 (GModule.er a0) (GCode.er a1) ((a1.Blocks.l.map GBlock.er).drop k4) k4 = Y4) (a1.Blocks.l.length) ⟨0, rfl, Nat.zero_le _, ⟨rfl, rfl, rfl, rfl, trivial⟩, hL, hY4⟩ ?_)
  clear hL hY4
  rintro n f w ⟨k4, rfl, hk4, hf, hL, hY4⟩
  obtain ⟨g, rfl⟩ := has_updL _ _ hf
  clear hf
  rcases Nat.lt_or_ge k4 a1.Blocks.l.length with hk4b | hk4b
  ·obtain ⟨x4, hx4⟩ := get_ex (l := a1.Blocks.l) hk4b
   rw [drop_map hx4, m_ir_rightCalls_L0] at hY4
   try simp only [er1, er2, er3, er4, er5, er6, er7, er8, er9, er10, er11, er12, er13, er14, er15, er16, er17, List.length_map] at hY4
   refine wSeq (wReg (sRun (xLssT rfl rfl (by omega)) (sNil (wSeq (wIfT rfl (wSkip (wSeq (wBlock (wSeq (wReg (sRun (xIdL Try.underlying22 ti60 rfl rfl rfl h1.1 hx4) (sRun (xLoadS (GBlock.cells x4) Try.underlying60 rfl ti60 rfl rfl ((Lst.el h1.1 hx4).ext hL.1)) (sTo (aNew (mAlloc ti60)) ?_)))))))))))))
   rintro _ w5 ⟨b5, rfl, hge5, hB5, he5⟩
   replace hL := hL.new hge5 hB5 he5
   refine sStS ti60 rfl rfl rfl (by simp [Value.oneCell', Dat.cells, GBlock.cells]) (hL.bk 0 rfl) rfl ?_
   intro w6 hB6 hC6
   replace hL : Bx w0 w6 [.box b5 60 (GBlock.cells x4).toArray, .box b2 26 (GCode.cells a1).toArray, .box b1 35 (GModule.cells a0).toArray] := hL.wr 0 rfl hC6 hB6
   refine sNil (wSeq (wReg (sRun (xFld (k := 2) Try.underlying60 rfl rfl ti58 (by decide) rfl) (sRun (xLoadS (GTerm.cells x4.Term) Try.underlying58 rfl ti58 rfl rfl ((hL.bk 0 rfl).part rfl)) (sTo (aNew (mAlloc ti58)) ?_)))))
   rintro _ w7 ⟨b7, rfl, hge7, hB7, he7⟩
   replace hL := hL.new hge7 hB7 he7
   refine sStS ti58 rfl rfl rfl (by simp [Value.oneCell', Dat.cells, GTerm.cells]) (hL.bk 0 rfl) rfl ?_
   intro w8 hB8 hC8
   replace hL : Bx w0 w8 [.box b7 58 (GTerm.cells x4.Term).toArray, .box b5 60 (GBlock.cells x4).toArray, .box b2 26 (GCode.cells a1).toArray, .box b1 35 (GModule.cells a0).toArray] := hL.wr 0 rfl hC8 hB8
   refine sNil (wSeq (wSeq (wReg (sRun (xFld0 Try.underlying58 rfl rfl ti3 (by decide) rfl) (sRun (xLoad Try.underlying3 rfl rfl ((hL.bk 0 rfl).cell (i := 0) rfl)) (sRun (xNeqD rfl rfl) (sRun (xMvB rfl) ?_)))))))
   by_cases h9 : x4.Term.Kind ≠ (3 : Int)
   ·try rw [decide_eq_true h9]
    rw [if_pos h9] at hY4
    refine sGo rfl (sRun (xFld0 Try.underlying58 rfl rfl ti3 (by decide) rfl) (sGo rfl (sRun (xLoad Try.underlying3 rfl rfl ((hL.bk 0 rfl).cell (i := 0) rfl)) (sGo rfl (sRun (xNeqD rfl rfl) (sRun (xPkTB rfl rfl) (sNil ?_)))))))
    by_cases h10 : x4.Term.Kind ≠ (6 : Int)
    ·try rw [decide_eq_true h10]
     rw [if_pos h10] at hY4
     refine wIfT rfl (wExit (wReg (sRun (xAdd64 rfl rfl (by omega) (by omega)) (sRun (xMvI rfl) (sNil ?_)))))
     exact ⟨a1.Blocks.l.length - (k4 + 1), by omega, k4 + 1, rfl, by omega, ⟨rfl, rfl, rfl, rfl, trivial⟩, hL.tl.tl, hY4⟩
    ·try rw [decide_eq_false h10]
     rw [if_neg h10] at hY4
     refine wIfF rfl (wSkip (wSeq ?_))
     replace hL := hL.drew
     refine wDraw (fun wS => Bx w0 wS [.box b7 58 (GTerm.cells x4.Term).toArray, .box b5 60 (GBlock.cells x4).toArray, .box b2 26 (GCode.cells a1).toArray, .box b1 35 (GModule.cells a0).toArray]) [] (by kernel_rfl) (hTake 0 rfl (by kernel_rfl) rfl (fun wS => (xFld (k := 2) Try.underlying58 rfl rfl ti3 (by decide) rfl)) (sl_of hL) (hTakeS 1 rfl (by kernel_rfl) (by kernel_rfl) rfl (fun wS hS => (xLoad Try.underlying3 rfl rfl ((hS.bk 0 rfl).cell (i := 2) rfl))) (sl_of hL) (hTake 2 rfl (by kernel_rfl) rfl (fun wS => (xFld0 Try.underlying35 rfl rfl ti33 (by decide) rfl)) (sl_of hL) (hTakeS 3 rfl (by kernel_rfl) (by kernel_rfl) rfl (fun wS hS => (xLoad Try.underlying33 rfl rfl ((hS.bk 3 rfl).cell (i := 0) rfl))) (sl_of hL) ?_))))
     have hl11 : a0.Funcs.l.length * 80 ≤ 140737488355328 := Lst.bd h0
     refine hTake 4 rfl (by kernel_rfl) rfl (fun wS => (xLnL (s := a0.Funcs) Try.underlying33 rfl)) (sl_of hL) (hTake 5 rfl (by kernel_rfl) rfl (fun wS => (xGeq rfl rfl)) (sl_of hL) (hTake 6 rfl (by kernel_rfl) rfl (fun wS => (xMvB rfl)) (sl_of hL) ?_))
     by_cases h12 : ((a0.Funcs.l.length : Nat) : Int) ≤ x4.Term.N
     ·try rw [decide_eq_true h12]
      rw [if_pos h12] at hY4
      refine hSkip 7 rfl (by kernel_rfl) rfl (sl_of hL) (hSkip 8 rfl (by kernel_rfl) rfl (sl_of hL) (hSkip 9 rfl (by kernel_rfl) rfl (sl_of hL) (hSkip 10 rfl (by kernel_rfl) rfl (sl_of hL) (hSkip 11 rfl (by kernel_rfl) rfl (sl_of hL) (hSkip 12 rfl (by kernel_rfl) rfl (sl_of hL) (hSkip 13 rfl (by kernel_rfl) rfl (sl_of hL) (hSkip 14 rfl (by kernel_rfl) rfl (sl_of hL) (hSkip 15 rfl (by kernel_rfl) rfl (sl_of hL) (hSkip 16 rfl (by kernel_rfl) rfl (sl_of hL) (hSkip 17 rfl (by kernel_rfl) rfl (sl_of hL) (hTake 18 rfl (by kernel_rfl) rfl (fun wS => (xPkTB rfl rfl)) (sl_of hL) (hDone (by kernel_rfl) (wIfT rfl ?_)))))))))))))
      refine wSeq (wReg (sRun (xAsB rfl) (sNil (wRet ?_))))
      subst hY4
      rw [Lp.el_out] at hM
      try dsimp only at hM
      subst hM
      refine res1 (P := Try.prog) (fn := Try.f106) rfl ?_
      exact ⟨rfl, hL.1⟩
     ·try rw [decide_eq_false h12]
      rw [if_neg h12] at hY4
      refine hTake 7 rfl (by kernel_rfl) rfl (fun wS => (xFld (k := 3) Try.underlying58 rfl rfl ti37 (by decide) rfl)) (sl_of hL) (hTakeS 8 rfl (by kernel_rfl) (by kernel_rfl) rfl (fun wS hS => (xLoad Try.underlying37 rfl rfl ((hS.bk 0 rfl).cell (i := 3) rfl))) (sl_of hL) ?_)
      have hl13 : x4.Term.Args.l.length * 8 ≤ 140737488355328 := Lst.bd ((Lst.elok h1.1 hx4).2.1)
      refine hTake 9 rfl (by kernel_rfl) rfl (fun wS => (xLnL (s := x4.Term.Args) Try.underlying37 rfl)) (sl_of hL) (hTake 10 rfl (by kernel_rfl) rfl (fun wS => (xFld0 Try.underlying35 rfl rfl ti33 (by decide) rfl)) (sl_of hL) (hTakeS 11 rfl (by kernel_rfl) (by kernel_rfl) rfl (fun wS hS => (xLoad Try.underlying33 rfl rfl ((hS.bk 3 rfl).cell (i := 0) rfl))) (sl_of hL) (hTake 12 rfl (by kernel_rfl) rfl (fun wS => (xFld (k := 2) Try.underlying58 rfl rfl ti3 (by decide) rfl)) (sl_of hL) (hTakeS 13 rfl (by kernel_rfl) (by kernel_rfl) rfl (fun wS hS => (xLoad Try.underlying3 rfl rfl ((hS.bk 0 rfl).cell (i := 2) rfl))) (sl_of hL) ?_))))
      have hpos14 : 0 ≤ x4.Term.N := hp _ _ (by assumption) (by omega)
      obtain ⟨x14, hx14⟩ := get_ex (l := a0.Funcs.l) (k := (x4.Term.N).toNat) (by omega)
      try rw [show (a0.Funcs.l.map GCode.er)[(x4.Term.N).toNat]?.getD (⟨(0 : Int), [], [], []⟩ : (GCode List)) = GCode.er x14 from getD_map hx14] at hY4
      try simp only [er1, er2, er3, er4, er5, er6, er7, er8, er9, er10, er11, er12, er13, er14, er15, er16, er17, List.length_map] at hY4
      refine hTake 14 rfl (by kernel_rfl) rfl (fun wS => (xIdL Try.underlying33 ti26 rfl rfl (by omega) h0 hx14)) (sl_of hL) (hTake 15 rfl (by kernel_rfl) rfl (fun wS => (xFld0 Try.underlying26 rfl rfl ti3 (by decide) rfl)) (sl_of hL) (hTakeS 16 rfl (by kernel_rfl) (by kernel_rfl) rfl (fun wS hS => (xLoad Try.underlying3 rfl rfl (((Lst.el h0 hx14).ext hS.1) 0 _ rfl))) (sl_of hL) (hTake 17 rfl (by kernel_rfl) rfl (fun wS => (xNeqD rfl rfl)) (sl_of hL) (hTake 18 rfl (by kernel_rfl) rfl (fun wS => (xPkFB rfl rfl)) (sl_of hL) (hDone (by kernel_rfl) ?_)))))
      by_cases h15 : ((x4.Term.Args.l.length : Nat) : Int) ≠ x14.Params
      ·try rw [decide_eq_true h15]
       rw [if_pos h15] at hY4
       refine wIfT rfl (wSeq (wReg (sRun (xAsB rfl) (sNil (wRet ?_)))))
       subst hY4
       rw [Lp.el_out] at hM
       try dsimp only at hM
       subst hM
       refine res1 (P := Try.prog) (fn := Try.f106) rfl ?_
       exact ⟨rfl, hL.1⟩
      ·try rw [decide_eq_false h15]
       rw [if_neg h15] at hY4
       refine wIfF rfl (wSkip (wReg (sRun (xAdd64 rfl rfl (by omega) (by omega)) (sRun (xMvI rfl) (sNil ?_)))))
       exact ⟨a1.Blocks.l.length - (k4 + 1), by omega, k4 + 1, rfl, by omega, ⟨rfl, rfl, rfl, rfl, trivial⟩, hL.tl.tl, hY4⟩
   ·try rw [decide_eq_false h9]
    rw [if_neg h9] at hY4
    refine sNo rfl (sNo rfl (sNo rfl (sRun (xPkFB rfl rfl) (sNil (wIfF rfl (wSkip (wSeq ?_)))))))
    replace hL := hL.drew
    refine wDraw (fun wS => Bx w0 wS [.box b7 58 (GTerm.cells x4.Term).toArray, .box b5 60 (GBlock.cells x4).toArray, .box b2 26 (GCode.cells a1).toArray, .box b1 35 (GModule.cells a0).toArray]) [] (by kernel_rfl) (hTake 0 rfl (by kernel_rfl) rfl (fun wS => (xFld (k := 2) Try.underlying58 rfl rfl ti3 (by decide) rfl)) (sl_of hL) (hTakeS 1 rfl (by kernel_rfl) (by kernel_rfl) rfl (fun wS hS => (xLoad Try.underlying3 rfl rfl ((hS.bk 0 rfl).cell (i := 2) rfl))) (sl_of hL) (hTake 2 rfl (by kernel_rfl) rfl (fun wS => (xFld0 Try.underlying35 rfl rfl ti33 (by decide) rfl)) (sl_of hL) (hTakeS 3 rfl (by kernel_rfl) (by kernel_rfl) rfl (fun wS hS => (xLoad Try.underlying33 rfl rfl ((hS.bk 3 rfl).cell (i := 0) rfl))) (sl_of hL) ?_))))
    have hl16 : a0.Funcs.l.length * 80 ≤ 140737488355328 := Lst.bd h0
    refine hTake 4 rfl (by kernel_rfl) rfl (fun wS => (xLnL (s := a0.Funcs) Try.underlying33 rfl)) (sl_of hL) (hTake 5 rfl (by kernel_rfl) rfl (fun wS => (xGeq rfl rfl)) (sl_of hL) (hTake 6 rfl (by kernel_rfl) rfl (fun wS => (xMvB rfl)) (sl_of hL) ?_))
    by_cases h17 : ((a0.Funcs.l.length : Nat) : Int) ≤ x4.Term.N
    ·try rw [decide_eq_true h17]
     rw [if_pos h17] at hY4
     refine hSkip 7 rfl (by kernel_rfl) rfl (sl_of hL) (hSkip 8 rfl (by kernel_rfl) rfl (sl_of hL) (hSkip 9 rfl (by kernel_rfl) rfl (sl_of hL) (hSkip 10 rfl (by kernel_rfl) rfl (sl_of hL) (hSkip 11 rfl (by kernel_rfl) rfl (sl_of hL) (hSkip 12 rfl (by kernel_rfl) rfl (sl_of hL) (hSkip 13 rfl (by kernel_rfl) rfl (sl_of hL) (hSkip 14 rfl (by kernel_rfl) rfl (sl_of hL) (hSkip 15 rfl (by kernel_rfl) rfl (sl_of hL) (hSkip 16 rfl (by kernel_rfl) rfl (sl_of hL) (hSkip 17 rfl (by kernel_rfl) rfl (sl_of hL) (hTake 18 rfl (by kernel_rfl) rfl (fun wS => (xPkTB rfl rfl)) (sl_of hL) (hDone (by kernel_rfl) (wIfT rfl ?_)))))))))))))
     refine wSeq (wReg (sRun (xAsB rfl) (sNil (wRet ?_))))
     subst hY4
     rw [Lp.el_out] at hM
     try dsimp only at hM
     subst hM
     refine res1 (P := Try.prog) (fn := Try.f106) rfl ?_
     exact ⟨rfl, hL.1⟩
    ·try rw [decide_eq_false h17]
     rw [if_neg h17] at hY4
     refine hTake 7 rfl (by kernel_rfl) rfl (fun wS => (xFld (k := 3) Try.underlying58 rfl rfl ti37 (by decide) rfl)) (sl_of hL) (hTakeS 8 rfl (by kernel_rfl) (by kernel_rfl) rfl (fun wS hS => (xLoad Try.underlying37 rfl rfl ((hS.bk 0 rfl).cell (i := 3) rfl))) (sl_of hL) ?_)
     have hl18 : x4.Term.Args.l.length * 8 ≤ 140737488355328 := Lst.bd ((Lst.elok h1.1 hx4).2.1)
     refine hTake 9 rfl (by kernel_rfl) rfl (fun wS => (xLnL (s := x4.Term.Args) Try.underlying37 rfl)) (sl_of hL) (hTake 10 rfl (by kernel_rfl) rfl (fun wS => (xFld0 Try.underlying35 rfl rfl ti33 (by decide) rfl)) (sl_of hL) (hTakeS 11 rfl (by kernel_rfl) (by kernel_rfl) rfl (fun wS hS => (xLoad Try.underlying33 rfl rfl ((hS.bk 3 rfl).cell (i := 0) rfl))) (sl_of hL) (hTake 12 rfl (by kernel_rfl) rfl (fun wS => (xFld (k := 2) Try.underlying58 rfl rfl ti3 (by decide) rfl)) (sl_of hL) (hTakeS 13 rfl (by kernel_rfl) (by kernel_rfl) rfl (fun wS hS => (xLoad Try.underlying3 rfl rfl ((hS.bk 0 rfl).cell (i := 2) rfl))) (sl_of hL) ?_))))
     have hpos19 : 0 ≤ x4.Term.N := hp _ _ (by assumption) (by omega)
     obtain ⟨x19, hx19⟩ := get_ex (l := a0.Funcs.l) (k := (x4.Term.N).toNat) (by omega)
     try rw [show (a0.Funcs.l.map GCode.er)[(x4.Term.N).toNat]?.getD (⟨(0 : Int), [], [], []⟩ : (GCode List)) = GCode.er x19 from getD_map hx19] at hY4
     try simp only [er1, er2, er3, er4, er5, er6, er7, er8, er9, er10, er11, er12, er13, er14, er15, er16, er17, List.length_map] at hY4
     refine hTake 14 rfl (by kernel_rfl) rfl (fun wS => (xIdL Try.underlying33 ti26 rfl rfl (by omega) h0 hx19)) (sl_of hL) (hTake 15 rfl (by kernel_rfl) rfl (fun wS => (xFld0 Try.underlying26 rfl rfl ti3 (by decide) rfl)) (sl_of hL) (hTakeS 16 rfl (by kernel_rfl) (by kernel_rfl) rfl (fun wS hS => (xLoad Try.underlying3 rfl rfl (((Lst.el h0 hx19).ext hS.1) 0 _ rfl))) (sl_of hL) (hTake 17 rfl (by kernel_rfl) rfl (fun wS => (xNeqD rfl rfl)) (sl_of hL) (hTake 18 rfl (by kernel_rfl) rfl (fun wS => (xPkFB rfl rfl)) (sl_of hL) (hDone (by kernel_rfl) ?_)))))
     by_cases h20 : ((x4.Term.Args.l.length : Nat) : Int) ≠ x19.Params
     ·try rw [decide_eq_true h20]
      rw [if_pos h20] at hY4
      refine wIfT rfl (wSeq (wReg (sRun (xAsB rfl) (sNil (wRet ?_)))))
      subst hY4
      rw [Lp.el_out] at hM
      try dsimp only at hM
      subst hM
      refine res1 (P := Try.prog) (fn := Try.f106) rfl ?_
      exact ⟨rfl, hL.1⟩
     ·try rw [decide_eq_false h20]
      rw [if_neg h20] at hY4
      refine wIfF rfl (wSkip (wReg (sRun (xAdd64 rfl rfl (by omega) (by omega)) (sRun (xMvI rfl) (sNil ?_)))))
      exact ⟨a1.Blocks.l.length - (k4 + 1), by omega, k4 + 1, rfl, by omega, ⟨rfl, rfl, rfl, rfl, trivial⟩, hL.tl.tl, hY4⟩
  ·obtain rfl : k4 = a1.Blocks.l.length := by omega
   rw [drop_endm, m_ir_rightCalls_L0] at hY4
   refine wSeq (wReg (sRun (xLssF rfl rfl (by omega)) (sNil (wSeq (wIfF rfl (wExit ?_))))))
   exact ⟨⟨rfl, rfl, rfl, trivial⟩, hL, hY4⟩
 ·clear hL
  rintro f w ⟨hf, hL, hZ4⟩
  obtain ⟨g, rfl⟩ := has_updL _ _ hf
  clear hf
  subst hZ4
  rw [Lp.el_go] at hM
  try dsimp only at hM
  refine wSeq (wReg (sRun (xAsB rfl) (sNil (wRet ?_))))
  subst hM
  refine res1 (P := Try.prog) (fn := Try.f106) rfl ?_
  exact ⟨rfl, hL.1⟩
def m_ir_Check_L2 (a0 : (GModule List)) (x9 : (GCode List)) (k9 : Nat) : List GContext → Nat → Lp (Unit) (Int)
 | [], _ => .go ()
 | x17 :: r17, k17 =>
 if ((a0.Funcs.length : Nat) : Int) ≤ x17.Func then
  .out ((4 : Int))
 else
  m_ir_Check_L2 a0 x9 k9 r17 (k17 + 1)
def m_ir_Check_L1 (a0 : (GModule List)) : List (GCode List) → Nat → Lp (Unit) (Int)
 | [], _ => .go ()
 | x9 :: r9, k9 =>
 if (x9.Contexts[0]?.getD (⟨(0 : Int), (0 : Int), (0 : Int)⟩ : GContext)).Func ≠ ((k9 : Nat) : Int) then
  .out ((4 : Int))
 else
  if (m_ir_rightCalls a0 x9) = true then
   (m_ir_Check_L2 a0 x9 k9 x9.Contexts 0).el (fun _ =>
    m_ir_Check_L1 a0 r9 (k9 + 1)
     ) (fun o => .out o)
  else
   .out ((4 : Int))
def m_ir_Check_L0 (a0 : (GModule List)) : List (GCode List) → Nat → Lp (Unit) (Int)
 | [], _ => .go ()
 | x4 :: r4, k4 =>
 if (m_ir_CheckCode x4) ≠ (0 : Int) then
  .out ((m_ir_CheckCode x4))
 else
  m_ir_Check_L0 a0 r4 (k4 + 1)
def m_ir_Check (a0 : (GModule List)) : Int :=
 if (8 : Int) < ((a0.Funcs.length : Nat) : Int) then
  (5 : Int)
 else
  (m_ir_Check_L0 a0 a0.Funcs 0).el (fun _ =>
   (m_ir_Check_L1 a0 a0.Funcs 0).el (fun _ =>
    (0 : Int)
     ) (fun o => o)
    ) (fun o => o)
theorem ir_all (a0 : GModule List) : ∀ (l : List (GCode List)) (k : Nat), m_ir_Check_L0 a0 l k = .go () → ∀ x ∈ l, m_ir_CheckCode x = 0
 | [], _, _, x, hx => by cases hx
 | a :: l, k, h, x, hx => by
  rw [m_ir_Check_L0] at h
  by_cases h1 : m_ir_CheckCode a ≠ 0
  · rw [if_pos h1] at h; cases h
  · rw [if_neg h1] at h
    rcases List.mem_cons.1 hx with rfl | hx
    · exact Decidable.byContradiction h1
    · exact ir_all a0 l (k + 1) h x hx
theorem ir_mem {a0 : GModule Lst} {i : Nat} {c : GCode Lst} (h : m_ir_Check_L0 (GModule.er a0) (a0.Funcs.l.map GCode.er) 0 = .go ()) (hc : a0.Funcs.l[i]? = some c) : m_ir_CheckCode (GCode.er c) = 0 :=
 ir_all _ _ _ h _ (List.mem_map.2 ⟨c, List.mem_of_getElem? hc, rfl⟩)
theorem hook60 {a0 : GModule Lst} {j : Nat} {c : GCode Lst} (h : m_ir_Check_L0 (GModule.er a0) (a0.Funcs.l.map GCode.er) 0 = .go ()) (hc : a0.Funcs.l[j]? = some c) : ∀ (i : Nat) (x : GBlock Lst), c.Blocks.l[i]? = some x → (x.Term.Kind = 3 ∨ x.Term.Kind = 6) → 0 ≤ x.Term.N :=
 fun i b hb hk => chk_ir_N (b := GBlock.er b) (ir_mem h hc) (List.mem_map.2 ⟨b, List.mem_of_getElem? hb, rfl⟩) hk
theorem hook60c {a0 : GModule Lst} {j : Nat} {c : GCode Lst} (h : m_ir_Check_L0 (GModule.er a0) (a0.Funcs.l.map GCode.er) 0 = .go ()) (hc : a0.Funcs.l[j]? = some c) : 0 < c.Contexts.l.length := ctx_pos (ir_ok (ir_mem h hc)).2.1
set_option maxHeartbeats 12800000 in
theorem sp_m_ir_Check (w0 : World) (a0 : (GModule Lst)) (h0 : Dat.ok (fun _ => True) w0 a0) : Calls Try.prog 60 #[.agg (GModule.cells a0).toArray] w0 (Ret fun v w => v = .int .i64 (m_ir_Check (GModule.er a0)) ∧ Ext w0 w) := by
 obtain ⟨X, hM⟩ : ∃ X, m_ir_Check (GModule.er a0) = X := ⟨_, rfl⟩
 rw [hM]
 unfold m_ir_Check at hM
 try simp only [er1, er2, er3, er4, er5, er6, er7, er8, er9, er10, er11, er12, er13, er14, er15, er16, er17, List.length_map] at hM
 have hL : Bx w0 w0 [] := Bx.nil
 refine calls_of Try.func60 rfl (Nat.le_of_ble_eq_true rfl) (by kernel_rfl) ?_
 refine wCut [(0, .agg (GModule.cells a0).toArray)] ⟨rfl, trivial⟩ fun g => ?_
 refine wSeq (wReg (sTo (aNew (mBox rfl)) ?_))
 rintro _ w1 ⟨b1, rfl, hge1, hB1, he1⟩
 replace hL := hL.new hge1 hB1 he1
 refine sRun (xAsI rfl) (sNil (wSeq (wSeq (wReg (sRun (xFld0 Try.underlying35 rfl rfl ti33 (by decide) rfl) (sRun (xLoad Try.underlying33 rfl rfl ((hL.bk 0 rfl).cell (i := 0) rfl)) ?_))))))
 have hl2 : a0.Funcs.l.length * 80 ≤ 140737488355328 := Lst.bd h0
 refine sRun (xLnL (s := a0.Funcs) Try.underlying33 rfl) (sRun (xGtr rfl rfl) (sNil ?_))
 by_cases h3 : (8 : Int) < ((a0.Funcs.l.length : Nat) : Int)
 ·try rw [decide_eq_true h3]
  rw [if_pos h3] at hM
  refine wIfT rfl (wSeq (wReg (sRun (xAsI rfl) (sNil (wRet ?_)))))
  subst hM
  refine res1 (P := Try.prog) (fn := Try.f60) rfl ?_
  exact ⟨rfl, hL.1⟩
 ·try rw [decide_eq_false h3]
  rw [if_neg h3] at hM
  refine wIfF rfl (wSkip (wSeq (wSeq (wReg (sRun (xFld0 Try.underlying35 rfl rfl ti33 (by decide) rfl) (sRun (xLoad Try.underlying33 rfl rfl ((hL.bk 0 rfl).cell (i := 0) rfl)) (sRun (xLnL (s := a0.Funcs) Try.underlying33 rfl) (sRun (xMvI rfl) (sNil ?_)))))))))
  obtain ⟨Y4, hY4⟩ : ∃ Y, m_ir_Check_L0 (GModule.er a0) (a0.Funcs.l.map GCode.er) 0 = Y := ⟨_, rfl⟩
  rw [hY4] at hM
  refine wJ (fun f w => Has f [(1, .pointer (some ⟨b1, 0, none⟩)), (15, .slice a0.Funcs.a a0.Funcs.l.length a0.Funcs.c), (16, .int .i64 ((a0.Funcs.l.length : Nat) : Int))] ∧ Bx w0 w [.box b1 35 (GModule.cells a0).toArray] ∧ Lp.go () = Y4) ?_ ?_
  ·refine wBlock (wLoopG (fun n f w => ∃ (k4 : Nat), n = a0.Funcs.l.length - k4 ∧ k4 ≤ a0.Funcs.l.length ∧ Has f [(17, .int .i64 ((k4 : Nat) : Int)), (1, .pointer (some ⟨b1, 0, none⟩)), (15, .slice a0.Funcs.a a0.Funcs.l.length a0.Funcs.c), (16, .int .i64 ((a0.Funcs.l.length : Nat) : Int))] ∧ Bx w0 w [.box b1 35 (GModule.cells a0).toArray] ∧ m_ir_Check_L0 (GModule.er a0) ((a0.Funcs.l.map GCode.er).drop k4) k4 = Y4) (a0.Funcs.l.length) ⟨0, rfl, Nat.zero_le _, ⟨rfl, rfl, rfl, rfl, trivial⟩, hL, hY4⟩ ?_)
   clear hL hY4
   rintro n f w ⟨k4, rfl, hk4, hf, hL, hY4⟩
   obtain ⟨g, rfl⟩ := has_updL _ _ hf
   clear hf
   rcases Nat.lt_or_ge k4 a0.Funcs.l.length with hk4b | hk4b
   ·obtain ⟨x4, hx4⟩ := get_ex (l := a0.Funcs.l) hk4b
    rw [drop_map hx4, m_ir_Check_L0] at hY4
    try simp only [er1, er2, er3, er4, er5, er6, er7, er8, er9, er10, er11, er12, er13, er14, er15, er16, er17, List.length_map] at hY4
    refine wSeq (wReg (sRun (xLssT rfl rfl (by omega)) (sNil (wSeq (wIfT rfl (wSkip (wSeq (wBlock (wSeq (wReg (sRun (xIdL Try.underlying33 ti26 rfl rfl rfl h0 hx4) (sRun (xLoadS (GCode.cells x4) Try.underlying26 rfl ti26 rfl rfl ((Lst.el h0 hx4).ext hL.1)) (sTo (aNew (mAlloc ti26)) ?_)))))))))))))
    rintro _ w5 ⟨b5, rfl, hge5, hB5, he5⟩
    replace hL := hL.new hge5 hB5 he5
    refine sStS ti26 rfl rfl rfl (by simp [Value.oneCell', Dat.cells, GCode.cells]) (hL.bk 0 rfl) rfl ?_
    intro w6 hB6 hC6
    replace hL : Bx w0 w6 [.box b5 26 (GCode.cells x4).toArray, .box b1 35 (GModule.cells a0).toArray] := hL.wr 0 rfl hC6 hB6
    refine sNil (wSeq (wReg (sRun (xLoadS (GCode.cells x4) Try.underlying26 rfl ti26 rfl rfl ((hL.bk 0 rfl).part rfl)) (sCall (eCall cal30 rfl) (sp_m_ir_CheckCode _ x4 (Dat.all (Dat.ext (x := x4) (Lst.elok h0 hx4) hL.1))) ?_))))
    rintro _ w7 ⟨rfl, he7⟩
    replace hL := hL.ext he7
    refine sRun (xAsI rfl) (sNil (wSeq (wReg (sRun (xMvI rfl) (sRun (xNeqD rfl rfl) (sNil ?_))))))
    by_cases h8 : (m_ir_CheckCode (GCode.er x4)) ≠ (0 : Int)
    ·try rw [decide_eq_true h8]
     rw [if_pos h8] at hY4
     refine wIfT rfl (wSeq (wReg (sRun (xMvI rfl) (sRun (xAsI rfl) (sNil (wRet ?_))))))
     subst hY4
     rw [Lp.el_out] at hM
     try dsimp only at hM
     subst hM
     refine res1 (P := Try.prog) (fn := Try.f60) rfl ?_
     exact ⟨rfl, hL.1⟩
    ·try rw [decide_eq_false h8]
     rw [if_neg h8] at hY4
     refine wIfF rfl (wSkip (wReg (sRun (xAdd64 rfl rfl (by omega) (by omega)) (sRun (xMvI rfl) (sNil ?_)))))
     exact ⟨a0.Funcs.l.length - (k4 + 1), by omega, k4 + 1, rfl, by omega, ⟨rfl, rfl, rfl, rfl, trivial⟩, hL.tl, hY4⟩
   ·obtain rfl : k4 = a0.Funcs.l.length := by omega
    rw [drop_endm, m_ir_Check_L0] at hY4
    refine wSeq (wReg (sRun (xLssF rfl rfl (by omega)) (sNil (wSeq (wIfF rfl (wExit ?_))))))
    exact ⟨⟨rfl, rfl, rfl, trivial⟩, hL, hY4⟩
  ·clear hL
   rintro f w ⟨hf, hL, hZ4⟩
   obtain ⟨g, rfl⟩ := has_updL _ _ hf
   clear hf
   subst hZ4
   rw [Lp.el_go] at hM
   try dsimp only at hM
   refine wSeq (wSeq (wReg (sRun (xFld0 Try.underlying35 rfl rfl ti33 (by decide) rfl) (sRun (xLoad Try.underlying33 rfl rfl ((hL.bk 0 rfl).cell (i := 0) rfl)) (sRun (xLnL (s := a0.Funcs) Try.underlying33 rfl) (sRun (xMvI rfl) (sNil ?_)))))))
   obtain ⟨Y9, hY9⟩ : ∃ Y, m_ir_Check_L1 (GModule.er a0) (a0.Funcs.l.map GCode.er) 0 = Y := ⟨_, rfl⟩
   rw [hY9] at hM
   refine wJ (fun f w => Has f [(1, .pointer (some ⟨b1, 0, none⟩)), (28, .slice a0.Funcs.a a0.Funcs.l.length a0.Funcs.c), (29, .int .i64 ((a0.Funcs.l.length : Nat) : Int))] ∧ Bx w0 w [.box b1 35 (GModule.cells a0).toArray] ∧ Lp.go () = Y9) ?_ ?_
   ·refine wBlock (wLoopG (fun n f w => ∃ (k9 : Nat), n = a0.Funcs.l.length - k9 ∧ k9 ≤ a0.Funcs.l.length ∧ Has f [(30, .int .i64 ((k9 : Nat) : Int)), (1, .pointer (some ⟨b1, 0, none⟩)), (28, .slice a0.Funcs.a a0.Funcs.l.length a0.Funcs.c), (29, .int .i64 ((a0.Funcs.l.length : Nat) : Int))] ∧ Bx w0 w [.box b1 35 (GModule.cells a0).toArray] ∧ m_ir_Check_L1 (GModule.er a0) ((a0.Funcs.l.map GCode.er).drop k9) k9 = Y9) (a0.Funcs.l.length) ⟨0, rfl, Nat.zero_le _, ⟨rfl, rfl, rfl, rfl, trivial⟩, hL, hY9⟩ ?_)
    clear hL hY9
    rintro n f w ⟨k9, rfl, hk9, hf, hL, hY9⟩
    obtain ⟨g, rfl⟩ := has_updL _ _ hf
    clear hf
    rcases Nat.lt_or_ge k9 a0.Funcs.l.length with hk9b | hk9b
    ·obtain ⟨x9, hx9⟩ := get_ex (l := a0.Funcs.l) hk9b
     rw [drop_map hx9, m_ir_Check_L1] at hY9
     try simp only [er1, er2, er3, er4, er5, er6, er7, er8, er9, er10, er11, er12, er13, er14, er15, er16, er17, List.length_map] at hY9
     refine wSeq (wReg (sRun (xLssT rfl rfl (by omega)) (sNil (wSeq (wIfT rfl (wSkip (wSeq (wBlock (wSeq (wReg (sRun (xMvI rfl) (sRun (xIdL Try.underlying33 ti26 rfl rfl rfl h0 hx9) (sRun (xLoadS (GCode.cells x9) Try.underlying26 rfl ti26 rfl rfl ((Lst.el h0 hx9).ext hL.1)) ?_)))))))))))))
     refine sTo (aNew (mAlloc ti26)) ?_
     rintro _ w10 ⟨b10, rfl, hge10, hB10, he10⟩
     replace hL := hL.new hge10 hB10 he10
     refine sRun (xAsI rfl) (sStS ti26 rfl rfl rfl (by simp [Value.oneCell', Dat.cells, GCode.cells]) (hL.bk 0 rfl) rfl ?_)
     intro w11 hB11 hC11
     replace hL : Bx w0 w11 [.box b10 26 (GCode.cells x9).toArray, .box b1 35 (GModule.cells a0).toArray] := hL.wr 0 rfl hC11 hB11
     refine sNil (wSeq (wSeq (wReg (sRun (xFld (k := 2) Try.underlying26 rfl rfl ti23 (by decide) rfl) (sRun (xLoad Try.underlying23 rfl rfl ((hL.bk 0 rfl).cell (i := 2) rfl)) ?_)))))
     have hl13 : x9.Contexts.l.length * 24 ≤ 140737488355328 := Lst.bd ((Lst.elok h0 hx9).2.1)
     have hpos12 := hook60c (by assumption) (by assumption)
     obtain ⟨x12, hx12⟩ := get_ex (l := x9.Contexts.l) (k := 0) (by omega)
     try rw [show x9.Contexts.l[0]?.getD (⟨(0 : Int), (0 : Int), (0 : Int)⟩ : GContext) = x12 from getD_of hx12] at hY9
     try simp only [er1, er2, er3, er4, er5, er6, er7, er8, er9, er10, er11, er12, er13, er14, er15, er16, er17, List.length_map] at hY9
     refine sRun (xIdL Try.underlying23 ti69 rfl rfl rfl ((Lst.elok h0 hx9).2.1) hx12) (sRun (xFld (k := 2) Try.underlying69 rfl rfl ti3 (by decide) rfl) (sRun (xLoad Try.underlying3 rfl rfl (((Lst.el ((Lst.elok h0 hx9).2.1) hx12).ext hL.1) 2 _ rfl)) (sRun (xMvI rfl) (sRun (xNeqD rfl rfl) (sRun (xMvB rfl) ?_)))))
     by_cases h14 : x12.Func ≠ ((k9 : Nat) : Int)
     ·try rw [decide_eq_true h14]
      rw [if_pos h14] at hY9
      refine sNo rfl (sNo rfl (sNo rfl (sNo rfl (sRun (xPkTB rfl rfl) (sNil (wIfT rfl (wSeq (wReg (sRun (xAsI rfl) (sNil (wRet ?_)))))))))))
      subst hY9
      rw [Lp.el_out] at hM
      try dsimp only at hM
      subst hM
      refine res1 (P := Try.prog) (fn := Try.f60) rfl ?_
      exact ⟨rfl, hL.1⟩
     ·try rw [decide_eq_false h14]
      rw [if_neg h14] at hY9
      refine sGo rfl (sRun (xLoadS (GModule.cells a0) Try.underlying35 rfl ti35 rfl rfl ((hL.bk 1 rfl).part rfl)) (sGo rfl (sRun (xLoadS (GCode.cells x9) Try.underlying26 rfl ti26 rfl rfl ((hL.bk 0 rfl).part rfl)) (sGo rfl (sCall (eCall cal106 rfl) (sp_m_ir_rightCalls _ a0 (Dat.all (Dat.ext (x := a0) h0 hL.1)) x9 (Dat.all (Dat.ext (x := x9) (Lst.elok h0 hx9) hL.1)) (hook60 (by assumption) (by assumption))) ?_)))))
      rintro _ w15 ⟨rfl, he15⟩
      replace hL := hL.ext he15
      by_cases h16 : (m_ir_rightCalls (GModule.er a0) (GCode.er x9)) = true
      ·try rw [h16]
       rw [if_pos h16] at hY9
       refine sGo rfl (sRun (xNot rfl) (sRun (xPkFB rfl rfl) (sNil (wIfF rfl (wSkip (wSeq (wReg (sRun (xFld (k := 2) Try.underlying26 rfl rfl ti23 (by decide) rfl) (sRun (xLoad Try.underlying23 rfl rfl ((hL.bk 0 rfl).cell (i := 2) rfl)) (sRun (xLnL (s := x9.Contexts) Try.underlying23 rfl) (sRun (xMvI rfl) (sNil ?_))))))))))))
       obtain ⟨Y17, hY17⟩ : ∃ Y, m_ir_Check_L2 (GModule.er a0) (GCode.er x9) k9 x9.Contexts.l 0 = Y := ⟨_, rfl⟩
       rw [hY17] at hY9
       refine wJ (fun f w => Has f [(1, .pointer (some ⟨b1, 0, none⟩)), (28, .slice a0.Funcs.a a0.Funcs.l.length a0.Funcs.c), (29, .int .i64 ((a0.Funcs.l.length : Nat) : Int)), (30, .int .i64 ((k9 : Nat) : Int)), (49, .slice x9.Contexts.a x9.Contexts.l.length x9.Contexts.c), (50, .int .i64 ((x9.Contexts.l.length : Nat) : Int))] ∧ Bx w0 w [.box b10 26 (GCode.cells x9).toArray, .box b1 35 (GModule.cells a0).toArray] ∧ Lp.go () = Y17) ?_ ?_
       ·refine wBlock (wLoopG (fun n f w => ∃ (k17 : Nat), n = x9.Contexts.l.length - k17 ∧ k17 ≤ x9.Contexts.l.length ∧ Has f [(51, .int .i64 ((k17 : Nat) : Int)), (1, .pointer (some ⟨b1, 0, none⟩)), (28, .slice a0.Funcs.a a0.Funcs.l.length a0.Funcs.c), (29, .int .i64 ((a0.Funcs.l.length : Nat) : Int)), (30, .int .i64 ((k9 : Nat) : Int)), (49, .slice x9.Contexts.a x9.Contexts.l.length x9.Contexts.c), (50, .int .i64 ((x9.Contexts.l.length : Nat) : Int))] ∧ Bx w0 w [.box b10 26 (GCode.cells x9).toArray, .box b1 35 (GModule.cells a0).toArray] ∧ m_ir_Check_L2 (GModule.er a0) (GCode.er x9) k9 (x9.Contexts.l.drop k17) k17 = Y17) (x9.Contexts.l.length) ⟨0, rfl, Nat.zero_le _, ⟨rfl, rfl, rfl, rfl, rfl, rfl, rfl, trivial⟩, hL, hY17⟩ ?_)
        clear hL hY17
        rintro n f w ⟨k17, rfl, hk17, hf, hL, hY17⟩
        obtain ⟨g, rfl⟩ := has_updL _ _ hf
        clear hf
        rcases Nat.lt_or_ge k17 x9.Contexts.l.length with hk17b | hk17b
        ·obtain ⟨x17, hx17⟩ := get_ex (l := x9.Contexts.l) hk17b
         rw [drop_id hx17, m_ir_Check_L2] at hY17
         try simp only [er1, er2, er3, er4, er5, er6, er7, er8, er9, er10, er11, er12, er13, er14, er15, er16, er17, List.length_map] at hY17
         refine wSeq (wReg (sRun (xLssT rfl rfl (by omega)) (sNil (wSeq (wIfT rfl (wSkip (wSeq (wBlock (wSeq (wReg (sRun (xIdL Try.underlying23 ti69 rfl rfl rfl ((Lst.elok h0 hx9).2.1) hx17) (sRun (xLoadS (GContext.cells x17) Try.underlying69 rfl ti69 rfl rfl ((Lst.el ((Lst.elok h0 hx9).2.1) hx17).ext hL.1)) (sTo (aNew (mAlloc ti69)) ?_)))))))))))))
         rintro _ w18 ⟨b18, rfl, hge18, hB18, he18⟩
         replace hL := hL.new hge18 hB18 he18
         refine sStS ti69 rfl rfl rfl (by simp [Value.oneCell', Dat.cells, GContext.cells]) (hL.bk 0 rfl) rfl ?_
         intro w19 hB19 hC19
         replace hL : Bx w0 w19 [.box b18 69 (GContext.cells x17).toArray, .box b10 26 (GCode.cells x9).toArray, .box b1 35 (GModule.cells a0).toArray] := hL.wr 0 rfl hC19 hB19
         refine sNil (wSeq (wReg (sRun (xFld (k := 2) Try.underlying69 rfl rfl ti3 (by decide) rfl) (sRun (xLoad Try.underlying3 rfl rfl ((hL.bk 0 rfl).cell (i := 2) rfl)) (sRun (xFld0 Try.underlying35 rfl rfl ti33 (by decide) rfl) (sRun (xLoad Try.underlying33 rfl rfl ((hL.bk 2 rfl).cell (i := 0) rfl)) (sRun (xLnL (s := a0.Funcs) Try.underlying33 rfl) (sRun (xGeq rfl rfl) (sNil ?_)))))))))
         by_cases h20 : ((a0.Funcs.l.length : Nat) : Int) ≤ x17.Func
         ·try rw [decide_eq_true h20]
          rw [if_pos h20] at hY17
          refine wIfT rfl (wSeq (wReg (sRun (xAsI rfl) (sNil (wRet ?_)))))
          subst hY17
          rw [Lp.el_out] at hY9
          try dsimp only at hY9
          subst hY9
          rw [Lp.el_out] at hM
          try dsimp only at hM
          subst hM
          refine res1 (P := Try.prog) (fn := Try.f60) rfl ?_
          exact ⟨rfl, hL.1⟩
         ·try rw [decide_eq_false h20]
          rw [if_neg h20] at hY17
          refine wIfF rfl (wSkip (wReg (sRun (xAdd64 rfl rfl (by omega) (by omega)) (sRun (xMvI rfl) (sNil ?_)))))
          exact ⟨x9.Contexts.l.length - (k17 + 1), by omega, k17 + 1, rfl, by omega, ⟨rfl, rfl, rfl, rfl, rfl, rfl, rfl, trivial⟩, hL.tl, hY17⟩
        ·obtain rfl : k17 = x9.Contexts.l.length := by omega
         rw [drop_end, m_ir_Check_L2] at hY17
         refine wSeq (wReg (sRun (xLssF rfl rfl (by omega)) (sNil (wSeq (wIfF rfl (wExit ?_))))))
         exact ⟨⟨rfl, rfl, rfl, rfl, rfl, rfl, trivial⟩, hL, hY17⟩
       ·clear hL
        rintro f w ⟨hf, hL, hZ17⟩
        obtain ⟨g, rfl⟩ := has_updL _ _ hf
        clear hf
        subst hZ17
        rw [Lp.el_go] at hY9
        try dsimp only at hY9
        refine wReg (sRun (xAdd64 rfl rfl (by omega) (by omega)) (sRun (xMvI rfl) (sNil ?_)))
        exact ⟨a0.Funcs.l.length - (k9 + 1), by omega, k9 + 1, rfl, by omega, ⟨rfl, rfl, rfl, rfl, trivial⟩, hL.tl, hY9⟩
      ·have h16n : (m_ir_rightCalls (GModule.er a0) (GCode.er x9)) = false := Bool.eq_false_iff.2 h16
       try rw [h16n]
       rw [if_neg h16] at hY9
       refine sGo rfl (sRun (xNot rfl) (sRun (xPkFB rfl rfl) (sNil (wIfT rfl (wSeq (wReg (sRun (xAsI rfl) (sNil (wRet ?_)))))))))
       subst hY9
       rw [Lp.el_out] at hM
       try dsimp only at hM
       subst hM
       refine res1 (P := Try.prog) (fn := Try.f60) rfl ?_
       exact ⟨rfl, hL.1⟩
    ·obtain rfl : k9 = a0.Funcs.l.length := by omega
     rw [drop_endm, m_ir_Check_L1] at hY9
     refine wSeq (wReg (sRun (xLssF rfl rfl (by omega)) (sNil (wSeq (wIfF rfl (wExit ?_))))))
     exact ⟨⟨rfl, rfl, rfl, trivial⟩, hL, hY9⟩
   ·clear hL
    rintro f w ⟨hf, hL, hZ9⟩
    obtain ⟨g, rfl⟩ := has_updL _ _ hf
    clear hf
    subst hZ9
    rw [Lp.el_go] at hM
    try dsimp only at hM
    refine wSeq (wReg (sRun (xAsI rfl) (sNil (wRet ?_))))
    subst hM
    refine res1 (P := Try.prog) (fn := Try.f60) rfl ?_
    exact ⟨rfl, hL.1⟩
end Go.Proofs.Ytbpccmnalhdpmaa
