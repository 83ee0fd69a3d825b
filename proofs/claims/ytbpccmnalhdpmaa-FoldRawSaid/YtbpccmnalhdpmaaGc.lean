/- Contracts, printed by gen2.py. -/
import Derived.Test.YtbpccmnalhdpmaaGa
set_option linter.unusedVariables false
set_option linter.unusedSimpArgs false
set_option maxRecDepth 4000
namespace Go.Proofs.Ytbpccmnalhdpmaa
open Go.RowKit Go.Fw
def m_r06_term_L0 (a0 : (GCode List)) (a1 : (GBlock List)) : List Int → Nat → Lp (Unit) (Bool)
  | [], _ => .go ()
  | x22 :: r22, k22 =>
  if (m_r06_Has (m_r06_Values a1) x22) = true then
   m_r06_term_L0 a0 a1 r22 (k22 + 1)
  else
   .out (false)
def m_r06_term_L1 (a0 : (GCode List)) (a1 : (GBlock List)) : List Int → Nat → Lp (Unit) (Bool)
  | [], _ => .go ()
  | x58 :: r58, k58 =>
  if (m_r06_Has (m_r06_Values a1) x58) = true then
   m_r06_term_L1 a0 a1 r58 (k58 + 1)
  else
   .out (false)
def m_r06_term (a0 : (GCode List)) (a1 : (GBlock List)) : Bool :=
 if a1.Term.Kind = (3 : Int) then
  if ((decide (a1.Term.A ≠ (0 : Int))) || (((decide (a1.Term.N < (0 : Int))) || (decide ((8 : Int) ≤ a1.Term.N))) || (decide ((4 : Int) < ((a1.Term.Args.length : Nat) : Int))))) = true then
   false
  else
   (m_r06_term_L0 a0 a1 a1.Term.Args 0).el (fun _ =>
    ((m_r06_edge a0 a1.Term.To.e0 (m_r06_Values a1) (1 : Int)) && ((m_r06_none a1.Term.To.e1) || (m_r06_edge a0 a1.Term.To.e1 (m_r06_Values a1) (1 : Int))))
     ) (fun o => o)
 else
  if (((((((decide (a1.Term.Kind = (2 : Int))) || (decide (a1.Term.Kind = (4 : Int)))) || (decide (a1.Term.Kind = (5 : Int)))) && (!(m_r06_Has (m_r06_Values a1) a1.Term.A))) || ((!(((decide (a1.Term.Kind = (2 : Int))) || (decide (a1.Term.Kind = (4 : Int)))) || (decide (a1.Term.Kind = (5 : Int))))) && (decide (a1.Term.A ≠ (0 : Int))))) || ((!(decide (a1.Term.Kind = (6 : Int)))) && ((decide (a1.Term.N ≠ (0 : Int))) || (decide ((0 : Int) < ((a1.Term.Args.length : Nat) : Int)))))) || ((decide (a1.Term.Kind = (6 : Int))) && (((decide (a1.Term.N < (0 : Int))) || (decide ((8 : Int) ≤ a1.Term.N))) || (decide ((4 : Int) < ((a1.Term.Args.length : Nat) : Int)))))) = true then
   false
  else
   (m_r06_term_L1 a0 a1 a1.Term.Args 0).el (fun _ =>
    if a1.Term.Kind = (1 : Int) then
     if (m_r06_edge a0 a1.Term.To.e0 (m_r06_Values a1) (0 : Int)) = true then
      (m_r06_none a1.Term.To.e1)
     else
      false
    else
     if a1.Term.Kind = (2 : Int) then
      if (m_r06_edge a0 a1.Term.To.e0 (m_r06_Values a1) (0 : Int)) = true then
       (m_r06_edge a0 a1.Term.To.e1 (m_r06_Values a1) (0 : Int))
      else
       false
     else
      if ((decide (a1.Term.Kind = (4 : Int))) || ((decide (a1.Term.Kind = (5 : Int))) || (decide (a1.Term.Kind = (6 : Int))))) = true then
       if (m_r06_none a1.Term.To.e0) = true then
        (m_r06_none a1.Term.To.e1)
       else
        false
      else
       false
     ) (fun o => o)
set_option maxHeartbeats 12800000 in
theorem sp_m_r06_term (w0 : World) (a0 : (GCode Lst)) (h0 : Dat.ok (fun _ => True) w0 a0) (a1 : (GBlock Lst)) (h1 : Dat.ok (fun _ => True) w0 a1) (hp : a1.Params ≤ 999) : Calls Try.prog 44 #[.agg (GCode.cells a0).toArray, .agg (GBlock.cells a1).toArray] w0 (Ret fun v w => v = .bool (m_r06_term (GCode.er a0) (GBlock.er a1)) ∧ Ext w0 w) := by
  obtain ⟨X, hM⟩ : ∃ X, m_r06_term (GCode.er a0) (GBlock.er a1) = X := ⟨_, rfl⟩
  rw [hM]
  unfold m_r06_term at hM
  try simp only [er1, er2, er3, er4, er5, er6, er7, er8, er9, er10, er11, er12, er13, er14, er15, er16, er17, List.length_map] at hM
  have hL : Bx w0 w0 [] := Bx.nil
  refine calls_of Try.func44 rfl (Nat.le_of_ble_eq_true rfl) (by kernel_rfl) ?_
  refine wCut [(0, .agg (GCode.cells a0).toArray), (1, .agg (GBlock.cells a1).toArray)] ⟨rfl, rfl, trivial⟩ fun g => ?_
  refine wSeq (wReg (sTo (aNew (mBox rfl)) ?_))
  rintro _ w1 ⟨b1, rfl, hge1, hB1, he1⟩
  replace hL := hL.new hge1 hB1 he1
  refine sTo (aNew (mBox rfl)) ?_
  rintro _ w2 ⟨b2, rfl, hge2, hB2, he2⟩
  replace hL := hL.new hge2 hB2 he2
  refine sRun (xAsB rfl) (sNil (wSeq (wJ (fun f w => ∃ (lq33_0 hq33_1 : Nat) (rq33_2 : (Lst Int)) (bq34_0 : Nat), Has f [(2, .pointer (some ⟨b1, 0, none⟩)), (5, .pointer (some ⟨bq34_0, 0, none⟩)), (6, .slice rq33_2.a rq33_2.l.length rq33_2.c)] ∧ Bx w0 w [.dat lq33_0 hq33_1 rq33_2, .box bq34_0 58 (GTerm.cells a1.Term).toArray, .box b2 60 (GBlock.cells a1).toArray, .box b1 26 (GCode.cells a0).toArray] ∧ rq33_2.l = (m_r06_Values (GBlock.er a1))) ?_ ?_)))
  ·replace hL := hL.drew
   refine wDraw (fun wS => Bx w0 wS [.box b2 60 (GBlock.cells a1).toArray, .box b1 26 (GCode.cells a0).toArray]) [] (by kernel_rfl) (hTake 0 rfl (by kernel_rfl) rfl (fun wS => (xFld (k := 2) Try.underlying60 rfl rfl ti58 (by decide) rfl)) (sl_of hL) (hTakeS 1 rfl (by kernel_rfl) (by kernel_rfl) rfl (fun wS hS => (xLoadS (GTerm.cells a1.Term) Try.underlying58 rfl ti58 rfl rfl ((hS.bk 0 rfl).part rfl))) (sl_of hL) (hTakeS 2 rfl (by kernel_rfl) (by kernel_rfl) rfl (fun wS hS => (xLoadS (GBlock.cells a1) Try.underlying60 rfl ti60 rfl rfl ((hS.bk 0 rfl).part rfl))) (sl_of hL) (hTwo 3 4 (by kernel_rfl) ?_ ?_))))
   ·refine oCall rfl rfl (eCall cal86 rfl) (sp_m_r06_Values _ a1 (Dat.all (Dat.ext (x := a1) h1 hL.1)) (by omega)) ?_
    rintro _ w4 ⟨r4, rfl, hr4, ho4, he4⟩
    obtain ⟨lo4, hi4, hL⟩ := hL.got' he4 ho4
    refine ⟨(sl_of hL.tl), ?_⟩
    refine hOne 4 (by kernel_rfl) (oTo rfl rfl (aNew (mAlloc ti58)) ?_)
    rintro _ w5 ⟨b5, rfl, hge5, hB5, he5⟩
    replace hL := hL.new hge5 hB5 he5
    refine ⟨(sl_of hL.tl.tl), ?_⟩
    refine hOne 5 (by kernel_rfl) (oStS rfl rfl ti58 rfl rfl rfl (by simp [Value.oneCell', Dat.cells, GTerm.cells]) (hL.bk 0 rfl) rfl ?_)
    intro w6 hB6 hC6
    replace hL : Bx w0 w6 [.box b5 58 (GTerm.cells a1.Term).toArray, .dat lo4 hi4 r4, .box b2 60 (GBlock.cells a1).toArray, .box b1 26 (GCode.cells a0).toArray] := hL.wr 0 rfl hC6 hB6
    refine ⟨(sl_of hL.tl.tl), ?_⟩
    refine hTake 6 rfl (by kernel_rfl) rfl (fun wS => (xAsS rfl)) (sl_of hL.tl.tl) (hDone (by kernel_rfl) ?_)
    exact ⟨lo4, hi4, r4, b5, ⟨rfl, rfl, rfl, trivial⟩, (hL.perm (List.Perm.swap _ _ _)), hr4⟩
   ·refine oTo rfl rfl (aNew (mAlloc ti58)) ?_
    rintro _ w7 ⟨b7, rfl, hge7, hB7, he7⟩
    replace hL := hL.new hge7 hB7 he7
    refine ⟨(sl_of hL.tl), ?_⟩
    refine hOne 3 (by kernel_rfl) (oCall rfl rfl (eCall cal86 rfl) (sp_m_r06_Values _ a1 (Dat.all (Dat.ext (x := a1) h1 hL.1)) (by omega)) ?_)
    rintro _ w8 ⟨r8, rfl, hr8, ho8, he8⟩
    obtain ⟨lo8, hi8, hL⟩ := hL.got' he8 ho8
    refine ⟨(sl_of hL.tl.tl), ?_⟩
    refine hOne 5 (by kernel_rfl) (oStS rfl rfl ti58 rfl rfl rfl (by simp [Value.oneCell', Dat.cells, GTerm.cells]) (hL.bk 1 rfl) rfl ?_)
    intro w9 hB9 hC9
    replace hL : Bx w0 w9 [.dat lo8 hi8 r8, .box b7 58 (GTerm.cells a1.Term).toArray, .box b2 60 (GBlock.cells a1).toArray, .box b1 26 (GCode.cells a0).toArray] := hL.wr 1 rfl hC9 hB9
    refine ⟨(sl_of hL.tl.tl), ?_⟩
    refine hTake 6 rfl (by kernel_rfl) rfl (fun wS => (xAsS rfl)) (sl_of hL.tl.tl) (hDone (by kernel_rfl) ?_)
    exact ⟨lo8, hi8, r8, b7, ⟨rfl, rfl, rfl, trivial⟩, hL, hr8⟩
  ·clear hL
   rintro f w ⟨lq33_0, hq33_1, rq33_2, bq34_0, hf, hL, hrq33_2⟩
   obtain ⟨g, rfl⟩ := has_updL _ _ hf
   clear hf
   try rw [← hrq33_2] at hM
   refine wSeq (wReg (sRun (xFld0 Try.underlying58 rfl rfl ti3 (by decide) rfl) (sRun (xLoad Try.underlying3 rfl rfl ((hL.bk 1 rfl).cell (i := 0) rfl)) (sRun (xEqlD rfl rfl) (sRun (xMvB rfl) ?_)))))
   by_cases h10 : a1.Term.Kind = (3 : Int)
   ·try rw [decide_eq_true h10]
    rw [if_pos h10] at hM
    refine sNo rfl (sNo rfl (sNo rfl (sRun (xPkTB rfl rfl) (sRun (xAsB rfl) (sNil (wSeq (wReg (sRun (xFld0 Try.underlying58 rfl rfl ti3 (by decide) rfl) (sRun (xLoad Try.underlying3 rfl rfl ((hL.bk 1 rfl).cell (i := 0) rfl)) (sRun (xEqlF rfl rfl (by omega)) (sRun (xMvB rfl) (sGo rfl (sRun (xFld0 Try.underlying58 rfl rfl ti3 (by decide) rfl) ?_)))))))))))))
    refine sGo rfl (sRun (xLoad Try.underlying3 rfl rfl ((hL.bk 1 rfl).cell (i := 0) rfl)) (sGo rfl (sRun (xEqlF rfl rfl (by omega)) (sRun (xPkFB rfl rfl) (sRun (xMvB rfl) (sGo rfl (sRun (xFld0 Try.underlying58 rfl rfl ti3 (by decide) rfl) (sGo rfl (sRun (xLoad Try.underlying3 rfl rfl ((hL.bk 1 rfl).cell (i := 0) rfl)) (sGo rfl (sRun (xEqlF rfl rfl (by omega)) (sRun (xPkFB rfl rfl) (sRun (xAsB rfl) ?_)))))))))))))
    refine sNil (wSeq (wSeq ?_))
    obtain ⟨E11, hE11⟩ : ∃ E, ((decide (a1.Term.A ≠ (0 : Int))) || (((decide (a1.Term.N < (0 : Int))) || (decide ((8 : Int) ≤ a1.Term.N))) || (decide ((4 : Int) < ((a1.Term.Args.l.length : Nat) : Int))))) = E := ⟨_, rfl⟩
    refine wJ (fun f w => Has f [(2, .pointer (some ⟨b1, 0, none⟩)), (5, .pointer (some ⟨bq34_0, 0, none⟩)), (6, .slice rq33_2.a rq33_2.l.length rq33_2.c), (86, .bool E11)] ∧ Bx w0 w [.dat lq33_0 hq33_1 rq33_2, .box bq34_0 58 (GTerm.cells a1.Term).toArray, .box b2 60 (GBlock.cells a1).toArray, .box b1 26 (GCode.cells a0).toArray]) ?_ ?_
    ·refine wReg (sRun (xMvB rfl) (sRun (xMvB rfl) (sNo rfl (sNo rfl (sNo rfl (sNo rfl (sNo rfl (sRun (xPkFB rfl rfl) (sRun (xMvB rfl) (sGo rfl (sRun (xMvB rfl) (sGo rfl (sRun (xNot rfl) ?_)))))))))))))
     refine sGo rfl (sRun (xMvB rfl) (sGo rfl (sRun (xFld (k := 1) Try.underlying58 rfl rfl ti3 (by decide) rfl) (sGo rfl (sRun (xLoad Try.underlying3 rfl rfl ((hL.bk 1 rfl).cell (i := 1) rfl)) (sGo rfl (sRun (xNeqD rfl rfl) (sGo rfl (sRun (xPkTB rfl rfl) (sRun (xPkFB rfl rfl) (sRun (xMvB rfl) ?_)))))))))))
     by_cases h12 : a1.Term.A ≠ (0 : Int)
     ·try rw [decide_eq_true h12]
      refine sNo rfl (sNo rfl (sNo rfl (sNo rfl (sNo rfl (sNo rfl (sNo rfl (sNo rfl (sNo rfl (sNo rfl (sNo rfl (sNo rfl (sNo rfl (sRun (xPkTB rfl rfl) ?_)))))))))))))
      refine sRun (xMvB rfl) (sNo rfl (sNo rfl (sNo rfl (sNo rfl (sNo rfl (sNo rfl (sNo rfl (sNo rfl (sNo rfl (sNo rfl (sNo rfl (sNo rfl (sNo rfl ?_)))))))))))))
      refine sNo rfl (sNo rfl (sNo rfl (sNo rfl (sRun (xPkTB rfl rfl) (sNil ?_)))))
      exact ⟨⟨rfl, rfl, rfl, (congrArg Value.bool (by rw [← hE11]; first | (simp [h12]; done) | (simp only [decide_eq_true h12]; done) | grind)), trivial⟩, hL⟩
     ·try rw [decide_eq_false h12]
      refine sGo rfl (sRun (xMvB rfl) (sGo rfl (sRun (xNot rfl) (sGo rfl (sRun (xMvB rfl) (sNo rfl (sNo rfl (sNo rfl (sNo rfl (sNo rfl (sNo rfl (sNo rfl (sNo rfl ?_)))))))))))))
      refine sNo rfl (sGo rfl (sRun (xPkFB rfl rfl) (sRun (xPkFB rfl rfl) (sRun (xMvB rfl) (sGo rfl (sRun (xMvB rfl) (sGo rfl (sRun (xMvB rfl) (sGo rfl (sRun (xFld (k := 2) Try.underlying58 rfl rfl ti3 (by decide) rfl) (sGo rfl (sRun (xLoad Try.underlying3 rfl rfl ((hL.bk 1 rfl).cell (i := 2) rfl)) (sGo rfl ?_)))))))))))))
      refine sRun (xLss rfl rfl) (sGo rfl (sRun (xMvB rfl) ?_))
      by_cases h13 : a1.Term.N < (0 : Int)
      ·try rw [decide_eq_true h13]
       refine sNo rfl (sNo rfl (sNo rfl (sGo rfl (sRun (xPkTB rfl rfl) (sGo rfl (sRun (xMvB rfl) (sNo rfl (sNo rfl (sNo rfl (sNo rfl (sGo rfl (sRun (xPkTB rfl rfl) (sGo rfl ?_)))))))))))))
       refine sRun (xPkTB rfl rfl) (sRun (xPkFB rfl rfl) (sNil ?_))
       exact ⟨⟨rfl, rfl, rfl, (congrArg Value.bool (by rw [← hE11]; first | (simp [h12, h13]; done) | (simp only [decide_eq_false h12, decide_eq_true h13]; done) | grind)), trivial⟩, hL⟩
      ·try rw [decide_eq_false h13]
       refine sGo rfl (sRun (xFld (k := 2) Try.underlying58 rfl rfl ti3 (by decide) rfl) (sGo rfl (sRun (xLoad Try.underlying3 rfl rfl ((hL.bk 1 rfl).cell (i := 2) rfl)) (sGo rfl (sRun (xGeq rfl rfl) (sGo rfl (sRun (xPkFB rfl rfl) (sGo rfl (sRun (xMvB rfl) ?_)))))))))
       by_cases h14 : (8 : Int) ≤ a1.Term.N
       ·try rw [decide_eq_true h14]
        refine sNo rfl (sNo rfl (sNo rfl (sNo rfl (sGo rfl (sRun (xPkTB rfl rfl) (sGo rfl (sRun (xPkTB rfl rfl) (sRun (xPkFB rfl rfl) (sNil ?_)))))))))
        exact ⟨⟨rfl, rfl, rfl, (congrArg Value.bool (by rw [← hE11]; first | (simp [h12, h13, h14]; done) | (simp only [decide_eq_false h12, decide_eq_false h13, decide_eq_true h14]; done) | grind)), trivial⟩, hL⟩
       ·try rw [decide_eq_false h14]
        refine sGo rfl (sRun (xFld (k := 3) Try.underlying58 rfl rfl ti37 (by decide) rfl) (sGo rfl (sRun (xLoad Try.underlying37 rfl rfl ((hL.bk 1 rfl).cell (i := 3) rfl)) (sGo rfl ?_))))
        have hl15 : a1.Term.Args.l.length * 8 ≤ 140737488355328 := Lst.bd h1.2.1
        refine sRun (xLnL (s := a1.Term.Args) Try.underlying37 rfl) (sGo rfl (sRun (xGtr rfl rfl) (sGo rfl (sRun (xPkFB rfl rfl) (sGo rfl (sRun (xPkTB rfl rfl) (sRun (xPkFB rfl rfl) (sNil ?_))))))))
        exact ⟨⟨rfl, rfl, rfl, (congrArg Value.bool (by rw [← hE11]; first | (simp [h12, h13, h14]; done) | (simp only [decide_eq_false h12, decide_eq_false h13, decide_eq_false h14]; done) | grind)), trivial⟩, hL⟩
    ·clear hL
     subst hE11
     rintro f w ⟨hf, hL⟩
     obtain ⟨g, rfl⟩ := has_updL _ _ hf
     clear hf
     by_cases h16 : ((decide (a1.Term.A ≠ (0 : Int))) || (((decide (a1.Term.N < (0 : Int))) || (decide ((8 : Int) ≤ a1.Term.N))) || (decide ((4 : Int) < ((a1.Term.Args.l.length : Nat) : Int))))) = true
     ·try rw [h16]
      rw [if_pos h16] at hM
      refine wIfT rfl (wSeq (wReg (sRun (xAsB rfl) (sNil (wRet ?_)))))
      subst hM
      refine res1 (P := Try.prog) (fn := Try.f44) rfl ?_
      exact ⟨rfl, hL.1⟩
     ·have h16n : ((decide (a1.Term.A ≠ (0 : Int))) || (((decide (a1.Term.N < (0 : Int))) || (decide ((8 : Int) ≤ a1.Term.N))) || (decide ((4 : Int) < ((a1.Term.Args.l.length : Nat) : Int))))) = false := Bool.eq_false_iff.2 h16
      try rw [h16n]
      rw [if_neg h16] at hM
      have h17 : ¬ (a1.Term.A ≠ (0 : Int)) := fun hq => by rw [decide_eq_true hq] at h16; simp at h16
      have h18 : ¬ (a1.Term.N < (0 : Int)) := fun hq => by rw [decide_eq_true hq] at h16; simp at h16
      have h19 : ¬ ((8 : Int) ≤ a1.Term.N) := fun hq => by rw [decide_eq_true hq] at h16; simp at h16
      have h20 : ¬ ((4 : Int) < ((a1.Term.Args.l.length : Nat) : Int)) := fun hq => by rw [decide_eq_true hq] at h16; simp at h16
      refine wIfF rfl (wSkip (wSeq (wSeq (wReg (sRun (xFld (k := 3) Try.underlying58 rfl rfl ti37 (by decide) rfl) (sRun (xLoad Try.underlying37 rfl rfl ((hL.bk 1 rfl).cell (i := 3) rfl)) ?_))))))
      have hl21 : a1.Term.Args.l.length * 8 ≤ 140737488355328 := Lst.bd h1.2.1
      refine sRun (xLnL (s := a1.Term.Args) Try.underlying37 rfl) (sRun (xMvI rfl) (sNil ?_))
      obtain ⟨Y22, hY22⟩ : ∃ Y, m_r06_term_L0 (GCode.er a0) (GBlock.er a1) a1.Term.Args.l 0 = Y := ⟨_, rfl⟩
      rw [hY22] at hM
      refine wJ (fun f w => Has f [(2, .pointer (some ⟨b1, 0, none⟩)), (5, .pointer (some ⟨bq34_0, 0, none⟩)), (6, .slice rq33_2.a rq33_2.l.length rq33_2.c), (88, .slice a1.Term.Args.a a1.Term.Args.l.length a1.Term.Args.c), (89, .int .i64 ((a1.Term.Args.l.length : Nat) : Int))] ∧ Bx w0 w [.dat lq33_0 hq33_1 rq33_2, .box bq34_0 58 (GTerm.cells a1.Term).toArray, .box b2 60 (GBlock.cells a1).toArray, .box b1 26 (GCode.cells a0).toArray] ∧ Lp.go () = Y22) ?_ ?_
      ·refine wBlock (wLoopG (fun n f w => ∃ (k22 : Nat), n = a1.Term.Args.l.length - k22 ∧ k22 ≤ a1.Term.Args.l.length ∧ Has f [(90, .int .i64 ((k22 : Nat) : Int)), (2, .pointer (some ⟨b1, 0, none⟩)), (5, .pointer (some ⟨bq34_0, 0, none⟩)), (6, .slice rq33_2.a rq33_2.l.length rq33_2.c), (88, .slice a1.Term.Args.a a1.Term.Args.l.length a1.Term.Args.c), (89, .int .i64 ((a1.Term.Args.l.length : Nat) : Int))] ∧ Bx w0 w [.dat lq33_0 hq33_1 rq33_2, .box bq34_0 58 (GTerm.cells a1.Term).toArray, .box b2 60 (GBlock.cells a1).toArray, .box b1 26 (GCode.cells a0).toArray] ∧ m_r06_term_L0 (GCode.er a0) (GBlock.er a1) (a1.Term.Args.l.drop k22) k22 = Y22) (a1.Term.Args.l.length) ⟨0, rfl, Nat.zero_le _, ⟨rfl, rfl, rfl, rfl, rfl, rfl, trivial⟩, hL, hY22⟩ ?_)
       clear hL hY22
       rintro n f w ⟨k22, rfl, hk22, hf, hL, hY22⟩
       obtain ⟨g, rfl⟩ := has_updL _ _ hf
       clear hf
       rcases Nat.lt_or_ge k22 a1.Term.Args.l.length with hk22b | hk22b
       ·obtain ⟨x22, hx22⟩ := get_ex (l := a1.Term.Args.l) hk22b
        rw [drop_id hx22, m_r06_term_L0] at hY22
        try simp only [er1, er2, er3, er4, er5, er6, er7, er8, er9, er10, er11, er12, er13, er14, er15, er16, er17, List.length_map, ← hrq33_2] at hY22
        refine wSeq (wReg (sRun (xLssT rfl rfl (by omega)) (sNil (wSeq (wIfT rfl (wSkip (wSeq (wBlock (wSeq (wReg (sRun (xIdL Try.underlying37 ti3 rfl rfl rfl h1.2.1 hx22) (sRun (xLoad Try.underlying3 rfl rfl (((Lst.el h1.2.1 hx22).ext hL.1) 0 _ rfl)) (sRun (xAsI rfl) ?_)))))))))))))
        refine sNil (wSeq (wReg (sRun (xMvS rfl) (sRun (xMvI rfl) (sCall (eCall cal55 rfl) (sp_m_r06_Has _ rq33_2 (Dat.all (hL.at 0 rfl).2) x22) ?_)))))
        rintro _ w23 ⟨rfl, he23⟩
        replace hL := hL.ext he23
        by_cases h24 : (m_r06_Has rq33_2.l x22) = true
        ·try rw [h24]
         rw [if_pos h24] at hY22
         refine sRun (xNot rfl) (sNil (wIfF rfl (wSkip (wReg (sRun (xAdd64 rfl rfl (by omega) (by omega)) (sRun (xMvI rfl) (sNil ?_)))))))
         exact ⟨a1.Term.Args.l.length - (k22 + 1), by omega, k22 + 1, rfl, by omega, ⟨rfl, rfl, rfl, rfl, rfl, rfl, trivial⟩, hL, hY22⟩
        ·have h24n : (m_r06_Has rq33_2.l x22) = false := Bool.eq_false_iff.2 h24
         try rw [h24n]
         rw [if_neg h24] at hY22
         refine sRun (xNot rfl) (sNil (wIfT rfl (wSeq (wReg (sRun (xAsB rfl) (sNil (wRet ?_)))))))
         subst hY22
         rw [Lp.el_out] at hM
         try dsimp only at hM
         subst hM
         refine res1 (P := Try.prog) (fn := Try.f44) rfl ?_
         exact ⟨rfl, hL.1⟩
       ·obtain rfl : k22 = a1.Term.Args.l.length := by omega
        rw [drop_end, m_r06_term_L0] at hY22
        refine wSeq (wReg (sRun (xLssF rfl rfl (by omega)) (sNil (wSeq (wIfF rfl (wExit ?_))))))
        exact ⟨⟨rfl, rfl, rfl, rfl, rfl, trivial⟩, hL, hY22⟩
      ·clear hL
       rintro f w ⟨hf, hL, hZ22⟩
       obtain ⟨g, rfl⟩ := has_updL _ _ hf
       clear hf
       subst hZ22
       rw [Lp.el_go] at hM
       try dsimp only at hM
       refine wSeq (wSeq (wReg (sRun (xFld0 Try.underlying58 rfl rfl ti3 (by decide) rfl) (sRun (xLoad Try.underlying3 rfl rfl ((hL.bk 1 rfl).cell (i := 0) rfl)) (sNil (wBlock (wSeq (wReg (sRun (xEqlF rfl rfl (by omega)) (sRun (xAsB rfl) (sNil (wIfF rfl (wSeq ?_)))))))))))))
       refine wReg (sRun (xEqlF rfl rfl (by omega)) (sRun (xAsB rfl) (sNil (wIfF rfl (wSeq (wReg (sRun (xEqlT rfl rfl (by omega)) (sRun (xAsB rfl) (sNil (wIfT rfl (wSeq ?_)))))))))))
       obtain ⟨E25, hE25⟩ : ∃ E, ((m_r06_edge (GCode.er a0) (GEdge.er a1.Term.To.e0) rq33_2.l (1 : Int)) && ((m_r06_none (GEdge.er a1.Term.To.e1)) || (m_r06_edge (GCode.er a0) (GEdge.er a1.Term.To.e1) rq33_2.l (1 : Int)))) = E := ⟨_, rfl⟩
       refine wJ (fun f w => Has f [(4, .bool E25)] ∧ Bx w0 w [.dat lq33_0 hq33_1 rq33_2, .box bq34_0 58 (GTerm.cells a1.Term).toArray, .box b2 60 (GBlock.cells a1).toArray, .box b1 26 (GCode.cells a0).toArray]) ?_ ?_
       ·refine wReg (sRun (xLoadS (GCode.cells a0) Try.underlying26 rfl ti26 rfl rfl ((hL.bk 3 rfl).part rfl)) (sRun (xFld (k := 4) Try.underlying58 rfl rfl ti56 (by decide) rfl) (sRun (xIdxA 0 Try.underlying56 ti55 rfl rfl (by omega) (by omega)) (sRun (xLoadS (GEdge.cells a1.Term.To.e0) Try.underlying55 rfl ti55 rfl rfl ((hL.bk 1 rfl).part rfl)) (sRun (xMvS rfl) (sCall (eCall cal89 rfl) (sp_m_r06_edge _ a0 (Dat.all (Dat.ext (x := a0) h0 hL.1)) a1.Term.To.e0 (Dat.all (Dat.ext (x := a1.Term.To.e0) h1.2.2.1 hL.1)) rq33_2 (Dat.all (hL.at 0 rfl).2) (1 : Int)) ?_))))))
        rintro _ w26 ⟨rfl, he26⟩
        replace hL := hL.ext he26
        refine sRun (xMvB rfl) ?_
        by_cases h27 : (m_r06_edge (GCode.er a0) (GEdge.er a1.Term.To.e0) rq33_2.l (1 : Int)) = true
        ·try rw [h27]
         refine sGo rfl (sRun (xFld (k := 4) Try.underlying58 rfl rfl ti56 (by decide) rfl) (sGo rfl (sRun (xIdxA 1 Try.underlying56 ti55 rfl rfl (by omega) (by omega)) (sGo rfl (sRun (xLoadS (GEdge.cells a1.Term.To.e1) Try.underlying55 rfl ti55 rfl rfl ((hL.bk 1 rfl).part rfl)) (sGo rfl (sCall (eCall cal90 rfl) (sp_m_r06_none _ a1.Term.To.e1 (Dat.all (Dat.ext (x := a1.Term.To.e1) h1.2.2.2 hL.1))) ?_)))))))
         rintro _ w28 ⟨rfl, he28⟩
         replace hL := hL.ext he28
         refine sGo rfl (sRun (xMvB rfl) ?_)
         by_cases h29 : (m_r06_none (GEdge.er a1.Term.To.e1)) = true
         ·try rw [h29]
          refine sNo rfl (sNo rfl (sNo rfl (sNo rfl (sNo rfl (sNo rfl (sGo rfl (sRun (xPkTB rfl rfl) (sRun (xPkTB rfl rfl) (sRun (xAsB rfl) (sNil ?_))))))))))
          exact ⟨⟨(congrArg Value.bool (by rw [← hE25]; first | (simp [h27, h29]; done) | (simp only [h27, h29]; done) | grind)), trivial⟩, hL⟩
         ·have h29n : (m_r06_none (GEdge.er a1.Term.To.e1)) = false := Bool.eq_false_iff.2 h29
          try rw [h29n]
          refine sGo rfl (sRun (xLoadS (GCode.cells a0) Try.underlying26 rfl ti26 rfl rfl ((hL.bk 3 rfl).part rfl)) (sGo rfl (sRun (xFld (k := 4) Try.underlying58 rfl rfl ti56 (by decide) rfl) (sGo rfl (sRun (xIdxA 1 Try.underlying56 ti55 rfl rfl (by omega) (by omega)) (sGo rfl (sRun (xLoadS (GEdge.cells a1.Term.To.e1) Try.underlying55 rfl ti55 rfl rfl ((hL.bk 1 rfl).part rfl)) (sGo rfl (sRun (xMvS rfl) (sGo rfl (sCall (eCall cal89 rfl) (sp_m_r06_edge _ a0 (Dat.all (Dat.ext (x := a0) h0 hL.1)) a1.Term.To.e1 (Dat.all (Dat.ext (x := a1.Term.To.e1) h1.2.2.2 hL.1)) rq33_2 (Dat.all (hL.at 0 rfl).2) (1 : Int)) ?_)))))))))))
          rintro _ w30 ⟨rfl, he30⟩
          replace hL := hL.ext he30
          refine sGo rfl (sRun (xPkFB rfl rfl) (sRun (xPkTB rfl rfl) (sRun (xAsB rfl) (sNil ?_))))
          exact ⟨⟨(congrArg Value.bool (by rw [← hE25]; first | (simp [h27, h29n]; done) | (simp only [h27, h29n]; done) | grind)), trivial⟩, hL⟩
        ·have h27n : (m_r06_edge (GCode.er a0) (GEdge.er a1.Term.To.e0) rq33_2.l (1 : Int)) = false := Bool.eq_false_iff.2 h27
         try rw [h27n]
         refine sNo rfl (sNo rfl (sNo rfl (sNo rfl (sNo rfl (sNo rfl (sNo rfl (sNo rfl (sNo rfl (sNo rfl (sNo rfl (sNo rfl (sRun (xPkFB rfl rfl) (sRun (xAsB rfl) ?_)))))))))))))
         refine sNil ?_
         exact ⟨⟨(congrArg Value.bool (by rw [← hE25]; first | (simp [h27n]; done) | (simp only [h27n]; done) | grind)), trivial⟩, hL⟩
       ·clear hL
        subst hE25
        rintro f w ⟨hf, hL⟩
        obtain ⟨g, rfl⟩ := has_updL _ _ hf
        clear hf
        refine wRet ?_
        subst hM
        refine res1 (P := Try.prog) (fn := Try.f44) rfl ?_
        exact ⟨rfl, hL.1⟩
   ·try rw [decide_eq_false h10]
    rw [if_neg h10] at hM
    refine sGo rfl (sRun (xFld0 Try.underlying58 rfl rfl ti3 (by decide) rfl) (sGo rfl (sRun (xLoad Try.underlying3 rfl rfl ((hL.bk 1 rfl).cell (i := 0) rfl)) (sGo rfl (sRun (xEqlD rfl rfl) (sRun (xPkFB rfl rfl) (sRun (xAsB rfl) (sNil (wSeq ?_)))))))))
    obtain ⟨E31, hE31⟩ : ∃ E, (((decide (a1.Term.Kind = (2 : Int))) || (decide (a1.Term.Kind = (4 : Int)))) || (decide (a1.Term.Kind = (5 : Int)))) = E := ⟨_, rfl⟩
    refine wJ (fun f w => Has f [(2, .pointer (some ⟨b1, 0, none⟩)), (5, .pointer (some ⟨bq34_0, 0, none⟩)), (6, .slice rq33_2.a rq33_2.l.length rq33_2.c), (7, .bool (decide (a1.Term.Kind = (6 : Int)))), (8, .bool E31)] ∧ Bx w0 w [.dat lq33_0 hq33_1 rq33_2, .box bq34_0 58 (GTerm.cells a1.Term).toArray, .box b2 60 (GBlock.cells a1).toArray, .box b1 26 (GCode.cells a0).toArray]) ?_ ?_
    ·refine wReg (sRun (xFld0 Try.underlying58 rfl rfl ti3 (by decide) rfl) (sRun (xLoad Try.underlying3 rfl rfl ((hL.bk 1 rfl).cell (i := 0) rfl)) (sRun (xEqlD rfl rfl) (sRun (xMvB rfl) ?_))))
     by_cases h32 : a1.Term.Kind = (2 : Int)
     ·try rw [decide_eq_true h32]
      refine sNo rfl (sNo rfl (sNo rfl (sRun (xPkTB rfl rfl) (sRun (xMvB rfl) (sNo rfl (sNo rfl (sNo rfl (sRun (xPkTB rfl rfl) (sRun (xAsB rfl) (sNil ?_))))))))))
      exact ⟨⟨rfl, rfl, rfl, rfl, (congrArg Value.bool (by rw [← hE31]; first | (simp [h32]; done) | (simp only [decide_eq_true h32]; done) | grind)), trivial⟩, hL⟩
     ·try rw [decide_eq_false h32]
      refine sGo rfl (sRun (xFld0 Try.underlying58 rfl rfl ti3 (by decide) rfl) (sGo rfl (sRun (xLoad Try.underlying3 rfl rfl ((hL.bk 1 rfl).cell (i := 0) rfl)) (sGo rfl (sRun (xEqlD rfl rfl) (sRun (xPkFB rfl rfl) (sRun (xMvB rfl) ?_)))))))
      by_cases h33 : a1.Term.Kind = (4 : Int)
      ·try rw [decide_eq_true h33]
       refine sNo rfl (sNo rfl (sNo rfl (sRun (xPkTB rfl rfl) (sRun (xAsB rfl) (sNil ?_)))))
       exact ⟨⟨rfl, rfl, rfl, rfl, (congrArg Value.bool (by rw [← hE31]; first | (simp [h32, h33]; done) | (simp only [decide_eq_false h32, decide_eq_true h33]; done) | grind)), trivial⟩, hL⟩
      ·try rw [decide_eq_false h33]
       refine sGo rfl (sRun (xFld0 Try.underlying58 rfl rfl ti3 (by decide) rfl) (sGo rfl (sRun (xLoad Try.underlying3 rfl rfl ((hL.bk 1 rfl).cell (i := 0) rfl)) (sGo rfl (sRun (xEqlD rfl rfl) (sRun (xPkFB rfl rfl) (sRun (xAsB rfl) (sNil ?_))))))))
       exact ⟨⟨rfl, rfl, rfl, rfl, (congrArg Value.bool (by rw [← hE31]; first | (simp [h32, h33]; done) | (simp only [decide_eq_false h32, decide_eq_false h33]; done) | grind)), trivial⟩, hL⟩
    ·clear hL
     subst hE31
     rintro f w ⟨hf, hL⟩
     obtain ⟨g, rfl⟩ := has_updL _ _ hf
     clear hf
     refine wSeq (wSeq ?_)
     obtain ⟨E34, hE34⟩ : ∃ E, (((((((decide (a1.Term.Kind = (2 : Int))) || (decide (a1.Term.Kind = (4 : Int)))) || (decide (a1.Term.Kind = (5 : Int)))) && (!(m_r06_Has rq33_2.l a1.Term.A))) || ((!(((decide (a1.Term.Kind = (2 : Int))) || (decide (a1.Term.Kind = (4 : Int)))) || (decide (a1.Term.Kind = (5 : Int))))) && (decide (a1.Term.A ≠ (0 : Int))))) || ((!(decide (a1.Term.Kind = (6 : Int)))) && ((decide (a1.Term.N ≠ (0 : Int))) || (decide ((0 : Int) < ((a1.Term.Args.l.length : Nat) : Int)))))) || ((decide (a1.Term.Kind = (6 : Int))) && (((decide (a1.Term.N < (0 : Int))) || (decide ((8 : Int) ≤ a1.Term.N))) || (decide ((4 : Int) < ((a1.Term.Args.l.length : Nat) : Int)))))) = E := ⟨_, rfl⟩
     refine wJ (fun f w => Has f [(2, .pointer (some ⟨b1, 0, none⟩)), (5, .pointer (some ⟨bq34_0, 0, none⟩)), (6, .slice rq33_2.a rq33_2.l.length rq33_2.c), (86, .bool E34)] ∧ Bx w0 w [.dat lq33_0 hq33_1 rq33_2, .box bq34_0 58 (GTerm.cells a1.Term).toArray, .box b2 60 (GBlock.cells a1).toArray, .box b1 26 (GCode.cells a0).toArray]) ?_ ?_
     ·refine wReg (sRun (xMvB rfl) (sRun (xMvB rfl) ?_))
      by_cases h35 : (((decide (a1.Term.Kind = (2 : Int))) || (decide (a1.Term.Kind = (4 : Int)))) || (decide (a1.Term.Kind = (5 : Int)))) = true
      ·try rw [h35]
       refine sGo rfl (sRun (xMvS rfl) (sGo rfl (sRun (xFld (k := 1) Try.underlying58 rfl rfl ti3 (by decide) rfl) (sGo rfl (sRun (xLoad Try.underlying3 rfl rfl ((hL.bk 1 rfl).cell (i := 1) rfl)) (sGo rfl (sCall (eCall cal55 rfl) (sp_m_r06_Has _ rq33_2 (Dat.all (hL.at 0 rfl).2) a1.Term.A) ?_)))))))
       rintro _ w36 ⟨rfl, he36⟩
       replace hL := hL.ext he36
       by_cases h37 : (m_r06_Has rq33_2.l a1.Term.A) = true
       ·try rw [h37]
        refine sGo rfl (sRun (xNot rfl) (sRun (xPkTB rfl rfl) (sRun (xMvB rfl) (sGo rfl (sRun (xMvB rfl) ?_)))))
        try rw [h35]
        refine sGo rfl (sRun (xNot rfl) (sGo rfl (sRun (xMvB rfl) (sNo rfl (sNo rfl (sNo rfl (sGo rfl (sRun (xPkFB rfl rfl) (sRun (xPkFB rfl rfl) (sRun (xMvB rfl) (sGo rfl (sRun (xMvB rfl) ?_))))))))))))
        by_cases h38 : a1.Term.Kind = (6 : Int)
        ·try rw [decide_eq_true h38]
         refine sGo rfl (sRun (xNot rfl) (sGo rfl (sRun (xMvB rfl) (sNo rfl (sNo rfl (sNo rfl (sNo rfl (sNo rfl (sNo rfl (sNo rfl (sNo rfl (sNo rfl (sGo rfl ?_)))))))))))))
         refine sRun (xPkFB rfl rfl) (sRun (xPkFB rfl rfl) (sRun (xMvB rfl) (sGo rfl (sRun (xMvB rfl) ?_))))
         try rw [decide_eq_true h38]
         refine sGo rfl (sRun (xMvB rfl) ?_)
         try rw [decide_eq_true h38]
         refine sGo rfl (sRun (xFld (k := 2) Try.underlying58 rfl rfl ti3 (by decide) rfl) (sGo rfl (sRun (xLoad Try.underlying3 rfl rfl ((hL.bk 1 rfl).cell (i := 2) rfl)) (sGo rfl (sRun (xLss rfl rfl) (sGo rfl (sRun (xMvB rfl) ?_)))))))
         by_cases h39 : a1.Term.N < (0 : Int)
         ·try rw [decide_eq_true h39]
          refine sNo rfl (sNo rfl (sNo rfl (sGo rfl (sRun (xPkTB rfl rfl) (sGo rfl (sRun (xMvB rfl) (sNo rfl (sNo rfl (sNo rfl (sNo rfl (sGo rfl (sRun (xPkTB rfl rfl) (sGo rfl ?_)))))))))))))
          refine sRun (xPkTB rfl rfl) (sRun (xPkFB rfl rfl) (sNil ?_))
          exact ⟨⟨rfl, rfl, rfl, (congrArg Value.bool (by rw [← hE34]; first | (simp [h35, h37, h38, h39]; done) | (simp only [h35, h37, decide_eq_true h38, decide_eq_true h39]; done) | grind)), trivial⟩, hL⟩
         ·try rw [decide_eq_false h39]
          refine sGo rfl (sRun (xFld (k := 2) Try.underlying58 rfl rfl ti3 (by decide) rfl) (sGo rfl (sRun (xLoad Try.underlying3 rfl rfl ((hL.bk 1 rfl).cell (i := 2) rfl)) (sGo rfl (sRun (xGeq rfl rfl) (sGo rfl (sRun (xPkFB rfl rfl) (sGo rfl (sRun (xMvB rfl) ?_)))))))))
          by_cases h40 : (8 : Int) ≤ a1.Term.N
          ·try rw [decide_eq_true h40]
           refine sNo rfl (sNo rfl (sNo rfl (sNo rfl (sGo rfl (sRun (xPkTB rfl rfl) (sGo rfl (sRun (xPkTB rfl rfl) (sRun (xPkFB rfl rfl) (sNil ?_)))))))))
           exact ⟨⟨rfl, rfl, rfl, (congrArg Value.bool (by rw [← hE34]; first | (simp [h35, h37, h38, h39, h40]; done) | (simp only [h35, h37, decide_eq_true h38, decide_eq_false h39, decide_eq_true h40]; done) | grind)), trivial⟩, hL⟩
          ·try rw [decide_eq_false h40]
           refine sGo rfl (sRun (xFld (k := 3) Try.underlying58 rfl rfl ti37 (by decide) rfl) (sGo rfl (sRun (xLoad Try.underlying37 rfl rfl ((hL.bk 1 rfl).cell (i := 3) rfl)) (sGo rfl ?_))))
           have hl41 : a1.Term.Args.l.length * 8 ≤ 140737488355328 := Lst.bd h1.2.1
           refine sRun (xLnL (s := a1.Term.Args) Try.underlying37 rfl) (sGo rfl (sRun (xGtr rfl rfl) (sGo rfl (sRun (xPkFB rfl rfl) (sGo rfl (sRun (xPkTB rfl rfl) (sRun (xPkFB rfl rfl) (sNil ?_))))))))
           exact ⟨⟨rfl, rfl, rfl, (congrArg Value.bool (by rw [← hE34]; first | (simp [h35, h37, h38, h39, h40]; done) | (simp only [h35, h37, decide_eq_true h38, decide_eq_false h39, decide_eq_false h40]; done) | grind)), trivial⟩, hL⟩
        ·try rw [decide_eq_false h38]
         refine sGo rfl (sRun (xNot rfl) (sGo rfl (sRun (xMvB rfl) (sGo rfl (sRun (xFld (k := 2) Try.underlying58 rfl rfl ti3 (by decide) rfl) (sGo rfl (sRun (xLoad Try.underlying3 rfl rfl ((hL.bk 1 rfl).cell (i := 2) rfl)) (sGo rfl (sRun (xNeqD rfl rfl) (sGo rfl (sRun (xMvB rfl) ?_)))))))))))
         by_cases h42 : a1.Term.N ≠ (0 : Int)
         ·try rw [decide_eq_true h42]
          refine sNo rfl (sNo rfl (sNo rfl (sNo rfl (sGo rfl (sRun (xPkTB rfl rfl) (sGo rfl (sRun (xPkTB rfl rfl) (sRun (xPkFB rfl rfl) (sRun (xMvB rfl) (sNo rfl (sNo rfl (sNo rfl (sNo rfl ?_)))))))))))))
          refine sNo rfl (sNo rfl (sNo rfl (sNo rfl (sNo rfl (sNo rfl (sNo rfl (sNo rfl (sNo rfl (sNo rfl (sNo rfl (sNo rfl (sNo rfl (sRun (xPkTB rfl rfl) ?_)))))))))))))
          refine sNil ?_
          exact ⟨⟨rfl, rfl, rfl, (congrArg Value.bool (by rw [← hE34]; first | (simp [h35, h37, h38, h42]; done) | (simp only [h35, h37, decide_eq_false h38, decide_eq_true h42]; done) | grind)), trivial⟩, hL⟩
         ·try rw [decide_eq_false h42]
          refine sGo rfl (sRun (xFld (k := 3) Try.underlying58 rfl rfl ti37 (by decide) rfl) (sGo rfl (sRun (xLoad Try.underlying37 rfl rfl ((hL.bk 1 rfl).cell (i := 3) rfl)) (sGo rfl ?_))))
          have hl43 : a1.Term.Args.l.length * 8 ≤ 140737488355328 := Lst.bd h1.2.1
          refine sRun (xLnL (s := a1.Term.Args) Try.underlying37 rfl) (sGo rfl (sRun (xGtr rfl rfl) (sGo rfl (sRun (xPkFB rfl rfl) (sGo rfl (sRun (xPkTB rfl rfl) (sRun (xPkFB rfl rfl) (sRun (xMvB rfl) ?_))))))))
          by_cases h44 : (0 : Int) < ((a1.Term.Args.l.length : Nat) : Int)
          ·try rw [decide_eq_true h44]
           refine sNo rfl (sNo rfl (sNo rfl (sNo rfl (sNo rfl (sNo rfl (sNo rfl (sNo rfl (sNo rfl (sNo rfl (sNo rfl (sNo rfl (sNo rfl (sNo rfl ?_)))))))))))))
           refine sNo rfl (sNo rfl (sNo rfl (sRun (xPkTB rfl rfl) (sNil ?_))))
           exact ⟨⟨rfl, rfl, rfl, (congrArg Value.bool (by rw [← hE34]; first | (simp [h35, h37, h38, h42, h44]; done) | (simp only [h35, h37, decide_eq_false h38, decide_eq_false h42, decide_eq_true h44]; done) | grind)), trivial⟩, hL⟩
          ·try rw [decide_eq_false h44]
           refine sGo rfl (sRun (xMvB rfl) ?_)
           try rw [decide_eq_false h38]
           refine sGo rfl (sRun (xMvB rfl) ?_)
           try rw [decide_eq_false h38]
           refine sNo rfl (sNo rfl (sNo rfl (sNo rfl (sNo rfl (sNo rfl (sNo rfl (sNo rfl (sNo rfl (sNo rfl (sNo rfl (sNo rfl (sNo rfl (sNo rfl ?_)))))))))))))
           refine sGo rfl (sRun (xPkFB rfl rfl) (sRun (xPkFB rfl rfl) (sNil ?_)))
           exact ⟨⟨rfl, rfl, rfl, (congrArg Value.bool (by rw [← hE34]; first | (simp [h35, h37, h38, h42, h44]; done) | (simp only [h35, h37, decide_eq_false h38, decide_eq_false h42, decide_eq_false h44]; done) | grind)), trivial⟩, hL⟩
       ·have h37n : (m_r06_Has rq33_2.l a1.Term.A) = false := Bool.eq_false_iff.2 h37
        try rw [h37n]
        refine sGo rfl (sRun (xNot rfl) (sRun (xPkTB rfl rfl) (sRun (xMvB rfl) (sNo rfl (sNo rfl (sNo rfl (sNo rfl (sNo rfl (sNo rfl (sNo rfl (sRun (xPkTB rfl rfl) (sRun (xMvB rfl) (sNo rfl ?_)))))))))))))
        refine sNo rfl (sNo rfl (sNo rfl (sNo rfl (sNo rfl (sNo rfl (sNo rfl (sNo rfl (sNo rfl (sNo rfl (sNo rfl (sNo rfl (sRun (xPkTB rfl rfl) (sRun (xMvB rfl) ?_)))))))))))))
        refine sNo rfl (sNo rfl (sNo rfl (sNo rfl (sNo rfl (sNo rfl (sNo rfl (sNo rfl (sNo rfl (sNo rfl (sNo rfl (sNo rfl (sNo rfl (sNo rfl ?_)))))))))))))
        refine sNo rfl (sNo rfl (sNo rfl (sRun (xPkTB rfl rfl) (sNil ?_))))
        exact ⟨⟨rfl, rfl, rfl, (congrArg Value.bool (by rw [← hE34]; first | (simp [h35, h37n]; done) | (simp only [h35, h37n]; done) | grind)), trivial⟩, hL⟩
      ·have h35n : (((decide (a1.Term.Kind = (2 : Int))) || (decide (a1.Term.Kind = (4 : Int)))) || (decide (a1.Term.Kind = (5 : Int)))) = false := Bool.eq_false_iff.2 h35
       try rw [h35n]
       have h45 : ¬ (a1.Term.Kind = (2 : Int)) := fun hq => by rw [decide_eq_true hq] at h35; simp at h35
       have h46 : ¬ (a1.Term.Kind = (4 : Int)) := fun hq => by rw [decide_eq_true hq] at h35; simp at h35
       have h47 : ¬ (a1.Term.Kind = (5 : Int)) := fun hq => by rw [decide_eq_true hq] at h35; simp at h35
       refine sNo rfl (sNo rfl (sNo rfl (sNo rfl (sNo rfl (sRun (xPkFB rfl rfl) (sRun (xMvB rfl) (sGo rfl (sRun (xMvB rfl) ?_))))))))
       try rw [h35n]
       refine sGo rfl (sRun (xNot rfl) (sGo rfl (sRun (xMvB rfl) (sGo rfl (sRun (xFld (k := 1) Try.underlying58 rfl rfl ti3 (by decide) rfl) (sGo rfl (sRun (xLoad Try.underlying3 rfl rfl ((hL.bk 1 rfl).cell (i := 1) rfl)) (sGo rfl (sRun (xNeqD rfl rfl) (sGo rfl (sRun (xPkTB rfl rfl) (sRun (xPkFB rfl rfl) (sRun (xMvB rfl) ?_)))))))))))))
       by_cases h48 : a1.Term.A ≠ (0 : Int)
       ·try rw [decide_eq_true h48]
        refine sNo rfl (sNo rfl (sNo rfl (sNo rfl (sNo rfl (sNo rfl (sNo rfl (sNo rfl (sNo rfl (sNo rfl (sNo rfl (sNo rfl (sNo rfl (sRun (xPkTB rfl rfl) ?_)))))))))))))
        refine sRun (xMvB rfl) (sNo rfl (sNo rfl (sNo rfl (sNo rfl (sNo rfl (sNo rfl (sNo rfl (sNo rfl (sNo rfl (sNo rfl (sNo rfl (sNo rfl (sNo rfl ?_)))))))))))))
        refine sNo rfl (sNo rfl (sNo rfl (sNo rfl (sRun (xPkTB rfl rfl) (sNil ?_)))))
        exact ⟨⟨rfl, rfl, rfl, (congrArg Value.bool (by rw [← hE34]; first | (simp [h35n, h45, h46, h47, h48]; done) | (simp only [h35n, decide_eq_false h45, decide_eq_false h46, decide_eq_false h47, decide_eq_true h48]; done) | grind)), trivial⟩, hL⟩
       ·try rw [decide_eq_false h48]
        refine sGo rfl (sRun (xMvB rfl) ?_)
        by_cases h49 : a1.Term.Kind = (6 : Int)
        ·try rw [decide_eq_true h49]
         refine sGo rfl (sRun (xNot rfl) (sGo rfl (sRun (xMvB rfl) (sNo rfl (sNo rfl (sNo rfl (sNo rfl (sNo rfl (sNo rfl (sNo rfl (sNo rfl (sNo rfl (sGo rfl ?_)))))))))))))
         refine sRun (xPkFB rfl rfl) (sRun (xPkFB rfl rfl) (sRun (xMvB rfl) (sGo rfl (sRun (xMvB rfl) ?_))))
         try rw [decide_eq_true h49]
         refine sGo rfl (sRun (xMvB rfl) ?_)
         try rw [decide_eq_true h49]
         refine sGo rfl (sRun (xFld (k := 2) Try.underlying58 rfl rfl ti3 (by decide) rfl) (sGo rfl (sRun (xLoad Try.underlying3 rfl rfl ((hL.bk 1 rfl).cell (i := 2) rfl)) (sGo rfl (sRun (xLss rfl rfl) (sGo rfl (sRun (xMvB rfl) ?_)))))))
         by_cases h50 : a1.Term.N < (0 : Int)
         ·try rw [decide_eq_true h50]
          refine sNo rfl (sNo rfl (sNo rfl (sGo rfl (sRun (xPkTB rfl rfl) (sGo rfl (sRun (xMvB rfl) (sNo rfl (sNo rfl (sNo rfl (sNo rfl (sGo rfl (sRun (xPkTB rfl rfl) (sGo rfl ?_)))))))))))))
          refine sRun (xPkTB rfl rfl) (sRun (xPkFB rfl rfl) (sNil ?_))
          exact ⟨⟨rfl, rfl, rfl, (congrArg Value.bool (by rw [← hE34]; first | (simp [h35n, h45, h46, h47, h48, h49, h50]; done) | (simp only [h35n, decide_eq_false h45, decide_eq_false h46, decide_eq_false h47, decide_eq_false h48, decide_eq_true h49, decide_eq_true h50]; done) | grind)), trivial⟩, hL⟩
         ·try rw [decide_eq_false h50]
          refine sGo rfl (sRun (xFld (k := 2) Try.underlying58 rfl rfl ti3 (by decide) rfl) (sGo rfl (sRun (xLoad Try.underlying3 rfl rfl ((hL.bk 1 rfl).cell (i := 2) rfl)) (sGo rfl (sRun (xGeq rfl rfl) (sGo rfl (sRun (xPkFB rfl rfl) (sGo rfl (sRun (xMvB rfl) ?_)))))))))
          by_cases h51 : (8 : Int) ≤ a1.Term.N
          ·try rw [decide_eq_true h51]
           refine sNo rfl (sNo rfl (sNo rfl (sNo rfl (sGo rfl (sRun (xPkTB rfl rfl) (sGo rfl (sRun (xPkTB rfl rfl) (sRun (xPkFB rfl rfl) (sNil ?_)))))))))
           exact ⟨⟨rfl, rfl, rfl, (congrArg Value.bool (by rw [← hE34]; first | (simp [h35n, h45, h46, h47, h48, h49, h50, h51]; done) | (simp only [h35n, decide_eq_false h45, decide_eq_false h46, decide_eq_false h47, decide_eq_false h48, decide_eq_true h49, decide_eq_false h50, decide_eq_true h51]; done) | grind)), trivial⟩, hL⟩
          ·try rw [decide_eq_false h51]
           refine sGo rfl (sRun (xFld (k := 3) Try.underlying58 rfl rfl ti37 (by decide) rfl) (sGo rfl (sRun (xLoad Try.underlying37 rfl rfl ((hL.bk 1 rfl).cell (i := 3) rfl)) (sGo rfl ?_))))
           have hl52 : a1.Term.Args.l.length * 8 ≤ 140737488355328 := Lst.bd h1.2.1
           refine sRun (xLnL (s := a1.Term.Args) Try.underlying37 rfl) (sGo rfl (sRun (xGtr rfl rfl) (sGo rfl (sRun (xPkFB rfl rfl) (sGo rfl (sRun (xPkTB rfl rfl) (sRun (xPkFB rfl rfl) (sNil ?_))))))))
           exact ⟨⟨rfl, rfl, rfl, (congrArg Value.bool (by rw [← hE34]; first | (simp [h35n, h45, h46, h47, h48, h49, h50, h51]; done) | (simp only [h35n, decide_eq_false h45, decide_eq_false h46, decide_eq_false h47, decide_eq_false h48, decide_eq_true h49, decide_eq_false h50, decide_eq_false h51]; done) | grind)), trivial⟩, hL⟩
        ·try rw [decide_eq_false h49]
         refine sGo rfl (sRun (xNot rfl) (sGo rfl (sRun (xMvB rfl) (sGo rfl (sRun (xFld (k := 2) Try.underlying58 rfl rfl ti3 (by decide) rfl) (sGo rfl (sRun (xLoad Try.underlying3 rfl rfl ((hL.bk 1 rfl).cell (i := 2) rfl)) (sGo rfl (sRun (xNeqD rfl rfl) (sGo rfl (sRun (xMvB rfl) ?_)))))))))))
         by_cases h53 : a1.Term.N ≠ (0 : Int)
         ·try rw [decide_eq_true h53]
          refine sNo rfl (sNo rfl (sNo rfl (sNo rfl (sGo rfl (sRun (xPkTB rfl rfl) (sGo rfl (sRun (xPkTB rfl rfl) (sRun (xPkFB rfl rfl) (sRun (xMvB rfl) (sNo rfl (sNo rfl (sNo rfl (sNo rfl ?_)))))))))))))
          refine sNo rfl (sNo rfl (sNo rfl (sNo rfl (sNo rfl (sNo rfl (sNo rfl (sNo rfl (sNo rfl (sNo rfl (sNo rfl (sNo rfl (sNo rfl (sRun (xPkTB rfl rfl) ?_)))))))))))))
          refine sNil ?_
          exact ⟨⟨rfl, rfl, rfl, (congrArg Value.bool (by rw [← hE34]; first | (simp [h35n, h45, h46, h47, h48, h49, h53]; done) | (simp only [h35n, decide_eq_false h45, decide_eq_false h46, decide_eq_false h47, decide_eq_false h48, decide_eq_false h49, decide_eq_true h53]; done) | grind)), trivial⟩, hL⟩
         ·try rw [decide_eq_false h53]
          refine sGo rfl (sRun (xFld (k := 3) Try.underlying58 rfl rfl ti37 (by decide) rfl) (sGo rfl (sRun (xLoad Try.underlying37 rfl rfl ((hL.bk 1 rfl).cell (i := 3) rfl)) (sGo rfl ?_))))
          have hl54 : a1.Term.Args.l.length * 8 ≤ 140737488355328 := Lst.bd h1.2.1
          refine sRun (xLnL (s := a1.Term.Args) Try.underlying37 rfl) (sGo rfl (sRun (xGtr rfl rfl) (sGo rfl (sRun (xPkFB rfl rfl) (sGo rfl (sRun (xPkTB rfl rfl) (sRun (xPkFB rfl rfl) (sRun (xMvB rfl) ?_))))))))
          by_cases h55 : (0 : Int) < ((a1.Term.Args.l.length : Nat) : Int)
          ·try rw [decide_eq_true h55]
           refine sNo rfl (sNo rfl (sNo rfl (sNo rfl (sNo rfl (sNo rfl (sNo rfl (sNo rfl (sNo rfl (sNo rfl (sNo rfl (sNo rfl (sNo rfl (sNo rfl ?_)))))))))))))
           refine sNo rfl (sNo rfl (sNo rfl (sRun (xPkTB rfl rfl) (sNil ?_))))
           exact ⟨⟨rfl, rfl, rfl, (congrArg Value.bool (by rw [← hE34]; first | (simp [h35n, h45, h46, h47, h48, h49, h53, h55]; done) | (simp only [h35n, decide_eq_false h45, decide_eq_false h46, decide_eq_false h47, decide_eq_false h48, decide_eq_false h49, decide_eq_false h53, decide_eq_true h55]; done) | grind)), trivial⟩, hL⟩
          ·try rw [decide_eq_false h55]
           refine sGo rfl (sRun (xMvB rfl) ?_)
           try rw [decide_eq_false h49]
           refine sGo rfl (sRun (xMvB rfl) ?_)
           try rw [decide_eq_false h49]
           refine sNo rfl (sNo rfl (sNo rfl (sNo rfl (sNo rfl (sNo rfl (sNo rfl (sNo rfl (sNo rfl (sNo rfl (sNo rfl (sNo rfl (sNo rfl (sNo rfl ?_)))))))))))))
           refine sGo rfl (sRun (xPkFB rfl rfl) (sRun (xPkFB rfl rfl) (sNil ?_)))
           exact ⟨⟨rfl, rfl, rfl, (congrArg Value.bool (by rw [← hE34]; first | (simp [h35n, h45, h46, h47, h48, h49, h53, h55]; done) | (simp only [h35n, decide_eq_false h45, decide_eq_false h46, decide_eq_false h47, decide_eq_false h48, decide_eq_false h49, decide_eq_false h53, decide_eq_false h55]; done) | grind)), trivial⟩, hL⟩
     ·clear hL
      subst hE34
      rintro f w ⟨hf, hL⟩
      obtain ⟨g, rfl⟩ := has_updL _ _ hf
      clear hf
      by_cases h56 : (((((((decide (a1.Term.Kind = (2 : Int))) || (decide (a1.Term.Kind = (4 : Int)))) || (decide (a1.Term.Kind = (5 : Int)))) && (!(m_r06_Has rq33_2.l a1.Term.A))) || ((!(((decide (a1.Term.Kind = (2 : Int))) || (decide (a1.Term.Kind = (4 : Int)))) || (decide (a1.Term.Kind = (5 : Int))))) && (decide (a1.Term.A ≠ (0 : Int))))) || ((!(decide (a1.Term.Kind = (6 : Int)))) && ((decide (a1.Term.N ≠ (0 : Int))) || (decide ((0 : Int) < ((a1.Term.Args.l.length : Nat) : Int)))))) || ((decide (a1.Term.Kind = (6 : Int))) && (((decide (a1.Term.N < (0 : Int))) || (decide ((8 : Int) ≤ a1.Term.N))) || (decide ((4 : Int) < ((a1.Term.Args.l.length : Nat) : Int)))))) = true
      ·try rw [h56]
       rw [if_pos h56] at hM
       refine wIfT rfl (wSeq (wReg (sRun (xAsB rfl) (sNil (wRet ?_)))))
       subst hM
       refine res1 (P := Try.prog) (fn := Try.f44) rfl ?_
       exact ⟨rfl, hL.1⟩
      ·have h56n : (((((((decide (a1.Term.Kind = (2 : Int))) || (decide (a1.Term.Kind = (4 : Int)))) || (decide (a1.Term.Kind = (5 : Int)))) && (!(m_r06_Has rq33_2.l a1.Term.A))) || ((!(((decide (a1.Term.Kind = (2 : Int))) || (decide (a1.Term.Kind = (4 : Int)))) || (decide (a1.Term.Kind = (5 : Int))))) && (decide (a1.Term.A ≠ (0 : Int))))) || ((!(decide (a1.Term.Kind = (6 : Int)))) && ((decide (a1.Term.N ≠ (0 : Int))) || (decide ((0 : Int) < ((a1.Term.Args.l.length : Nat) : Int)))))) || ((decide (a1.Term.Kind = (6 : Int))) && (((decide (a1.Term.N < (0 : Int))) || (decide ((8 : Int) ≤ a1.Term.N))) || (decide ((4 : Int) < ((a1.Term.Args.l.length : Nat) : Int)))))) = false := Bool.eq_false_iff.2 h56
       try rw [h56n]
       rw [if_neg h56] at hM
       refine wIfF rfl (wSkip (wSeq (wSeq (wReg (sRun (xFld (k := 3) Try.underlying58 rfl rfl ti37 (by decide) rfl) (sRun (xLoad Try.underlying37 rfl rfl ((hL.bk 1 rfl).cell (i := 3) rfl)) ?_))))))
       have hl57 : a1.Term.Args.l.length * 8 ≤ 140737488355328 := Lst.bd h1.2.1
       refine sRun (xLnL (s := a1.Term.Args) Try.underlying37 rfl) (sRun (xMvI rfl) (sNil ?_))
       obtain ⟨Y58, hY58⟩ : ∃ Y, m_r06_term_L1 (GCode.er a0) (GBlock.er a1) a1.Term.Args.l 0 = Y := ⟨_, rfl⟩
       rw [hY58] at hM
       refine wJ (fun f w => Has f [(2, .pointer (some ⟨b1, 0, none⟩)), (5, .pointer (some ⟨bq34_0, 0, none⟩)), (6, .slice rq33_2.a rq33_2.l.length rq33_2.c), (88, .slice a1.Term.Args.a a1.Term.Args.l.length a1.Term.Args.c), (89, .int .i64 ((a1.Term.Args.l.length : Nat) : Int))] ∧ Bx w0 w [.dat lq33_0 hq33_1 rq33_2, .box bq34_0 58 (GTerm.cells a1.Term).toArray, .box b2 60 (GBlock.cells a1).toArray, .box b1 26 (GCode.cells a0).toArray] ∧ Lp.go () = Y58) ?_ ?_
       ·refine wBlock (wLoopG (fun n f w => ∃ (k58 : Nat), n = a1.Term.Args.l.length - k58 ∧ k58 ≤ a1.Term.Args.l.length ∧ Has f [(90, .int .i64 ((k58 : Nat) : Int)), (2, .pointer (some ⟨b1, 0, none⟩)), (5, .pointer (some ⟨bq34_0, 0, none⟩)), (6, .slice rq33_2.a rq33_2.l.length rq33_2.c), (88, .slice a1.Term.Args.a a1.Term.Args.l.length a1.Term.Args.c), (89, .int .i64 ((a1.Term.Args.l.length : Nat) : Int))] ∧ Bx w0 w [.dat lq33_0 hq33_1 rq33_2, .box bq34_0 58 (GTerm.cells a1.Term).toArray, .box b2 60 (GBlock.cells a1).toArray, .box b1 26 (GCode.cells a0).toArray] ∧ m_r06_term_L1 (GCode.er a0) (GBlock.er a1) (a1.Term.Args.l.drop k58) k58 = Y58) (a1.Term.Args.l.length) ⟨0, rfl, Nat.zero_le _, ⟨rfl, rfl, rfl, rfl, rfl, rfl, trivial⟩, hL, hY58⟩ ?_)
        clear hL hY58
        rintro n f w ⟨k58, rfl, hk58, hf, hL, hY58⟩
        obtain ⟨g, rfl⟩ := has_updL _ _ hf
        clear hf
        rcases Nat.lt_or_ge k58 a1.Term.Args.l.length with hk58b | hk58b
        ·obtain ⟨x58, hx58⟩ := get_ex (l := a1.Term.Args.l) hk58b
         rw [drop_id hx58, m_r06_term_L1] at hY58
         try simp only [er1, er2, er3, er4, er5, er6, er7, er8, er9, er10, er11, er12, er13, er14, er15, er16, er17, List.length_map, ← hrq33_2] at hY58
         refine wSeq (wReg (sRun (xLssT rfl rfl (by omega)) (sNil (wSeq (wIfT rfl (wSkip (wSeq (wBlock (wSeq (wReg (sRun (xIdL Try.underlying37 ti3 rfl rfl rfl h1.2.1 hx58) (sRun (xLoad Try.underlying3 rfl rfl (((Lst.el h1.2.1 hx58).ext hL.1) 0 _ rfl)) (sRun (xAsI rfl) ?_)))))))))))))
         refine sNil (wSeq (wReg (sRun (xMvS rfl) (sRun (xMvI rfl) (sCall (eCall cal55 rfl) (sp_m_r06_Has _ rq33_2 (Dat.all (hL.at 0 rfl).2) x58) ?_)))))
         rintro _ w59 ⟨rfl, he59⟩
         replace hL := hL.ext he59
         by_cases h60 : (m_r06_Has rq33_2.l x58) = true
         ·try rw [h60]
          rw [if_pos h60] at hY58
          refine sRun (xNot rfl) (sNil (wIfF rfl (wSkip (wReg (sRun (xAdd64 rfl rfl (by omega) (by omega)) (sRun (xMvI rfl) (sNil ?_)))))))
          exact ⟨a1.Term.Args.l.length - (k58 + 1), by omega, k58 + 1, rfl, by omega, ⟨rfl, rfl, rfl, rfl, rfl, rfl, trivial⟩, hL, hY58⟩
         ·have h60n : (m_r06_Has rq33_2.l x58) = false := Bool.eq_false_iff.2 h60
          try rw [h60n]
          rw [if_neg h60] at hY58
          refine sRun (xNot rfl) (sNil (wIfT rfl (wSeq (wReg (sRun (xAsB rfl) (sNil (wRet ?_)))))))
          subst hY58
          rw [Lp.el_out] at hM
          try dsimp only at hM
          subst hM
          refine res1 (P := Try.prog) (fn := Try.f44) rfl ?_
          exact ⟨rfl, hL.1⟩
        ·obtain rfl : k58 = a1.Term.Args.l.length := by omega
         rw [drop_end, m_r06_term_L1] at hY58
         refine wSeq (wReg (sRun (xLssF rfl rfl (by omega)) (sNil (wSeq (wIfF rfl (wExit ?_))))))
         exact ⟨⟨rfl, rfl, rfl, rfl, rfl, trivial⟩, hL, hY58⟩
       ·clear hL
        rintro f w ⟨hf, hL, hZ58⟩
        obtain ⟨g, rfl⟩ := has_updL _ _ hf
        clear hf
        subst hZ58
        rw [Lp.el_go] at hM
        try dsimp only at hM
        refine wSeq (wSeq (wReg (sRun (xFld0 Try.underlying58 rfl rfl ti3 (by decide) rfl) (sRun (xLoad Try.underlying3 rfl rfl ((hL.bk 1 rfl).cell (i := 0) rfl)) (sNil (wBlock (wSeq (wReg (sRun (xEqlD rfl rfl) (sRun (xAsB rfl) (sNil ?_)))))))))))
        by_cases h61 : a1.Term.Kind = (1 : Int)
        ·try rw [decide_eq_true h61]
         rw [if_pos h61] at hM
         refine wIfT rfl (wSeq (wReg (sRun (xLoadS (GCode.cells a0) Try.underlying26 rfl ti26 rfl rfl ((hL.bk 3 rfl).part rfl)) (sRun (xFld (k := 4) Try.underlying58 rfl rfl ti56 (by decide) rfl) (sRun (xIdxA 0 Try.underlying56 ti55 rfl rfl (by omega) (by omega)) (sRun (xLoadS (GEdge.cells a1.Term.To.e0) Try.underlying55 rfl ti55 rfl rfl ((hL.bk 1 rfl).part rfl)) (sRun (xMvS rfl) (sCall (eCall cal89 rfl) (sp_m_r06_edge _ a0 (Dat.all (Dat.ext (x := a0) h0 hL.1)) a1.Term.To.e0 (Dat.all (Dat.ext (x := a1.Term.To.e0) h1.2.2.1 hL.1)) rq33_2 (Dat.all (hL.at 0 rfl).2) (0 : Int)) ?_))))))))
         rintro _ w62 ⟨rfl, he62⟩
         replace hL := hL.ext he62
         refine sRun (xMvB rfl) ?_
         by_cases h63 : (m_r06_edge (GCode.er a0) (GEdge.er a1.Term.To.e0) rq33_2.l (0 : Int)) = true
         ·try rw [h63]
          rw [if_pos h63] at hM
          refine sGo rfl (sRun (xFld (k := 4) Try.underlying58 rfl rfl ti56 (by decide) rfl) (sGo rfl (sRun (xIdxA 1 Try.underlying56 ti55 rfl rfl (by omega) (by omega)) (sGo rfl (sRun (xLoadS (GEdge.cells a1.Term.To.e1) Try.underlying55 rfl ti55 rfl rfl ((hL.bk 1 rfl).part rfl)) (sGo rfl (sCall (eCall cal90 rfl) (sp_m_r06_none _ a1.Term.To.e1 (Dat.all (Dat.ext (x := a1.Term.To.e1) h1.2.2.2 hL.1))) ?_)))))))
          rintro _ w64 ⟨rfl, he64⟩
          replace hL := hL.ext he64
          refine sRun (xPkTB rfl rfl) (sRun (xAsB rfl) (sNil (wRet ?_)))
          subst hM
          refine res1 (P := Try.prog) (fn := Try.f44) rfl ?_
          exact ⟨rfl, hL.1⟩
         ·have h63n : (m_r06_edge (GCode.er a0) (GEdge.er a1.Term.To.e0) rq33_2.l (0 : Int)) = false := Bool.eq_false_iff.2 h63
          try rw [h63n]
          rw [if_neg h63] at hM
          refine sNo rfl (sNo rfl (sNo rfl (sNo rfl (sRun (xPkFB rfl rfl) (sRun (xAsB rfl) (sNil (wRet ?_)))))))
          subst hM
          refine res1 (P := Try.prog) (fn := Try.f44) rfl ?_
          exact ⟨rfl, hL.1⟩
        ·try rw [decide_eq_false h61]
         rw [if_neg h61] at hM
         refine wIfF rfl (wSeq (wReg (sRun (xEqlD rfl rfl) (sRun (xAsB rfl) (sNil ?_)))))
         by_cases h65 : a1.Term.Kind = (2 : Int)
         ·try rw [decide_eq_true h65]
          rw [if_pos h65] at hM
          refine wIfT rfl (wSeq (wReg (sRun (xLoadS (GCode.cells a0) Try.underlying26 rfl ti26 rfl rfl ((hL.bk 3 rfl).part rfl)) (sRun (xFld (k := 4) Try.underlying58 rfl rfl ti56 (by decide) rfl) (sRun (xIdxA 0 Try.underlying56 ti55 rfl rfl (by omega) (by omega)) (sRun (xLoadS (GEdge.cells a1.Term.To.e0) Try.underlying55 rfl ti55 rfl rfl ((hL.bk 1 rfl).part rfl)) (sRun (xMvS rfl) (sCall (eCall cal89 rfl) (sp_m_r06_edge _ a0 (Dat.all (Dat.ext (x := a0) h0 hL.1)) a1.Term.To.e0 (Dat.all (Dat.ext (x := a1.Term.To.e0) h1.2.2.1 hL.1)) rq33_2 (Dat.all (hL.at 0 rfl).2) (0 : Int)) ?_))))))))
          rintro _ w66 ⟨rfl, he66⟩
          replace hL := hL.ext he66
          refine sRun (xMvB rfl) ?_
          by_cases h67 : (m_r06_edge (GCode.er a0) (GEdge.er a1.Term.To.e0) rq33_2.l (0 : Int)) = true
          ·try rw [h67]
           rw [if_pos h67] at hM
           refine sGo rfl (sRun (xLoadS (GCode.cells a0) Try.underlying26 rfl ti26 rfl rfl ((hL.bk 3 rfl).part rfl)) (sGo rfl (sRun (xFld (k := 4) Try.underlying58 rfl rfl ti56 (by decide) rfl) (sGo rfl (sRun (xIdxA 1 Try.underlying56 ti55 rfl rfl (by omega) (by omega)) (sGo rfl (sRun (xLoadS (GEdge.cells a1.Term.To.e1) Try.underlying55 rfl ti55 rfl rfl ((hL.bk 1 rfl).part rfl)) (sGo rfl (sRun (xMvS rfl) (sGo rfl (sCall (eCall cal89 rfl) (sp_m_r06_edge _ a0 (Dat.all (Dat.ext (x := a0) h0 hL.1)) a1.Term.To.e1 (Dat.all (Dat.ext (x := a1.Term.To.e1) h1.2.2.2 hL.1)) rq33_2 (Dat.all (hL.at 0 rfl).2) (0 : Int)) ?_)))))))))))
           rintro _ w68 ⟨rfl, he68⟩
           replace hL := hL.ext he68
           refine sRun (xPkTB rfl rfl) (sRun (xAsB rfl) (sNil (wRet ?_)))
           subst hM
           refine res1 (P := Try.prog) (fn := Try.f44) rfl ?_
           exact ⟨rfl, hL.1⟩
          ·have h67n : (m_r06_edge (GCode.er a0) (GEdge.er a1.Term.To.e0) rq33_2.l (0 : Int)) = false := Bool.eq_false_iff.2 h67
           try rw [h67n]
           rw [if_neg h67] at hM
           refine sNo rfl (sNo rfl (sNo rfl (sNo rfl (sNo rfl (sNo rfl (sRun (xPkFB rfl rfl) (sRun (xAsB rfl) (sNil (wRet ?_)))))))))
           subst hM
           refine res1 (P := Try.prog) (fn := Try.f44) rfl ?_
           exact ⟨rfl, hL.1⟩
         ·try rw [decide_eq_false h65]
          rw [if_neg h65] at hM
          refine wIfF rfl (wSeq (wReg (sRun (xEqlF rfl rfl (by omega)) (sRun (xAsB rfl) (sNil (wIfF rfl (wSeq (wSeq (wReg (sRun (xEqlD rfl rfl) (sRun (xAsB rfl) (sNil ?_))))))))))))
          obtain ⟨E69, hE69⟩ : ∃ E, ((decide (a1.Term.Kind = (4 : Int))) || ((decide (a1.Term.Kind = (5 : Int))) || (decide (a1.Term.Kind = (6 : Int))))) = E := ⟨_, rfl⟩
          refine wJ (fun f w => Has f [(5, .pointer (some ⟨bq34_0, 0, none⟩)), (153, .bool E69)] ∧ Bx w0 w [.dat lq33_0 hq33_1 rq33_2, .box bq34_0 58 (GTerm.cells a1.Term).toArray, .box b2 60 (GBlock.cells a1).toArray, .box b1 26 (GCode.cells a0).toArray]) ?_ ?_
          ·by_cases h70 : a1.Term.Kind = (4 : Int)
           ·try rw [decide_eq_true h70]
            refine wIfT rfl (wSkip ?_)
            exact ⟨⟨rfl, (congrArg Value.bool (by rw [← hE69]; first | (simp [h70]; done) | (simp only [decide_eq_true h70]; done) | grind)), trivial⟩, hL⟩
           ·try rw [decide_eq_false h70]
            refine wIfF rfl (wSeq (wReg (sRun (xEqlD rfl rfl) (sRun (xAsB rfl) (sNil ?_)))))
            obtain ⟨E71, hE71⟩ : ∃ E, ((decide (a1.Term.Kind = (5 : Int))) || (decide (a1.Term.Kind = (6 : Int)))) = E := ⟨_, rfl⟩
            refine wJ (fun f w => Has f [(5, .pointer (some ⟨bq34_0, 0, none⟩)), (153, .bool E71)] ∧ Bx w0 w [.dat lq33_0 hq33_1 rq33_2, .box bq34_0 58 (GTerm.cells a1.Term).toArray, .box b2 60 (GBlock.cells a1).toArray, .box b1 26 (GCode.cells a0).toArray]) ?_ ?_
            ·by_cases h72 : a1.Term.Kind = (5 : Int)
             ·try rw [decide_eq_true h72]
              refine wIfT rfl (wSkip ?_)
              exact ⟨⟨rfl, (congrArg Value.bool (by rw [← hE71]; first | (simp [h72]; done) | (simp only [decide_eq_true h72]; done) | grind)), trivial⟩, hL⟩
             ·try rw [decide_eq_false h72]
              refine wIfF rfl (wReg (sRun (xEqlD rfl rfl) (sRun (xAsB rfl) (sNil ?_))))
              exact ⟨⟨rfl, (congrArg Value.bool (by rw [← hE71]; first | (simp [h72]; done) | (simp only [decide_eq_false h72]; done) | grind)), trivial⟩, hL⟩
            ·clear hL
             subst hE71
             rintro f w ⟨hf, hL⟩
             obtain ⟨g, rfl⟩ := has_updL _ _ hf
             clear hf
             exact ⟨⟨rfl, (congrArg Value.bool (by rw [← hE69]; first | (simp [h70]; done) | (simp only [decide_eq_false h70]; done) | grind)), trivial⟩, hL⟩
          ·clear hL
           subst hE69
           rintro f w ⟨hf, hL⟩
           obtain ⟨g, rfl⟩ := has_updL _ _ hf
           clear hf
           by_cases h73 : ((decide (a1.Term.Kind = (4 : Int))) || ((decide (a1.Term.Kind = (5 : Int))) || (decide (a1.Term.Kind = (6 : Int))))) = true
           ·try rw [h73]
            rw [if_pos h73] at hM
            refine wIfT rfl (wSeq (wReg (sRun (xFld (k := 4) Try.underlying58 rfl rfl ti56 (by decide) rfl) (sRun (xIdxA 0 Try.underlying56 ti55 rfl rfl (by omega) (by omega)) (sRun (xLoadS (GEdge.cells a1.Term.To.e0) Try.underlying55 rfl ti55 rfl rfl ((hL.bk 1 rfl).part rfl)) (sCall (eCall cal90 rfl) (sp_m_r06_none _ a1.Term.To.e0 (Dat.all (Dat.ext (x := a1.Term.To.e0) h1.2.2.1 hL.1))) ?_))))))
            rintro _ w74 ⟨rfl, he74⟩
            replace hL := hL.ext he74
            refine sRun (xMvB rfl) ?_
            by_cases h75 : (m_r06_none (GEdge.er a1.Term.To.e0)) = true
            ·try rw [h75]
             rw [if_pos h75] at hM
             refine sGo rfl (sRun (xFld (k := 4) Try.underlying58 rfl rfl ti56 (by decide) rfl) (sGo rfl (sRun (xIdxA 1 Try.underlying56 ti55 rfl rfl (by omega) (by omega)) (sGo rfl (sRun (xLoadS (GEdge.cells a1.Term.To.e1) Try.underlying55 rfl ti55 rfl rfl ((hL.bk 1 rfl).part rfl)) (sGo rfl (sCall (eCall cal90 rfl) (sp_m_r06_none _ a1.Term.To.e1 (Dat.all (Dat.ext (x := a1.Term.To.e1) h1.2.2.2 hL.1))) ?_)))))))
             rintro _ w76 ⟨rfl, he76⟩
             replace hL := hL.ext he76
             refine sRun (xPkTB rfl rfl) (sRun (xAsB rfl) (sNil (wRet ?_)))
             subst hM
             refine res1 (P := Try.prog) (fn := Try.f44) rfl ?_
             exact ⟨rfl, hL.1⟩
            ·have h75n : (m_r06_none (GEdge.er a1.Term.To.e0)) = false := Bool.eq_false_iff.2 h75
             try rw [h75n]
             rw [if_neg h75] at hM
             refine sNo rfl (sNo rfl (sNo rfl (sNo rfl (sRun (xPkFB rfl rfl) (sRun (xAsB rfl) (sNil (wRet ?_)))))))
             subst hM
             refine res1 (P := Try.prog) (fn := Try.f44) rfl ?_
             exact ⟨rfl, hL.1⟩
           ·have h73n : ((decide (a1.Term.Kind = (4 : Int))) || ((decide (a1.Term.Kind = (5 : Int))) || (decide (a1.Term.Kind = (6 : Int))))) = false := Bool.eq_false_iff.2 h73
            try rw [h73n]
            rw [if_neg h73] at hM
            have h77 : ¬ (a1.Term.Kind = (4 : Int)) := fun hq => by rw [decide_eq_true hq] at h73; simp at h73
            have h78 : ¬ (a1.Term.Kind = (5 : Int)) := fun hq => by rw [decide_eq_true hq] at h73; simp at h73
            have h79 : ¬ (a1.Term.Kind = (6 : Int)) := fun hq => by rw [decide_eq_true hq] at h73; simp at h73
            refine wIfF rfl (wSkip (wSeq (wReg (sRun (xAsB rfl) (sNil (wRet ?_))))))
            subst hM
            refine res1 (P := Try.prog) (fn := Try.f44) rfl ?_
            exact ⟨rfl, hL.1⟩

end Go.Proofs.Ytbpccmnalhdpmaa
