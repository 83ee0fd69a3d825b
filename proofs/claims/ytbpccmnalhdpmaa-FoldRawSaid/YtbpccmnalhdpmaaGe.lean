/- Contracts, printed by gen2.py. -/
import Derived.Test.YtbpccmnalhdpmaaGb
import Derived.Test.YtbpccmnalhdpmaaGc
import Derived.Test.YtbpccmnalhdpmaaGd
set_option linter.unusedVariables false
set_option linter.unusedSimpArgs false
set_option maxRecDepth 4000
namespace Go.Proofs.Ytbpccmnalhdpmaa
open Go.RowKit Go.Fw
def m_r06_CheckCode_L0 (a0 : (GCode List)) : List (GBlock List) → Nat → Lp (Unit) (Int)
  | [], _ => .go ()
  | x18 :: r18, k18 =>
  if ((((decide (x18.Params < (0 : Int))) || (decide ((999 : Int) < x18.Params))) || (!(m_r06_ops a0 x18))) || (!(m_r06_term a0 x18))) = true then
   .out ((4 : Int))
  else
   m_r06_CheckCode_L0 a0 r18 (k18 + 1)
def m_r06_CheckCode (a0 : (GCode List)) : Int :=
 if ((((decide ((400 : Int) < ((a0.Blocks.length : Nat) : Int))) || (decide ((6000 : Int) < (m_r06_Ops a0)))) || (decide ((64 : Int) < ((a0.Contexts.length : Nat) : Int)))) || (decide ((64 : Int) < ((a0.Objects.length : Nat) : Int)))) = true then
  (5 : Int)
 else
  if (m_r06_heads a0) = true then
   (m_r06_CheckCode_L0 a0 a0.Blocks 0).el (fun _ =>
    (0 : Int)
     ) (fun o => o)
  else
   (4 : Int)
set_option maxHeartbeats 12800000 in
theorem sp_m_r06_CheckCode (w0 : World) (a0 : (GCode Lst)) (h0 : Dat.ok (fun _ => True) w0 a0) : Calls Try.prog 13 #[.agg (GCode.cells a0).toArray] w0 (Ret fun v w => v = .int .i64 (m_r06_CheckCode (GCode.er a0)) ∧ Ext w0 w) := by
  obtain ⟨X, hM⟩ : ∃ X, m_r06_CheckCode (GCode.er a0) = X := ⟨_, rfl⟩
  rw [hM]
  unfold m_r06_CheckCode at hM
  try simp only [er1, er2, er3, er4, er5, er6, er7, er8, er9, er10, er11, er12, er13, er14, er15, er16, er17, List.length_map] at hM
  have hL : Bx w0 w0 [] := Bx.nil
  refine calls_of Try.func13 rfl (Nat.le_of_ble_eq_true rfl) (by kernel_rfl) ?_
  refine wCut [(0, .agg (GCode.cells a0).toArray)] ⟨rfl, trivial⟩ fun g => ?_
  refine wSeq (wReg (sTo (aNew (mBox rfl)) ?_))
  rintro _ w1 ⟨b1, rfl, hge1, hB1, he1⟩
  replace hL := hL.new hge1 hB1 he1
  refine sRun (xAsI rfl) (sNil (wSeq (wSeq ?_)))
  obtain ⟨E2, hE2⟩ : ∃ E, ((((decide ((400 : Int) < ((a0.Blocks.l.length : Nat) : Int))) || (decide ((6000 : Int) < (m_r06_Ops (GCode.er a0))))) || (decide ((64 : Int) < ((a0.Contexts.l.length : Nat) : Int)))) || (decide ((64 : Int) < ((a0.Objects.l.length : Nat) : Int)))) = E := ⟨_, rfl⟩
  refine wJ (fun f w => Has f [(1, .pointer (some ⟨b1, 0, none⟩)), (25, .bool E2)] ∧ Bx w0 w [.box b1 26 (GCode.cells a0).toArray]) ?_ ?_
  ·refine wReg (sRun (xFld (k := 1) Try.underlying26 rfl rfl ti22 (by decide) rfl) (sRun (xLoad Try.underlying22 rfl rfl ((hL.bk 0 rfl).cell (i := 1) rfl)) ?_))
   have hl3 : a0.Blocks.l.length * 144 ≤ 140737488355328 := Lst.bd h0.1
   refine sRun (xLnL (s := a0.Blocks) Try.underlying22 rfl) (sRun (xGtr rfl rfl) (sRun (xMvB rfl) ?_))
   by_cases h4 : (400 : Int) < ((a0.Blocks.l.length : Nat) : Int)
   ·try rw [decide_eq_true h4]
    refine sNo rfl (sNo rfl (sNo rfl (sRun (xPkTB rfl rfl) (sRun (xMvB rfl) (sNo rfl (sNo rfl (sNo rfl (sNo rfl (sRun (xPkTB rfl rfl) (sRun (xMvB rfl) (sNo rfl (sNo rfl (sNo rfl ?_)))))))))))))
    refine sNo rfl (sRun (xPkTB rfl rfl) (sNil ?_))
    exact ⟨⟨rfl, (congrArg Value.bool (by rw [← hE2]; first | (simp [h4]; done) | (simp only [decide_eq_true h4]; done) | grind)), trivial⟩, hL⟩
   ·try rw [decide_eq_false h4]
    refine sGo rfl (sRun (xLoadS (GCode.cells a0) Try.underlying26 rfl ti26 rfl rfl ((hL.bk 0 rfl).part rfl)) (sGo rfl (sCall (eCall cal27 rfl) (sp_m_r06_Ops _ a0 (Dat.all (Dat.ext (x := a0) h0 hL.1))) ?_)))
    rintro _ w5 ⟨rfl, he5⟩
    replace hL := hL.ext he5
    refine sGo rfl (sRun (xGtr rfl rfl) (sRun (xPkFB rfl rfl) (sRun (xMvB rfl) ?_)))
    by_cases h6 : (6000 : Int) < (m_r06_Ops (GCode.er a0))
    ·try rw [decide_eq_true h6]
     refine sNo rfl (sNo rfl (sNo rfl (sNo rfl (sRun (xPkTB rfl rfl) (sRun (xMvB rfl) (sNo rfl (sNo rfl (sNo rfl (sNo rfl (sRun (xPkTB rfl rfl) (sNil ?_)))))))))))
     exact ⟨⟨rfl, (congrArg Value.bool (by rw [← hE2]; first | (simp [h4, h6]; done) | (simp only [decide_eq_false h4, decide_eq_true h6]; done) | grind)), trivial⟩, hL⟩
    ·try rw [decide_eq_false h6]
     refine sGo rfl (sRun (xFld (k := 2) Try.underlying26 rfl rfl ti23 (by decide) rfl) (sGo rfl (sRun (xLoad Try.underlying23 rfl rfl ((hL.bk 0 rfl).cell (i := 2) rfl)) (sGo rfl ?_))))
     have hl7 : a0.Contexts.l.length * 24 ≤ 140737488355328 := Lst.bd h0.2.1
     refine sRun (xLnL (s := a0.Contexts) Try.underlying23 rfl) (sGo rfl (sRun (xGtr rfl rfl) (sRun (xPkFB rfl rfl) (sRun (xMvB rfl) ?_))))
     by_cases h8 : (64 : Int) < ((a0.Contexts.l.length : Nat) : Int)
     ·try rw [decide_eq_true h8]
      refine sNo rfl (sNo rfl (sNo rfl (sNo rfl (sRun (xPkTB rfl rfl) (sNil ?_)))))
      exact ⟨⟨rfl, (congrArg Value.bool (by rw [← hE2]; first | (simp [h4, h6, h8]; done) | (simp only [decide_eq_false h4, decide_eq_false h6, decide_eq_true h8]; done) | grind)), trivial⟩, hL⟩
     ·try rw [decide_eq_false h8]
      refine sGo rfl (sRun (xFld (k := 3) Try.underlying26 rfl rfl ti24 (by decide) rfl) (sGo rfl (sRun (xLoad Try.underlying24 rfl rfl ((hL.bk 0 rfl).cell (i := 3) rfl)) (sGo rfl ?_))))
      have hl9 : a0.Objects.l.length * 24 ≤ 140737488355328 := Lst.bd h0.2.2
      refine sRun (xLnL (s := a0.Objects) Try.underlying24 rfl) (sGo rfl (sRun (xGtr rfl rfl) (sRun (xPkFB rfl rfl) (sNil ?_))))
      exact ⟨⟨rfl, (congrArg Value.bool (by rw [← hE2]; first | (simp [h4, h6, h8]; done) | (simp only [decide_eq_false h4, decide_eq_false h6, decide_eq_false h8]; done) | grind)), trivial⟩, hL⟩
  ·clear hL
   subst hE2
   rintro f w ⟨hf, hL⟩
   obtain ⟨g, rfl⟩ := has_updL _ _ hf
   clear hf
   by_cases h10 : ((((decide ((400 : Int) < ((a0.Blocks.l.length : Nat) : Int))) || (decide ((6000 : Int) < (m_r06_Ops (GCode.er a0))))) || (decide ((64 : Int) < ((a0.Contexts.l.length : Nat) : Int)))) || (decide ((64 : Int) < ((a0.Objects.l.length : Nat) : Int)))) = true
   ·try rw [h10]
    rw [if_pos h10] at hM
    refine wIfT rfl (wSeq (wReg (sRun (xAsI rfl) (sNil (wRet ?_)))))
    subst hM
    refine res1 (P := Try.prog) (fn := Try.f13) rfl ?_
    exact ⟨rfl, hL.1⟩
   ·have h10n : ((((decide ((400 : Int) < ((a0.Blocks.l.length : Nat) : Int))) || (decide ((6000 : Int) < (m_r06_Ops (GCode.er a0))))) || (decide ((64 : Int) < ((a0.Contexts.l.length : Nat) : Int)))) || (decide ((64 : Int) < ((a0.Objects.l.length : Nat) : Int)))) = false := Bool.eq_false_iff.2 h10
    try rw [h10n]
    rw [if_neg h10] at hM
    have h11 : ¬ ((400 : Int) < ((a0.Blocks.l.length : Nat) : Int)) := fun hq => by rw [decide_eq_true hq] at h10; simp at h10
    have h12 : ¬ ((6000 : Int) < (m_r06_Ops (GCode.er a0))) := fun hq => by rw [decide_eq_true hq] at h10; simp at h10
    have h13 : ¬ ((64 : Int) < ((a0.Contexts.l.length : Nat) : Int)) := fun hq => by rw [decide_eq_true hq] at h10; simp at h10
    have h14 : ¬ ((64 : Int) < ((a0.Objects.l.length : Nat) : Int)) := fun hq => by rw [decide_eq_true hq] at h10; simp at h10
    refine wIfF rfl (wSkip (wSeq (wSeq (wReg (sRun (xLoadS (GCode.cells a0) Try.underlying26 rfl ti26 rfl rfl ((hL.bk 0 rfl).part rfl)) (sCall (eCall cal42 rfl) (sp_m_r06_heads _ a0 (Dat.all (Dat.ext (x := a0) h0 hL.1))) ?_))))))
    rintro _ w15 ⟨rfl, he15⟩
    replace hL := hL.ext he15
    by_cases h16 : (m_r06_heads (GCode.er a0)) = true
    ·try rw [h16]
     rw [if_pos h16] at hM
     refine sRun (xNot rfl) (sNil (wIfF rfl (wSkip (wSeq (wSeq (wReg (sRun (xFld (k := 1) Try.underlying26 rfl rfl ti22 (by decide) rfl) (sRun (xLoad Try.underlying22 rfl rfl ((hL.bk 0 rfl).cell (i := 1) rfl)) ?_))))))))
     have hl17 : a0.Blocks.l.length * 144 ≤ 140737488355328 := Lst.bd h0.1
     refine sRun (xLnL (s := a0.Blocks) Try.underlying22 rfl) (sRun (xMvI rfl) (sNil ?_))
     obtain ⟨Y18, hY18⟩ : ∃ Y, m_r06_CheckCode_L0 (GCode.er a0) (a0.Blocks.l.map GBlock.er) 0 = Y := ⟨_, rfl⟩
     rw [hY18] at hM
     refine wJ (fun f w => Has f [(1, .pointer (some ⟨b1, 0, none⟩)), (30, .slice a0.Blocks.a a0.Blocks.l.length a0.Blocks.c), (31, .int .i64 ((a0.Blocks.l.length : Nat) : Int))] ∧ Bx w0 w [.box b1 26 (GCode.cells a0).toArray] ∧ Lp.go () = Y18) ?_ ?_
     ·refine wBlock (wLoopG (fun n f w => ∃ (k18 : Nat), n = a0.Blocks.l.length - k18 ∧ k18 ≤ a0.Blocks.l.length ∧ Has f [(32, .int .i64 ((k18 : Nat) : Int)), (1, .pointer (some ⟨b1, 0, none⟩)), (30, .slice a0.Blocks.a a0.Blocks.l.length a0.Blocks.c), (31, .int .i64 ((a0.Blocks.l.length : Nat) : Int))] ∧ Bx w0 w [.box b1 26 (GCode.cells a0).toArray] ∧ m_r06_CheckCode_L0 (GCode.er a0) ((a0.Blocks.l.map GBlock.er).drop k18) k18 = Y18) (a0.Blocks.l.length) ⟨0, rfl, Nat.zero_le _, ⟨rfl, rfl, rfl, rfl, trivial⟩, hL, hY18⟩ ?_)
      clear hL hY18
      rintro n f w ⟨k18, rfl, hk18, hf, hL, hY18⟩
      obtain ⟨g, rfl⟩ := has_updL _ _ hf
      clear hf
      rcases Nat.lt_or_ge k18 a0.Blocks.l.length with hk18b | hk18b
      ·obtain ⟨x18, hx18⟩ := get_ex (l := a0.Blocks.l) hk18b
       rw [drop_map hx18, m_r06_CheckCode_L0] at hY18
       try simp only [er1, er2, er3, er4, er5, er6, er7, er8, er9, er10, er11, er12, er13, er14, er15, er16, er17, List.length_map] at hY18
       refine wSeq (wReg (sRun (xLssT rfl rfl (by omega)) (sNil (wSeq (wIfT rfl (wSkip (wSeq (wBlock (wSeq (wReg (sRun (xIdL Try.underlying22 ti60 rfl rfl rfl h0.1 hx18) (sRun (xLoadS (GBlock.cells x18) Try.underlying60 rfl ti60 rfl rfl ((Lst.el h0.1 hx18).ext hL.1)) (sTo (aNew (mAlloc ti60)) ?_)))))))))))))
       rintro _ w19 ⟨b19, rfl, hge19, hB19, he19⟩
       replace hL := hL.new hge19 hB19 he19
       refine sStS ti60 rfl rfl rfl (by simp [Value.oneCell', Dat.cells, GBlock.cells]) (hL.bk 0 rfl) rfl ?_
       intro w20 hB20 hC20
       replace hL : Bx w0 w20 [.box b19 60 (GBlock.cells x18).toArray, .box b1 26 (GCode.cells a0).toArray] := hL.wr 0 rfl hC20 hB20
       refine sNil (wSeq ?_)
       obtain ⟨E21, hE21⟩ : ∃ E, ((((decide (x18.Params < (0 : Int))) || (decide ((999 : Int) < x18.Params))) || (!(m_r06_ops (GCode.er a0) (GBlock.er x18)))) || (!(m_r06_term (GCode.er a0) (GBlock.er x18)))) = E := ⟨_, rfl⟩
       refine wJ (fun f w => Has f [(1, .pointer (some ⟨b1, 0, none⟩)), (30, .slice a0.Blocks.a a0.Blocks.l.length a0.Blocks.c), (31, .int .i64 ((a0.Blocks.l.length : Nat) : Int)), (32, .int .i64 ((k18 : Nat) : Int)), (55, .bool E21)] ∧ Bx w0 w [.box b19 60 (GBlock.cells x18).toArray, .box b1 26 (GCode.cells a0).toArray]) ?_ ?_
       ·refine wReg (sRun (xFld0 Try.underlying60 rfl rfl ti3 (by decide) rfl) (sRun (xLoad Try.underlying3 rfl rfl ((hL.bk 0 rfl).cell (i := 0) rfl)) (sRun (xLss rfl rfl) (sRun (xMvB rfl) ?_))))
        by_cases h22 : x18.Params < (0 : Int)
        ·try rw [decide_eq_true h22]
         refine sNo rfl (sNo rfl (sNo rfl (sRun (xPkTB rfl rfl) (sRun (xMvB rfl) (sNo rfl (sNo rfl (sNo rfl (sNo rfl (sRun (xPkTB rfl rfl) (sRun (xMvB rfl) (sNo rfl (sNo rfl (sNo rfl ?_)))))))))))))
         refine sNo rfl (sRun (xPkTB rfl rfl) (sNil ?_))
         exact ⟨⟨rfl, rfl, rfl, rfl, (congrArg Value.bool (by rw [← hE21]; first | (simp [h22]; done) | (simp only [decide_eq_true h22]; done) | grind)), trivial⟩, hL⟩
        ·try rw [decide_eq_false h22]
         refine sGo rfl (sRun (xFld0 Try.underlying60 rfl rfl ti3 (by decide) rfl) (sGo rfl (sRun (xLoad Try.underlying3 rfl rfl ((hL.bk 0 rfl).cell (i := 0) rfl)) (sGo rfl (sRun (xGtr rfl rfl) (sRun (xPkFB rfl rfl) (sRun (xMvB rfl) ?_)))))))
         by_cases h23 : (999 : Int) < x18.Params
         ·try rw [decide_eq_true h23]
          refine sNo rfl (sNo rfl (sNo rfl (sNo rfl (sRun (xPkTB rfl rfl) (sRun (xMvB rfl) (sNo rfl (sNo rfl (sNo rfl (sNo rfl (sRun (xPkTB rfl rfl) (sNil ?_)))))))))))
          exact ⟨⟨rfl, rfl, rfl, rfl, (congrArg Value.bool (by rw [← hE21]; first | (simp [h22, h23]; done) | (simp only [decide_eq_false h22, decide_eq_true h23]; done) | grind)), trivial⟩, hL⟩
         ·try rw [decide_eq_false h23]
          refine sGo rfl (sRun (xLoadS (GCode.cells a0) Try.underlying26 rfl ti26 rfl rfl ((hL.bk 1 rfl).part rfl)) (sGo rfl (sRun (xLoadS (GBlock.cells x18) Try.underlying60 rfl ti60 rfl rfl ((hL.bk 0 rfl).part rfl)) (sGo rfl (sCall (eCall cal43 rfl) (sp_m_r06_ops _ a0 (Dat.all (Dat.ext (x := a0) h0 hL.1)) x18 (Dat.all (Dat.ext (x := x18) (Lst.elok h0.1 hx18) hL.1)) (by omega)) ?_)))))
          rintro _ w24 ⟨rfl, he24⟩
          replace hL := hL.ext he24
          by_cases h25 : (m_r06_ops (GCode.er a0) (GBlock.er x18)) = true
          ·try rw [h25]
           refine sGo rfl (sRun (xNot rfl) (sRun (xPkFB rfl rfl) (sRun (xMvB rfl) (sGo rfl (sRun (xLoadS (GCode.cells a0) Try.underlying26 rfl ti26 rfl rfl ((hL.bk 1 rfl).part rfl)) (sGo rfl (sRun (xLoadS (GBlock.cells x18) Try.underlying60 rfl ti60 rfl rfl ((hL.bk 0 rfl).part rfl)) (sGo rfl (sCall (eCall cal44 rfl) (sp_m_r06_term _ a0 (Dat.all (Dat.ext (x := a0) h0 hL.1)) x18 (Dat.all (Dat.ext (x := x18) (Lst.elok h0.1 hx18) hL.1)) (by omega)) ?_)))))))))
           rintro _ w26 ⟨rfl, he26⟩
           replace hL := hL.ext he26
           by_cases h27 : (m_r06_term (GCode.er a0) (GBlock.er x18)) = true
           ·try rw [h27]
            refine sGo rfl (sRun (xNot rfl) (sRun (xPkFB rfl rfl) (sNil ?_)))
            exact ⟨⟨rfl, rfl, rfl, rfl, (congrArg Value.bool (by rw [← hE21]; first | (simp [h22, h23, h25, h27]; done) | (simp only [decide_eq_false h22, decide_eq_false h23, h25, h27]; done) | grind)), trivial⟩, hL⟩
           ·have h27n : (m_r06_term (GCode.er a0) (GBlock.er x18)) = false := Bool.eq_false_iff.2 h27
            try rw [h27n]
            refine sGo rfl (sRun (xNot rfl) (sRun (xPkFB rfl rfl) (sNil ?_)))
            exact ⟨⟨rfl, rfl, rfl, rfl, (congrArg Value.bool (by rw [← hE21]; first | (simp [h22, h23, h25, h27n]; done) | (simp only [decide_eq_false h22, decide_eq_false h23, h25, h27n]; done) | grind)), trivial⟩, hL⟩
          ·have h25n : (m_r06_ops (GCode.er a0) (GBlock.er x18)) = false := Bool.eq_false_iff.2 h25
           try rw [h25n]
           refine sGo rfl (sRun (xNot rfl) (sRun (xPkFB rfl rfl) (sRun (xMvB rfl) (sNo rfl (sNo rfl (sNo rfl (sNo rfl (sRun (xPkTB rfl rfl) (sNil ?_)))))))))
           exact ⟨⟨rfl, rfl, rfl, rfl, (congrArg Value.bool (by rw [← hE21]; first | (simp [h22, h23, h25n]; done) | (simp only [decide_eq_false h22, decide_eq_false h23, h25n]; done) | grind)), trivial⟩, hL⟩
       ·clear hL
        subst hE21
        rintro f w ⟨hf, hL⟩
        obtain ⟨g, rfl⟩ := has_updL _ _ hf
        clear hf
        by_cases h28 : ((((decide (x18.Params < (0 : Int))) || (decide ((999 : Int) < x18.Params))) || (!(m_r06_ops (GCode.er a0) (GBlock.er x18)))) || (!(m_r06_term (GCode.er a0) (GBlock.er x18)))) = true
        ·try rw [h28]
         rw [if_pos h28] at hY18
         refine wIfT rfl (wSeq (wReg (sRun (xAsI rfl) (sNil (wRet ?_)))))
         subst hY18
         rw [Lp.el_out] at hM
         try dsimp only at hM
         subst hM
         refine res1 (P := Try.prog) (fn := Try.f13) rfl ?_
         exact ⟨rfl, hL.1⟩
        ·have h28n : ((((decide (x18.Params < (0 : Int))) || (decide ((999 : Int) < x18.Params))) || (!(m_r06_ops (GCode.er a0) (GBlock.er x18)))) || (!(m_r06_term (GCode.er a0) (GBlock.er x18)))) = false := Bool.eq_false_iff.2 h28
         try rw [h28n]
         rw [if_neg h28] at hY18
         have h29 : ¬ (x18.Params < (0 : Int)) := fun hq => by rw [decide_eq_true hq] at h28; simp at h28
         have h30 : ¬ ((999 : Int) < x18.Params) := fun hq => by rw [decide_eq_true hq] at h28; simp at h28
         refine wIfF rfl (wSkip (wReg (sRun (xAdd64 rfl rfl (by omega) (by omega)) (sRun (xMvI rfl) (sNil ?_)))))
         exact ⟨a0.Blocks.l.length - (k18 + 1), by omega, k18 + 1, rfl, by omega, ⟨rfl, rfl, rfl, rfl, trivial⟩, hL.tl, hY18⟩
      ·obtain rfl : k18 = a0.Blocks.l.length := by omega
       rw [drop_endm, m_r06_CheckCode_L0] at hY18
       refine wSeq (wReg (sRun (xLssF rfl rfl (by omega)) (sNil (wSeq (wIfF rfl (wExit ?_))))))
       exact ⟨⟨rfl, rfl, rfl, trivial⟩, hL, hY18⟩
     ·clear hL
      rintro f w ⟨hf, hL, hZ18⟩
      obtain ⟨g, rfl⟩ := has_updL _ _ hf
      clear hf
      subst hZ18
      rw [Lp.el_go] at hM
      try dsimp only at hM
      refine wSeq (wReg (sRun (xAsI rfl) (sNil (wRet ?_))))
      subst hM
      refine res1 (P := Try.prog) (fn := Try.f13) rfl ?_
      exact ⟨rfl, hL.1⟩
    ·have h16n : (m_r06_heads (GCode.er a0)) = false := Bool.eq_false_iff.2 h16
     try rw [h16n]
     rw [if_neg h16] at hM
     refine sRun (xNot rfl) (sNil (wIfT rfl (wSeq (wReg (sRun (xAsI rfl) (sNil (wRet ?_)))))))
     subst hM
     refine res1 (P := Try.prog) (fn := Try.f13) rfl ?_
     exact ⟨rfl, hL.1⟩

end Go.Proofs.Ytbpccmnalhdpmaa
