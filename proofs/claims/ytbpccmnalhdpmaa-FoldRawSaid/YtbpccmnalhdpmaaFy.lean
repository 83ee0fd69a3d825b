/- Contracts, printed by gen4.py. -/
import Derived.Test.YtbpccmnalhdpmaaFx
import Derived.Test.YtbpccmnalhdpmaaFw2
import Derived.Test.YtbpccmnalhdpmaaFs
import Derived.Test.YtbpccmnalhdpmaaGl
set_option linter.unusedVariables false
set_option linter.unusedSimpArgs false
set_option maxRecDepth 4000
namespace Go.Proofs.Ytbpccmnalhdpmaa
open Go.RowKit Go.Fw
def m_l08_FoldRaw (a0 : (GCode List)) : Bool :=
 if (m_kit_Small a0) = true then
  if (m_same_Code (m_fold_Fold a0) (m_r08_Fold a0)) = true then
   if (m_r06_CheckCode a0) = (0 : Int) then
    m_l08_known
   else
    if (m_same_Code (m_fold_Fold a0) a0) = true then
     m_l08_known
    else
     false
  else
   false
 else
  m_l08_known
set_option maxHeartbeats 12800000 in
theorem sp_m_l08_FoldRaw (w0 : World) (a0 : (GCode Lst)) (h0 : Dat.ok (fun _ => True) w0 a0) : Calls Try.prog 3 #[.agg (GCode.cells a0).toArray] w0 (Ret fun v w => v = .bool (m_l08_FoldRaw (GCode.er a0)) ∧ Ext w0 w) := by
  obtain ⟨X, hM⟩ : ∃ X, m_l08_FoldRaw (GCode.er a0) = X := ⟨_, rfl⟩
  rw [hM]
  unfold m_l08_FoldRaw at hM
  try simp only [er1, er2, er3, er4, er5, er6, er7, er8, er9, er10, er11, er12, er13, er14, er15, er16, er17, List.length_map] at hM
  have hL : Bx w0 w0 [] := Bx.nil
  refine calls_of Try.func3 rfl (Nat.le_of_ble_eq_true rfl) (by kernel_rfl) ?_
  refine wCut [(0, .agg (GCode.cells a0).toArray)] ⟨rfl, trivial⟩ fun g => ?_
  refine wSeq (wReg (sTo (aNew (mBox rfl)) ?_))
  rintro _ w1 ⟨b1, rfl, hge1, hB1, he1⟩
  replace hL := hL.new hge1 hB1 he1
  refine sRun (xAsB rfl) (sNil (wSeq (wSeq (wReg (sRun (xLoadS (GCode.cells a0) Try.underlying26 rfl ti26 rfl rfl ((hL.bk 0 rfl).part rfl)) (sCall (eCall cal8 rfl) (sp_m_kit_Small _ a0 (Dat.all (Dat.ext (x := a0) h0 hL.1))) ?_))))))
  rintro _ w2 ⟨rfl, he2⟩
  replace hL := hL.ext he2
  by_cases h3 : (m_kit_Small (GCode.er a0)) = true
  ·try rw [h3]
   rw [if_pos h3] at hM
   refine sRun (xNot rfl) (sNil (wIfF rfl (wSkip (wSeq (wReg (sRun (xLoadS (GCode.cells a0) Try.underlying26 rfl ti26 rfl rfl ((hL.bk 0 rfl).part rfl)) (sCall (eCall cal10 rfl) (sp_m_fold_Fold _ a0 (Dat.all (Dat.ext (x := a0) h0 hL.1))) ?_)))))))
   rintro _ w4 ⟨r4, rfl, hr4, ho4, he4⟩
   replace hL := hL.ext he4
   have hE4 := hL.1
   have hRO_b1 := hL.bk 0 rfl
   replace h0 : Dat.ok (fun _ => True) _ a0 := Dat.all (Dat.ext (x := a0) h0 hE4)
   have hE0 := hE4
   replace hL : Bx w4 w4 [] := Bx.nil
   obtain ⟨w0, rfl⟩ : ∃ x, x = w4 := ⟨_, rfl⟩
   try simp only [List.map_cons, List.map_nil] at hr4
   try rw [← hr4] at hM
   try simp only [er1, er2, er3, er4, er5, er6, er7, er8, er9, er10, er11, er12, er13, er14, er15, er16, er17, List.length_map] at hM
   refine sTo (aNew (mAlloc ti26)) ?_
   rintro _ w5 ⟨b5, rfl, hge5, hB5, he5⟩
   replace hL := hL.new hge5 hB5 he5
   refine sStS ti26 rfl rfl rfl (by simp [Value.oneCell', Dat.cells, GCode.cells]) (hL.bk 0 rfl) rfl ?_
   intro w6 hB6 hC6
   replace hL : Bx w0 w6 [.box b5 26 (GCode.cells r4).toArray] := hL.wr 0 rfl hC6 hB6
   refine sNil (wSeq ?_)
   replace hL := hL.drew
   refine wDraw (fun wS => Bx w0 wS [.box b5 26 (GCode.cells r4).toArray]) [] (by kernel_rfl) (hTakeS 0 rfl (by kernel_rfl) (by kernel_rfl) rfl (fun wS hS => (xLoadS (GCode.cells r4) Try.underlying26 rfl ti26 rfl rfl ((hS.bk 0 rfl).part rfl))) (sl_of hL) (hTakeS 1 rfl (by kernel_rfl) (by kernel_rfl) rfl (fun wS hS => (xLoadS (GCode.cells a0) Try.underlying26 rfl ti26 rfl rfl ((hRO_b1.ext hS.1).part rfl))) (sl_of hL) ?_))
   refine hOne 2 (by kernel_rfl) (oCall rfl rfl (eCall cal12 rfl) (sp_m_r08_Fold _ a0 (Dat.all (Dat.ext (x := a0) h0 hL.1))) ?_)
   rintro _ w7 ⟨r7, rfl, hr7, ho7, he7⟩
   replace hL := hL.ext he7
   try rw [← hr7] at hM
   refine ⟨(sl_of hL), ?_⟩
   refine hOne 3 (by kernel_rfl) (oCall rfl rfl (eCall cal11 rfl) (sp_m_same_Code _ r4 (Dat.all (Dat.ext (x := r4) ho4 hL.1)) r7 (Dat.all (Dat.ext (x := r7) ho7 (Ext.refl _)))) ?_)
   rintro _ w8 ⟨rfl, he8⟩
   replace hL := hL.ext he8
   refine ⟨(sl_of hL), ?_⟩
   refine hTake 4 rfl (by kernel_rfl) rfl (fun wS => (xMvB rfl)) (sl_of hL) ?_
   by_cases h9 : (m_same_Code (GCode.er r4) (GCode.er r7)) = true
   ·try rw [h9]
    rw [if_pos h9] at hM
    refine hTakeS 5 rfl (by kernel_rfl) (by kernel_rfl) rfl (fun wS hS => (xLoadS (GCode.cells a0) Try.underlying26 rfl ti26 rfl rfl ((hRO_b1.ext hS.1).part rfl))) (sl_of hL) ?_
    refine hOne 6 (by kernel_rfl) (oCall rfl rfl (eCall cal13 rfl) (sp_m_r06_CheckCode _ a0 (Dat.all (Dat.ext (x := a0) h0 hL.1))) ?_)
    rintro _ w10 ⟨rfl, he10⟩
    replace hL := hL.ext he10
    refine ⟨(sl_of hL), ?_⟩
    refine hTake 7 rfl (by kernel_rfl) rfl (fun wS => (xEqlD rfl rfl)) (sl_of hL) (hTake 8 rfl (by kernel_rfl) rfl (fun wS => (xMvB rfl)) (sl_of hL) ?_)
    by_cases h11 : (m_r06_CheckCode (GCode.er a0)) = (0 : Int)
    ·try rw [decide_eq_true h11]
     rw [if_pos h11] at hM
     refine hSkip 9 rfl (by kernel_rfl) rfl (sl_of hL) (hSkip 10 rfl (by kernel_rfl) rfl (sl_of hL) (hSkip 11 rfl (by kernel_rfl) rfl (sl_of hL) (hTake 12 rfl (by kernel_rfl) rfl (fun wS => (xPkTB rfl rfl)) (sl_of hL) (hTake 13 rfl (by kernel_rfl) rfl (fun wS => (xPkTB rfl rfl)) (sl_of hL) (hTake 14 rfl (by kernel_rfl) rfl (fun wS => (xMvB rfl)) (sl_of hL) ?_)))))
     refine hOne 15 (by kernel_rfl) (oCall rfl rfl (eCall cal9 rfl) (sp_m_l08_known _) ?_)
     rintro _ w12 ⟨rfl, he12⟩
     replace hL := hL.ext he12
     refine ⟨(sl_of hL), ?_⟩
     refine hTake 16 rfl (by kernel_rfl) rfl (fun wS => (xPkTB rfl rfl)) (sl_of hL) (hTake 17 rfl (by kernel_rfl) rfl (fun wS => (xAsB rfl)) (sl_of hL) (hDone (by kernel_rfl) (wRet ?_)))
     subst hM
     refine res1 (P := Try.prog) (fn := Try.f3) rfl ?_
     exact ⟨rfl, hE0.trans hL.1⟩
    ·try rw [decide_eq_false h11]
     rw [if_neg h11] at hM
     refine hTakeS 9 rfl (by kernel_rfl) (by kernel_rfl) rfl (fun wS hS => (xLoadS (GCode.cells r4) Try.underlying26 rfl ti26 rfl rfl ((hS.bk 0 rfl).part rfl))) (sl_of hL) (hTakeS 10 rfl (by kernel_rfl) (by kernel_rfl) rfl (fun wS hS => (xLoadS (GCode.cells a0) Try.underlying26 rfl ti26 rfl rfl ((hRO_b1.ext hS.1).part rfl))) (sl_of hL) ?_)
     refine hOne 11 (by kernel_rfl) (oCall rfl rfl (eCall cal11 rfl) (sp_m_same_Code _ r4 (Dat.all (Dat.ext (x := r4) ho4 hL.1)) a0 (Dat.all (Dat.ext (x := a0) h0 hL.1))) ?_)
     rintro _ w13 ⟨rfl, he13⟩
     replace hL := hL.ext he13
     refine ⟨(sl_of hL), ?_⟩
     refine hTake 12 rfl (by kernel_rfl) rfl (fun wS => (xPkFB rfl rfl)) (sl_of hL) (hTake 13 rfl (by kernel_rfl) rfl (fun wS => (xPkTB rfl rfl)) (sl_of hL) (hTake 14 rfl (by kernel_rfl) rfl (fun wS => (xMvB rfl)) (sl_of hL) ?_))
     by_cases h14 : (m_same_Code (GCode.er r4) (GCode.er a0)) = true
     ·try rw [h14]
      rw [if_pos h14] at hM
      refine hOne 15 (by kernel_rfl) (oCall rfl rfl (eCall cal9 rfl) (sp_m_l08_known _) ?_)
      rintro _ w15 ⟨rfl, he15⟩
      replace hL := hL.ext he15
      refine ⟨(sl_of hL), ?_⟩
      refine hTake 16 rfl (by kernel_rfl) rfl (fun wS => (xPkTB rfl rfl)) (sl_of hL) (hTake 17 rfl (by kernel_rfl) rfl (fun wS => (xAsB rfl)) (sl_of hL) (hDone (by kernel_rfl) (wRet ?_)))
      subst hM
      refine res1 (P := Try.prog) (fn := Try.f3) rfl ?_
      exact ⟨rfl, hE0.trans hL.1⟩
     ·have h14n : (m_same_Code (GCode.er r4) (GCode.er a0)) = false := Bool.eq_false_iff.2 h14
      try rw [h14n]
      rw [if_neg h14] at hM
      refine hSkip 15 rfl (by kernel_rfl) rfl (sl_of hL) (hTake 16 rfl (by kernel_rfl) rfl (fun wS => (xPkFB rfl rfl)) (sl_of hL) (hTake 17 rfl (by kernel_rfl) rfl (fun wS => (xAsB rfl)) (sl_of hL) (hDone (by kernel_rfl) (wRet ?_))))
      subst hM
      refine res1 (P := Try.prog) (fn := Try.f3) rfl ?_
      exact ⟨rfl, hE0.trans hL.1⟩
   ·have h9n : (m_same_Code (GCode.er r4) (GCode.er r7)) = false := Bool.eq_false_iff.2 h9
    try rw [h9n]
    rw [if_neg h9] at hM
    refine hSkip 5 rfl (by kernel_rfl) rfl (sl_of hL) (hSkip 6 rfl (by kernel_rfl) rfl (sl_of hL) (hSkip 7 rfl (by kernel_rfl) rfl (sl_of hL) (hSkip 8 rfl (by kernel_rfl) rfl (sl_of hL) (hSkip 9 rfl (by kernel_rfl) rfl (sl_of hL) (hSkip 10 rfl (by kernel_rfl) rfl (sl_of hL) (hSkip 11 rfl (by kernel_rfl) rfl (sl_of hL) (hSkip 12 rfl (by kernel_rfl) rfl (sl_of hL) (hTake 13 rfl (by kernel_rfl) rfl (fun wS => (xPkFB rfl rfl)) (sl_of hL) (hTake 14 rfl (by kernel_rfl) rfl (fun wS => (xMvB rfl)) (sl_of hL) (hSkip 15 rfl (by kernel_rfl) rfl (sl_of hL) (hTake 16 rfl (by kernel_rfl) rfl (fun wS => (xPkFB rfl rfl)) (sl_of hL) (hTake 17 rfl (by kernel_rfl) rfl (fun wS => (xAsB rfl)) (sl_of hL) (hDone (by kernel_rfl) ?_)))))))))))))
    refine wRet ?_
    subst hM
    refine res1 (P := Try.prog) (fn := Try.f3) rfl ?_
    exact ⟨rfl, hE0.trans hL.1⟩
  ·have h3n : (m_kit_Small (GCode.er a0)) = false := Bool.eq_false_iff.2 h3
   try rw [h3n]
   rw [if_neg h3] at hM
   refine sRun (xNot rfl) (sNil (wIfT rfl (wSeq (wReg (sCall (eCall cal9 rfl) (sp_m_l08_known _) ?_)))))
   rintro _ w16 ⟨rfl, he16⟩
   replace hL := hL.ext he16
   refine sRun (xAsB rfl) (sNil (wRet ?_))
   subst hM
   refine res1 (P := Try.prog) (fn := Try.f3) rfl ?_
   exact ⟨rfl, hL.1⟩

end Go.Proofs.Ytbpccmnalhdpmaa
