/- Contracts, printed by gen4.py. -/
import Derived.Test.YtbpccmnalhdpmaaFa
import Derived.Test.YtbpccmnalhdpmaaFi
set_option linter.unusedVariables false
set_option linter.unusedSimpArgs false
set_option maxRecDepth 4000
namespace Go.Proofs.Ytbpccmnalhdpmaa
open Go.RowKit Go.Fw
theorem sp_operands (w0 w : World) (L0 : List It) (p : Option Addr) (hL : Bx w0 w L0) : Calls Try.prog 125 #[.pointer p] w (Ret fun v w' => ∃ B, v = .func (.func 158) #[] #[.pointer (some ⟨B, 0, none⟩)] ∧ Bx w0 w' (.box B 138 #[.pointer p] :: L0)) := by
  refine calls_of Try.func125 rfl (Nat.le_of_ble_eq_true rfl) (by kernel_rfl) ?_
  refine wCut [(0, .pointer p)] ⟨rfl, trivial⟩ fun g => ?_
  refine wSeq (wReg (sTo (aNew (mBox rfl)) ?_))
  rintro _ w1 ⟨B, rfl, hge, hB, he⟩
  replace hL := hL.new hge hB he
  refine sRun xAsg (sNil (wSeq (wReg (sRun xMkFunc (sRun (xAsF rfl) (sNil (wRet ?_)))))))
  refine res1 (P := Try.prog) (fn := Try.f125) rfl ?_
  exact ⟨B, rfl, hL⟩
def m_fold_op (cs rs : List (Int × Int)) (x : GOp) : GOp × List (Int × Int) × List (Int × Int) :=
 lt (m_fold_operands1 (m_fold_facts_replace cs rs) x) fun y0 =>
  if y0.Kind = (1 : Int) then
   (y0, (mput cs y0.Dst y0.N), rs)
  else
   if y0.Kind = (2 : Int) then
    if ((mget cs y0.A).isSome) = true then
     lt (m_fold_facts_become cs rs y0 ((mget cs y0.A).getD (0 : Int))) fun y5 =>
      (y5.1, y5.2, rs)
    else
     (y0, cs, (mput rs y0.Dst y0.A))
   else
    if (3 : Int) ≤ y0.Kind then
     if y0.Kind ≤ (14 : Int) then
      lt (m_fold_facts_combine cs rs y0) fun y9 =>
       (y9.1, y9.2.1, y9.2.2)
     else
      if y0.Kind = (21 : Int) then
       if y0.Src.Kind = (2 : Int) then
        lt (m_fold_facts_replace cs rs y0.Src.Val) fun y12 =>
         if ((mget cs y12).isSome) = true then
          ((⟨y0.Kind, y0.Dst, y0.A, y0.B, y0.N, y0.Ctx, y0.Var, y0.Piece, (⟨(1 : Int), (0 : Int), (wr (((mget cs y12).getD (0 : Int)) + y0.Src.Add))⟩ : GSrc)⟩ : GOp), cs, rs)
         else
          ((⟨y0.Kind, y0.Dst, y0.A, y0.B, y0.N, y0.Ctx, y0.Var, y0.Piece, (⟨y0.Src.Kind, y12, y0.Src.Add⟩ : GSrc)⟩ : GOp), cs, rs)
       else
        (y0, cs, rs)
      else
       (y0, cs, rs)
    else
     (y0, cs, rs)
theorem bd76_118 {ρ : Operand → Value} {w : World} {d : Option Nat} {ty : TypeId} {pos : String} {af : Array Edge} {g : Option (Nat × Bool)} {x0 : Int} {x2 : Int} {o0 : Operand} {o2 : Operand} (h0 : ρ o0 = .int .i64 x0) (h2 : ρ o2 = .int .i64 x2) : Yl Try.prog ρ (.build 64 #[(0, o0), (2, o2)]) d ty pos af g w (.agg #[.int .i64 x0, .int .i64 0, .int .i64 x2]) := by
  have e : (Instr.build 64 #[(0, .int .i64 x0), (2, .int .i64 x2)]).run Try.prog w = .ok (.agg #[.int .i64 x0, .int .i64 0, .int .i64 x2]) w := by kernel_rfl
  simp [Yl, execOp, h0, h2, e]
set_option maxHeartbeats 12800000 in
theorem sp_m_fold_op (w0 w : World) (L0 : List It) (cb : Nat) (cs : List (Int × Int)) (rb : Nat) (rs : List (Int × Int)) (T : List Value → It) (b o : Nat) (hT : Slot T b o) (x : GOp) (hL : Bx w0 w (.map ekI evI cb cs :: .map ekI evI rb rs :: T (GOp.cells x) :: L0)) : Calls Try.prog 76 #[.agg #[.map (some cb), .map (some rb)], .pointer (some ⟨b, o, none⟩)] w (Ret fun v w => v = .tuple #[] ∧ Bx w0 w (.map ekI evI cb (m_fold_op cs rs x).2.1 :: .map ekI evI rb (m_fold_op cs rs x).2.2 :: T (GOp.cells (m_fold_op cs rs x).1) :: L0)) := by
  obtain ⟨X, hM⟩ : ∃ X, m_fold_op cs rs x = X := ⟨_, rfl⟩
  rw [hM]
  unfold m_fold_op at hM
  obtain ⟨y0, hy0⟩ : ∃ y, m_fold_operands1 (m_fold_facts_replace cs rs) x = y := ⟨_, rfl⟩
  rw [hy0, lt_eq] at hM
  try dsimp only at hM
  refine calls_rf Try.func76 rfl rfl (Nat.le_of_ble_eq_true rfl) (by kernel_rfl) (KB := fun f w => ∃ b1 B, Has f [(1, .pointer (some ⟨b, o, none⟩)), (2, .pointer (some ⟨b1, 0, none⟩)), (10, .func (.func 158) #[] #[.pointer (some ⟨B, 0, none⟩)])] ∧ Bx w0 w (.map ekI evI cb cs :: .map ekI evI rb rs :: T (GOp.cells x) :: .box b1 135 #[.map (some cb), .map (some rb)] :: .box B 138 #[.pointer (some ⟨b, o, none⟩)] :: L0)) (KR := fun D f w => ∃ b1 B, Has f [(1, .pointer (some ⟨b, o, none⟩)), (2, .pointer (some ⟨b1, 0, none⟩))] ∧ Bx w0 w (.obj D (.deferred (some [])) :: .map ekI evI cb cs :: .map ekI evI rb rs :: T (GOp.cells y0) :: .box b1 135 #[.map (some cb), .map (some rb)] :: .box B 138 #[.pointer (some ⟨b, o, none⟩)] :: L0)) ?_ ?_ ?_
  · refine wCut [(0, .agg #[.map (some cb), .map (some rb)]), (1, .pointer (some ⟨b, o, none⟩))] ⟨rfl, rfl, trivial⟩ fun g => ?_
    refine wReg (sTo (aNew (mBox rfl)) ?_)
    rintro _ w1 ⟨b1, rfl, hge, hB, he⟩
    replace hL := hL.new hge hB he
    refine sNil (wReg (sRun (xMvP rfl) (sCall (eCall cal125 rfl) (sp_operands w0 _ _ _ hL) ?_)))
    rintro _ w2 ⟨B, rfl, hL2⟩
    refine sNil ⟨b1, B, ⟨rfl, rfl, rfl, trivial⟩, ?_⟩
    exact (((((hL2.front 0 rfl).front 1 rfl).front 4 rfl).front 4 rfl).front 4 rfl)
  · rintro f w ac ⟨b1, B, hf, hL⟩ ha
    obtain ⟨g, rfl⟩ := has_updL _ _ hf
    clear hf
    refine wp_block (rf_bx (lb := [.pointer (some ⟨B, 0, none⟩)]) (X' := .map ekI evI cb cs :: .map ekI evI rb rs :: T (GOp.cells y0) :: .box b1 135 #[.map (some cb), .map (some rb)] :: .box B 138 #[.pointer (some ⟨b, o, none⟩)] :: L0) ha rfl cal158 hL ?_ ?_)
    · intro l D fn w1 h1
      refine calls_mono (sp_operands1 w0 w1 (.obj D (.deferred (some [])) :: L0) l (m_fold_facts_replace cs rs) _ _ _ _ ?_ T b o hT x B (((((((h1.front 1 rfl).front 5 rfl).front 4 rfl).front 4 rfl).front 4 rfl).front 6 rfl).front 6 rfl)) ?_
      · intro T' b' o' hT' v L w hL
        refine yield_mono (yield_bx (X' := T' [.int .i64 ((m_fold_facts_replace cs rs) v)] :: .map ekI evI cb cs :: .map ekI evI rb rs :: .box b1 135 #[.map (some cb), .map (some rb)] :: L) (hL.front 1 rfl) rfl rfl rfl (rep_round ha (by decide)) rfl rfl (by kernel_rfl) (by kernel_rfl) (yRun (Wd.rnd _) (fun c h => by cases h) (xAsP rfl) (yNil ⟨rfl, rfl⟩)) ?_) ?_
        · intro w2 h2
          refine yRun (Wd.rnd _) (fun c h => by cases h) (xLoadS [.map (some cb), .map (some rb)] Try.underlying135 rfl ti135 rfl rfl ((h2.bk 4 rfl).part rfl)) (yRun (Wd.rnd _) (fun c h => by cases h) (xMvP rfl) (yCall (Wd.rnd _) (fun c h => by cases h) (eCall cal126 rfl) (sp_m_fold_facts_replace w0 _ _ cb cs rb rs T' b' o' hT' v (((((h2.front 4 rfl).front 1 rfl).front 2 rfl).front 4 rfl).front 4 rfl)) ?_))
          rintro _ w3 ⟨rfl, h3⟩
          exact yNil (((((h3.front 4 rfl).front 2 rfl).front 2 rfl).front 3 rfl).front 4 rfl)
        · rintro _ w2 ⟨rfl, h2⟩
          exact ⟨rfl, h2.front 1 rfl⟩
      · rintro _ w2 ⟨rfl, h2⟩
        rw [hy0] at h2
        exact (((((((h2.front 1 rfl).front 5 rfl).front 2 rfl).front 5 rfl).front 5 rfl).front 6 rfl).front 6 rfl)
    · intro D w3 h3
      exact ⟨rfl, D, rfl, b1, B, ⟨rfl, rfl, trivial⟩, h3⟩
  · rintro D f w ⟨b1, B, hf, hL⟩
    obtain ⟨g, rfl⟩ := has_updL _ _ hf
    clear hf
    refine wBlock (wSeq (wReg (sRun (xMvP rfl) (sRun (xNilCk rfl) (sRun (xFld0 Try.underlying66 rfl rfl ti3 (by decide) rfl) (sRun (xLoad Try.underlying3 rfl rfl ((hL.sget 3 hT rfl) 0 _ rfl)) (sRun (xEqlD rfl rfl) (sRun (xAsB rfl) (sNil ?_)))))))))
    by_cases h1 : y0.Kind = (1 : Int)
    ·try rw [decide_eq_true h1]
     rw [if_pos h1] at hM
     refine wIfT rfl ?_
     replace hL := hL.drew
     refine wDraw (fun wS => Bx w0 wS (.obj D (.deferred (some [])) :: .map ekI evI cb cs :: .map ekI evI rb rs :: T (GOp.cells y0) :: .box b1 135 #[.map (some cb), .map (some rb)] :: .box B 138 #[.pointer (some ⟨b, o, none⟩)] :: L0)) [10] (by kernel_rfl) (hTake 0 rfl (by kernel_rfl) rfl (fun wS => (xFld0 Try.underlying135 rfl rfl ti79 (by decide) rfl)) (sl_of hL) (hTakeS 1 rfl (by kernel_rfl) (by kernel_rfl) rfl (fun wS hS => (xLoad Try.underlying79 rfl rfl ((hS.bk 4 rfl).cell (i := 0) rfl))) (sl_of hL) (hTake 2 rfl (by kernel_rfl) rfl (fun wS => (xMvP rfl)) (sl_of hL) (hTake 3 rfl (by kernel_rfl) rfl (fun wS => (xNilCk rfl)) (sl_of hL) (hTake 4 rfl (by kernel_rfl) rfl (fun wS => (xFld (k := 1) Try.underlying66 rfl rfl ti3 (by decide) rfl)) (sl_of hL) (hTakeS 5 rfl (by kernel_rfl) (by kernel_rfl) rfl (fun wS hS => (xLoad Try.underlying3 rfl rfl ((hS.sget 3 hT rfl) 1 _ rfl))) (sl_of hL) (hTake 6 rfl (by kernel_rfl) rfl (fun wS => (xMvP rfl)) (sl_of hL) (hTake 7 rfl (by kernel_rfl) rfl (fun wS => (xNilCk rfl)) (sl_of hL) (hTake 8 rfl (by kernel_rfl) rfl (fun wS => (xFld (k := 4) Try.underlying66 rfl rfl ti3 (by decide) rfl)) (sl_of hL) (hTakeS 9 rfl (by kernel_rfl) (by kernel_rfl) rfl (fun wS hS => (xLoad Try.underlying3 rfl rfl ((hS.sget 3 hT rfl) 4 _ rfl))) (sl_of hL) ?_))))))))))
     refine hOne 10 (by kernel_rfl) (oUpd (ek := ekI) (ev' := evI) (l := cs) (k := y0.Dst) (u := y0.N) rfl rfl Try.underlying79 (fk_int Try.underlying3) (hL.mp 1 rfl) rfl rfl rfl ?_)
     intro w2 hB2 hC2
     replace hL : Bx w0 w2 (.obj D (.deferred (some [])) :: .map ekI evI cb (mput cs y0.Dst y0.N) :: .map ekI evI rb rs :: T (GOp.cells y0) :: .box b1 135 #[.map (some cb), .map (some rb)] :: .box B 138 #[.pointer (some ⟨b, o, none⟩)] :: L0) := hL.upd 1 rfl hC2 hB2
     refine ⟨(sl_late 10 rfl), ?_⟩
     refine hDone (by kernel_rfl) ?_
     subst hM
     exact ((((((hL.front 3 rfl).front 3 rfl).front 3 rfl).front 3 rfl).front 5 rfl).front 5 rfl).tl.tl
    ·try rw [decide_eq_false h1]
     rw [if_neg h1] at hM
     refine wIfF rfl (wSeq (wReg (sRun (xMvP rfl) (sRun (xNilCk rfl) (sRun (xFld0 Try.underlying66 rfl rfl ti3 (by decide) rfl) (sRun (xLoad Try.underlying3 rfl rfl ((hL.sget 3 hT rfl) 0 _ rfl)) (sRun (xEqlD rfl rfl) (sRun (xAsB rfl) (sNil ?_)))))))))
     by_cases h3 : y0.Kind = (2 : Int)
     ·try rw [decide_eq_true h3]
      rw [if_pos h3] at hM
      refine wIfT rfl (wSeq ?_)
      replace hL := hL.drew
      refine wDraw (fun wS => Bx w0 wS (.obj D (.deferred (some [])) :: .map ekI evI cb cs :: .map ekI evI rb rs :: T (GOp.cells y0) :: .box b1 135 #[.map (some cb), .map (some rb)] :: .box B 138 #[.pointer (some ⟨b, o, none⟩)] :: L0)) [] (by kernel_rfl) (hTake 0 rfl (by kernel_rfl) rfl (fun wS => (xFld0 Try.underlying135 rfl rfl ti79 (by decide) rfl)) (sl_of hL) (hTakeS 1 rfl (by kernel_rfl) (by kernel_rfl) rfl (fun wS hS => (xLoad Try.underlying79 rfl rfl ((hS.bk 4 rfl).cell (i := 0) rfl))) (sl_of hL) (hTake 2 rfl (by kernel_rfl) rfl (fun wS => (xMvP rfl)) (sl_of hL) (hTake 3 rfl (by kernel_rfl) rfl (fun wS => (xNilCk rfl)) (sl_of hL) (hTake 4 rfl (by kernel_rfl) rfl (fun wS => (xFld (k := 2) Try.underlying66 rfl rfl ti3 (by decide) rfl)) (sl_of hL) (hTakeS 5 rfl (by kernel_rfl) (by kernel_rfl) rfl (fun wS hS => (xLoad Try.underlying3 rfl rfl ((hS.sget 3 hT rfl) 2 _ rfl))) (sl_of hL) (hTakeS 6 rfl (by kernel_rfl) (by kernel_rfl) rfl (fun wS hS => (xLook (ek := ekI) (ev := evI) (l := cs) (k := y0.A) (z := (0 : Int)) Try.underlying79 (fk_int Try.underlying3) (zv_of ti3) (hS.mp 1 rfl) rfl rfl)) (sl_of hL) (hTake 7 rfl (by kernel_rfl) rfl (fun wS => xMove) (sl_of hL) (hTake 8 rfl (by kernel_rfl) rfl (fun wS => (xExtract rfl rfl)) (sl_of hL) (hTake 9 rfl (by kernel_rfl) rfl (fun wS => (xExtract rfl rfl)) (sl_of hL) (hTake 10 rfl (by kernel_rfl) rfl (fun wS => (xAsI rfl)) (sl_of hL) (hTake 11 rfl (by kernel_rfl) rfl (fun wS => (xAsB rfl)) (sl_of hL) (hDone (by kernel_rfl) ?_)))))))))))))
      refine wSeq (wReg (sRun (xMvB rfl) (sNil ?_)))
      by_cases h4 : ((mget cs y0.A).isSome) = true
      ·try rw [h4]
       rw [if_pos h4] at hM
       refine wIfT rfl (wReg (sRun (xLoadS [.map (some cb), .map (some rb)] Try.underlying135 rfl ti135 rfl rfl ((hL.bk 4 rfl).part rfl)) (sRun (xMvP rfl) (sRun (xMvI rfl) ?_))))
       replace hL : Bx w0 _ (.map ekI evI cb cs :: .map ekI evI rb rs :: T (GOp.cells y0) :: .obj D (.deferred (some [])) :: .box b1 135 #[.map (some cb), .map (some rb)] :: .box B 138 #[.pointer (some ⟨b, o, none⟩)] :: L0) := (((hL.front 3 rfl).front 3 rfl).front 3 rfl)
       refine sCall (eCall cal127 rfl) (sp_m_fold_facts_become w0 _ (.obj D (.deferred (some [])) :: .box b1 135 #[.map (some cb), .map (some rb)] :: .box B 138 #[.pointer (some ⟨b, o, none⟩)] :: L0) cb cs rb rs T b o hT y0 ((mget cs y0.A).getD (0 : Int)) hL) ?_
       rintro _ w5 ⟨rfl, hL5⟩
       obtain ⟨y5, hy5⟩ : ∃ y, (m_fold_facts_become cs rs y0 ((mget cs y0.A).getD (0 : Int))) = y := ⟨_, rfl⟩
       rw [hy5] at hL5
       rw [hy5, lt_eq] at hM
       try dsimp only at hM
       replace hL : Bx w0 w5 (.map ekI evI cb y5.2 :: .map ekI evI rb rs :: T (GOp.cells y5.1) :: .obj D (.deferred (some [])) :: .box b1 135 #[.map (some cb), .map (some rb)] :: .box B 138 #[.pointer (some ⟨b, o, none⟩)] :: L0) := hL5
       refine sNil ?_
       subst hM
       exact ((((((hL.front 2 rfl).front 2 rfl).front 2 rfl).front 3 rfl).front 5 rfl).front 5 rfl).tl.tl
      ·have h4n : ((mget cs y0.A).isSome) = false := Bool.eq_false_iff.2 h4
       try rw [h4n]
       rw [if_neg h4] at hM
       refine wIfF rfl ?_
       replace hL := hL.drew
       refine wDraw (fun wS => Bx w0 wS (.obj D (.deferred (some [])) :: .map ekI evI cb cs :: .map ekI evI rb rs :: T (GOp.cells y0) :: .box b1 135 #[.map (some cb), .map (some rb)] :: .box B 138 #[.pointer (some ⟨b, o, none⟩)] :: L0)) [10] (by kernel_rfl) (hTake 0 rfl (by kernel_rfl) rfl (fun wS => (xFld (k := 1) Try.underlying135 rfl rfl ti79 (by decide) rfl)) (sl_of hL) (hTakeS 1 rfl (by kernel_rfl) (by kernel_rfl) rfl (fun wS hS => (xLoad Try.underlying79 rfl rfl ((hS.bk 4 rfl).cell (i := 1) rfl))) (sl_of hL) (hTake 2 rfl (by kernel_rfl) rfl (fun wS => (xMvP rfl)) (sl_of hL) (hTake 3 rfl (by kernel_rfl) rfl (fun wS => (xNilCk rfl)) (sl_of hL) (hTake 4 rfl (by kernel_rfl) rfl (fun wS => (xFld (k := 1) Try.underlying66 rfl rfl ti3 (by decide) rfl)) (sl_of hL) (hTakeS 5 rfl (by kernel_rfl) (by kernel_rfl) rfl (fun wS hS => (xLoad Try.underlying3 rfl rfl ((hS.sget 3 hT rfl) 1 _ rfl))) (sl_of hL) (hTake 6 rfl (by kernel_rfl) rfl (fun wS => (xMvP rfl)) (sl_of hL) (hTake 7 rfl (by kernel_rfl) rfl (fun wS => (xNilCk rfl)) (sl_of hL) (hTake 8 rfl (by kernel_rfl) rfl (fun wS => (xFld (k := 2) Try.underlying66 rfl rfl ti3 (by decide) rfl)) (sl_of hL) (hTakeS 9 rfl (by kernel_rfl) (by kernel_rfl) rfl (fun wS hS => (xLoad Try.underlying3 rfl rfl ((hS.sget 3 hT rfl) 2 _ rfl))) (sl_of hL) ?_))))))))))
       refine hOne 10 (by kernel_rfl) (oUpd (ek := ekI) (ev' := evI) (l := rs) (k := y0.Dst) (u := y0.A) rfl rfl Try.underlying79 (fk_int Try.underlying3) (hL.mp 2 rfl) rfl rfl rfl ?_)
       intro w6 hB6 hC6
       replace hL : Bx w0 w6 (.obj D (.deferred (some [])) :: .map ekI evI cb cs :: .map ekI evI rb (mput rs y0.Dst y0.A) :: T (GOp.cells y0) :: .box b1 135 #[.map (some cb), .map (some rb)] :: .box B 138 #[.pointer (some ⟨b, o, none⟩)] :: L0) := hL.upd 2 rfl hC6 hB6
       refine ⟨(sl_late 10 rfl), ?_⟩
       refine hDone (by kernel_rfl) ?_
       subst hM
       exact ((((((hL.front 3 rfl).front 3 rfl).front 3 rfl).front 3 rfl).front 5 rfl).front 5 rfl).tl.tl
     ·try rw [decide_eq_false h3]
      rw [if_neg h3] at hM
      refine wIfF rfl (wSeq (wReg (sRun (xMvP rfl) (sRun (xNilCk rfl) (sRun (xFld0 Try.underlying66 rfl rfl ti3 (by decide) rfl) (sRun (xLoad Try.underlying3 rfl rfl ((hL.sget 3 hT rfl) 0 _ rfl)) (sRun (xGeq rfl rfl) (sRun (xMvB rfl) ?_))))))))
      by_cases h7 : (3 : Int) ≤ y0.Kind
      ·try rw [decide_eq_true h7]
       rw [if_pos h7] at hM
       refine sGo rfl (sRun (xMvP rfl) (sGo rfl (sRun (xNilCk rfl) (sGo rfl (sRun (xFld0 Try.underlying66 rfl rfl ti3 (by decide) rfl) (sGo rfl (sRun (xLoad Try.underlying3 rfl rfl ((hL.sget 3 hT rfl) 0 _ rfl)) (sGo rfl (sRun (xLeq rfl rfl) (sRun (xPkTB rfl rfl) (sRun (xAsB rfl) (sNil ?_))))))))))))
       by_cases h8 : y0.Kind ≤ (14 : Int)
       ·try rw [decide_eq_true h8]
        rw [if_pos h8] at hM
        refine wIfT rfl (wReg (sRun (xLoadS [.map (some cb), .map (some rb)] Try.underlying135 rfl ti135 rfl rfl ((hL.bk 4 rfl).part rfl)) (sRun (xMvP rfl) ?_)))
        replace hL : Bx w0 _ (.map ekI evI cb cs :: .map ekI evI rb rs :: T (GOp.cells y0) :: .obj D (.deferred (some [])) :: .box b1 135 #[.map (some cb), .map (some rb)] :: .box B 138 #[.pointer (some ⟨b, o, none⟩)] :: L0) := (((hL.front 3 rfl).front 3 rfl).front 3 rfl)
        refine sCall (eCall cal128 rfl) (sp_m_fold_facts_combine w0 _ (.obj D (.deferred (some [])) :: .box b1 135 #[.map (some cb), .map (some rb)] :: .box B 138 #[.pointer (some ⟨b, o, none⟩)] :: L0) cb cs rb rs T b o hT y0 hL) ?_
        rintro _ w9 ⟨rfl, hL9⟩
        obtain ⟨y9, hy9⟩ : ∃ y, (m_fold_facts_combine cs rs y0) = y := ⟨_, rfl⟩
        rw [hy9] at hL9
        rw [hy9, lt_eq] at hM
        try dsimp only at hM
        replace hL : Bx w0 w9 (.map ekI evI cb y9.2.1 :: .map ekI evI rb y9.2.2 :: T (GOp.cells y9.1) :: .obj D (.deferred (some [])) :: .box b1 135 #[.map (some cb), .map (some rb)] :: .box B 138 #[.pointer (some ⟨b, o, none⟩)] :: L0) := hL9
        refine sNil ?_
        subst hM
        exact ((((((hL.front 2 rfl).front 2 rfl).front 2 rfl).front 3 rfl).front 5 rfl).front 5 rfl).tl.tl
       ·try rw [decide_eq_false h8]
        rw [if_neg h8] at hM
        refine wIfF rfl (wSeq (wReg (sRun (xMvP rfl) (sRun (xNilCk rfl) (sRun (xFld0 Try.underlying66 rfl rfl ti3 (by decide) rfl) (sRun (xLoad Try.underlying3 rfl rfl ((hL.sget 3 hT rfl) 0 _ rfl)) (sRun (xEqlD rfl rfl) (sRun (xMvB rfl) ?_))))))))
        by_cases h10 : y0.Kind = (21 : Int)
        ·try rw [decide_eq_true h10]
         rw [if_pos h10] at hM
         refine sGo rfl (sRun (xMvP rfl) (sGo rfl (sRun (xNilCk rfl) (sGo rfl (sRun (xFld (k := 8) Try.underlying66 rfl rfl ti64 (by decide) rfl) (sGo rfl (sRun (xFld0 Try.underlying64 rfl rfl ti3 (by decide) rfl) (sGo rfl (sRun (xLoad Try.underlying3 rfl rfl ((hL.sget 3 hT rfl) 8 _ rfl)) (sGo rfl (sRun (xEqlD rfl rfl) (sRun (xPkTB rfl rfl) (sRun (xAsB rfl) ?_)))))))))))))
         refine sNil ?_
         by_cases h11 : y0.Src.Kind = (2 : Int)
         ·try rw [decide_eq_true h11]
          rw [if_pos h11] at hM
          refine wIfT rfl (wSeq ?_)
          replace hL := hL.drew
          refine wDraw (fun wS => Bx w0 wS (.obj D (.deferred (some [])) :: .map ekI evI cb cs :: .map ekI evI rb rs :: T (GOp.cells y0) :: .box b1 135 #[.map (some cb), .map (some rb)] :: .box B 138 #[.pointer (some ⟨b, o, none⟩)] :: L0)) [5] (by kernel_rfl) (hTakeS 0 rfl (by kernel_rfl) (by kernel_rfl) rfl (fun wS hS => (xLoadS [.map (some cb), .map (some rb)] Try.underlying135 rfl ti135 rfl rfl ((hS.bk 4 rfl).part rfl))) (sl_of hL) (hTake 1 rfl (by kernel_rfl) rfl (fun wS => (xMvP rfl)) (sl_of hL) (hTake 2 rfl (by kernel_rfl) rfl (fun wS => (xNilCk rfl)) (sl_of hL) (hTake 3 rfl (by kernel_rfl) rfl (fun wS => (xFld (k := 8) Try.underlying66 rfl rfl ti64 (by decide) rfl)) (sl_of hL) (hTake 4 rfl (by kernel_rfl) rfl (fun wS => (xFld (k := 1) Try.underlying64 rfl rfl ti3 (by decide) rfl)) (sl_of hL) ?_)))))
          replace hL : Bx w0 _ (.map ekI evI cb cs :: .map ekI evI rb rs :: T (GOp.cells y0) :: .obj D (.deferred (some [])) :: .box b1 135 #[.map (some cb), .map (some rb)] :: .box B 138 #[.pointer (some ⟨b, o, none⟩)] :: L0) := (((hL.front 3 rfl).front 3 rfl).front 3 rfl)
          refine hOne 5 (by kernel_rfl) (oCall rfl rfl (eCall cal126 rfl) (sp_m_fold_facts_replace w0 _ (.obj D (.deferred (some [])) :: .box b1 135 #[.map (some cb), .map (some rb)] :: .box B 138 #[.pointer (some ⟨b, o, none⟩)] :: L0) cb cs rb rs (sub T (GOp.cells y0) 9 1) b (o + 9) (Slot.sub hT 9 1 (Nat.le_of_ble_eq_true rfl)) y0.Src.Val hL) ?_)
          rintro _ w12 ⟨rfl, hL12⟩
          obtain ⟨y12, hy12⟩ : ∃ y, (m_fold_facts_replace cs rs y0.Src.Val) = y := ⟨_, rfl⟩
          rw [hy12] at hL12
          rw [hy12, lt_eq] at hM
          try dsimp only at hM
          replace hL : Bx w0 w12 (.map ekI evI cb cs :: .map ekI evI rb rs :: T [.int .i64 y0.Kind, .int .i64 y0.Dst, .int .i64 y0.A, .int .i64 y0.B, .int .i64 y0.N, .int .i64 y0.Ctx, .int .i64 y0.Var, .int .i64 y0.Piece, .int .i64 y0.Src.Kind, .int .i64 y12, .int .i64 y0.Src.Add] :: .obj D (.deferred (some [])) :: .box b1 135 #[.map (some cb), .map (some rb)] :: .box B 138 #[.pointer (some ⟨b, o, none⟩)] :: L0) := hL12
          refine ⟨(sl_late 5 rfl), ?_⟩
          refine hDone (by kernel_rfl) (wSeq ?_)
          replace hL := hL.drew
          refine wDraw (fun wS => Bx w0 wS (.map ekI evI cb cs :: .map ekI evI rb rs :: T [.int .i64 y0.Kind, .int .i64 y0.Dst, .int .i64 y0.A, .int .i64 y0.B, .int .i64 y0.N, .int .i64 y0.Ctx, .int .i64 y0.Var, .int .i64 y0.Piece, .int .i64 y0.Src.Kind, .int .i64 y12, .int .i64 y0.Src.Add] :: .obj D (.deferred (some [])) :: .box b1 135 #[.map (some cb), .map (some rb)] :: .box B 138 #[.pointer (some ⟨b, o, none⟩)] :: L0)) [] (by kernel_rfl) (hTake 0 rfl (by kernel_rfl) rfl (fun wS => (xFld0 Try.underlying135 rfl rfl ti79 (by decide) rfl)) (sl_of hL) (hTakeS 1 rfl (by kernel_rfl) (by kernel_rfl) rfl (fun wS hS => (xLoad Try.underlying79 rfl rfl ((hS.bk 4 rfl).cell (i := 0) rfl))) (sl_of hL) (hTake 2 rfl (by kernel_rfl) rfl (fun wS => (xMvP rfl)) (sl_of hL) (hTake 3 rfl (by kernel_rfl) rfl (fun wS => (xNilCk rfl)) (sl_of hL) (hTake 4 rfl (by kernel_rfl) rfl (fun wS => (xFld (k := 8) Try.underlying66 rfl rfl ti64 (by decide) rfl)) (sl_of hL) (hTake 5 rfl (by kernel_rfl) rfl (fun wS => (xFld (k := 1) Try.underlying64 rfl rfl ti3 (by decide) rfl)) (sl_of hL) (hTakeS 6 rfl (by kernel_rfl) (by kernel_rfl) rfl (fun wS hS => (xLoad Try.underlying3 rfl rfl ((hS.sget 2 hT rfl) 9 _ rfl))) (sl_of hL) (hTakeS 7 rfl (by kernel_rfl) (by kernel_rfl) rfl (fun wS hS => (xLook (ek := ekI) (ev := evI) (l := cs) (k := y12) (z := (0 : Int)) Try.underlying79 (fk_int Try.underlying3) (zv_of ti3) (hS.mp 0 rfl) rfl rfl)) (sl_of hL) (hTake 8 rfl (by kernel_rfl) rfl (fun wS => xMove) (sl_of hL) (hTake 9 rfl (by kernel_rfl) rfl (fun wS => (xExtract rfl rfl)) (sl_of hL) (hTake 10 rfl (by kernel_rfl) rfl (fun wS => (xExtract rfl rfl)) (sl_of hL) (hTake 11 rfl (by kernel_rfl) rfl (fun wS => (xAsI rfl)) (sl_of hL) (hTake 12 rfl (by kernel_rfl) rfl (fun wS => (xAsB rfl)) (sl_of hL) ?_)))))))))))))
          refine hDone (by kernel_rfl) (wSeq (wReg (sRun (xMvB rfl) (sNil ?_))))
          by_cases h13 : ((mget cs y12).isSome) = true
          ·try rw [h13]
           rw [if_pos h13] at hM
           refine wIfT rfl (wReg (sRun (xMvP rfl) (sRun (xMvI rfl) (sRun (xMvP rfl) (sRun (xNilCk rfl) (sRun (xFld (k := 8) Try.underlying66 rfl rfl ti64 (by decide) rfl) (sRun (xFld (k := 2) Try.underlying64 rfl rfl ti3 (by decide) rfl) (sRun (xLoad Try.underlying3 rfl rfl ((hL.sget 2 hT rfl) 10 _ rfl)) (sRun (xAddW rfl rfl) (sRun (bd76_118 rfl rfl) (sRun (xNilCk rfl) (sRun (xFld (k := 8) Try.underlying66 rfl rfl ti64 (by decide) rfl) (sSlS 2 (T := T) (b := b) (o := o) (k := 8) (cs := [.int .i64 y0.Kind, .int .i64 y0.Dst, .int .i64 y0.A, .int .i64 y0.B, .int .i64 y0.N, .int .i64 y0.Ctx, .int .i64 y0.Var, .int .i64 y0.Piece, .int .i64 y0.Src.Kind, .int .i64 y12, .int .i64 y0.Src.Add]) hT ti64 rfl rfl rfl rfl (by simp [Value.oneCell', Dat.cells, GSrc.cells]) hL rfl rfl ?_)))))))))))))
           intro w14 hL14
           replace hL : Bx w0 w14 (.map ekI evI cb cs :: .map ekI evI rb rs :: T [.int .i64 y0.Kind, .int .i64 y0.Dst, .int .i64 y0.A, .int .i64 y0.B, .int .i64 y0.N, .int .i64 y0.Ctx, .int .i64 y0.Var, .int .i64 y0.Piece, .int .i64 (1 : Int), .int .i64 (0 : Int), .int .i64 (wr (((mget cs y12).getD (0 : Int)) + y0.Src.Add))] :: .obj D (.deferred (some [])) :: .box b1 135 #[.map (some cb), .map (some rb)] :: .box B 138 #[.pointer (some ⟨b, o, none⟩)] :: L0) := hL14
           refine sNil ?_
           subst hM
           exact ((((((hL.front 2 rfl).front 2 rfl).front 2 rfl).front 3 rfl).front 5 rfl).front 5 rfl).tl.tl
          ·have h13n : ((mget cs y12).isSome) = false := Bool.eq_false_iff.2 h13
           try rw [h13n]
           rw [if_neg h13] at hM
           refine wIfF rfl (wSkip ?_)
           subst hM
           exact ((((((hL.front 2 rfl).front 2 rfl).front 2 rfl).front 3 rfl).front 5 rfl).front 5 rfl).tl.tl
         ·try rw [decide_eq_false h11]
          rw [if_neg h11] at hM
          refine wIfF rfl (wSkip ?_)
          subst hM
          exact ((((((hL.front 3 rfl).front 3 rfl).front 3 rfl).front 3 rfl).front 5 rfl).front 5 rfl).tl.tl
        ·try rw [decide_eq_false h10]
         rw [if_neg h10] at hM
         refine sNo rfl (sNo rfl (sNo rfl (sNo rfl (sNo rfl (sNo rfl (sRun (xPkFB rfl rfl) (sRun (xAsB rfl) (sNil (wIfF rfl (wSkip ?_))))))))))
         subst hM
         exact ((((((hL.front 3 rfl).front 3 rfl).front 3 rfl).front 3 rfl).front 5 rfl).front 5 rfl).tl.tl
      ·try rw [decide_eq_false h7]
       rw [if_neg h7] at hM
       refine sNo rfl (sNo rfl (sNo rfl (sNo rfl (sNo rfl (sRun (xPkFB rfl rfl) (sRun (xAsB rfl) (sNil (wIfF rfl (wSeq (wReg (sRun (xMvP rfl) (sRun (xNilCk rfl) (sRun (xFld0 Try.underlying66 rfl rfl ti3 (by decide) rfl) ?_)))))))))))))
       refine sRun (xLoad Try.underlying3 rfl rfl ((hL.sget 3 hT rfl) 0 _ rfl)) (sRun (xEqlF rfl rfl (by omega)) (sRun (xMvB rfl) (sNo rfl (sNo rfl (sNo rfl (sNo rfl (sNo rfl (sNo rfl (sRun (xPkFB rfl rfl) (sRun (xAsB rfl) (sNil (wIfF rfl (wSkip ?_)))))))))))))
       subst hM
       exact ((((((hL.front 3 rfl).front 3 rfl).front 3 rfl).front 3 rfl).front 5 rfl).front 5 rfl).tl.tl

end Go.Proofs.Ytbpccmnalhdpmaa
