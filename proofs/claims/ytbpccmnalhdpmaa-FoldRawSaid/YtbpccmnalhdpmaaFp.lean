/- Contracts, printed by gen4.py. -/
import Derived.Test.YtbpccmnalhdpmaaFa
import Derived.Test.YtbpccmnalhdpmaaFj
set_option linter.unusedVariables false
set_option linter.unusedSimpArgs false
set_option maxRecDepth 4000
namespace Go.Proofs.Ytbpccmnalhdpmaa
open Go.RowKit Go.Fw
theorem sp_uses (w0 w : World) (L0 : List It) (p : Option Addr) (hL : Bx w0 w L0) : Calls Try.prog 130 #[.pointer p] w (Ret fun v w' => ∃ B, v = .func (.func 163) #[] #[.pointer (some ⟨B, 0, none⟩)] ∧ Bx w0 w' (.box B 140 #[.pointer p] :: L0)) := by
  refine calls_of Try.func130 rfl (Nat.le_of_ble_eq_true rfl) (by kernel_rfl) ?_
  refine wCut [(0, .pointer p)] ⟨rfl, trivial⟩ fun g => ?_
  refine wSeq (wReg (sTo (aNew (mBox rfl)) ?_))
  rintro _ w1 ⟨B, rfl, hge, hB, he⟩
  replace hL := hL.new hge hB he
  refine sRun xAsg (sNil (wSeq (wReg (sRun xMkFunc (sRun (xAsF rfl) (sNil (wRet ?_)))))))
  refine res1 (P := Try.prog) (fn := Try.f130) rfl ?_
  exact ⟨B, rfl, hL⟩
def useA (φ : Int → Int) (k a : Int) : Int := if ((decide (k = (2 : Int))) || ((decide (k = (4 : Int))) || (decide (k = (5 : Int))))) = true then φ a else a
theorem uses1_eq (φ : Int → Int) (k a : Int) (l0 l1 l2 : List Int) : m_fold_uses1 φ k a l0 l1 l2 = (useA φ k a, l0.map φ, l1.map φ, l2.map φ) := by
  unfold m_fold_uses1 useA
  split <;> rfl
def m_fold_term (cs rs : List (Int × Int)) (k a n e1 e2 : Int) (l0 l1 l2 : List Int) : GTerm List :=
 lt (useA (m_fold_facts_replace cs rs) k a) fun a1 =>
  if k ≠ (2 : Int) then
   (⟨k, a1, n, (l0.map (m_fold_facts_replace cs rs)), ⟨⟨e1, (l1.map (m_fold_facts_replace cs rs))⟩, ⟨e2, (l2.map (m_fold_facts_replace cs rs))⟩⟩⟩ : GTerm List)
  else
   if ((mget cs a1).isSome) = true then
    if ((mget cs a1).getD (0 : Int)) = (0 : Int) then
     (⟨(1 : Int), (0 : Int), (0 : Int), [], ⟨⟨e2, (l2.map (m_fold_facts_replace cs rs))⟩, ⟨(-1 : Int), []⟩⟩⟩ : GTerm List)
    else
     (⟨(1 : Int), (0 : Int), (0 : Int), [], ⟨⟨e1, (l1.map (m_fold_facts_replace cs rs))⟩, ⟨(-1 : Int), []⟩⟩⟩ : GTerm List)
   else
    (⟨k, a1, n, (l0.map (m_fold_facts_replace cs rs)), ⟨⟨e1, (l1.map (m_fold_facts_replace cs rs))⟩, ⟨e2, (l2.map (m_fold_facts_replace cs rs))⟩⟩⟩ : GTerm List)
theorem bd78_44 {ρ : Operand → Value} {w : World} {d : Option Nat} {ty : TypeId} {pos : String} {af : Array Edge} {g : Option (Nat × Bool)} {x0 : Int} {o0 : Operand} (h0 : ρ o0 = .int .i64 x0) : Yl Try.prog ρ (.build 55 #[(0, o0)]) d ty pos af g w (.agg #[.int .i64 x0, .slice none 0 0]) := by
  have e : (Instr.build 55 #[(0, .int .i64 x0)]).run Try.prog w = .ok (.agg #[.int .i64 x0, .slice none 0 0]) w := by kernel_rfl
  simp [Yl, execOp, h0, e]
theorem bd78_45 {ρ : Operand → Value} {w : World} {d : Option Nat} {ty : TypeId} {pos : String} {af : Array Edge} {g : Option (Nat × Bool)} {x00_ : Int} {x01_A : Option Addr} {x01_n x01_c : Nat} {x10_ : Int} {x11_A : Option Addr} {x11_n x11_c : Nat} {o0 : Operand} {o1 : Operand} (h0 : ρ o0 = .agg #[.int .i64 x00_, .slice x01_A x01_n x01_c]) (h1 : ρ o1 = .agg #[.int .i64 x10_, .slice x11_A x11_n x11_c]) : Yl Try.prog ρ (.build 56 #[(0, o0), (1, o1)]) d ty pos af g w (.agg #[.int .i64 x00_, .slice x01_A x01_n x01_c, .int .i64 x10_, .slice x11_A x11_n x11_c]) := by
  have e : (Instr.build 56 #[(0, .agg #[.int .i64 x00_, .slice x01_A x01_n x01_c]), (1, .agg #[.int .i64 x10_, .slice x11_A x11_n x11_c])]).run Try.prog w = .ok (.agg #[.int .i64 x00_, .slice x01_A x01_n x01_c, .int .i64 x10_, .slice x11_A x11_n x11_c]) w := by kernel_rfl
  simp [Yl, execOp, h0, h1, e]
theorem bd78_46 {ρ : Operand → Value} {w : World} {d : Option Nat} {ty : TypeId} {pos : String} {af : Array Edge} {g : Option (Nat × Bool)} {x0 : Int} {x40_0_ : Int} {x40_1_A : Option Addr} {x40_1_n x40_1_c : Nat} {x41_0_ : Int} {x41_1_A : Option Addr} {x41_1_n x41_1_c : Nat} {o0 : Operand} {o4 : Operand} (h0 : ρ o0 = .int .i64 x0) (h4 : ρ o4 = .agg #[.int .i64 x40_0_, .slice x40_1_A x40_1_n x40_1_c, .int .i64 x41_0_, .slice x41_1_A x41_1_n x41_1_c]) : Yl Try.prog ρ (.build 58 #[(0, o0), (4, o4)]) d ty pos af g w (.agg #[.int .i64 x0, .int .i64 0, .int .i64 0, .slice none 0 0, .int .i64 x40_0_, .slice x40_1_A x40_1_n x40_1_c, .int .i64 x41_0_, .slice x41_1_A x41_1_n x41_1_c]) := by
  have e : (Instr.build 58 #[(0, .int .i64 x0), (4, .agg #[.int .i64 x40_0_, .slice x40_1_A x40_1_n x40_1_c, .int .i64 x41_0_, .slice x41_1_A x41_1_n x41_1_c])]).run Try.prog w = .ok (.agg #[.int .i64 x0, .int .i64 0, .int .i64 0, .slice none 0 0, .int .i64 x40_0_, .slice x40_1_A x40_1_n x40_1_c, .int .i64 x41_0_, .slice x41_1_A x41_1_n x41_1_c]) w := by kernel_rfl
  simp [Yl, execOp, h0, h4, e]
set_option maxHeartbeats 12800000 in
theorem sp_m_fold_term (w0 w : World) (L0 : List It) (cb : Nat) (cs : List (Int × Int)) (rb : Nat) (rs : List (Int × Int)) (T : List Value → It) (b o : Nat) (hT : Slot T b o) (k a n e1 e2 : Int) (A0 A1 A2 : Option Addr) (c0 c1 c2 : Nat) (l0 l1 l2 : List Int) (hb0 : l0.length * 8 ≤ 140737488355328) (hb1 : l1.length * 8 ≤ 140737488355328) (hb2 : l2.length * 8 ≤ 140737488355328) (hL : Bx w0 w (.map ekI evI cb cs :: .map ekI evI rb rs :: T [.int .i64 k, .int .i64 a, .int .i64 n, .slice A0 l0.length c0, .int .i64 e1, .slice A1 l1.length c1, .int .i64 e2, .slice A2 l2.length c2] :: .ints A0 c0 3 l0.length l0 :: .ints A1 c1 3 l1.length l1 :: .ints A2 c2 3 l2.length l2 :: L0)) : Calls Try.prog 78 #[.agg #[.map (some cb), .map (some rb)], .pointer (some ⟨b, o, none⟩)] w (Ret fun v w => v = .tuple #[] ∧ ∃ X0, (∃ (F : Nat → Prop) (r : GTerm Lst), GTerm.er r = (m_fold_term cs rs k a n e1 e2 l0 l1 l2) ∧ X0 = (.datF F r :: .map ekI evI cb cs :: .map ekI evI rb rs :: T (GTerm.cells r) :: L0)) ∧ Bx w0 w X0) := by
  obtain ⟨X, hM⟩ : ∃ X, (m_fold_term cs rs k a n e1 e2 l0 l1 l2) = X := ⟨_, rfl⟩
  rw [hM]
  unfold m_fold_term at hM
  obtain ⟨a1, ha1⟩ : ∃ y, useA (m_fold_facts_replace cs rs) k a = y := ⟨_, rfl⟩
  rw [ha1, lt_eq] at hM
  try dsimp only at hM
  refine calls_rfG (G := fun X0 => ∃ (F : Nat → Prop) (r : GTerm Lst), GTerm.er r = X ∧ X0 = (.datF F r :: .map ekI evI cb cs :: .map ekI evI rb rs :: T (GTerm.cells r) :: L0)) Try.func78 rfl rfl (Nat.le_of_ble_eq_true rfl) (by kernel_rfl) (KB := fun f w => ∃ b1 B, Has f [(1, .pointer (some ⟨b, o, none⟩)), (2, .pointer (some ⟨b1, 0, none⟩)), (9, .func (.func 163) #[] #[.pointer (some ⟨B, 0, none⟩)])] ∧ Bx w0 w (.map ekI evI cb cs :: .map ekI evI rb rs :: T [.int .i64 k, .int .i64 a, .int .i64 n, .slice A0 l0.length c0, .int .i64 e1, .slice A1 l1.length c1, .int .i64 e2, .slice A2 l2.length c2] :: .ints A0 c0 3 l0.length l0 :: .ints A1 c1 3 l1.length l1 :: .ints A2 c2 3 l2.length l2 :: .box b1 135 #[.map (some cb), .map (some rb)] :: .box B 140 #[.pointer (some ⟨b, o, none⟩)] :: L0)) (KR := fun D f w => ∃ b1 B, Has f [(1, .pointer (some ⟨b, o, none⟩)), (2, .pointer (some ⟨b1, 0, none⟩))] ∧ Bx w0 w (.obj D (.deferred (some [])) :: .map ekI evI cb cs :: .map ekI evI rb rs :: T [.int .i64 k, .int .i64 a1, .int .i64 n, .slice A0 l0.length c0, .int .i64 e1, .slice A1 l1.length c1, .int .i64 e2, .slice A2 l2.length c2] :: .ints A0 c0 3 l0.length (l0.map (m_fold_facts_replace cs rs)) :: .ints A1 c1 3 l1.length (l1.map (m_fold_facts_replace cs rs)) :: .ints A2 c2 3 l2.length (l2.map (m_fold_facts_replace cs rs)) :: .box b1 135 #[.map (some cb), .map (some rb)] :: .box B 140 #[.pointer (some ⟨b, o, none⟩)] :: L0)) ?_ ?_ ?_
  · refine wCut [(0, .agg #[.map (some cb), .map (some rb)]), (1, .pointer (some ⟨b, o, none⟩))] ⟨rfl, rfl, trivial⟩ fun g => ?_
    refine wReg (sTo (aNew (mBox rfl)) ?_)
    rintro _ w1 ⟨b1, rfl, hge, hB, he⟩
    replace hL := hL.new hge hB he
    refine sNil (wReg (sRun (xMvP rfl) (sCall (eCall cal130 rfl) (sp_uses w0 _ _ _ hL) ?_)))
    rintro _ w2 ⟨B, rfl, hL2⟩
    refine sNil ⟨b1, B, ⟨rfl, rfl, rfl, trivial⟩, ?_⟩
    exact ((((((((hL2.front 0 rfl).front 1 rfl).front 7 rfl).front 7 rfl).front 7 rfl).front 7 rfl).front 7 rfl).front 7 rfl)
  · rintro f w ac ⟨b1, B, hf, hL⟩ ha
    obtain ⟨g, rfl⟩ := has_updL _ _ hf
    clear hf
    refine wp_block (rf_bx (lb := [.pointer (some ⟨B, 0, none⟩)]) (X' := .map ekI evI cb cs :: .map ekI evI rb rs :: T [.int .i64 k, .int .i64 a1, .int .i64 n, .slice A0 l0.length c0, .int .i64 e1, .slice A1 l1.length c1, .int .i64 e2, .slice A2 l2.length c2] :: .ints A0 c0 3 l0.length (l0.map (m_fold_facts_replace cs rs)) :: .ints A1 c1 3 l1.length (l1.map (m_fold_facts_replace cs rs)) :: .ints A2 c2 3 l2.length (l2.map (m_fold_facts_replace cs rs)) :: .box b1 135 #[.map (some cb), .map (some rb)] :: .box B 140 #[.pointer (some ⟨b, o, none⟩)] :: L0) ha rfl cal163 hL ?_ ?_)
    · intro l D fn w1 h1
      refine calls_mono (sp_uses1 w0 w1 (.obj D (.deferred (some [])) :: L0) l (m_fold_facts_replace cs rs) _ _ _ _ ?_ T b o hT k a n e1 e2 A0 A1 A2 c0 c1 c2 l0 l1 l2 B ((((((((((h1.front 1 rfl).front 8 rfl).front 4 rfl).front 4 rfl).front 4 rfl).front 9 rfl).front 9 rfl).front 9 rfl).front 9 rfl).front 9 rfl)) ?_
      · intro T' b' o' hT' v L w hL
        refine yield_mono (yield_bx (X' := T' [.int .i64 ((m_fold_facts_replace cs rs) v)] :: .map ekI evI cb cs :: .map ekI evI rb rs :: .box b1 135 #[.map (some cb), .map (some rb)] :: L) (hL.front 1 rfl) rfl rfl rfl (rep_round ha (by decide)) rfl rfl (by kernel_rfl) (by kernel_rfl) (yRun (Wd.rnd _) (fun c h => by cases h) (xAsP rfl) (yNil ⟨rfl, rfl⟩)) ?_) ?_
        · intro w2 h2
          refine yRun (Wd.rnd _) (fun c h => by cases h) (xLoadS [.map (some cb), .map (some rb)] Try.underlying135 rfl ti135 rfl rfl ((h2.bk 4 rfl).part rfl)) (yRun (Wd.rnd _) (fun c h => by cases h) (xMvP rfl) (yCall (Wd.rnd _) (fun c h => by cases h) (eCall cal126 rfl) (sp_m_fold_facts_replace w0 _ _ cb cs rb rs T' b' o' hT' v (((((h2.front 4 rfl).front 1 rfl).front 2 rfl).front 4 rfl).front 4 rfl)) ?_))
          rintro _ w3 ⟨rfl, h3⟩
          exact yNil (((((h3.front 4 rfl).front 2 rfl).front 2 rfl).front 3 rfl).front 4 rfl)
        · rintro _ w2 ⟨rfl, h2⟩
          exact ⟨rfl, h2.front 1 rfl⟩
      · rintro _ w2 ⟨rfl, h2⟩
        rw [uses1_eq, ha1] at h2
        exact ((((((((((h2.front 4 rfl).front 8 rfl).front 5 rfl).front 5 rfl).front 5 rfl).front 5 rfl).front 8 rfl).front 8 rfl).front 9 rfl).front 9 rfl)
    · intro D w3 h3
      exact ⟨rfl, D, rfl, b1, B, ⟨rfl, rfl, trivial⟩, h3⟩
  · rintro D f w ⟨b1, B, hf, hL⟩
    obtain ⟨g, rfl⟩ := has_updL _ _ hf
    clear hf
    refine wSeq (wSeq (wReg (sRun (xMvP rfl) (sRun (xNilCk rfl) (sRun (xFld0 Try.underlying58 rfl rfl ti3 (by decide) rfl) (sRun (xLoad Try.underlying3 rfl rfl ((hL.sget 3 hT rfl) 0 _ rfl)) (sRun (xNeqD rfl rfl) (sNil ?_))))))))
    by_cases h1 : k ≠ (2 : Int)
    ·try rw [decide_eq_true h1]
     rw [if_pos h1] at hM
     refine wIfT rfl (wRet ?_)
     subst hM
     have h1 := ((((((((((hL.front 3 rfl).front 3 rfl).front 3 rfl).front 3 rfl).front 6 rfl).front 6 rfl).front 6 rfl).front 8 rfl).front 8 rfl)).tl.tl
     have h2 := h1.two.two.weak (it' := .datF (It.two (It.two (.ints A0 c0 3 l0.length (l0.map (m_fold_facts_replace cs rs))) (.ints A1 c1 3 l1.length (l1.map (m_fold_facts_replace cs rs)))) (.ints A2 c2 3 l2.length (l2.map (m_fold_facts_replace cs rs)))).F (⟨k, a1, n, ⟨A0, c0, (l0.map (m_fold_facts_replace cs rs))⟩, ⟨⟨e1, ⟨A1, c1, (l1.map (m_fold_facts_replace cs rs))⟩⟩, ⟨e2, ⟨A2, c2, (l2.map (m_fold_facts_replace cs rs))⟩⟩⟩⟩ : GTerm Lst)) (fun b hb => hb) (fun hp => ⟨fun b hb => It.bd _ _ hp b hb, ints_ok (e := 3) hp.1.1 (by rw [List.length_map]) (fun b hb => .inl (.inl hb)) hb0, ints_ok (e := 3) hp.1.2 (by rw [List.length_map]) (fun b hb => .inl (.inr hb)) hb1, ints_ok (e := 3) hp.2 (by rw [List.length_map]) (fun b hb => .inr hb) hb2⟩)
     refine ⟨_, ⟨(It.two (It.two (.ints A0 c0 3 l0.length (l0.map (m_fold_facts_replace cs rs))) (.ints A1 c1 3 l1.length (l1.map (m_fold_facts_replace cs rs)))) (.ints A2 c2 3 l2.length (l2.map (m_fold_facts_replace cs rs)))).F, (⟨k, a1, n, ⟨A0, c0, (l0.map (m_fold_facts_replace cs rs))⟩, ⟨⟨e1, ⟨A1, c1, (l1.map (m_fold_facts_replace cs rs))⟩⟩, ⟨e2, ⟨A2, c2, (l2.map (m_fold_facts_replace cs rs))⟩⟩⟩⟩ : GTerm Lst), rfl, rfl⟩, ?_⟩
     rw [show GTerm.cells (⟨k, a1, n, ⟨A0, c0, (l0.map (m_fold_facts_replace cs rs))⟩, ⟨⟨e1, ⟨A1, c1, (l1.map (m_fold_facts_replace cs rs))⟩⟩, ⟨e2, ⟨A2, c2, (l2.map (m_fold_facts_replace cs rs))⟩⟩⟩⟩ : GTerm Lst) = [.int .i64 k, .int .i64 a1, .int .i64 n, .slice A0 l0.length c0, .int .i64 e1, .slice A1 l1.length c1, .int .i64 e2, .slice A2 l2.length c2] from by simp only [GTerm.cells, List.length_map, List.length_nil]]
     exact h2.front 1 rfl
    ·try rw [decide_eq_false h1]
     rw [if_neg h1] at hM
     refine wIfF rfl (wSkip (wSeq ?_))
     replace hL := hL.drew
     refine wDraw (fun wS => Bx w0 wS (.obj D (.deferred (some [])) :: .map ekI evI cb cs :: .map ekI evI rb rs :: T [.int .i64 k, .int .i64 a1, .int .i64 n, .slice A0 l0.length c0, .int .i64 e1, .slice A1 l1.length c1, .int .i64 e2, .slice A2 l2.length c2] :: .ints A0 c0 3 l0.length (l0.map (m_fold_facts_replace cs rs)) :: .ints A1 c1 3 l1.length (l1.map (m_fold_facts_replace cs rs)) :: .ints A2 c2 3 l2.length (l2.map (m_fold_facts_replace cs rs)) :: .box b1 135 #[.map (some cb), .map (some rb)] :: .box B 140 #[.pointer (some ⟨b, o, none⟩)] :: L0)) [] (by kernel_rfl) (hTake 0 rfl (by kernel_rfl) rfl (fun wS => (xFld0 Try.underlying135 rfl rfl ti79 (by decide) rfl)) (sl_of hL) (hTakeS 1 rfl (by kernel_rfl) (by kernel_rfl) rfl (fun wS hS => (xLoad Try.underlying79 rfl rfl ((hS.bk 7 rfl).cell (i := 0) rfl))) (sl_of hL) (hTake 2 rfl (by kernel_rfl) rfl (fun wS => (xMvP rfl)) (sl_of hL) (hTake 3 rfl (by kernel_rfl) rfl (fun wS => (xNilCk rfl)) (sl_of hL) (hTake 4 rfl (by kernel_rfl) rfl (fun wS => (xFld (k := 1) Try.underlying58 rfl rfl ti3 (by decide) rfl)) (sl_of hL) (hTakeS 5 rfl (by kernel_rfl) (by kernel_rfl) rfl (fun wS hS => (xLoad Try.underlying3 rfl rfl ((hS.sget 3 hT rfl) 1 _ rfl))) (sl_of hL) (hTakeS 6 rfl (by kernel_rfl) (by kernel_rfl) rfl (fun wS hS => (xLook (ek := ekI) (ev := evI) (l := cs) (k := a1) (z := (0 : Int)) Try.underlying79 (fk_int Try.underlying3) (zv_of ti3) (hS.mp 1 rfl) rfl rfl)) (sl_of hL) (hTake 7 rfl (by kernel_rfl) rfl (fun wS => xMove) (sl_of hL) (hTake 8 rfl (by kernel_rfl) rfl (fun wS => (xExtract rfl rfl)) (sl_of hL) (hTake 9 rfl (by kernel_rfl) rfl (fun wS => (xExtract rfl rfl)) (sl_of hL) (hTake 10 rfl (by kernel_rfl) rfl (fun wS => (xAsI rfl)) (sl_of hL) (hTake 11 rfl (by kernel_rfl) rfl (fun wS => (xAsB rfl)) (sl_of hL) (hDone (by kernel_rfl) ?_)))))))))))))
     refine wSeq (wReg (sRun (xMvB rfl) (sNil ?_)))
     by_cases h2 : ((mget cs a1).isSome) = true
     ·try rw [h2]
      rw [if_pos h2] at hM
      refine wIfT rfl (wSeq (wReg (sRun (xMvP rfl) (sRun (xNilCk rfl) (sRun (xFld (k := 4) Try.underlying58 rfl rfl ti56 (by decide) rfl) (sRun (xIdxA 0 Try.underlying56 ti55 rfl rfl (by omega) (by omega)) (sRun (xLoadS [.int .i64 e1, .slice A1 l1.length c1] Try.underlying55 rfl ti55 rfl rfl ((hL.sget 3 hT rfl).part (o2 := 4) rfl)) (sTo (aNew (mAlloc ti55)) ?_))))))))
      rintro _ w3 ⟨b3, rfl, hge3, hB3, he3⟩
      replace hL := hL.new hge3 hB3 he3
      refine sStS ti55 rfl rfl rfl (by simp [Value.oneCell', Dat.cells, GEdge.cells]) (hL.bk 0 rfl) rfl ?_
      intro w4 hB4 hC4
      replace hL : Bx w0 w4 (.box b3 55 #[.int .i64 e1, .slice A1 l1.length c1] :: .obj D (.deferred (some [])) :: .map ekI evI cb cs :: .map ekI evI rb rs :: T [.int .i64 k, .int .i64 a1, .int .i64 n, .slice A0 l0.length c0, .int .i64 e1, .slice A1 l1.length c1, .int .i64 e2, .slice A2 l2.length c2] :: .ints A0 c0 3 l0.length (l0.map (m_fold_facts_replace cs rs)) :: .ints A1 c1 3 l1.length (l1.map (m_fold_facts_replace cs rs)) :: .ints A2 c2 3 l2.length (l2.map (m_fold_facts_replace cs rs)) :: .box b1 135 #[.map (some cb), .map (some rb)] :: .box B 140 #[.pointer (some ⟨b, o, none⟩)] :: L0) := hL.wr 0 rfl hC4 hB4
      refine sNil (wSeq (wSeq (wReg (sRun (xMvI rfl) (sRun (xEqlD rfl rfl) (sNil ?_))))))
      by_cases h5 : ((mget cs a1).getD (0 : Int)) = (0 : Int)
      ·try rw [decide_eq_true h5]
       rw [if_pos h5] at hM
       refine wIfT rfl (wReg (sRun (xMvP rfl) (sRun (xNilCk rfl) (sRun (xFld (k := 4) Try.underlying58 rfl rfl ti56 (by decide) rfl) (sRun (xIdxA 1 Try.underlying56 ti55 rfl rfl (by omega) (by omega)) (sRun (xLoadS [.int .i64 e2, .slice A2 l2.length c2] Try.underlying55 rfl ti55 rfl rfl ((hL.sget 4 hT rfl).part (o2 := 6) rfl)) (sStS ti55 rfl rfl rfl (by simp [Value.oneCell', Dat.cells, GEdge.cells]) (hL.bk 0 rfl) rfl ?_)))))))
       intro w6 hB6 hC6
       replace hL : Bx w0 w6 (.box b3 55 #[.int .i64 e2, .slice A2 l2.length c2] :: .obj D (.deferred (some [])) :: .map ekI evI cb cs :: .map ekI evI rb rs :: T [.int .i64 k, .int .i64 a1, .int .i64 n, .slice A0 l0.length c0, .int .i64 e1, .slice A1 l1.length c1, .int .i64 e2, .slice A2 l2.length c2] :: .ints A0 c0 3 l0.length (l0.map (m_fold_facts_replace cs rs)) :: .ints A1 c1 3 l1.length (l1.map (m_fold_facts_replace cs rs)) :: .ints A2 c2 3 l2.length (l2.map (m_fold_facts_replace cs rs)) :: .box b1 135 #[.map (some cb), .map (some rb)] :: .box B 140 #[.pointer (some ⟨b, o, none⟩)] :: L0) := hL.wr 0 rfl hC6 hB6
       refine sNil (wReg (sRun (xMvP rfl) (sRun (xLoadS [.int .i64 e2, .slice A2 l2.length c2] Try.underlying55 rfl ti55 rfl rfl ((hL.bk 0 rfl).part rfl)) (sRun (bd78_44 rfl) (sRun (bd78_45 rfl rfl) (sRun (bd78_46 rfl rfl) (sRun (xNilCk rfl) (sSlS 4 (T := T) (b := b) (o := o) (k := 0) (cs := [.int .i64 k, .int .i64 a1, .int .i64 n, .slice A0 l0.length c0, .int .i64 e1, .slice A1 l1.length c1, .int .i64 e2, .slice A2 l2.length c2]) hT ti58 rfl rfl rfl rfl (by simp [Value.oneCell', Dat.cells, GTerm.cells]) hL rfl rfl ?_))))))))
       intro w7 hL7
       replace hL : Bx w0 w7 (.box b3 55 #[.int .i64 e2, .slice A2 l2.length c2] :: .obj D (.deferred (some [])) :: .map ekI evI cb cs :: .map ekI evI rb rs :: T [.int .i64 (1 : Int), .int .i64 (0 : Int), .int .i64 (0 : Int), .slice none 0 0, .int .i64 e2, .slice A2 l2.length c2, .int .i64 (-1 : Int), .slice none 0 0] :: .ints A0 c0 3 l0.length (l0.map (m_fold_facts_replace cs rs)) :: .ints A1 c1 3 l1.length (l1.map (m_fold_facts_replace cs rs)) :: .ints A2 c2 3 l2.length (l2.map (m_fold_facts_replace cs rs)) :: .box b1 135 #[.map (some cb), .map (some rb)] :: .box B 140 #[.pointer (some ⟨b, o, none⟩)] :: L0) := hL7
       refine sNil ?_
       subst hM
       have h1 := (((((((((((hL.front 4 rfl).front 4 rfl).front 4 rfl).front 4 rfl).front 7 rfl).front 7 rfl).front 7 rfl).front 9 rfl).front 9 rfl).front 9 rfl)).tl.tl.tl
       have h2 := h1.two.two.weak (it' := .datF (It.two (It.two (.ints A0 c0 3 l0.length (l0.map (m_fold_facts_replace cs rs))) (.ints A1 c1 3 l1.length (l1.map (m_fold_facts_replace cs rs)))) (.ints A2 c2 3 l2.length (l2.map (m_fold_facts_replace cs rs)))).F (⟨(1 : Int), (0 : Int), (0 : Int), ⟨none, 0, []⟩, ⟨⟨e2, ⟨A2, c2, (l2.map (m_fold_facts_replace cs rs))⟩⟩, ⟨(-1 : Int), ⟨none, 0, []⟩⟩⟩⟩ : GTerm Lst)) (fun b hb => hb) (fun hp => ⟨fun b hb => It.bd _ _ hp b hb, Lst.nil_ok, ints_ok (e := 3) hp.2 (by rw [List.length_map]) (fun b hb => .inr hb) hb2, Lst.nil_ok⟩)
       refine ⟨_, ⟨(It.two (It.two (.ints A0 c0 3 l0.length (l0.map (m_fold_facts_replace cs rs))) (.ints A1 c1 3 l1.length (l1.map (m_fold_facts_replace cs rs)))) (.ints A2 c2 3 l2.length (l2.map (m_fold_facts_replace cs rs)))).F, (⟨(1 : Int), (0 : Int), (0 : Int), ⟨none, 0, []⟩, ⟨⟨e2, ⟨A2, c2, (l2.map (m_fold_facts_replace cs rs))⟩⟩, ⟨(-1 : Int), ⟨none, 0, []⟩⟩⟩⟩ : GTerm Lst), rfl, rfl⟩, ?_⟩
       rw [show GTerm.cells (⟨(1 : Int), (0 : Int), (0 : Int), ⟨none, 0, []⟩, ⟨⟨e2, ⟨A2, c2, (l2.map (m_fold_facts_replace cs rs))⟩⟩, ⟨(-1 : Int), ⟨none, 0, []⟩⟩⟩⟩ : GTerm Lst) = [.int .i64 (1 : Int), .int .i64 (0 : Int), .int .i64 (0 : Int), .slice none 0 0, .int .i64 e2, .slice A2 l2.length c2, .int .i64 (-1 : Int), .slice none 0 0] from by simp only [GTerm.cells, List.length_map, List.length_nil]]
       exact h2.front 1 rfl
      ·try rw [decide_eq_false h5]
       rw [if_neg h5] at hM
       refine wIfF rfl (wSkip (wReg (sRun (xMvP rfl) (sRun (xLoadS [.int .i64 e1, .slice A1 l1.length c1] Try.underlying55 rfl ti55 rfl rfl ((hL.bk 0 rfl).part rfl)) (sRun (bd78_44 rfl) (sRun (bd78_45 rfl rfl) (sRun (bd78_46 rfl rfl) (sRun (xNilCk rfl) (sSlS 4 (T := T) (b := b) (o := o) (k := 0) (cs := [.int .i64 k, .int .i64 a1, .int .i64 n, .slice A0 l0.length c0, .int .i64 e1, .slice A1 l1.length c1, .int .i64 e2, .slice A2 l2.length c2]) hT ti58 rfl rfl rfl rfl (by simp [Value.oneCell', Dat.cells, GTerm.cells]) hL rfl rfl ?_)))))))))
       intro w8 hL8
       replace hL : Bx w0 w8 (.box b3 55 #[.int .i64 e1, .slice A1 l1.length c1] :: .obj D (.deferred (some [])) :: .map ekI evI cb cs :: .map ekI evI rb rs :: T [.int .i64 (1 : Int), .int .i64 (0 : Int), .int .i64 (0 : Int), .slice none 0 0, .int .i64 e1, .slice A1 l1.length c1, .int .i64 (-1 : Int), .slice none 0 0] :: .ints A0 c0 3 l0.length (l0.map (m_fold_facts_replace cs rs)) :: .ints A1 c1 3 l1.length (l1.map (m_fold_facts_replace cs rs)) :: .ints A2 c2 3 l2.length (l2.map (m_fold_facts_replace cs rs)) :: .box b1 135 #[.map (some cb), .map (some rb)] :: .box B 140 #[.pointer (some ⟨b, o, none⟩)] :: L0) := hL8
       refine sNil ?_
       subst hM
       have h1 := (((((((((((hL.front 4 rfl).front 4 rfl).front 4 rfl).front 4 rfl).front 7 rfl).front 7 rfl).front 7 rfl).front 9 rfl).front 9 rfl).front 9 rfl)).tl.tl.tl
       have h2 := h1.two.two.weak (it' := .datF (It.two (It.two (.ints A0 c0 3 l0.length (l0.map (m_fold_facts_replace cs rs))) (.ints A1 c1 3 l1.length (l1.map (m_fold_facts_replace cs rs)))) (.ints A2 c2 3 l2.length (l2.map (m_fold_facts_replace cs rs)))).F (⟨(1 : Int), (0 : Int), (0 : Int), ⟨none, 0, []⟩, ⟨⟨e1, ⟨A1, c1, (l1.map (m_fold_facts_replace cs rs))⟩⟩, ⟨(-1 : Int), ⟨none, 0, []⟩⟩⟩⟩ : GTerm Lst)) (fun b hb => hb) (fun hp => ⟨fun b hb => It.bd _ _ hp b hb, Lst.nil_ok, ints_ok (e := 3) hp.1.2 (by rw [List.length_map]) (fun b hb => .inl (.inr hb)) hb1, Lst.nil_ok⟩)
       refine ⟨_, ⟨(It.two (It.two (.ints A0 c0 3 l0.length (l0.map (m_fold_facts_replace cs rs))) (.ints A1 c1 3 l1.length (l1.map (m_fold_facts_replace cs rs)))) (.ints A2 c2 3 l2.length (l2.map (m_fold_facts_replace cs rs)))).F, (⟨(1 : Int), (0 : Int), (0 : Int), ⟨none, 0, []⟩, ⟨⟨e1, ⟨A1, c1, (l1.map (m_fold_facts_replace cs rs))⟩⟩, ⟨(-1 : Int), ⟨none, 0, []⟩⟩⟩⟩ : GTerm Lst), rfl, rfl⟩, ?_⟩
       rw [show GTerm.cells (⟨(1 : Int), (0 : Int), (0 : Int), ⟨none, 0, []⟩, ⟨⟨e1, ⟨A1, c1, (l1.map (m_fold_facts_replace cs rs))⟩⟩, ⟨(-1 : Int), ⟨none, 0, []⟩⟩⟩⟩ : GTerm Lst) = [.int .i64 (1 : Int), .int .i64 (0 : Int), .int .i64 (0 : Int), .slice none 0 0, .int .i64 e1, .slice A1 l1.length c1, .int .i64 (-1 : Int), .slice none 0 0] from by simp only [GTerm.cells, List.length_map, List.length_nil]]
       exact h2.front 1 rfl
     ·have h2n : ((mget cs a1).isSome) = false := Bool.eq_false_iff.2 h2
      try rw [h2n]
      rw [if_neg h2] at hM
      refine wIfF rfl (wSkip ?_)
      subst hM
      have h1 := ((((((((((hL.front 3 rfl).front 3 rfl).front 3 rfl).front 3 rfl).front 6 rfl).front 6 rfl).front 6 rfl).front 8 rfl).front 8 rfl)).tl.tl
      have h2 := h1.two.two.weak (it' := .datF (It.two (It.two (.ints A0 c0 3 l0.length (l0.map (m_fold_facts_replace cs rs))) (.ints A1 c1 3 l1.length (l1.map (m_fold_facts_replace cs rs)))) (.ints A2 c2 3 l2.length (l2.map (m_fold_facts_replace cs rs)))).F (⟨k, a1, n, ⟨A0, c0, (l0.map (m_fold_facts_replace cs rs))⟩, ⟨⟨e1, ⟨A1, c1, (l1.map (m_fold_facts_replace cs rs))⟩⟩, ⟨e2, ⟨A2, c2, (l2.map (m_fold_facts_replace cs rs))⟩⟩⟩⟩ : GTerm Lst)) (fun b hb => hb) (fun hp => ⟨fun b hb => It.bd _ _ hp b hb, ints_ok (e := 3) hp.1.1 (by rw [List.length_map]) (fun b hb => .inl (.inl hb)) hb0, ints_ok (e := 3) hp.1.2 (by rw [List.length_map]) (fun b hb => .inl (.inr hb)) hb1, ints_ok (e := 3) hp.2 (by rw [List.length_map]) (fun b hb => .inr hb) hb2⟩)
      refine ⟨_, ⟨(It.two (It.two (.ints A0 c0 3 l0.length (l0.map (m_fold_facts_replace cs rs))) (.ints A1 c1 3 l1.length (l1.map (m_fold_facts_replace cs rs)))) (.ints A2 c2 3 l2.length (l2.map (m_fold_facts_replace cs rs)))).F, (⟨k, a1, n, ⟨A0, c0, (l0.map (m_fold_facts_replace cs rs))⟩, ⟨⟨e1, ⟨A1, c1, (l1.map (m_fold_facts_replace cs rs))⟩⟩, ⟨e2, ⟨A2, c2, (l2.map (m_fold_facts_replace cs rs))⟩⟩⟩⟩ : GTerm Lst), rfl, rfl⟩, ?_⟩
      rw [show GTerm.cells (⟨k, a1, n, ⟨A0, c0, (l0.map (m_fold_facts_replace cs rs))⟩, ⟨⟨e1, ⟨A1, c1, (l1.map (m_fold_facts_replace cs rs))⟩⟩, ⟨e2, ⟨A2, c2, (l2.map (m_fold_facts_replace cs rs))⟩⟩⟩⟩ : GTerm Lst) = [.int .i64 k, .int .i64 a1, .int .i64 n, .slice A0 l0.length c0, .int .i64 e1, .slice A1 l1.length c1, .int .i64 e2, .slice A2 l2.length c2] from by simp only [GTerm.cells, List.length_map, List.length_nil]]
      exact h2.front 1 rfl

end Go.Proofs.Ytbpccmnalhdpmaa
