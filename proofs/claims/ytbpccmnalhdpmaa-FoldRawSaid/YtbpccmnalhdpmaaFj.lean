/- Contracts, printed by gen4.py. -/
import Derived.Test.YtbpccmnalhdpmaaGf
import Derived.Test.YtbpccmnalhdpmaaOz
set_option linter.unusedVariables false
set_option linter.unusedSimpArgs false
set_option maxRecDepth 4000
namespace Go.Proofs.Ytbpccmnalhdpmaa
open Go.RowKit Go.Fw
def m_fold_uses1 (φ : Int → Int) (k a : Int) (l0 l1 l2 : List Int) : Int × List Int × List Int × List Int :=
 if ((decide (k = (2 : Int))) || ((decide (k = (4 : Int))) || (decide (k = (5 : Int))))) = true then
  ((φ a), (l0.map φ), (l1.map φ), (l2.map φ))
 else
  (a, (l0.map φ), (l1.map φ), (l2.map φ))
theorem bs163_36 {ρ : Operand → Value} {w : World} {d : Option Nat} {ty : TypeId} {pos : String} {af : Array Edge} {g : Option (Nat × Bool)} {x0A : Option Addr} {x0n x0c : Nat} {x1A : Option Addr} {x1n x1c : Nat} {x2A : Option Addr} {x2n x2c : Nat} {o0 : Operand} {o1 : Operand} {o2 : Operand} (h0 : ρ o0 = .slice x0A x0n x0c) (h1 : ρ o1 = .slice x1A x1n x1c) (h2 : ρ o2 = .slice x2A x2n x2c) :
    (execOp ρ ⟨d, .buildSlice 87 3 #[(0, o0), (1, o1), (2, o2)], ty, pos, af, g⟩).run Try.prog w = .ok (.value (.slice (some ⟨w.heap.size, 0, none⟩) 3 3)) (w.alloc (.cells #[.slice x0A x0n x0c, .slice x1A x1n x1c, .slice x2A x2n x2c] 37)) := by
  have e : (Instr.buildSlice 87 3 #[(0, .slice x0A x0n x0c), (1, .slice x1A x1n x1c), (2, .slice x2A x2n x2c)]).run Try.prog w = .ok (.slice (some ⟨w.heap.size, 0, none⟩) 3 3) (w.alloc (.cells #[.slice x0A x0n x0c, .slice x1A x1n x1c, .slice x2A x2n x2c] 37)) := by kernel_rfl
  simp [execOp, h0, h1, h2, e]
set_option maxHeartbeats 12800000 in
theorem sp_uses1 (w0 w : World) (L0 : List It) (l : Nat) (φ : Int → Int) (j0 j1 j2 j3 : It) (hY : ∀ (T : List Value → It) (b o : Nat) (hT : Slot T b o) (v : Int) (L : List It) (w : World), Bx w0 w (T [.int .i64 v] :: j0 :: j1 :: j2 :: j3 :: L) → YieldAt Fence.wide 0 Try.prog l #[.pointer (some ⟨b, o, none⟩)] w (Ret fun u w' => u = .bool true ∧ Bx w0 w' (T [.int .i64 (φ v)] :: j0 :: j1 :: j2 :: j3 :: L))) (T : List Value → It) (b o : Nat) (hT : Slot T b o) (k a n e1 e2 : Int) (A0 A1 A2 : Option Addr) (c0 c1 c2 : Nat) (l0 l1 l2 : List Int) (B : Nat) (hL : Bx w0 w (T [.int .i64 k, .int .i64 a, .int .i64 n, .slice A0 l0.length c0, .int .i64 e1, .slice A1 l1.length c1, .int .i64 e2, .slice A2 l2.length c2] :: .ints A0 c0 3 l0.length l0 :: .ints A1 c1 3 l1.length l1 :: .ints A2 c2 3 l2.length l2 :: .box B 140 #[.pointer (some ⟨b, o, none⟩)] :: j0 :: j1 :: j2 :: j3 :: L0)) : Calls Try.prog 163 #[.func (.yield l) #[] #[], .pointer (some ⟨B, 0, none⟩)] w (Ret fun v w => v = .tuple #[] ∧ Bx w0 w (T [.int .i64 k, .int .i64 (m_fold_uses1 φ k a l0 l1 l2).1, .int .i64 n, .slice A0 l0.length c0, .int .i64 e1, .slice A1 l1.length c1, .int .i64 e2, .slice A2 l2.length c2] :: .ints A0 c0 3 l0.length (m_fold_uses1 φ k a l0 l1 l2).2.1 :: .ints A1 c1 3 l1.length (m_fold_uses1 φ k a l0 l1 l2).2.2.1 :: .ints A2 c2 3 l2.length (m_fold_uses1 φ k a l0 l1 l2).2.2.2 :: .box B 140 #[.pointer (some ⟨b, o, none⟩)] :: j0 :: j1 :: j2 :: j3 :: L0)) := by
  obtain ⟨X, hM⟩ : ∃ X, m_fold_uses1 φ k a l0 l1 l2 = X := ⟨_, rfl⟩
  rw [hM]
  unfold m_fold_uses1 at hM
  refine calls_of Try.func163 rfl (Nat.le_of_ble_eq_true rfl) (by kernel_rfl) ?_
  refine wCut [(0, .func (.yield l) #[] #[]), (1, .pointer (some ⟨B, 0, none⟩))] ⟨rfl, rfl, trivial⟩ fun g => ?_
  refine wSeq (wSeq (wReg (sRun (xLoad Try.underlying140 rfl rfl ((hL.bk 4 rfl).cell (i := 0) rfl)) (sRun (xNilCk rfl) (sRun (xFld0 Try.underlying58 rfl rfl ti3 (by decide) rfl) (sRun (xLoad Try.underlying3 rfl rfl ((hL.sget 0 hT rfl) 0 _ rfl)) (sNil (wBlock (wSeq (wSeq (wReg (sRun (xEqlD rfl rfl) (sRun (xAsB rfl) ?_)))))))))))))
  refine sNil ?_
  obtain ⟨E1, hE1⟩ : ∃ E, ((decide (k = (2 : Int))) || ((decide (k = (4 : Int))) || (decide (k = (5 : Int))))) = E := ⟨_, rfl⟩
  refine wJ (fun f w => Has f [(0, .func (.yield l) #[] #[]), (1, .pointer (some ⟨B, 0, none⟩)), (10, .bool E1)] ∧ Bx w0 w (T [.int .i64 k, .int .i64 a, .int .i64 n, .slice A0 l0.length c0, .int .i64 e1, .slice A1 l1.length c1, .int .i64 e2, .slice A2 l2.length c2] :: .ints A0 c0 3 l0.length l0 :: .ints A1 c1 3 l1.length l1 :: .ints A2 c2 3 l2.length l2 :: .box B 140 #[.pointer (some ⟨b, o, none⟩)] :: j0 :: j1 :: j2 :: j3 :: L0)) ?_ ?_
  ·by_cases h2 : k = (2 : Int)
   ·try rw [decide_eq_true h2]
    refine wIfT rfl (wSkip ?_)
    exact ⟨⟨rfl, rfl, (congrArg Value.bool (by rw [← hE1]; first | (simp [h2]; done) | (simp only [decide_eq_true h2]; done) | grind)), trivial⟩, hL⟩
   ·try rw [decide_eq_false h2]
    refine wIfF rfl (wSeq (wReg (sRun (xEqlD rfl rfl) (sRun (xAsB rfl) (sNil ?_)))))
    obtain ⟨E3, hE3⟩ : ∃ E, ((decide (k = (4 : Int))) || (decide (k = (5 : Int)))) = E := ⟨_, rfl⟩
    refine wJ (fun f w => Has f [(0, .func (.yield l) #[] #[]), (1, .pointer (some ⟨B, 0, none⟩)), (10, .bool E3)] ∧ Bx w0 w (T [.int .i64 k, .int .i64 a, .int .i64 n, .slice A0 l0.length c0, .int .i64 e1, .slice A1 l1.length c1, .int .i64 e2, .slice A2 l2.length c2] :: .ints A0 c0 3 l0.length l0 :: .ints A1 c1 3 l1.length l1 :: .ints A2 c2 3 l2.length l2 :: .box B 140 #[.pointer (some ⟨b, o, none⟩)] :: j0 :: j1 :: j2 :: j3 :: L0)) ?_ ?_
    ·by_cases h4 : k = (4 : Int)
     ·try rw [decide_eq_true h4]
      refine wIfT rfl (wSkip ?_)
      exact ⟨⟨rfl, rfl, (congrArg Value.bool (by rw [← hE3]; first | (simp [h4]; done) | (simp only [decide_eq_true h4]; done) | grind)), trivial⟩, hL⟩
     ·try rw [decide_eq_false h4]
      refine wIfF rfl (wReg (sRun (xEqlD rfl rfl) (sRun (xAsB rfl) (sNil ?_))))
      exact ⟨⟨rfl, rfl, (congrArg Value.bool (by rw [← hE3]; first | (simp [h4]; done) | (simp only [decide_eq_false h4]; done) | grind)), trivial⟩, hL⟩
    ·clear hL
     subst hE3
     rintro f w ⟨hf, hL⟩
     obtain ⟨g, rfl⟩ := has_updL _ _ hf
     clear hf
     exact ⟨⟨rfl, rfl, (congrArg Value.bool (by rw [← hE1]; first | (simp [h2]; done) | (simp only [decide_eq_false h2]; done) | grind)), trivial⟩, hL⟩
  ·clear hL
   subst hE1
   rintro f w ⟨hf, hL⟩
   obtain ⟨g, rfl⟩ := has_updL _ _ hf
   clear hf
   by_cases h5 : ((decide (k = (2 : Int))) || ((decide (k = (4 : Int))) || (decide (k = (5 : Int))))) = true
   ·try rw [h5]
    rw [if_pos h5] at hM
    refine wIfT rfl (wSeq (wRegY (yRun Wd.wide (fun c h => by cases h) (xMvF rfl) (yRun Wd.wide (fun c h => by cases h) (xLoad Try.underlying140 rfl rfl ((hL.bk 4 rfl).cell (i := 0) rfl)) (yRun Wd.wide (fun c h => by cases h) (xNilCk rfl) (yRun Wd.wide (fun c h => by cases h) (xFld (k := 1) Try.underlying58 rfl rfl ti3 (by decide) rfl) ?_))))))
    replace hL : Bx w0 _ (T [.int .i64 k, .int .i64 a, .int .i64 n, .slice A0 l0.length c0, .int .i64 e1, .slice A1 l1.length c1, .int .i64 e2, .slice A2 l2.length c2] :: j0 :: j1 :: j2 :: j3 :: .ints A0 c0 3 l0.length l0 :: .ints A1 c1 3 l1.length l1 :: .ints A2 c2 3 l2.length l2 :: .box B 140 #[.pointer (some ⟨b, o, none⟩)] :: L0) := (((((((((hL.front 4 rfl).front 4 rfl).front 4 rfl).front 4 rfl).front 8 rfl).front 8 rfl).front 8 rfl).front 8 rfl).front 8 rfl)
    refine yYield rfl rfl (hY (sub T [.int .i64 k, .int .i64 a, .int .i64 n, .slice A0 l0.length c0, .int .i64 e1, .slice A1 l1.length c1, .int .i64 e2, .slice A2 l2.length c2] 1 1) b (o + 1) (Slot.sub hT 1 1 (Nat.le_of_ble_eq_true rfl)) a _ _ hL) ?_
    rintro _ w6 ⟨rfl, hL6⟩
    replace hL : Bx w0 w6 (T [.int .i64 k, .int .i64 (φ a), .int .i64 n, .slice A0 l0.length c0, .int .i64 e1, .slice A1 l1.length c1, .int .i64 e2, .slice A2 l2.length c2] :: j0 :: j1 :: j2 :: j3 :: .ints A0 c0 3 l0.length l0 :: .ints A1 c1 3 l1.length l1 :: .ints A2 c2 3 l2.length l2 :: .box B 140 #[.pointer (some ⟨b, o, none⟩)] :: L0) := hL6
    refine yRun Wd.wide (fun c h => by cases h) (xNot rfl) (yNil (wIfF rfl (wSkip (wSeq ?_))))
    replace hL := hL.drew
    refine wDraw (fun wS => Bx w0 wS (T [.int .i64 k, .int .i64 (φ a), .int .i64 n, .slice A0 l0.length c0, .int .i64 e1, .slice A1 l1.length c1, .int .i64 e2, .slice A2 l2.length c2] :: j0 :: j1 :: j2 :: j3 :: .ints A0 c0 3 l0.length l0 :: .ints A1 c1 3 l1.length l1 :: .ints A2 c2 3 l2.length l2 :: .box B 140 #[.pointer (some ⟨b, o, none⟩)] :: L0)) [] (by kernel_rfl) (hTakeS 0 rfl (by kernel_rfl) (by kernel_rfl) rfl (fun wS hS => (xLoad Try.underlying140 rfl rfl ((hS.bk 8 rfl).cell (i := 0) rfl))) (sl_of hL) (hTake 1 rfl (by kernel_rfl) rfl (fun wS => (xNilCk rfl)) (sl_of hL) (hTake 2 rfl (by kernel_rfl) rfl (fun wS => (xFld (k := 3) Try.underlying58 rfl rfl ti37 (by decide) rfl)) (sl_of hL) (hTakeS 3 rfl (by kernel_rfl) (by kernel_rfl) rfl (fun wS hS => (xLoad Try.underlying37 rfl rfl ((hS.sget 0 hT rfl) 3 _ rfl))) (sl_of hL) (hTakeS 4 rfl (by kernel_rfl) (by kernel_rfl) rfl (fun wS hS => (xLoad Try.underlying140 rfl rfl ((hS.bk 8 rfl).cell (i := 0) rfl))) (sl_of hL) (hTake 5 rfl (by kernel_rfl) rfl (fun wS => (xNilCk rfl)) (sl_of hL) (hTake 6 rfl (by kernel_rfl) rfl (fun wS => (xFld (k := 4) Try.underlying58 rfl rfl ti56 (by decide) rfl)) (sl_of hL) (hTake 7 rfl (by kernel_rfl) rfl (fun wS => (xIdxA 0 Try.underlying56 ti55 rfl rfl (by omega) (by omega))) (sl_of hL) (hTake 8 rfl (by kernel_rfl) rfl (fun wS => (xFld (k := 1) Try.underlying55 rfl rfl ti37 (by decide) rfl)) (sl_of hL) (hTakeS 9 rfl (by kernel_rfl) (by kernel_rfl) rfl (fun wS hS => (xLoad Try.underlying37 rfl rfl ((hS.sget 0 hT rfl) 5 _ rfl))) (sl_of hL) (hTakeS 10 rfl (by kernel_rfl) (by kernel_rfl) rfl (fun wS hS => (xLoad Try.underlying140 rfl rfl ((hS.bk 8 rfl).cell (i := 0) rfl))) (sl_of hL) (hTake 11 rfl (by kernel_rfl) rfl (fun wS => (xNilCk rfl)) (sl_of hL) (hTake 12 rfl (by kernel_rfl) rfl (fun wS => (xFld (k := 4) Try.underlying58 rfl rfl ti56 (by decide) rfl)) (sl_of hL) ?_)))))))))))))
    refine hTake 13 rfl (by kernel_rfl) rfl (fun wS => (xIdxA 1 Try.underlying56 ti55 rfl rfl (by omega) (by omega))) (sl_of hL) (hTake 14 rfl (by kernel_rfl) rfl (fun wS => (xFld (k := 1) Try.underlying55 rfl rfl ti37 (by decide) rfl)) (sl_of hL) (hTakeS 15 rfl (by kernel_rfl) (by kernel_rfl) rfl (fun wS hS => (xLoad Try.underlying37 rfl rfl ((hS.sget 0 hT rfl) 7 _ rfl))) (sl_of hL) (hTake 18 rfl (by kernel_rfl) rfl (fun wS => (xMvI rfl)) (sl_of hL) ?_)))
    refine hOne 16 (by kernel_rfl) (oTo rfl rfl (aRow (bs163_36 rfl rfl rfl)) ?_)
    rintro _ w7 ⟨b7, rfl, hge7, hB7, he7⟩
    replace hL := hL.new hge7 hB7 he7
    refine ⟨(sl_of hL.tl), ?_⟩
    refine hTake 17 rfl (by kernel_rfl) rfl (fun wS => (xLen Try.underlying87 rfl)) (sl_of hL.tl) (hDone (by kernel_rfl) (wBlock (wLoopN 4 (wRnd (wSeq (wReg (sRun (xLssT rfl rfl (by omega)) (sNil (wSeq (wIfT rfl (wSkip (wSeq (wBlock ?_)))))))))))))
    refine wSeq (wReg (sRun (xIdx1 0 Try.underlying87 ti37 rfl rfl rfl (by decide)) (sRun (xLoad Try.underlying37 rfl rfl ((hL.bk 0 rfl).cell (i := 0) rfl)) (sRun (xAsS rfl) (sNil (wSeq (wReg (sRun (xMvS rfl) (sRun (xLen Try.underlying37 rfl) (sRun (xMvI rfl) (sNil (wJ (fun f w => Has f [(0, .func (.yield l) #[] #[]), (1, .pointer (some ⟨B, 0, none⟩)), (4, .slice A0 l0.length c0), (36, .slice (some ⟨b7, 0, none⟩) 3 3), (37, .int .i64 (3 : Int)), (38, .int .i64 (0 : Int))] ∧ Bx w0 w (.box b7 37 #[.slice A0 l0.length c0, .slice A1 l1.length c1, .slice A2 l2.length c2] :: T [.int .i64 k, .int .i64 (φ a), .int .i64 n, .slice A0 l0.length c0, .int .i64 e1, .slice A1 l1.length c1, .int .i64 e2, .slice A2 l2.length c2] :: j0 :: j1 :: j2 :: j3 :: .ints A0 c0 3 l0.length (l0.map φ) :: .ints A1 c1 3 l1.length l1 :: .ints A2 c2 3 l2.length l2 :: .box B 140 #[.pointer (some ⟨b, o, none⟩)] :: L0)) ?_ ?_))))))))))))
    ·refine wBlock ?_
     have hcap8 : l0.length ≤ 9223372036854775807 := by have := (hL.bo 6 rfl).cap; simp only [maxLen] at *; omega
     refine wLoopG (fun m f w => ∃ k8 : Nat, m = l0.length - k8 ∧ k8 ≤ l0.length ∧ Has f [(44, .int .i64 ((k8 : Nat) : Int)), (43, .int .i64 ((l0.length : Nat) : Int)), (0, .func (.yield l) #[] #[]), (1, .pointer (some ⟨B, 0, none⟩)), (4, .slice A0 l0.length c0), (36, .slice (some ⟨b7, 0, none⟩) 3 3), (37, .int .i64 (3 : Int)), (38, .int .i64 (0 : Int))] ∧ Bx w0 w (.box b7 37 #[.slice A0 l0.length c0, .slice A1 l1.length c1, .slice A2 l2.length c2] :: T [.int .i64 k, .int .i64 (φ a), .int .i64 n, .slice A0 l0.length c0, .int .i64 e1, .slice A1 l1.length c1, .int .i64 e2, .slice A2 l2.length c2] :: j0 :: j1 :: j2 :: j3 :: .ints A0 c0 3 l0.length (cur φ l0 k8) :: .ints A1 c1 3 l1.length l1 :: .ints A2 c2 3 l2.length l2 :: .box B 140 #[.pointer (some ⟨b, o, none⟩)] :: L0)) l0.length ⟨0, (Nat.sub_zero _).symm, Nat.zero_le _, ⟨rfl, rfl, rfl, rfl, rfl, rfl, rfl, rfl, trivial⟩, by rw [cur_zero]; exact hL⟩ ?_
     clear hL
     rintro m f w ⟨k8, rfl, hk8, hf, hL⟩
     obtain ⟨g, rfl⟩ := has_updL _ _ hf
     clear hf
     by_cases hb8 : k8 < l0.length
     ·obtain ⟨g08, rfl⟩ : ∃ g0, A0 = some ⟨g0, 0, none⟩ := (hL.bo 6 rfl).adr (by omega)
      obtain ⟨v8, hv8⟩ : ∃ v, l0[k8]? = some v := ⟨_, List.getElem?_eq_getElem (by omega)⟩
      refine wSeq (wReg (sRun (xLssT rfl rfl (by omega)) (sNil (wSeq (wIfT rfl (wSkip (wSeq (wBlock (wSeq (wReg (sRun (xMvI rfl) (sRun (xAsI rfl) (sNil ?_)))))))))))))
      refine wSeq (wRegY (yRun Wd.wide (fun c h => by cases h) (xMvF rfl) (yRun Wd.wide (fun c h => by cases h) (xMvS rfl) (yRun Wd.wide (fun c h => by cases h) (xMvI rfl) (yRun Wd.wide (fun c h => by cases h) (xIdx1 k8 Try.underlying37 ti3 rfl rfl rfl (by omega)) ?_)))))
      replace hL : Bx w0 w (.ints (some ⟨g08, 0, none⟩) c0 3 l0.length (cur φ l0 k8) :: j0 :: j1 :: j2 :: j3 :: .box b7 37 #[.slice (some ⟨g08, 0, none⟩) l0.length c0, .slice A1 l1.length c1, .slice A2 l2.length c2] :: T [.int .i64 k, .int .i64 (φ a), .int .i64 n, .slice (some ⟨g08, 0, none⟩) l0.length c0, .int .i64 e1, .slice A1 l1.length c1, .int .i64 e2, .slice A2 l2.length c2] :: .ints A1 c1 3 l1.length l1 :: .ints A2 c2 3 l2.length l2 :: .box B 140 #[.pointer (some ⟨b, o, none⟩)] :: L0) := ((((((((((hL.front 9 rfl).front 9 rfl).front 9 rfl).front 4 rfl).front 4 rfl).front 8 rfl).front 8 rfl).front 8 rfl).front 8 rfl).front 9 rfl)
      rw [← cur_foc hv8] at hL
      refine yYield rfl rfl (hY (sub (ownT g08 c0 3 l0.length) ((cur φ l0 k8).map (Value.int .i64)) k8 1) g08 (0 + k8) (Slot.sub (T := (ownT g08 c0 3 l0.length)) (cs := ((cur φ l0 k8).map (Value.int .i64))) (Slot.own g08 c0 3 1 l0.length) k8 1 (by rw [List.length_map, cur_len _ _ (by omega)]; omega)) v8 _ _ hL) ?_
      rintro _ w8 ⟨rfl, hL8⟩
      rw [cur_unf hv8] at hL8
      replace hL : Bx w0 w8 (.box b7 37 #[.slice (some ⟨g08, 0, none⟩) l0.length c0, .slice A1 l1.length c1, .slice A2 l2.length c2] :: T [.int .i64 k, .int .i64 (φ a), .int .i64 n, .slice (some ⟨g08, 0, none⟩) l0.length c0, .int .i64 e1, .slice A1 l1.length c1, .int .i64 e2, .slice A2 l2.length c2] :: j0 :: j1 :: j2 :: j3 :: .ints (some ⟨g08, 0, none⟩) c0 3 l0.length (cur φ l0 (k8 + 1)) :: .ints A1 c1 3 l1.length l1 :: .ints A2 c2 3 l2.length l2 :: .box B 140 #[.pointer (some ⟨b, o, none⟩)] :: L0) := ((((((((((hL8.front 9 rfl).front 9 rfl).front 9 rfl).front 3 rfl).front 7 rfl).front 7 rfl).front 7 rfl).front 7 rfl).front 9 rfl).front 9 rfl)
      refine yRun Wd.wide (fun c h => by cases h) (xNot rfl) (yNil (wIfF rfl (wSkip (wReg (sRun (xAdd64 rfl rfl (by omega) (by omega)) (sRun (xMvI rfl) (sNil ?_)))))))
      exact ⟨l0.length - (k8 + 1), by omega, k8 + 1, rfl, by omega, ⟨rfl, rfl, rfl, rfl, rfl, rfl, rfl, rfl, trivial⟩, hL⟩
     ·obtain rfl : k8 = l0.length := by omega
      rw [cur_end] at hL
      refine wSeq (wReg (sRun (xLssF rfl rfl (by omega)) (sNil (wSeq (wIfF rfl (wExit ?_))))))
      exact ⟨⟨rfl, rfl, rfl, rfl, rfl, rfl, trivial⟩, hL⟩
    ·clear hL
     rintro f w ⟨hf, hL⟩
     obtain ⟨g, rfl⟩ := has_updL _ _ hf
     clear hf
     refine wReg (sRun (xAddK (c := (1 : Int)) rfl rfl (by decide) (by decide) (by decide)) (sRun (xMvI rfl) (sNil (wRnd (wSeq (wReg (sRun (xLssT rfl rfl (by omega)) (sNil (wSeq (wIfT rfl (wSkip (wSeq (wBlock ?_)))))))))))))
     refine wSeq (wReg (sRun (xIdx1 1 Try.underlying87 ti37 rfl rfl rfl (by decide)) (sRun (xLoad Try.underlying37 rfl rfl ((hL.bk 0 rfl).cell (i := 1) rfl)) (sRun (xAsS rfl) (sNil (wSeq (wReg (sRun (xMvS rfl) (sRun (xLen Try.underlying37 rfl) (sRun (xMvI rfl) (sNil (wJ (fun f w => Has f [(0, .func (.yield l) #[] #[]), (1, .pointer (some ⟨B, 0, none⟩)), (4, .slice A1 l1.length c1), (36, .slice (some ⟨b7, 0, none⟩) 3 3), (37, .int .i64 (3 : Int)), (38, .int .i64 (1 : Int))] ∧ Bx w0 w (.box b7 37 #[.slice A0 l0.length c0, .slice A1 l1.length c1, .slice A2 l2.length c2] :: T [.int .i64 k, .int .i64 (φ a), .int .i64 n, .slice A0 l0.length c0, .int .i64 e1, .slice A1 l1.length c1, .int .i64 e2, .slice A2 l2.length c2] :: j0 :: j1 :: j2 :: j3 :: .ints A0 c0 3 l0.length (l0.map φ) :: .ints A1 c1 3 l1.length (l1.map φ) :: .ints A2 c2 3 l2.length l2 :: .box B 140 #[.pointer (some ⟨b, o, none⟩)] :: L0)) ?_ ?_))))))))))))
     ·refine wBlock ?_
      have hcap9 : l1.length ≤ 9223372036854775807 := by have := (hL.bo 7 rfl).cap; simp only [maxLen] at *; omega
      refine wLoopG (fun m f w => ∃ k9 : Nat, m = l1.length - k9 ∧ k9 ≤ l1.length ∧ Has f [(44, .int .i64 ((k9 : Nat) : Int)), (43, .int .i64 ((l1.length : Nat) : Int)), (0, .func (.yield l) #[] #[]), (1, .pointer (some ⟨B, 0, none⟩)), (4, .slice A1 l1.length c1), (36, .slice (some ⟨b7, 0, none⟩) 3 3), (37, .int .i64 (3 : Int)), (38, .int .i64 (1 : Int))] ∧ Bx w0 w (.box b7 37 #[.slice A0 l0.length c0, .slice A1 l1.length c1, .slice A2 l2.length c2] :: T [.int .i64 k, .int .i64 (φ a), .int .i64 n, .slice A0 l0.length c0, .int .i64 e1, .slice A1 l1.length c1, .int .i64 e2, .slice A2 l2.length c2] :: j0 :: j1 :: j2 :: j3 :: .ints A0 c0 3 l0.length (l0.map φ) :: .ints A1 c1 3 l1.length (cur φ l1 k9) :: .ints A2 c2 3 l2.length l2 :: .box B 140 #[.pointer (some ⟨b, o, none⟩)] :: L0)) l1.length ⟨0, (Nat.sub_zero _).symm, Nat.zero_le _, ⟨rfl, rfl, rfl, rfl, rfl, rfl, rfl, rfl, trivial⟩, by rw [cur_zero]; exact hL⟩ ?_
      clear hL
      rintro m f w ⟨k9, rfl, hk9, hf, hL⟩
      obtain ⟨g, rfl⟩ := has_updL _ _ hf
      clear hf
      by_cases hb9 : k9 < l1.length
      ·obtain ⟨g09, rfl⟩ : ∃ g0, A1 = some ⟨g0, 0, none⟩ := (hL.bo 7 rfl).adr (by omega)
       obtain ⟨v9, hv9⟩ : ∃ v, l1[k9]? = some v := ⟨_, List.getElem?_eq_getElem (by omega)⟩
       refine wSeq (wReg (sRun (xLssT rfl rfl (by omega)) (sNil (wSeq (wIfT rfl (wSkip (wSeq (wBlock (wSeq (wReg (sRun (xMvI rfl) (sRun (xAsI rfl) (sNil ?_)))))))))))))
       refine wSeq (wRegY (yRun Wd.wide (fun c h => by cases h) (xMvF rfl) (yRun Wd.wide (fun c h => by cases h) (xMvS rfl) (yRun Wd.wide (fun c h => by cases h) (xMvI rfl) (yRun Wd.wide (fun c h => by cases h) (xIdx1 k9 Try.underlying37 ti3 rfl rfl rfl (by omega)) ?_)))))
       replace hL : Bx w0 w (.ints (some ⟨g09, 0, none⟩) c1 3 l1.length (cur φ l1 k9) :: j0 :: j1 :: j2 :: j3 :: .box b7 37 #[.slice A0 l0.length c0, .slice (some ⟨g09, 0, none⟩) l1.length c1, .slice A2 l2.length c2] :: T [.int .i64 k, .int .i64 (φ a), .int .i64 n, .slice A0 l0.length c0, .int .i64 e1, .slice (some ⟨g09, 0, none⟩) l1.length c1, .int .i64 e2, .slice A2 l2.length c2] :: .ints A0 c0 3 l0.length (l0.map φ) :: .ints A2 c2 3 l2.length l2 :: .box B 140 #[.pointer (some ⟨b, o, none⟩)] :: L0) := ((((((((((hL.front 9 rfl).front 9 rfl).front 8 rfl).front 4 rfl).front 4 rfl).front 8 rfl).front 8 rfl).front 8 rfl).front 8 rfl).front 9 rfl)
       rw [← cur_foc hv9] at hL
       refine yYield rfl rfl (hY (sub (ownT g09 c1 3 l1.length) ((cur φ l1 k9).map (Value.int .i64)) k9 1) g09 (0 + k9) (Slot.sub (T := (ownT g09 c1 3 l1.length)) (cs := ((cur φ l1 k9).map (Value.int .i64))) (Slot.own g09 c1 3 1 l1.length) k9 1 (by rw [List.length_map, cur_len _ _ (by omega)]; omega)) v9 _ _ hL) ?_
       rintro _ w9 ⟨rfl, hL9⟩
       rw [cur_unf hv9] at hL9
       replace hL : Bx w0 w9 (.box b7 37 #[.slice A0 l0.length c0, .slice (some ⟨g09, 0, none⟩) l1.length c1, .slice A2 l2.length c2] :: T [.int .i64 k, .int .i64 (φ a), .int .i64 n, .slice A0 l0.length c0, .int .i64 e1, .slice (some ⟨g09, 0, none⟩) l1.length c1, .int .i64 e2, .slice A2 l2.length c2] :: j0 :: j1 :: j2 :: j3 :: .ints A0 c0 3 l0.length (l0.map φ) :: .ints (some ⟨g09, 0, none⟩) c1 3 l1.length (cur φ l1 (k9 + 1)) :: .ints A2 c2 3 l2.length l2 :: .box B 140 #[.pointer (some ⟨b, o, none⟩)] :: L0) := ((((((((((hL9.front 9 rfl).front 9 rfl).front 2 rfl).front 9 rfl).front 7 rfl).front 7 rfl).front 7 rfl).front 7 rfl).front 9 rfl).front 9 rfl)
       refine yRun Wd.wide (fun c h => by cases h) (xNot rfl) (yNil (wIfF rfl (wSkip (wReg (sRun (xAdd64 rfl rfl (by omega) (by omega)) (sRun (xMvI rfl) (sNil ?_)))))))
       exact ⟨l1.length - (k9 + 1), by omega, k9 + 1, rfl, by omega, ⟨rfl, rfl, rfl, rfl, rfl, rfl, rfl, rfl, trivial⟩, hL⟩
      ·obtain rfl : k9 = l1.length := by omega
       rw [cur_end] at hL
       refine wSeq (wReg (sRun (xLssF rfl rfl (by omega)) (sNil (wSeq (wIfF rfl (wExit ?_))))))
       exact ⟨⟨rfl, rfl, rfl, rfl, rfl, rfl, trivial⟩, hL⟩
     ·clear hL
      rintro f w ⟨hf, hL⟩
      obtain ⟨g, rfl⟩ := has_updL _ _ hf
      clear hf
      refine wReg (sRun (xAddK (c := (2 : Int)) rfl rfl (by decide) (by decide) (by decide)) (sRun (xMvI rfl) (sNil (wRnd (wSeq (wReg (sRun (xLssT rfl rfl (by omega)) (sNil (wSeq (wIfT rfl (wSkip (wSeq (wBlock ?_)))))))))))))
      refine wSeq (wReg (sRun (xIdx1 2 Try.underlying87 ti37 rfl rfl rfl (by decide)) (sRun (xLoad Try.underlying37 rfl rfl ((hL.bk 0 rfl).cell (i := 2) rfl)) (sRun (xAsS rfl) (sNil (wSeq (wReg (sRun (xMvS rfl) (sRun (xLen Try.underlying37 rfl) (sRun (xMvI rfl) (sNil (wJ (fun f w => Has f [(0, .func (.yield l) #[] #[]), (1, .pointer (some ⟨B, 0, none⟩)), (4, .slice A2 l2.length c2), (36, .slice (some ⟨b7, 0, none⟩) 3 3), (37, .int .i64 (3 : Int)), (38, .int .i64 (2 : Int))] ∧ Bx w0 w (.box b7 37 #[.slice A0 l0.length c0, .slice A1 l1.length c1, .slice A2 l2.length c2] :: T [.int .i64 k, .int .i64 (φ a), .int .i64 n, .slice A0 l0.length c0, .int .i64 e1, .slice A1 l1.length c1, .int .i64 e2, .slice A2 l2.length c2] :: j0 :: j1 :: j2 :: j3 :: .ints A0 c0 3 l0.length (l0.map φ) :: .ints A1 c1 3 l1.length (l1.map φ) :: .ints A2 c2 3 l2.length (l2.map φ) :: .box B 140 #[.pointer (some ⟨b, o, none⟩)] :: L0)) ?_ ?_))))))))))))
      ·refine wBlock ?_
       have hcap10 : l2.length ≤ 9223372036854775807 := by have := (hL.bo 8 rfl).cap; simp only [maxLen] at *; omega
       refine wLoopG (fun m f w => ∃ k10 : Nat, m = l2.length - k10 ∧ k10 ≤ l2.length ∧ Has f [(44, .int .i64 ((k10 : Nat) : Int)), (43, .int .i64 ((l2.length : Nat) : Int)), (0, .func (.yield l) #[] #[]), (1, .pointer (some ⟨B, 0, none⟩)), (4, .slice A2 l2.length c2), (36, .slice (some ⟨b7, 0, none⟩) 3 3), (37, .int .i64 (3 : Int)), (38, .int .i64 (2 : Int))] ∧ Bx w0 w (.box b7 37 #[.slice A0 l0.length c0, .slice A1 l1.length c1, .slice A2 l2.length c2] :: T [.int .i64 k, .int .i64 (φ a), .int .i64 n, .slice A0 l0.length c0, .int .i64 e1, .slice A1 l1.length c1, .int .i64 e2, .slice A2 l2.length c2] :: j0 :: j1 :: j2 :: j3 :: .ints A0 c0 3 l0.length (l0.map φ) :: .ints A1 c1 3 l1.length (l1.map φ) :: .ints A2 c2 3 l2.length (cur φ l2 k10) :: .box B 140 #[.pointer (some ⟨b, o, none⟩)] :: L0)) l2.length ⟨0, (Nat.sub_zero _).symm, Nat.zero_le _, ⟨rfl, rfl, rfl, rfl, rfl, rfl, rfl, rfl, trivial⟩, by rw [cur_zero]; exact hL⟩ ?_
       clear hL
       rintro m f w ⟨k10, rfl, hk10, hf, hL⟩
       obtain ⟨g, rfl⟩ := has_updL _ _ hf
       clear hf
       by_cases hb10 : k10 < l2.length
       ·obtain ⟨g010, rfl⟩ : ∃ g0, A2 = some ⟨g0, 0, none⟩ := (hL.bo 8 rfl).adr (by omega)
        obtain ⟨v10, hv10⟩ : ∃ v, l2[k10]? = some v := ⟨_, List.getElem?_eq_getElem (by omega)⟩
        refine wSeq (wReg (sRun (xLssT rfl rfl (by omega)) (sNil (wSeq (wIfT rfl (wSkip (wSeq (wBlock (wSeq (wReg (sRun (xMvI rfl) (sRun (xAsI rfl) (sNil ?_)))))))))))))
        refine wSeq (wRegY (yRun Wd.wide (fun c h => by cases h) (xMvF rfl) (yRun Wd.wide (fun c h => by cases h) (xMvS rfl) (yRun Wd.wide (fun c h => by cases h) (xMvI rfl) (yRun Wd.wide (fun c h => by cases h) (xIdx1 k10 Try.underlying37 ti3 rfl rfl rfl (by omega)) ?_)))))
        replace hL : Bx w0 w (.ints (some ⟨g010, 0, none⟩) c2 3 l2.length (cur φ l2 k10) :: j0 :: j1 :: j2 :: j3 :: .box b7 37 #[.slice A0 l0.length c0, .slice A1 l1.length c1, .slice (some ⟨g010, 0, none⟩) l2.length c2] :: T [.int .i64 k, .int .i64 (φ a), .int .i64 n, .slice A0 l0.length c0, .int .i64 e1, .slice A1 l1.length c1, .int .i64 e2, .slice (some ⟨g010, 0, none⟩) l2.length c2] :: .ints A0 c0 3 l0.length (l0.map φ) :: .ints A1 c1 3 l1.length (l1.map φ) :: .box B 140 #[.pointer (some ⟨b, o, none⟩)] :: L0) := ((((((((((hL.front 9 rfl).front 8 rfl).front 8 rfl).front 4 rfl).front 4 rfl).front 8 rfl).front 8 rfl).front 8 rfl).front 8 rfl).front 9 rfl)
        rw [← cur_foc hv10] at hL
        refine yYield rfl rfl (hY (sub (ownT g010 c2 3 l2.length) ((cur φ l2 k10).map (Value.int .i64)) k10 1) g010 (0 + k10) (Slot.sub (T := (ownT g010 c2 3 l2.length)) (cs := ((cur φ l2 k10).map (Value.int .i64))) (Slot.own g010 c2 3 1 l2.length) k10 1 (by rw [List.length_map, cur_len _ _ (by omega)]; omega)) v10 _ _ hL) ?_
        rintro _ w10 ⟨rfl, hL10⟩
        rw [cur_unf hv10] at hL10
        replace hL : Bx w0 w10 (.box b7 37 #[.slice A0 l0.length c0, .slice A1 l1.length c1, .slice (some ⟨g010, 0, none⟩) l2.length c2] :: T [.int .i64 k, .int .i64 (φ a), .int .i64 n, .slice A0 l0.length c0, .int .i64 e1, .slice A1 l1.length c1, .int .i64 e2, .slice (some ⟨g010, 0, none⟩) l2.length c2] :: j0 :: j1 :: j2 :: j3 :: .ints A0 c0 3 l0.length (l0.map φ) :: .ints A1 c1 3 l1.length (l1.map φ) :: .ints (some ⟨g010, 0, none⟩) c2 3 l2.length (cur φ l2 (k10 + 1)) :: .box B 140 #[.pointer (some ⟨b, o, none⟩)] :: L0) := ((((((((((hL10.front 9 rfl).front 1 rfl).front 9 rfl).front 9 rfl).front 7 rfl).front 7 rfl).front 7 rfl).front 7 rfl).front 9 rfl).front 9 rfl)
        refine yRun Wd.wide (fun c h => by cases h) (xNot rfl) (yNil (wIfF rfl (wSkip (wReg (sRun (xAdd64 rfl rfl (by omega) (by omega)) (sRun (xMvI rfl) (sNil ?_)))))))
        exact ⟨l2.length - (k10 + 1), by omega, k10 + 1, rfl, by omega, ⟨rfl, rfl, rfl, rfl, rfl, rfl, rfl, rfl, trivial⟩, hL⟩
       ·obtain rfl : k10 = l2.length := by omega
        rw [cur_end] at hL
        refine wSeq (wReg (sRun (xLssF rfl rfl (by omega)) (sNil (wSeq (wIfF rfl (wExit ?_))))))
        exact ⟨⟨rfl, rfl, rfl, rfl, rfl, rfl, trivial⟩, hL⟩
      ·clear hL
       rintro f w ⟨hf, hL⟩
       obtain ⟨g, rfl⟩ := has_updL _ _ hf
       clear hf
       refine wReg (sRun (xAddK (c := (3 : Int)) rfl rfl (by decide) (by decide) (by decide)) (sRun (xMvI rfl) (sNil (wRnd (wSeq (wReg (sRun (xLssF rfl rfl (by omega)) (sNil (wSeq (wIfF rfl (wExit ?_)))))))))))
       subst hM
       refine res0 (P := Try.prog) (fn := Try.f163) rfl ?_
       exact ⟨rfl, ((((((((((hL.front 5 rfl).front 5 rfl).front 5 rfl).front 5 rfl).front 9 rfl).front 9 rfl).front 9 rfl).front 9 rfl).front 9 rfl).front 9 rfl).tl⟩
   ·have h5n : ((decide (k = (2 : Int))) || ((decide (k = (4 : Int))) || (decide (k = (5 : Int))))) = false := Bool.eq_false_iff.2 h5
    try rw [h5n]
    rw [if_neg h5] at hM
    have h11 : ¬ (k = (2 : Int)) := fun hq => by rw [decide_eq_true hq] at h5; simp at h5
    have h12 : ¬ (k = (4 : Int)) := fun hq => by rw [decide_eq_true hq] at h5; simp at h5
    have h13 : ¬ (k = (5 : Int)) := fun hq => by rw [decide_eq_true hq] at h5; simp at h5
    refine wIfF rfl (wSkip (wSeq ?_))
    replace hL := hL.drew
    refine wDraw (fun wS => Bx w0 wS (T [.int .i64 k, .int .i64 a, .int .i64 n, .slice A0 l0.length c0, .int .i64 e1, .slice A1 l1.length c1, .int .i64 e2, .slice A2 l2.length c2] :: .ints A0 c0 3 l0.length l0 :: .ints A1 c1 3 l1.length l1 :: .ints A2 c2 3 l2.length l2 :: .box B 140 #[.pointer (some ⟨b, o, none⟩)] :: j0 :: j1 :: j2 :: j3 :: L0)) [] (by kernel_rfl) (hTakeS 0 rfl (by kernel_rfl) (by kernel_rfl) rfl (fun wS hS => (xLoad Try.underlying140 rfl rfl ((hS.bk 4 rfl).cell (i := 0) rfl))) (sl_of hL) (hTake 1 rfl (by kernel_rfl) rfl (fun wS => (xNilCk rfl)) (sl_of hL) (hTake 2 rfl (by kernel_rfl) rfl (fun wS => (xFld (k := 3) Try.underlying58 rfl rfl ti37 (by decide) rfl)) (sl_of hL) (hTakeS 3 rfl (by kernel_rfl) (by kernel_rfl) rfl (fun wS hS => (xLoad Try.underlying37 rfl rfl ((hS.sget 0 hT rfl) 3 _ rfl))) (sl_of hL) (hTakeS 4 rfl (by kernel_rfl) (by kernel_rfl) rfl (fun wS hS => (xLoad Try.underlying140 rfl rfl ((hS.bk 4 rfl).cell (i := 0) rfl))) (sl_of hL) (hTake 5 rfl (by kernel_rfl) rfl (fun wS => (xNilCk rfl)) (sl_of hL) (hTake 6 rfl (by kernel_rfl) rfl (fun wS => (xFld (k := 4) Try.underlying58 rfl rfl ti56 (by decide) rfl)) (sl_of hL) (hTake 7 rfl (by kernel_rfl) rfl (fun wS => (xIdxA 0 Try.underlying56 ti55 rfl rfl (by omega) (by omega))) (sl_of hL) (hTake 8 rfl (by kernel_rfl) rfl (fun wS => (xFld (k := 1) Try.underlying55 rfl rfl ti37 (by decide) rfl)) (sl_of hL) (hTakeS 9 rfl (by kernel_rfl) (by kernel_rfl) rfl (fun wS hS => (xLoad Try.underlying37 rfl rfl ((hS.sget 0 hT rfl) 5 _ rfl))) (sl_of hL) (hTakeS 10 rfl (by kernel_rfl) (by kernel_rfl) rfl (fun wS hS => (xLoad Try.underlying140 rfl rfl ((hS.bk 4 rfl).cell (i := 0) rfl))) (sl_of hL) (hTake 11 rfl (by kernel_rfl) rfl (fun wS => (xNilCk rfl)) (sl_of hL) (hTake 12 rfl (by kernel_rfl) rfl (fun wS => (xFld (k := 4) Try.underlying58 rfl rfl ti56 (by decide) rfl)) (sl_of hL) ?_)))))))))))))
    refine hTake 13 rfl (by kernel_rfl) rfl (fun wS => (xIdxA 1 Try.underlying56 ti55 rfl rfl (by omega) (by omega))) (sl_of hL) (hTake 14 rfl (by kernel_rfl) rfl (fun wS => (xFld (k := 1) Try.underlying55 rfl rfl ti37 (by decide) rfl)) (sl_of hL) (hTakeS 15 rfl (by kernel_rfl) (by kernel_rfl) rfl (fun wS hS => (xLoad Try.underlying37 rfl rfl ((hS.sget 0 hT rfl) 7 _ rfl))) (sl_of hL) (hTake 18 rfl (by kernel_rfl) rfl (fun wS => (xMvI rfl)) (sl_of hL) ?_)))
    refine hOne 16 (by kernel_rfl) (oTo rfl rfl (aRow (bs163_36 rfl rfl rfl)) ?_)
    rintro _ w14 ⟨b14, rfl, hge14, hB14, he14⟩
    replace hL := hL.new hge14 hB14 he14
    refine ⟨(sl_of hL.tl), ?_⟩
    refine hTake 17 rfl (by kernel_rfl) rfl (fun wS => (xLen Try.underlying87 rfl)) (sl_of hL.tl) (hDone (by kernel_rfl) (wBlock (wLoopN 4 (wRnd (wSeq (wReg (sRun (xLssT rfl rfl (by omega)) (sNil (wSeq (wIfT rfl (wSkip (wSeq (wBlock ?_)))))))))))))
    refine wSeq (wReg (sRun (xIdx1 0 Try.underlying87 ti37 rfl rfl rfl (by decide)) (sRun (xLoad Try.underlying37 rfl rfl ((hL.bk 0 rfl).cell (i := 0) rfl)) (sRun (xAsS rfl) (sNil (wSeq (wReg (sRun (xMvS rfl) (sRun (xLen Try.underlying37 rfl) (sRun (xMvI rfl) (sNil (wJ (fun f w => Has f [(0, .func (.yield l) #[] #[]), (1, .pointer (some ⟨B, 0, none⟩)), (4, .slice A0 l0.length c0), (36, .slice (some ⟨b14, 0, none⟩) 3 3), (37, .int .i64 (3 : Int)), (38, .int .i64 (0 : Int))] ∧ Bx w0 w (.box b14 37 #[.slice A0 l0.length c0, .slice A1 l1.length c1, .slice A2 l2.length c2] :: T [.int .i64 k, .int .i64 a, .int .i64 n, .slice A0 l0.length c0, .int .i64 e1, .slice A1 l1.length c1, .int .i64 e2, .slice A2 l2.length c2] :: .ints A0 c0 3 l0.length (l0.map φ) :: .ints A1 c1 3 l1.length l1 :: .ints A2 c2 3 l2.length l2 :: .box B 140 #[.pointer (some ⟨b, o, none⟩)] :: j0 :: j1 :: j2 :: j3 :: L0)) ?_ ?_))))))))))))
    ·refine wBlock ?_
     have hcap15 : l0.length ≤ 9223372036854775807 := by have := (hL.bo 2 rfl).cap; simp only [maxLen] at *; omega
     refine wLoopG (fun m f w => ∃ k15 : Nat, m = l0.length - k15 ∧ k15 ≤ l0.length ∧ Has f [(44, .int .i64 ((k15 : Nat) : Int)), (43, .int .i64 ((l0.length : Nat) : Int)), (0, .func (.yield l) #[] #[]), (1, .pointer (some ⟨B, 0, none⟩)), (4, .slice A0 l0.length c0), (36, .slice (some ⟨b14, 0, none⟩) 3 3), (37, .int .i64 (3 : Int)), (38, .int .i64 (0 : Int))] ∧ Bx w0 w (.box b14 37 #[.slice A0 l0.length c0, .slice A1 l1.length c1, .slice A2 l2.length c2] :: T [.int .i64 k, .int .i64 a, .int .i64 n, .slice A0 l0.length c0, .int .i64 e1, .slice A1 l1.length c1, .int .i64 e2, .slice A2 l2.length c2] :: .ints A0 c0 3 l0.length (cur φ l0 k15) :: .ints A1 c1 3 l1.length l1 :: .ints A2 c2 3 l2.length l2 :: .box B 140 #[.pointer (some ⟨b, o, none⟩)] :: j0 :: j1 :: j2 :: j3 :: L0)) l0.length ⟨0, (Nat.sub_zero _).symm, Nat.zero_le _, ⟨rfl, rfl, rfl, rfl, rfl, rfl, rfl, rfl, trivial⟩, by rw [cur_zero]; exact hL⟩ ?_
     clear hL
     rintro m f w ⟨k15, rfl, hk15, hf, hL⟩
     obtain ⟨g, rfl⟩ := has_updL _ _ hf
     clear hf
     by_cases hb15 : k15 < l0.length
     ·obtain ⟨g015, rfl⟩ : ∃ g0, A0 = some ⟨g0, 0, none⟩ := (hL.bo 2 rfl).adr (by omega)
      obtain ⟨v15, hv15⟩ : ∃ v, l0[k15]? = some v := ⟨_, List.getElem?_eq_getElem (by omega)⟩
      refine wSeq (wReg (sRun (xLssT rfl rfl (by omega)) (sNil (wSeq (wIfT rfl (wSkip (wSeq (wBlock (wSeq (wReg (sRun (xMvI rfl) (sRun (xAsI rfl) (sNil ?_)))))))))))))
      refine wSeq (wRegY (yRun Wd.wide (fun c h => by cases h) (xMvF rfl) (yRun Wd.wide (fun c h => by cases h) (xMvS rfl) (yRun Wd.wide (fun c h => by cases h) (xMvI rfl) (yRun Wd.wide (fun c h => by cases h) (xIdx1 k15 Try.underlying37 ti3 rfl rfl rfl (by omega)) ?_)))))
      replace hL : Bx w0 w (.ints (some ⟨g015, 0, none⟩) c0 3 l0.length (cur φ l0 k15) :: j0 :: j1 :: j2 :: j3 :: .box b14 37 #[.slice (some ⟨g015, 0, none⟩) l0.length c0, .slice A1 l1.length c1, .slice A2 l2.length c2] :: T [.int .i64 k, .int .i64 a, .int .i64 n, .slice (some ⟨g015, 0, none⟩) l0.length c0, .int .i64 e1, .slice A1 l1.length c1, .int .i64 e2, .slice A2 l2.length c2] :: .ints A1 c1 3 l1.length l1 :: .ints A2 c2 3 l2.length l2 :: .box B 140 #[.pointer (some ⟨b, o, none⟩)] :: L0) := ((((((((((hL.front 5 rfl).front 5 rfl).front 5 rfl).front 4 rfl).front 4 rfl).front 9 rfl).front 9 rfl).front 9 rfl).front 9 rfl).front 9 rfl)
      rw [← cur_foc hv15] at hL
      refine yYield rfl rfl (hY (sub (ownT g015 c0 3 l0.length) ((cur φ l0 k15).map (Value.int .i64)) k15 1) g015 (0 + k15) (Slot.sub (T := (ownT g015 c0 3 l0.length)) (cs := ((cur φ l0 k15).map (Value.int .i64))) (Slot.own g015 c0 3 1 l0.length) k15 1 (by rw [List.length_map, cur_len _ _ (by omega)]; omega)) v15 _ _ hL) ?_
      rintro _ w15 ⟨rfl, hL15⟩
      rw [cur_unf hv15] at hL15
      replace hL : Bx w0 w15 (.box b14 37 #[.slice (some ⟨g015, 0, none⟩) l0.length c0, .slice A1 l1.length c1, .slice A2 l2.length c2] :: T [.int .i64 k, .int .i64 a, .int .i64 n, .slice (some ⟨g015, 0, none⟩) l0.length c0, .int .i64 e1, .slice A1 l1.length c1, .int .i64 e2, .slice A2 l2.length c2] :: .ints (some ⟨g015, 0, none⟩) c0 3 l0.length (cur φ l0 (k15 + 1)) :: .ints A1 c1 3 l1.length l1 :: .ints A2 c2 3 l2.length l2 :: .box B 140 #[.pointer (some ⟨b, o, none⟩)] :: j0 :: j1 :: j2 :: j3 :: L0) := ((((((((((hL15.front 4 rfl).front 4 rfl).front 4 rfl).front 4 rfl).front 9 rfl).front 9 rfl).front 9 rfl).front 7 rfl).front 9 rfl).front 9 rfl)
      refine yRun Wd.wide (fun c h => by cases h) (xNot rfl) (yNil (wIfF rfl (wSkip (wReg (sRun (xAdd64 rfl rfl (by omega) (by omega)) (sRun (xMvI rfl) (sNil ?_)))))))
      exact ⟨l0.length - (k15 + 1), by omega, k15 + 1, rfl, by omega, ⟨rfl, rfl, rfl, rfl, rfl, rfl, rfl, rfl, trivial⟩, hL⟩
     ·obtain rfl : k15 = l0.length := by omega
      rw [cur_end] at hL
      refine wSeq (wReg (sRun (xLssF rfl rfl (by omega)) (sNil (wSeq (wIfF rfl (wExit ?_))))))
      exact ⟨⟨rfl, rfl, rfl, rfl, rfl, rfl, trivial⟩, hL⟩
    ·clear hL
     rintro f w ⟨hf, hL⟩
     obtain ⟨g, rfl⟩ := has_updL _ _ hf
     clear hf
     refine wReg (sRun (xAddK (c := (1 : Int)) rfl rfl (by decide) (by decide) (by decide)) (sRun (xMvI rfl) (sNil (wRnd (wSeq (wReg (sRun (xLssT rfl rfl (by omega)) (sNil (wSeq (wIfT rfl (wSkip (wSeq (wBlock ?_)))))))))))))
     refine wSeq (wReg (sRun (xIdx1 1 Try.underlying87 ti37 rfl rfl rfl (by decide)) (sRun (xLoad Try.underlying37 rfl rfl ((hL.bk 0 rfl).cell (i := 1) rfl)) (sRun (xAsS rfl) (sNil (wSeq (wReg (sRun (xMvS rfl) (sRun (xLen Try.underlying37 rfl) (sRun (xMvI rfl) (sNil (wJ (fun f w => Has f [(0, .func (.yield l) #[] #[]), (1, .pointer (some ⟨B, 0, none⟩)), (4, .slice A1 l1.length c1), (36, .slice (some ⟨b14, 0, none⟩) 3 3), (37, .int .i64 (3 : Int)), (38, .int .i64 (1 : Int))] ∧ Bx w0 w (.box b14 37 #[.slice A0 l0.length c0, .slice A1 l1.length c1, .slice A2 l2.length c2] :: T [.int .i64 k, .int .i64 a, .int .i64 n, .slice A0 l0.length c0, .int .i64 e1, .slice A1 l1.length c1, .int .i64 e2, .slice A2 l2.length c2] :: .ints A0 c0 3 l0.length (l0.map φ) :: .ints A1 c1 3 l1.length (l1.map φ) :: .ints A2 c2 3 l2.length l2 :: .box B 140 #[.pointer (some ⟨b, o, none⟩)] :: j0 :: j1 :: j2 :: j3 :: L0)) ?_ ?_))))))))))))
     ·refine wBlock ?_
      have hcap16 : l1.length ≤ 9223372036854775807 := by have := (hL.bo 3 rfl).cap; simp only [maxLen] at *; omega
      refine wLoopG (fun m f w => ∃ k16 : Nat, m = l1.length - k16 ∧ k16 ≤ l1.length ∧ Has f [(44, .int .i64 ((k16 : Nat) : Int)), (43, .int .i64 ((l1.length : Nat) : Int)), (0, .func (.yield l) #[] #[]), (1, .pointer (some ⟨B, 0, none⟩)), (4, .slice A1 l1.length c1), (36, .slice (some ⟨b14, 0, none⟩) 3 3), (37, .int .i64 (3 : Int)), (38, .int .i64 (1 : Int))] ∧ Bx w0 w (.box b14 37 #[.slice A0 l0.length c0, .slice A1 l1.length c1, .slice A2 l2.length c2] :: T [.int .i64 k, .int .i64 a, .int .i64 n, .slice A0 l0.length c0, .int .i64 e1, .slice A1 l1.length c1, .int .i64 e2, .slice A2 l2.length c2] :: .ints A0 c0 3 l0.length (l0.map φ) :: .ints A1 c1 3 l1.length (cur φ l1 k16) :: .ints A2 c2 3 l2.length l2 :: .box B 140 #[.pointer (some ⟨b, o, none⟩)] :: j0 :: j1 :: j2 :: j3 :: L0)) l1.length ⟨0, (Nat.sub_zero _).symm, Nat.zero_le _, ⟨rfl, rfl, rfl, rfl, rfl, rfl, rfl, rfl, trivial⟩, by rw [cur_zero]; exact hL⟩ ?_
      clear hL
      rintro m f w ⟨k16, rfl, hk16, hf, hL⟩
      obtain ⟨g, rfl⟩ := has_updL _ _ hf
      clear hf
      by_cases hb16 : k16 < l1.length
      ·obtain ⟨g016, rfl⟩ : ∃ g0, A1 = some ⟨g0, 0, none⟩ := (hL.bo 3 rfl).adr (by omega)
       obtain ⟨v16, hv16⟩ : ∃ v, l1[k16]? = some v := ⟨_, List.getElem?_eq_getElem (by omega)⟩
       refine wSeq (wReg (sRun (xLssT rfl rfl (by omega)) (sNil (wSeq (wIfT rfl (wSkip (wSeq (wBlock (wSeq (wReg (sRun (xMvI rfl) (sRun (xAsI rfl) (sNil ?_)))))))))))))
       refine wSeq (wRegY (yRun Wd.wide (fun c h => by cases h) (xMvF rfl) (yRun Wd.wide (fun c h => by cases h) (xMvS rfl) (yRun Wd.wide (fun c h => by cases h) (xMvI rfl) (yRun Wd.wide (fun c h => by cases h) (xIdx1 k16 Try.underlying37 ti3 rfl rfl rfl (by omega)) ?_)))))
       replace hL : Bx w0 w (.ints (some ⟨g016, 0, none⟩) c1 3 l1.length (cur φ l1 k16) :: j0 :: j1 :: j2 :: j3 :: .box b14 37 #[.slice A0 l0.length c0, .slice (some ⟨g016, 0, none⟩) l1.length c1, .slice A2 l2.length c2] :: T [.int .i64 k, .int .i64 a, .int .i64 n, .slice A0 l0.length c0, .int .i64 e1, .slice (some ⟨g016, 0, none⟩) l1.length c1, .int .i64 e2, .slice A2 l2.length c2] :: .ints A0 c0 3 l0.length (l0.map φ) :: .ints A2 c2 3 l2.length l2 :: .box B 140 #[.pointer (some ⟨b, o, none⟩)] :: L0) := ((((((((((hL.front 5 rfl).front 5 rfl).front 4 rfl).front 4 rfl).front 4 rfl).front 9 rfl).front 9 rfl).front 9 rfl).front 9 rfl).front 9 rfl)
       rw [← cur_foc hv16] at hL
       refine yYield rfl rfl (hY (sub (ownT g016 c1 3 l1.length) ((cur φ l1 k16).map (Value.int .i64)) k16 1) g016 (0 + k16) (Slot.sub (T := (ownT g016 c1 3 l1.length)) (cs := ((cur φ l1 k16).map (Value.int .i64))) (Slot.own g016 c1 3 1 l1.length) k16 1 (by rw [List.length_map, cur_len _ _ (by omega)]; omega)) v16 _ _ hL) ?_
       rintro _ w16 ⟨rfl, hL16⟩
       rw [cur_unf hv16] at hL16
       replace hL : Bx w0 w16 (.box b14 37 #[.slice A0 l0.length c0, .slice (some ⟨g016, 0, none⟩) l1.length c1, .slice A2 l2.length c2] :: T [.int .i64 k, .int .i64 a, .int .i64 n, .slice A0 l0.length c0, .int .i64 e1, .slice (some ⟨g016, 0, none⟩) l1.length c1, .int .i64 e2, .slice A2 l2.length c2] :: .ints A0 c0 3 l0.length (l0.map φ) :: .ints (some ⟨g016, 0, none⟩) c1 3 l1.length (cur φ l1 (k16 + 1)) :: .ints A2 c2 3 l2.length l2 :: .box B 140 #[.pointer (some ⟨b, o, none⟩)] :: j0 :: j1 :: j2 :: j3 :: L0) := ((((((((((hL16.front 4 rfl).front 4 rfl).front 4 rfl).front 4 rfl).front 9 rfl).front 9 rfl).front 6 rfl).front 9 rfl).front 9 rfl).front 9 rfl)
       refine yRun Wd.wide (fun c h => by cases h) (xNot rfl) (yNil (wIfF rfl (wSkip (wReg (sRun (xAdd64 rfl rfl (by omega) (by omega)) (sRun (xMvI rfl) (sNil ?_)))))))
       exact ⟨l1.length - (k16 + 1), by omega, k16 + 1, rfl, by omega, ⟨rfl, rfl, rfl, rfl, rfl, rfl, rfl, rfl, trivial⟩, hL⟩
      ·obtain rfl : k16 = l1.length := by omega
       rw [cur_end] at hL
       refine wSeq (wReg (sRun (xLssF rfl rfl (by omega)) (sNil (wSeq (wIfF rfl (wExit ?_))))))
       exact ⟨⟨rfl, rfl, rfl, rfl, rfl, rfl, trivial⟩, hL⟩
     ·clear hL
      rintro f w ⟨hf, hL⟩
      obtain ⟨g, rfl⟩ := has_updL _ _ hf
      clear hf
      refine wReg (sRun (xAddK (c := (2 : Int)) rfl rfl (by decide) (by decide) (by decide)) (sRun (xMvI rfl) (sNil (wRnd (wSeq (wReg (sRun (xLssT rfl rfl (by omega)) (sNil (wSeq (wIfT rfl (wSkip (wSeq (wBlock ?_)))))))))))))
      refine wSeq (wReg (sRun (xIdx1 2 Try.underlying87 ti37 rfl rfl rfl (by decide)) (sRun (xLoad Try.underlying37 rfl rfl ((hL.bk 0 rfl).cell (i := 2) rfl)) (sRun (xAsS rfl) (sNil (wSeq (wReg (sRun (xMvS rfl) (sRun (xLen Try.underlying37 rfl) (sRun (xMvI rfl) (sNil (wJ (fun f w => Has f [(0, .func (.yield l) #[] #[]), (1, .pointer (some ⟨B, 0, none⟩)), (4, .slice A2 l2.length c2), (36, .slice (some ⟨b14, 0, none⟩) 3 3), (37, .int .i64 (3 : Int)), (38, .int .i64 (2 : Int))] ∧ Bx w0 w (.box b14 37 #[.slice A0 l0.length c0, .slice A1 l1.length c1, .slice A2 l2.length c2] :: T [.int .i64 k, .int .i64 a, .int .i64 n, .slice A0 l0.length c0, .int .i64 e1, .slice A1 l1.length c1, .int .i64 e2, .slice A2 l2.length c2] :: .ints A0 c0 3 l0.length (l0.map φ) :: .ints A1 c1 3 l1.length (l1.map φ) :: .ints A2 c2 3 l2.length (l2.map φ) :: .box B 140 #[.pointer (some ⟨b, o, none⟩)] :: j0 :: j1 :: j2 :: j3 :: L0)) ?_ ?_))))))))))))
      ·refine wBlock ?_
       have hcap17 : l2.length ≤ 9223372036854775807 := by have := (hL.bo 4 rfl).cap; simp only [maxLen] at *; omega
       refine wLoopG (fun m f w => ∃ k17 : Nat, m = l2.length - k17 ∧ k17 ≤ l2.length ∧ Has f [(44, .int .i64 ((k17 : Nat) : Int)), (43, .int .i64 ((l2.length : Nat) : Int)), (0, .func (.yield l) #[] #[]), (1, .pointer (some ⟨B, 0, none⟩)), (4, .slice A2 l2.length c2), (36, .slice (some ⟨b14, 0, none⟩) 3 3), (37, .int .i64 (3 : Int)), (38, .int .i64 (2 : Int))] ∧ Bx w0 w (.box b14 37 #[.slice A0 l0.length c0, .slice A1 l1.length c1, .slice A2 l2.length c2] :: T [.int .i64 k, .int .i64 a, .int .i64 n, .slice A0 l0.length c0, .int .i64 e1, .slice A1 l1.length c1, .int .i64 e2, .slice A2 l2.length c2] :: .ints A0 c0 3 l0.length (l0.map φ) :: .ints A1 c1 3 l1.length (l1.map φ) :: .ints A2 c2 3 l2.length (cur φ l2 k17) :: .box B 140 #[.pointer (some ⟨b, o, none⟩)] :: j0 :: j1 :: j2 :: j3 :: L0)) l2.length ⟨0, (Nat.sub_zero _).symm, Nat.zero_le _, ⟨rfl, rfl, rfl, rfl, rfl, rfl, rfl, rfl, trivial⟩, by rw [cur_zero]; exact hL⟩ ?_
       clear hL
       rintro m f w ⟨k17, rfl, hk17, hf, hL⟩
       obtain ⟨g, rfl⟩ := has_updL _ _ hf
       clear hf
       by_cases hb17 : k17 < l2.length
       ·obtain ⟨g017, rfl⟩ : ∃ g0, A2 = some ⟨g0, 0, none⟩ := (hL.bo 4 rfl).adr (by omega)
        obtain ⟨v17, hv17⟩ : ∃ v, l2[k17]? = some v := ⟨_, List.getElem?_eq_getElem (by omega)⟩
        refine wSeq (wReg (sRun (xLssT rfl rfl (by omega)) (sNil (wSeq (wIfT rfl (wSkip (wSeq (wBlock (wSeq (wReg (sRun (xMvI rfl) (sRun (xAsI rfl) (sNil ?_)))))))))))))
        refine wSeq (wRegY (yRun Wd.wide (fun c h => by cases h) (xMvF rfl) (yRun Wd.wide (fun c h => by cases h) (xMvS rfl) (yRun Wd.wide (fun c h => by cases h) (xMvI rfl) (yRun Wd.wide (fun c h => by cases h) (xIdx1 k17 Try.underlying37 ti3 rfl rfl rfl (by omega)) ?_)))))
        replace hL : Bx w0 w (.ints (some ⟨g017, 0, none⟩) c2 3 l2.length (cur φ l2 k17) :: j0 :: j1 :: j2 :: j3 :: .box b14 37 #[.slice A0 l0.length c0, .slice A1 l1.length c1, .slice (some ⟨g017, 0, none⟩) l2.length c2] :: T [.int .i64 k, .int .i64 a, .int .i64 n, .slice A0 l0.length c0, .int .i64 e1, .slice A1 l1.length c1, .int .i64 e2, .slice (some ⟨g017, 0, none⟩) l2.length c2] :: .ints A0 c0 3 l0.length (l0.map φ) :: .ints A1 c1 3 l1.length (l1.map φ) :: .box B 140 #[.pointer (some ⟨b, o, none⟩)] :: L0) := ((((((((((hL.front 5 rfl).front 4 rfl).front 4 rfl).front 4 rfl).front 4 rfl).front 9 rfl).front 9 rfl).front 9 rfl).front 9 rfl).front 9 rfl)
        rw [← cur_foc hv17] at hL
        refine yYield rfl rfl (hY (sub (ownT g017 c2 3 l2.length) ((cur φ l2 k17).map (Value.int .i64)) k17 1) g017 (0 + k17) (Slot.sub (T := (ownT g017 c2 3 l2.length)) (cs := ((cur φ l2 k17).map (Value.int .i64))) (Slot.own g017 c2 3 1 l2.length) k17 1 (by rw [List.length_map, cur_len _ _ (by omega)]; omega)) v17 _ _ hL) ?_
        rintro _ w17 ⟨rfl, hL17⟩
        rw [cur_unf hv17] at hL17
        replace hL : Bx w0 w17 (.box b14 37 #[.slice A0 l0.length c0, .slice A1 l1.length c1, .slice (some ⟨g017, 0, none⟩) l2.length c2] :: T [.int .i64 k, .int .i64 a, .int .i64 n, .slice A0 l0.length c0, .int .i64 e1, .slice A1 l1.length c1, .int .i64 e2, .slice (some ⟨g017, 0, none⟩) l2.length c2] :: .ints A0 c0 3 l0.length (l0.map φ) :: .ints A1 c1 3 l1.length (l1.map φ) :: .ints (some ⟨g017, 0, none⟩) c2 3 l2.length (cur φ l2 (k17 + 1)) :: .box B 140 #[.pointer (some ⟨b, o, none⟩)] :: j0 :: j1 :: j2 :: j3 :: L0) := ((((((((((hL17.front 4 rfl).front 4 rfl).front 4 rfl).front 4 rfl).front 9 rfl).front 5 rfl).front 9 rfl).front 9 rfl).front 9 rfl).front 9 rfl)
        refine yRun Wd.wide (fun c h => by cases h) (xNot rfl) (yNil (wIfF rfl (wSkip (wReg (sRun (xAdd64 rfl rfl (by omega) (by omega)) (sRun (xMvI rfl) (sNil ?_)))))))
        exact ⟨l2.length - (k17 + 1), by omega, k17 + 1, rfl, by omega, ⟨rfl, rfl, rfl, rfl, rfl, rfl, rfl, rfl, trivial⟩, hL⟩
       ·obtain rfl : k17 = l2.length := by omega
        rw [cur_end] at hL
        refine wSeq (wReg (sRun (xLssF rfl rfl (by omega)) (sNil (wSeq (wIfF rfl (wExit ?_))))))
        exact ⟨⟨rfl, rfl, rfl, rfl, rfl, rfl, trivial⟩, hL⟩
      ·clear hL
       rintro f w ⟨hf, hL⟩
       obtain ⟨g, rfl⟩ := has_updL _ _ hf
       clear hf
       refine wReg (sRun (xAddK (c := (3 : Int)) rfl rfl (by decide) (by decide) (by decide)) (sRun (xMvI rfl) (sNil (wRnd (wSeq (wReg (sRun (xLssF rfl rfl (by omega)) (sNil (wSeq (wIfF rfl (wExit ?_)))))))))))
       subst hM
       refine res0 (P := Try.prog) (fn := Try.f163) rfl ?_
       exact ⟨rfl, hL.tl⟩

end Go.Proofs.Ytbpccmnalhdpmaa
