/- Contracts, printed by gen4.py. -/
import Derived.Test.YtbpccmnalhdpmaaGf
import Derived.Test.YtbpccmnalhdpmaaEq
set_option linter.unusedVariables false
set_option linter.unusedSimpArgs false
set_option maxRecDepth 4000
namespace Go.Proofs.Ytbpccmnalhdpmaa
open Go.RowKit Go.Fw
def m_same_List_api_Context_L0 (a0 : (List GContext)) (a1 : (List GContext)) : Nat → Int → Lp (Unit) (Bool)
  | 0, _ => .go ()
  | n4 + 1, i4 =>
  if ¬ [(a0[(i4).toNat]?.getD (⟨(0 : Int), (0 : Int), (0 : Int)⟩ : GContext)).Parent, (a0[(i4).toNat]?.getD (⟨(0 : Int), (0 : Int), (0 : Int)⟩ : GContext)).Stmt, (a0[(i4).toNat]?.getD (⟨(0 : Int), (0 : Int), (0 : Int)⟩ : GContext)).Func] = [(a1[(i4).toNat]?.getD (⟨(0 : Int), (0 : Int), (0 : Int)⟩ : GContext)).Parent, (a1[(i4).toNat]?.getD (⟨(0 : Int), (0 : Int), (0 : Int)⟩ : GContext)).Stmt, (a1[(i4).toNat]?.getD (⟨(0 : Int), (0 : Int), (0 : Int)⟩ : GContext)).Func] then
   .out (false)
  else
   m_same_List_api_Context_L0 a0 a1 n4 (i4 + 1)
def m_same_List_api_Context (a0 : (List GContext)) (a1 : (List GContext)) : Bool :=
 if ((a0.length : Nat) : Int) ≠ ((a1.length : Nat) : Int) then
  false
 else
  (m_same_List_api_Context_L0 a0 a1 (((a0.length : Nat) : Int) - (0 : Int)).toNat (0 : Int)).el (fun _ =>
   true
    ) (fun o => o)
set_option maxHeartbeats 12800000 in
theorem sp_m_same_List_api_Context (w0 : World) (a0 : (Lst GContext)) (h0 : Dat.ok (fun _ => True) w0 a0) (a1 : (Lst GContext)) (h1 : Dat.ok (fun _ => True) w0 a1) : Calls Try.prog 34 #[.slice a0.a a0.l.length a0.c, .slice a1.a a1.l.length a1.c] w0 (Ret fun v w => v = .bool (m_same_List_api_Context a0.l a1.l) ∧ Ext w0 w) := by
  obtain ⟨X, hM⟩ : ∃ X, m_same_List_api_Context a0.l a1.l = X := ⟨_, rfl⟩
  rw [hM]
  unfold m_same_List_api_Context at hM
  try simp only [er1, er2, er3, er4, er5, er6, er7, er8, er9, er10, er11, er12, er13, er14, er15, er16, er17, List.length_map] at hM
  have hL : Bx w0 w0 [] := Bx.nil
  refine calls_of Try.func34 rfl (Nat.le_of_ble_eq_true rfl) (by kernel_rfl) ?_
  refine wCut [(0, .slice a0.a a0.l.length a0.c), (1, .slice a1.a a1.l.length a1.c)] ⟨rfl, rfl, trivial⟩ fun g => ?_
  refine wSeq (wReg (sRun (xAsB rfl) (sNil (wSeq (wSeq (wReg (sRun (xMvS rfl) ?_)))))))
  have hl1 : a0.l.length * 24 ≤ 140737488355328 := Lst.bd h0
  refine sRun (xLnL (s := a0) Try.underlying23 rfl) (sRun (xMvS rfl) ?_)
  have hl2 : a1.l.length * 24 ≤ 140737488355328 := Lst.bd h1
  refine sRun (xLnL (s := a1) Try.underlying23 rfl) (sRun (xNeqD rfl rfl) (sNil ?_))
  by_cases h3 : ((a0.l.length : Nat) : Int) ≠ ((a1.l.length : Nat) : Int)
  ·try rw [decide_eq_true h3]
   rw [if_pos h3] at hM
   refine wIfT rfl (wSeq (wReg (sRun (xAsB rfl) (sNil (wRet ?_)))))
   subst hM
   refine res1 (P := Try.prog) (fn := Try.f34) rfl ?_
   exact ⟨rfl, hL.1⟩
  ·try rw [decide_eq_false h3]
   rw [if_neg h3] at hM
   refine wIfF rfl (wSkip (wSeq (wSeq (wReg (sRun (xAsI rfl) (sNil ?_))))))
   obtain ⟨Y4, hY4⟩ : ∃ Y, m_same_List_api_Context_L0 a0.l a1.l (((a0.l.length : Nat) : Int) - (0 : Int)).toNat (0 : Int) = Y := ⟨_, rfl⟩
   rw [hY4] at hM
   refine wJ (fun f w => Has f [(0, .slice a0.a a0.l.length a0.c), (1, .slice a1.a a1.l.length a1.c)] ∧ Bx w0 w [] ∧ Lp.go () = Y4) ?_ ?_
   ·refine wBlock (wLoopG (fun n f w => ∃ (i4 : Int), n = (((a0.l.length : Nat) : Int) - i4).toNat ∧ (0 : Int) ≤ i4 ∧ (i4 ≤ ((a0.l.length : Nat) : Int) ∨ i4 = (0 : Int)) ∧ Has f [(5, .int .i64 i4), (0, .slice a0.a a0.l.length a0.c), (1, .slice a1.a a1.l.length a1.c)] ∧ Bx w0 w [] ∧ m_same_List_api_Context_L0 a0.l a1.l n i4 = Y4) (((a0.l.length : Nat) : Int) - (0 : Int)).toNat ⟨(0 : Int), rfl, Int.le_refl _, Or.inr rfl, ⟨rfl, rfl, rfl, trivial⟩, hL, hY4⟩ ?_)
    clear hL hY4
    rintro n4 f w ⟨i4, hn4, hk4, hj4, hf, hL, hY4⟩
    obtain ⟨g, rfl⟩ := has_updL _ _ hf
    clear hf
    by_cases hk4b : i4 < ((a0.l.length : Nat) : Int)
    ·obtain ⟨m4, rfl⟩ : ∃ m, n4 = m + 1 := ⟨n4 - 1, by omega⟩
     rw [m_same_List_api_Context_L0] at hY4
     try simp only [er1, er2, er3, er4, er5, er6, er7, er8, er9, er10, er11, er12, er13, er14, er15, er16, er17, List.length_map] at hY4
     refine wSeq (wSeq (wReg (sRun (xMvI rfl) (sRun (xMvS rfl) (sRun (xLnL (s := a0) Try.underlying23 rfl) (sRun (xLssT rfl rfl (by omega)) (sNil (wIfT rfl (wSkip (wSeq (wBlock (wSeq ?_))))))))))))
     replace hL := hL.drew
     refine wDraw (fun wS => Bx w0 wS []) [] (by kernel_rfl) (hTake 0 rfl (by kernel_rfl) rfl (fun wS => (xMvS rfl)) (sl_of hL) (hTake 1 rfl (by kernel_rfl) rfl (fun wS => (xMvI rfl)) (sl_of hL) ?_))
     obtain ⟨x5, hx5⟩ := get_ex (l := a0.l) (k := (i4).toNat) (by omega)
     try rw [show a0.l[(i4).toNat]?.getD (⟨(0 : Int), (0 : Int), (0 : Int)⟩ : GContext) = x5 from getD_of hx5] at hY4
     try simp only [er1, er2, er3, er4, er5, er6, er7, er8, er9, er10, er11, er12, er13, er14, er15, er16, er17, List.length_map] at hY4
     refine hTake 2 rfl (by kernel_rfl) rfl (fun wS => (xIdL Try.underlying23 ti69 rfl rfl (by omega) h0 hx5)) (sl_of hL) (hTakeS 3 rfl (by kernel_rfl) (by kernel_rfl) rfl (fun wS hS => (xLoadS (GContext.cells x5) Try.underlying69 rfl ti69 rfl rfl ((Lst.el h0 hx5).ext hS.1))) (sl_of hL) (hTake 4 rfl (by kernel_rfl) rfl (fun wS => (xMvS rfl)) (sl_of hL) (hTake 5 rfl (by kernel_rfl) rfl (fun wS => (xMvI rfl)) (sl_of hL) ?_)))
     obtain ⟨x6, hx6⟩ := get_ex (l := a1.l) (k := (i4).toNat) (by omega)
     try rw [show a1.l[(i4).toNat]?.getD (⟨(0 : Int), (0 : Int), (0 : Int)⟩ : GContext) = x6 from getD_of hx6] at hY4
     try simp only [er1, er2, er3, er4, er5, er6, er7, er8, er9, er10, er11, er12, er13, er14, er15, er16, er17, List.length_map] at hY4
     refine hTake 6 rfl (by kernel_rfl) rfl (fun wS => (xIdL Try.underlying23 ti69 rfl rfl (by omega) h1 hx6)) (sl_of hL) (hTakeS 7 rfl (by kernel_rfl) (by kernel_rfl) rfl (fun wS hS => (xLoadS (GContext.cells x6) Try.underlying69 rfl ti69 rfl rfl ((Lst.el h1 hx6).ext hS.1))) (sl_of hL) (hTake 8 rfl (by kernel_rfl) rfl (fun wS => (xAgNe3 Try.underlying69 (by kernel_rfl) (by kernel_rfl) (by kernel_rfl) rfl rfl)) (sl_of hL) (hDone (by kernel_rfl) ?_)))
     by_cases h7 : ¬ [x5.Parent, x5.Stmt, x5.Func] = [x6.Parent, x6.Stmt, x6.Func]
     ·try rw [decide_eq_true h7]
      rw [if_pos h7] at hY4
      refine wIfT rfl (wSeq (wReg (sRun (xAsB rfl) (sNil (wRet ?_)))))
      subst hY4
      rw [Lp.el_out] at hM
      try dsimp only at hM
      subst hM
      refine res1 (P := Try.prog) (fn := Try.f34) rfl ?_
      exact ⟨rfl, hL.1⟩
     ·try rw [decide_eq_false h7]
      rw [if_neg h7] at hY4
      refine wIfF rfl (wSkip (wReg (sRun (xMvI rfl) (sRun (xAdd64 rfl rfl (by omega) (by omega)) (sRun (xAsI rfl) (sNil ?_))))))
      exact ⟨m4, by omega, (i4 + 1), by omega, by omega, Or.inl (by omega), ⟨rfl, rfl, rfl, trivial⟩, hL, hY4⟩
    ·obtain rfl : n4 = 0 := by omega
     rw [m_same_List_api_Context_L0] at hY4
     refine wSeq (wSeq (wReg (sRun (xMvI rfl) (sRun (xMvS rfl) (sRun (xLnL (s := a0) Try.underlying23 rfl) (sRun (xLssF rfl rfl (by omega)) (sNil (wIfF rfl (wExit ?_)))))))))
     exact ⟨⟨rfl, rfl, trivial⟩, hL, hY4⟩
   ·clear hL
    rintro f w ⟨hf, hL, hZ4⟩
    obtain ⟨g, rfl⟩ := has_updL _ _ hf
    clear hf
    subst hZ4
    rw [Lp.el_go] at hM
    try dsimp only at hM
    refine wSeq (wReg (sRun (xAsB rfl) (sNil (wRet ?_))))
    subst hM
    refine res1 (P := Try.prog) (fn := Try.f34) rfl ?_
    exact ⟨rfl, hL.1⟩

def m_same_List_api_Object_L0 (a0 : (List GObject)) (a1 : (List GObject)) : Nat → Int → Lp (Unit) (Bool)
  | 0, _ => .go ()
  | n4 + 1, i4 =>
  if ¬ [(a0[(i4).toNat]?.getD (⟨(0 : Int), (0 : Int), (0 : Int)⟩ : GObject)).Ctx, (a0[(i4).toNat]?.getD (⟨(0 : Int), (0 : Int), (0 : Int)⟩ : GObject)).Var, (a0[(i4).toNat]?.getD (⟨(0 : Int), (0 : Int), (0 : Int)⟩ : GObject)).Words] = [(a1[(i4).toNat]?.getD (⟨(0 : Int), (0 : Int), (0 : Int)⟩ : GObject)).Ctx, (a1[(i4).toNat]?.getD (⟨(0 : Int), (0 : Int), (0 : Int)⟩ : GObject)).Var, (a1[(i4).toNat]?.getD (⟨(0 : Int), (0 : Int), (0 : Int)⟩ : GObject)).Words] then
   .out (false)
  else
   m_same_List_api_Object_L0 a0 a1 n4 (i4 + 1)
def m_same_List_api_Object (a0 : (List GObject)) (a1 : (List GObject)) : Bool :=
 if ((a0.length : Nat) : Int) ≠ ((a1.length : Nat) : Int) then
  false
 else
  (m_same_List_api_Object_L0 a0 a1 (((a0.length : Nat) : Int) - (0 : Int)).toNat (0 : Int)).el (fun _ =>
   true
    ) (fun o => o)
set_option maxHeartbeats 12800000 in
theorem sp_m_same_List_api_Object (w0 : World) (a0 : (Lst GObject)) (h0 : Dat.ok (fun _ => True) w0 a0) (a1 : (Lst GObject)) (h1 : Dat.ok (fun _ => True) w0 a1) : Calls Try.prog 35 #[.slice a0.a a0.l.length a0.c, .slice a1.a a1.l.length a1.c] w0 (Ret fun v w => v = .bool (m_same_List_api_Object a0.l a1.l) ∧ Ext w0 w) := by
  obtain ⟨X, hM⟩ : ∃ X, m_same_List_api_Object a0.l a1.l = X := ⟨_, rfl⟩
  rw [hM]
  unfold m_same_List_api_Object at hM
  try simp only [er1, er2, er3, er4, er5, er6, er7, er8, er9, er10, er11, er12, er13, er14, er15, er16, er17, List.length_map] at hM
  have hL : Bx w0 w0 [] := Bx.nil
  refine calls_of Try.func35 rfl (Nat.le_of_ble_eq_true rfl) (by kernel_rfl) ?_
  refine wCut [(0, .slice a0.a a0.l.length a0.c), (1, .slice a1.a a1.l.length a1.c)] ⟨rfl, rfl, trivial⟩ fun g => ?_
  refine wSeq (wReg (sRun (xAsB rfl) (sNil (wSeq (wSeq (wReg (sRun (xMvS rfl) ?_)))))))
  have hl1 : a0.l.length * 24 ≤ 140737488355328 := Lst.bd h0
  refine sRun (xLnL (s := a0) Try.underlying24 rfl) (sRun (xMvS rfl) ?_)
  have hl2 : a1.l.length * 24 ≤ 140737488355328 := Lst.bd h1
  refine sRun (xLnL (s := a1) Try.underlying24 rfl) (sRun (xNeqD rfl rfl) (sNil ?_))
  by_cases h3 : ((a0.l.length : Nat) : Int) ≠ ((a1.l.length : Nat) : Int)
  ·try rw [decide_eq_true h3]
   rw [if_pos h3] at hM
   refine wIfT rfl (wSeq (wReg (sRun (xAsB rfl) (sNil (wRet ?_)))))
   subst hM
   refine res1 (P := Try.prog) (fn := Try.f35) rfl ?_
   exact ⟨rfl, hL.1⟩
  ·try rw [decide_eq_false h3]
   rw [if_neg h3] at hM
   refine wIfF rfl (wSkip (wSeq (wSeq (wReg (sRun (xAsI rfl) (sNil ?_))))))
   obtain ⟨Y4, hY4⟩ : ∃ Y, m_same_List_api_Object_L0 a0.l a1.l (((a0.l.length : Nat) : Int) - (0 : Int)).toNat (0 : Int) = Y := ⟨_, rfl⟩
   rw [hY4] at hM
   refine wJ (fun f w => Has f [(0, .slice a0.a a0.l.length a0.c), (1, .slice a1.a a1.l.length a1.c)] ∧ Bx w0 w [] ∧ Lp.go () = Y4) ?_ ?_
   ·refine wBlock (wLoopG (fun n f w => ∃ (i4 : Int), n = (((a0.l.length : Nat) : Int) - i4).toNat ∧ (0 : Int) ≤ i4 ∧ (i4 ≤ ((a0.l.length : Nat) : Int) ∨ i4 = (0 : Int)) ∧ Has f [(5, .int .i64 i4), (0, .slice a0.a a0.l.length a0.c), (1, .slice a1.a a1.l.length a1.c)] ∧ Bx w0 w [] ∧ m_same_List_api_Object_L0 a0.l a1.l n i4 = Y4) (((a0.l.length : Nat) : Int) - (0 : Int)).toNat ⟨(0 : Int), rfl, Int.le_refl _, Or.inr rfl, ⟨rfl, rfl, rfl, trivial⟩, hL, hY4⟩ ?_)
    clear hL hY4
    rintro n4 f w ⟨i4, hn4, hk4, hj4, hf, hL, hY4⟩
    obtain ⟨g, rfl⟩ := has_updL _ _ hf
    clear hf
    by_cases hk4b : i4 < ((a0.l.length : Nat) : Int)
    ·obtain ⟨m4, rfl⟩ : ∃ m, n4 = m + 1 := ⟨n4 - 1, by omega⟩
     rw [m_same_List_api_Object_L0] at hY4
     try simp only [er1, er2, er3, er4, er5, er6, er7, er8, er9, er10, er11, er12, er13, er14, er15, er16, er17, List.length_map] at hY4
     refine wSeq (wSeq (wReg (sRun (xMvI rfl) (sRun (xMvS rfl) (sRun (xLnL (s := a0) Try.underlying24 rfl) (sRun (xLssT rfl rfl (by omega)) (sNil (wIfT rfl (wSkip (wSeq (wBlock (wSeq ?_))))))))))))
     replace hL := hL.drew
     refine wDraw (fun wS => Bx w0 wS []) [] (by kernel_rfl) (hTake 0 rfl (by kernel_rfl) rfl (fun wS => (xMvS rfl)) (sl_of hL) (hTake 1 rfl (by kernel_rfl) rfl (fun wS => (xMvI rfl)) (sl_of hL) ?_))
     obtain ⟨x5, hx5⟩ := get_ex (l := a0.l) (k := (i4).toNat) (by omega)
     try rw [show a0.l[(i4).toNat]?.getD (⟨(0 : Int), (0 : Int), (0 : Int)⟩ : GObject) = x5 from getD_of hx5] at hY4
     try simp only [er1, er2, er3, er4, er5, er6, er7, er8, er9, er10, er11, er12, er13, er14, er15, er16, er17, List.length_map] at hY4
     refine hTake 2 rfl (by kernel_rfl) rfl (fun wS => (xIdL Try.underlying24 ti72 rfl rfl (by omega) h0 hx5)) (sl_of hL) (hTakeS 3 rfl (by kernel_rfl) (by kernel_rfl) rfl (fun wS hS => (xLoadS (GObject.cells x5) Try.underlying72 rfl ti72 rfl rfl ((Lst.el h0 hx5).ext hS.1))) (sl_of hL) (hTake 4 rfl (by kernel_rfl) rfl (fun wS => (xMvS rfl)) (sl_of hL) (hTake 5 rfl (by kernel_rfl) rfl (fun wS => (xMvI rfl)) (sl_of hL) ?_)))
     obtain ⟨x6, hx6⟩ := get_ex (l := a1.l) (k := (i4).toNat) (by omega)
     try rw [show a1.l[(i4).toNat]?.getD (⟨(0 : Int), (0 : Int), (0 : Int)⟩ : GObject) = x6 from getD_of hx6] at hY4
     try simp only [er1, er2, er3, er4, er5, er6, er7, er8, er9, er10, er11, er12, er13, er14, er15, er16, er17, List.length_map] at hY4
     refine hTake 6 rfl (by kernel_rfl) rfl (fun wS => (xIdL Try.underlying24 ti72 rfl rfl (by omega) h1 hx6)) (sl_of hL) (hTakeS 7 rfl (by kernel_rfl) (by kernel_rfl) rfl (fun wS hS => (xLoadS (GObject.cells x6) Try.underlying72 rfl ti72 rfl rfl ((Lst.el h1 hx6).ext hS.1))) (sl_of hL) (hTake 8 rfl (by kernel_rfl) rfl (fun wS => (xAgNe3 Try.underlying72 (by kernel_rfl) (by kernel_rfl) (by kernel_rfl) rfl rfl)) (sl_of hL) (hDone (by kernel_rfl) ?_)))
     by_cases h7 : ¬ [x5.Ctx, x5.Var, x5.Words] = [x6.Ctx, x6.Var, x6.Words]
     ·try rw [decide_eq_true h7]
      rw [if_pos h7] at hY4
      refine wIfT rfl (wSeq (wReg (sRun (xAsB rfl) (sNil (wRet ?_)))))
      subst hY4
      rw [Lp.el_out] at hM
      try dsimp only at hM
      subst hM
      refine res1 (P := Try.prog) (fn := Try.f35) rfl ?_
      exact ⟨rfl, hL.1⟩
     ·try rw [decide_eq_false h7]
      rw [if_neg h7] at hY4
      refine wIfF rfl (wSkip (wReg (sRun (xMvI rfl) (sRun (xAdd64 rfl rfl (by omega) (by omega)) (sRun (xAsI rfl) (sNil ?_))))))
      exact ⟨m4, by omega, (i4 + 1), by omega, by omega, Or.inl (by omega), ⟨rfl, rfl, rfl, trivial⟩, hL, hY4⟩
    ·obtain rfl : n4 = 0 := by omega
     rw [m_same_List_api_Object_L0] at hY4
     refine wSeq (wSeq (wReg (sRun (xMvI rfl) (sRun (xMvS rfl) (sRun (xLnL (s := a0) Try.underlying24 rfl) (sRun (xLssF rfl rfl (by omega)) (sNil (wIfF rfl (wExit ?_)))))))))
     exact ⟨⟨rfl, rfl, trivial⟩, hL, hY4⟩
   ·clear hL
    rintro f w ⟨hf, hL, hZ4⟩
    obtain ⟨g, rfl⟩ := has_updL _ _ hf
    clear hf
    subst hZ4
    rw [Lp.el_go] at hM
    try dsimp only at hM
    refine wSeq (wReg (sRun (xAsB rfl) (sNil (wRet ?_))))
    subst hM
    refine res1 (P := Try.prog) (fn := Try.f35) rfl ?_
    exact ⟨rfl, hL.1⟩

def m_same_List_api_Op_L0 (a0 : (List GOp)) (a1 : (List GOp)) : Nat → Int → Lp (Unit) (Bool)
  | 0, _ => .go ()
  | n4 + 1, i4 =>
  if ¬ [(a0[(i4).toNat]?.getD (⟨(0 : Int), (0 : Int), (0 : Int), (0 : Int), (0 : Int), (0 : Int), (0 : Int), (0 : Int), (⟨(0 : Int), (0 : Int), (0 : Int)⟩ : GSrc)⟩ : GOp)).Kind, (a0[(i4).toNat]?.getD (⟨(0 : Int), (0 : Int), (0 : Int), (0 : Int), (0 : Int), (0 : Int), (0 : Int), (0 : Int), (⟨(0 : Int), (0 : Int), (0 : Int)⟩ : GSrc)⟩ : GOp)).Dst, (a0[(i4).toNat]?.getD (⟨(0 : Int), (0 : Int), (0 : Int), (0 : Int), (0 : Int), (0 : Int), (0 : Int), (0 : Int), (⟨(0 : Int), (0 : Int), (0 : Int)⟩ : GSrc)⟩ : GOp)).A, (a0[(i4).toNat]?.getD (⟨(0 : Int), (0 : Int), (0 : Int), (0 : Int), (0 : Int), (0 : Int), (0 : Int), (0 : Int), (⟨(0 : Int), (0 : Int), (0 : Int)⟩ : GSrc)⟩ : GOp)).B, (a0[(i4).toNat]?.getD (⟨(0 : Int), (0 : Int), (0 : Int), (0 : Int), (0 : Int), (0 : Int), (0 : Int), (0 : Int), (⟨(0 : Int), (0 : Int), (0 : Int)⟩ : GSrc)⟩ : GOp)).N, (a0[(i4).toNat]?.getD (⟨(0 : Int), (0 : Int), (0 : Int), (0 : Int), (0 : Int), (0 : Int), (0 : Int), (0 : Int), (⟨(0 : Int), (0 : Int), (0 : Int)⟩ : GSrc)⟩ : GOp)).Ctx, (a0[(i4).toNat]?.getD (⟨(0 : Int), (0 : Int), (0 : Int), (0 : Int), (0 : Int), (0 : Int), (0 : Int), (0 : Int), (⟨(0 : Int), (0 : Int), (0 : Int)⟩ : GSrc)⟩ : GOp)).Var, (a0[(i4).toNat]?.getD (⟨(0 : Int), (0 : Int), (0 : Int), (0 : Int), (0 : Int), (0 : Int), (0 : Int), (0 : Int), (⟨(0 : Int), (0 : Int), (0 : Int)⟩ : GSrc)⟩ : GOp)).Piece, (a0[(i4).toNat]?.getD (⟨(0 : Int), (0 : Int), (0 : Int), (0 : Int), (0 : Int), (0 : Int), (0 : Int), (0 : Int), (⟨(0 : Int), (0 : Int), (0 : Int)⟩ : GSrc)⟩ : GOp)).Src.Kind, (a0[(i4).toNat]?.getD (⟨(0 : Int), (0 : Int), (0 : Int), (0 : Int), (0 : Int), (0 : Int), (0 : Int), (0 : Int), (⟨(0 : Int), (0 : Int), (0 : Int)⟩ : GSrc)⟩ : GOp)).Src.Val, (a0[(i4).toNat]?.getD (⟨(0 : Int), (0 : Int), (0 : Int), (0 : Int), (0 : Int), (0 : Int), (0 : Int), (0 : Int), (⟨(0 : Int), (0 : Int), (0 : Int)⟩ : GSrc)⟩ : GOp)).Src.Add] = [(a1[(i4).toNat]?.getD (⟨(0 : Int), (0 : Int), (0 : Int), (0 : Int), (0 : Int), (0 : Int), (0 : Int), (0 : Int), (⟨(0 : Int), (0 : Int), (0 : Int)⟩ : GSrc)⟩ : GOp)).Kind, (a1[(i4).toNat]?.getD (⟨(0 : Int), (0 : Int), (0 : Int), (0 : Int), (0 : Int), (0 : Int), (0 : Int), (0 : Int), (⟨(0 : Int), (0 : Int), (0 : Int)⟩ : GSrc)⟩ : GOp)).Dst, (a1[(i4).toNat]?.getD (⟨(0 : Int), (0 : Int), (0 : Int), (0 : Int), (0 : Int), (0 : Int), (0 : Int), (0 : Int), (⟨(0 : Int), (0 : Int), (0 : Int)⟩ : GSrc)⟩ : GOp)).A, (a1[(i4).toNat]?.getD (⟨(0 : Int), (0 : Int), (0 : Int), (0 : Int), (0 : Int), (0 : Int), (0 : Int), (0 : Int), (⟨(0 : Int), (0 : Int), (0 : Int)⟩ : GSrc)⟩ : GOp)).B, (a1[(i4).toNat]?.getD (⟨(0 : Int), (0 : Int), (0 : Int), (0 : Int), (0 : Int), (0 : Int), (0 : Int), (0 : Int), (⟨(0 : Int), (0 : Int), (0 : Int)⟩ : GSrc)⟩ : GOp)).N, (a1[(i4).toNat]?.getD (⟨(0 : Int), (0 : Int), (0 : Int), (0 : Int), (0 : Int), (0 : Int), (0 : Int), (0 : Int), (⟨(0 : Int), (0 : Int), (0 : Int)⟩ : GSrc)⟩ : GOp)).Ctx, (a1[(i4).toNat]?.getD (⟨(0 : Int), (0 : Int), (0 : Int), (0 : Int), (0 : Int), (0 : Int), (0 : Int), (0 : Int), (⟨(0 : Int), (0 : Int), (0 : Int)⟩ : GSrc)⟩ : GOp)).Var, (a1[(i4).toNat]?.getD (⟨(0 : Int), (0 : Int), (0 : Int), (0 : Int), (0 : Int), (0 : Int), (0 : Int), (0 : Int), (⟨(0 : Int), (0 : Int), (0 : Int)⟩ : GSrc)⟩ : GOp)).Piece, (a1[(i4).toNat]?.getD (⟨(0 : Int), (0 : Int), (0 : Int), (0 : Int), (0 : Int), (0 : Int), (0 : Int), (0 : Int), (⟨(0 : Int), (0 : Int), (0 : Int)⟩ : GSrc)⟩ : GOp)).Src.Kind, (a1[(i4).toNat]?.getD (⟨(0 : Int), (0 : Int), (0 : Int), (0 : Int), (0 : Int), (0 : Int), (0 : Int), (0 : Int), (⟨(0 : Int), (0 : Int), (0 : Int)⟩ : GSrc)⟩ : GOp)).Src.Val, (a1[(i4).toNat]?.getD (⟨(0 : Int), (0 : Int), (0 : Int), (0 : Int), (0 : Int), (0 : Int), (0 : Int), (0 : Int), (⟨(0 : Int), (0 : Int), (0 : Int)⟩ : GSrc)⟩ : GOp)).Src.Add] then
   .out (false)
  else
   m_same_List_api_Op_L0 a0 a1 n4 (i4 + 1)
def m_same_List_api_Op (a0 : (List GOp)) (a1 : (List GOp)) : Bool :=
 if ((a0.length : Nat) : Int) ≠ ((a1.length : Nat) : Int) then
  false
 else
  (m_same_List_api_Op_L0 a0 a1 (((a0.length : Nat) : Int) - (0 : Int)).toNat (0 : Int)).el (fun _ =>
   true
    ) (fun o => o)
set_option maxHeartbeats 12800000 in
theorem sp_m_same_List_api_Op (w0 : World) (a0 : (Lst GOp)) (h0 : Dat.ok (fun _ => True) w0 a0) (a1 : (Lst GOp)) (h1 : Dat.ok (fun _ => True) w0 a1) : Calls Try.prog 36 #[.slice a0.a a0.l.length a0.c, .slice a1.a a1.l.length a1.c] w0 (Ret fun v w => v = .bool (m_same_List_api_Op a0.l a1.l) ∧ Ext w0 w) := by
  obtain ⟨X, hM⟩ : ∃ X, m_same_List_api_Op a0.l a1.l = X := ⟨_, rfl⟩
  rw [hM]
  unfold m_same_List_api_Op at hM
  try simp only [er1, er2, er3, er4, er5, er6, er7, er8, er9, er10, er11, er12, er13, er14, er15, er16, er17, List.length_map] at hM
  have hL : Bx w0 w0 [] := Bx.nil
  refine calls_of Try.func36 rfl (Nat.le_of_ble_eq_true rfl) (by kernel_rfl) ?_
  refine wCut [(0, .slice a0.a a0.l.length a0.c), (1, .slice a1.a a1.l.length a1.c)] ⟨rfl, rfl, trivial⟩ fun g => ?_
  refine wSeq (wReg (sRun (xAsB rfl) (sNil (wSeq (wSeq (wReg (sRun (xMvS rfl) ?_)))))))
  have hl1 : a0.l.length * 88 ≤ 140737488355328 := Lst.bd h0
  refine sRun (xLnL (s := a0) Try.underlying53 rfl) (sRun (xMvS rfl) ?_)
  have hl2 : a1.l.length * 88 ≤ 140737488355328 := Lst.bd h1
  refine sRun (xLnL (s := a1) Try.underlying53 rfl) (sRun (xNeqD rfl rfl) (sNil ?_))
  by_cases h3 : ((a0.l.length : Nat) : Int) ≠ ((a1.l.length : Nat) : Int)
  ·try rw [decide_eq_true h3]
   rw [if_pos h3] at hM
   refine wIfT rfl (wSeq (wReg (sRun (xAsB rfl) (sNil (wRet ?_)))))
   subst hM
   refine res1 (P := Try.prog) (fn := Try.f36) rfl ?_
   exact ⟨rfl, hL.1⟩
  ·try rw [decide_eq_false h3]
   rw [if_neg h3] at hM
   refine wIfF rfl (wSkip (wSeq (wSeq (wReg (sRun (xAsI rfl) (sNil ?_))))))
   obtain ⟨Y4, hY4⟩ : ∃ Y, m_same_List_api_Op_L0 a0.l a1.l (((a0.l.length : Nat) : Int) - (0 : Int)).toNat (0 : Int) = Y := ⟨_, rfl⟩
   rw [hY4] at hM
   refine wJ (fun f w => Has f [(0, .slice a0.a a0.l.length a0.c), (1, .slice a1.a a1.l.length a1.c)] ∧ Bx w0 w [] ∧ Lp.go () = Y4) ?_ ?_
   ·refine wBlock (wLoopG (fun n f w => ∃ (i4 : Int), n = (((a0.l.length : Nat) : Int) - i4).toNat ∧ (0 : Int) ≤ i4 ∧ (i4 ≤ ((a0.l.length : Nat) : Int) ∨ i4 = (0 : Int)) ∧ Has f [(5, .int .i64 i4), (0, .slice a0.a a0.l.length a0.c), (1, .slice a1.a a1.l.length a1.c)] ∧ Bx w0 w [] ∧ m_same_List_api_Op_L0 a0.l a1.l n i4 = Y4) (((a0.l.length : Nat) : Int) - (0 : Int)).toNat ⟨(0 : Int), rfl, Int.le_refl _, Or.inr rfl, ⟨rfl, rfl, rfl, trivial⟩, hL, hY4⟩ ?_)
    clear hL hY4
    rintro n4 f w ⟨i4, hn4, hk4, hj4, hf, hL, hY4⟩
    obtain ⟨g, rfl⟩ := has_updL _ _ hf
    clear hf
    by_cases hk4b : i4 < ((a0.l.length : Nat) : Int)
    ·obtain ⟨m4, rfl⟩ : ∃ m, n4 = m + 1 := ⟨n4 - 1, by omega⟩
     rw [m_same_List_api_Op_L0] at hY4
     try simp only [er1, er2, er3, er4, er5, er6, er7, er8, er9, er10, er11, er12, er13, er14, er15, er16, er17, List.length_map] at hY4
     refine wSeq (wSeq (wReg (sRun (xMvI rfl) (sRun (xMvS rfl) (sRun (xLnL (s := a0) Try.underlying53 rfl) (sRun (xLssT rfl rfl (by omega)) (sNil (wIfT rfl (wSkip (wSeq (wBlock (wSeq ?_))))))))))))
     replace hL := hL.drew
     refine wDraw (fun wS => Bx w0 wS []) [] (by kernel_rfl) (hTake 0 rfl (by kernel_rfl) rfl (fun wS => (xMvS rfl)) (sl_of hL) (hTake 1 rfl (by kernel_rfl) rfl (fun wS => (xMvI rfl)) (sl_of hL) ?_))
     obtain ⟨x5, hx5⟩ := get_ex (l := a0.l) (k := (i4).toNat) (by omega)
     try rw [show a0.l[(i4).toNat]?.getD (⟨(0 : Int), (0 : Int), (0 : Int), (0 : Int), (0 : Int), (0 : Int), (0 : Int), (0 : Int), (⟨(0 : Int), (0 : Int), (0 : Int)⟩ : GSrc)⟩ : GOp) = x5 from getD_of hx5] at hY4
     try simp only [er1, er2, er3, er4, er5, er6, er7, er8, er9, er10, er11, er12, er13, er14, er15, er16, er17, List.length_map] at hY4
     refine hTake 2 rfl (by kernel_rfl) rfl (fun wS => (xIdL Try.underlying53 ti66 rfl rfl (by omega) h0 hx5)) (sl_of hL) (hTakeS 3 rfl (by kernel_rfl) (by kernel_rfl) rfl (fun wS hS => (xLoadS (GOp.cells x5) Try.underlying66 rfl ti66 rfl rfl ((Lst.el h0 hx5).ext hS.1))) (sl_of hL) (hTake 4 rfl (by kernel_rfl) rfl (fun wS => (xMvS rfl)) (sl_of hL) (hTake 5 rfl (by kernel_rfl) rfl (fun wS => (xMvI rfl)) (sl_of hL) ?_)))
     obtain ⟨x6, hx6⟩ := get_ex (l := a1.l) (k := (i4).toNat) (by omega)
     try rw [show a1.l[(i4).toNat]?.getD (⟨(0 : Int), (0 : Int), (0 : Int), (0 : Int), (0 : Int), (0 : Int), (0 : Int), (0 : Int), (⟨(0 : Int), (0 : Int), (0 : Int)⟩ : GSrc)⟩ : GOp) = x6 from getD_of hx6] at hY4
     try simp only [er1, er2, er3, er4, er5, er6, er7, er8, er9, er10, er11, er12, er13, er14, er15, er16, er17, List.length_map] at hY4
     refine hTake 6 rfl (by kernel_rfl) rfl (fun wS => (xIdL Try.underlying53 ti66 rfl rfl (by omega) h1 hx6)) (sl_of hL) (hTakeS 7 rfl (by kernel_rfl) (by kernel_rfl) rfl (fun wS hS => (xLoadS (GOp.cells x6) Try.underlying66 rfl ti66 rfl rfl ((Lst.el h1 hx6).ext hS.1))) (sl_of hL) (hTake 8 rfl (by kernel_rfl) rfl (fun wS => (xAgNe11 Try.underlying66 (by kernel_rfl) (by kernel_rfl) (by kernel_rfl) rfl rfl)) (sl_of hL) (hDone (by kernel_rfl) ?_)))
     by_cases h7 : ¬ [x5.Kind, x5.Dst, x5.A, x5.B, x5.N, x5.Ctx, x5.Var, x5.Piece, x5.Src.Kind, x5.Src.Val, x5.Src.Add] = [x6.Kind, x6.Dst, x6.A, x6.B, x6.N, x6.Ctx, x6.Var, x6.Piece, x6.Src.Kind, x6.Src.Val, x6.Src.Add]
     ·try rw [decide_eq_true h7]
      rw [if_pos h7] at hY4
      refine wIfT rfl (wSeq (wReg (sRun (xAsB rfl) (sNil (wRet ?_)))))
      subst hY4
      rw [Lp.el_out] at hM
      try dsimp only at hM
      subst hM
      refine res1 (P := Try.prog) (fn := Try.f36) rfl ?_
      exact ⟨rfl, hL.1⟩
     ·try rw [decide_eq_false h7]
      rw [if_neg h7] at hY4
      refine wIfF rfl (wSkip (wReg (sRun (xMvI rfl) (sRun (xAdd64 rfl rfl (by omega) (by omega)) (sRun (xAsI rfl) (sNil ?_))))))
      exact ⟨m4, by omega, (i4 + 1), by omega, by omega, Or.inl (by omega), ⟨rfl, rfl, rfl, trivial⟩, hL, hY4⟩
    ·obtain rfl : n4 = 0 := by omega
     rw [m_same_List_api_Op_L0] at hY4
     refine wSeq (wSeq (wReg (sRun (xMvI rfl) (sRun (xMvS rfl) (sRun (xLnL (s := a0) Try.underlying53 rfl) (sRun (xLssF rfl rfl (by omega)) (sNil (wIfF rfl (wExit ?_)))))))))
     exact ⟨⟨rfl, rfl, trivial⟩, hL, hY4⟩
   ·clear hL
    rintro f w ⟨hf, hL, hZ4⟩
    obtain ⟨g, rfl⟩ := has_updL _ _ hf
    clear hf
    subst hZ4
    rw [Lp.el_go] at hM
    try dsimp only at hM
    refine wSeq (wReg (sRun (xAsB rfl) (sNil (wRet ?_))))
    subst hM
    refine res1 (P := Try.prog) (fn := Try.f36) rfl ?_
    exact ⟨rfl, hL.1⟩

def m_same_List_int_L0 (a0 : (List Int)) (a1 : (List Int)) : Nat → Int → Lp (Unit) (Bool)
  | 0, _ => .go ()
  | n4 + 1, i4 =>
  if (a0[(i4).toNat]?.getD (0 : Int)) ≠ (a1[(i4).toNat]?.getD (0 : Int)) then
   .out (false)
  else
   m_same_List_int_L0 a0 a1 n4 (i4 + 1)
def m_same_List_int (a0 : (List Int)) (a1 : (List Int)) : Bool :=
 if ((a0.length : Nat) : Int) ≠ ((a1.length : Nat) : Int) then
  false
 else
  (m_same_List_int_L0 a0 a1 (((a0.length : Nat) : Int) - (0 : Int)).toNat (0 : Int)).el (fun _ =>
   true
    ) (fun o => o)
set_option maxHeartbeats 12800000 in
theorem sp_m_same_List_int (w0 : World) (a0 : (Lst Int)) (h0 : Dat.ok (fun _ => True) w0 a0) (a1 : (Lst Int)) (h1 : Dat.ok (fun _ => True) w0 a1) : Calls Try.prog 37 #[.slice a0.a a0.l.length a0.c, .slice a1.a a1.l.length a1.c] w0 (Ret fun v w => v = .bool (m_same_List_int a0.l a1.l) ∧ Ext w0 w) := by
  obtain ⟨X, hM⟩ : ∃ X, m_same_List_int a0.l a1.l = X := ⟨_, rfl⟩
  rw [hM]
  unfold m_same_List_int at hM
  try simp only [er1, er2, er3, er4, er5, er6, er7, er8, er9, er10, er11, er12, er13, er14, er15, er16, er17, List.length_map] at hM
  have hL : Bx w0 w0 [] := Bx.nil
  refine calls_of Try.func37 rfl (Nat.le_of_ble_eq_true rfl) (by kernel_rfl) ?_
  refine wCut [(0, .slice a0.a a0.l.length a0.c), (1, .slice a1.a a1.l.length a1.c)] ⟨rfl, rfl, trivial⟩ fun g => ?_
  refine wSeq (wReg (sRun (xAsB rfl) (sNil (wSeq (wSeq (wReg (sRun (xMvS rfl) ?_)))))))
  have hl1 : a0.l.length * 8 ≤ 140737488355328 := Lst.bd h0
  refine sRun (xLnL (s := a0) Try.underlying37 rfl) (sRun (xMvS rfl) ?_)
  have hl2 : a1.l.length * 8 ≤ 140737488355328 := Lst.bd h1
  refine sRun (xLnL (s := a1) Try.underlying37 rfl) (sRun (xNeqD rfl rfl) (sNil ?_))
  by_cases h3 : ((a0.l.length : Nat) : Int) ≠ ((a1.l.length : Nat) : Int)
  ·try rw [decide_eq_true h3]
   rw [if_pos h3] at hM
   refine wIfT rfl (wSeq (wReg (sRun (xAsB rfl) (sNil (wRet ?_)))))
   subst hM
   refine res1 (P := Try.prog) (fn := Try.f37) rfl ?_
   exact ⟨rfl, hL.1⟩
  ·try rw [decide_eq_false h3]
   rw [if_neg h3] at hM
   refine wIfF rfl (wSkip (wSeq (wSeq (wReg (sRun (xAsI rfl) (sNil ?_))))))
   obtain ⟨Y4, hY4⟩ : ∃ Y, m_same_List_int_L0 a0.l a1.l (((a0.l.length : Nat) : Int) - (0 : Int)).toNat (0 : Int) = Y := ⟨_, rfl⟩
   rw [hY4] at hM
   refine wJ (fun f w => Has f [(0, .slice a0.a a0.l.length a0.c), (1, .slice a1.a a1.l.length a1.c)] ∧ Bx w0 w [] ∧ Lp.go () = Y4) ?_ ?_
   ·refine wBlock (wLoopG (fun n f w => ∃ (i4 : Int), n = (((a0.l.length : Nat) : Int) - i4).toNat ∧ (0 : Int) ≤ i4 ∧ (i4 ≤ ((a0.l.length : Nat) : Int) ∨ i4 = (0 : Int)) ∧ Has f [(5, .int .i64 i4), (0, .slice a0.a a0.l.length a0.c), (1, .slice a1.a a1.l.length a1.c)] ∧ Bx w0 w [] ∧ m_same_List_int_L0 a0.l a1.l n i4 = Y4) (((a0.l.length : Nat) : Int) - (0 : Int)).toNat ⟨(0 : Int), rfl, Int.le_refl _, Or.inr rfl, ⟨rfl, rfl, rfl, trivial⟩, hL, hY4⟩ ?_)
    clear hL hY4
    rintro n4 f w ⟨i4, hn4, hk4, hj4, hf, hL, hY4⟩
    obtain ⟨g, rfl⟩ := has_updL _ _ hf
    clear hf
    by_cases hk4b : i4 < ((a0.l.length : Nat) : Int)
    ·obtain ⟨m4, rfl⟩ : ∃ m, n4 = m + 1 := ⟨n4 - 1, by omega⟩
     rw [m_same_List_int_L0] at hY4
     try simp only [er1, er2, er3, er4, er5, er6, er7, er8, er9, er10, er11, er12, er13, er14, er15, er16, er17, List.length_map] at hY4
     refine wSeq (wSeq (wReg (sRun (xMvI rfl) (sRun (xMvS rfl) (sRun (xLnL (s := a0) Try.underlying37 rfl) (sRun (xLssT rfl rfl (by omega)) (sNil (wIfT rfl (wSkip (wSeq (wBlock (wSeq ?_))))))))))))
     replace hL := hL.drew
     refine wDraw (fun wS => Bx w0 wS []) [] (by kernel_rfl) (hTake 0 rfl (by kernel_rfl) rfl (fun wS => (xMvS rfl)) (sl_of hL) (hTake 1 rfl (by kernel_rfl) rfl (fun wS => (xMvI rfl)) (sl_of hL) ?_))
     obtain ⟨x5, hx5⟩ := get_ex (l := a0.l) (k := (i4).toNat) (by omega)
     try rw [show a0.l[(i4).toNat]?.getD (0 : Int) = x5 from getD_of hx5] at hY4
     try simp only [er1, er2, er3, er4, er5, er6, er7, er8, er9, er10, er11, er12, er13, er14, er15, er16, er17, List.length_map] at hY4
     refine hTake 2 rfl (by kernel_rfl) rfl (fun wS => (xIdL Try.underlying37 ti3 rfl rfl (by omega) h0 hx5)) (sl_of hL) (hTakeS 3 rfl (by kernel_rfl) (by kernel_rfl) rfl (fun wS hS => (xLoad Try.underlying3 rfl rfl (((Lst.el h0 hx5).ext hS.1) 0 _ rfl))) (sl_of hL) (hTake 4 rfl (by kernel_rfl) rfl (fun wS => (xMvS rfl)) (sl_of hL) (hTake 5 rfl (by kernel_rfl) rfl (fun wS => (xMvI rfl)) (sl_of hL) ?_)))
     obtain ⟨x6, hx6⟩ := get_ex (l := a1.l) (k := (i4).toNat) (by omega)
     try rw [show a1.l[(i4).toNat]?.getD (0 : Int) = x6 from getD_of hx6] at hY4
     try simp only [er1, er2, er3, er4, er5, er6, er7, er8, er9, er10, er11, er12, er13, er14, er15, er16, er17, List.length_map] at hY4
     refine hTake 6 rfl (by kernel_rfl) rfl (fun wS => (xIdL Try.underlying37 ti3 rfl rfl (by omega) h1 hx6)) (sl_of hL) (hTakeS 7 rfl (by kernel_rfl) (by kernel_rfl) rfl (fun wS hS => (xLoad Try.underlying3 rfl rfl (((Lst.el h1 hx6).ext hS.1) 0 _ rfl))) (sl_of hL) (hTake 8 rfl (by kernel_rfl) rfl (fun wS => (xNeqD rfl rfl)) (sl_of hL) (hDone (by kernel_rfl) ?_)))
     by_cases h7 : x5 ≠ x6
     ·try rw [decide_eq_true h7]
      rw [if_pos h7] at hY4
      refine wIfT rfl (wSeq (wReg (sRun (xAsB rfl) (sNil (wRet ?_)))))
      subst hY4
      rw [Lp.el_out] at hM
      try dsimp only at hM
      subst hM
      refine res1 (P := Try.prog) (fn := Try.f37) rfl ?_
      exact ⟨rfl, hL.1⟩
     ·try rw [decide_eq_false h7]
      rw [if_neg h7] at hY4
      refine wIfF rfl (wSkip (wReg (sRun (xMvI rfl) (sRun (xAdd64 rfl rfl (by omega) (by omega)) (sRun (xAsI rfl) (sNil ?_))))))
      exact ⟨m4, by omega, (i4 + 1), by omega, by omega, Or.inl (by omega), ⟨rfl, rfl, rfl, trivial⟩, hL, hY4⟩
    ·obtain rfl : n4 = 0 := by omega
     rw [m_same_List_int_L0] at hY4
     refine wSeq (wSeq (wReg (sRun (xMvI rfl) (sRun (xMvS rfl) (sRun (xLnL (s := a0) Try.underlying37 rfl) (sRun (xLssF rfl rfl (by omega)) (sNil (wIfF rfl (wExit ?_)))))))))
     exact ⟨⟨rfl, rfl, trivial⟩, hL, hY4⟩
   ·clear hL
    rintro f w ⟨hf, hL, hZ4⟩
    obtain ⟨g, rfl⟩ := has_updL _ _ hf
    clear hf
    subst hZ4
    rw [Lp.el_go] at hM
    try dsimp only at hM
    refine wSeq (wReg (sRun (xAsB rfl) (sNil (wRet ?_))))
    subst hM
    refine res1 (P := Try.prog) (fn := Try.f37) rfl ?_
    exact ⟨rfl, hL.1⟩

def m_same_edges (a0 : (GArr56 List)) (a1 : (GArr56 List)) : Bool :=
 ((((decide (a0.e0.Block = a1.e0.Block)) && (decide (a0.e1.Block = a1.e1.Block))) && (m_same_List_int a0.e0.Args a1.e0.Args)) && (m_same_List_int a0.e1.Args a1.e1.Args))
set_option maxHeartbeats 12800000 in
theorem sp_m_same_edges (w0 : World) (a0 : (GArr56 Lst)) (h0 : Dat.ok (fun _ => True) w0 a0) (a1 : (GArr56 Lst)) (h1 : Dat.ok (fun _ => True) w0 a1) : Calls Try.prog 38 #[.agg (GArr56.cells a0).toArray, .agg (GArr56.cells a1).toArray] w0 (Ret fun v w => v = .bool (m_same_edges (GArr56.er a0) (GArr56.er a1)) ∧ Ext w0 w) := by
  obtain ⟨X, hM⟩ : ∃ X, m_same_edges (GArr56.er a0) (GArr56.er a1) = X := ⟨_, rfl⟩
  rw [hM]
  unfold m_same_edges at hM
  try simp only [er1, er2, er3, er4, er5, er6, er7, er8, er9, er10, er11, er12, er13, er14, er15, er16, er17, List.length_map] at hM
  have hL : Bx w0 w0 [] := Bx.nil
  refine calls_of Try.func38 rfl (Nat.le_of_ble_eq_true rfl) (by kernel_rfl) ?_
  refine wCut [(0, .agg (GArr56.cells a0).toArray), (1, .agg (GArr56.cells a1).toArray)] ⟨rfl, rfl, trivial⟩ fun g => ?_
  refine wSeq (wReg (sTo (aNew (mBox rfl)) ?_))
  rintro _ w1 ⟨b1, rfl, hge1, hB1, he1⟩
  replace hL := hL.new hge1 hB1 he1
  refine sTo (aNew (mBox rfl)) ?_
  rintro _ w2 ⟨b2, rfl, hge2, hB2, he2⟩
  replace hL := hL.new hge2 hB2 he2
  refine sRun (xAsB rfl) (sNil (wSeq ?_))
  obtain ⟨E3, hE3⟩ : ∃ E, ((((decide (a0.e0.Block = a1.e0.Block)) && (decide (a0.e1.Block = a1.e1.Block))) && (m_same_List_int a0.e0.Args.l a1.e0.Args.l)) && (m_same_List_int a0.e1.Args.l a1.e1.Args.l)) = E := ⟨_, rfl⟩
  refine wJ (fun f w => Has f [(4, .bool E3)] ∧ Bx w0 w [.box b2 56 (GArr56.cells a1).toArray, .box b1 56 (GArr56.cells a0).toArray]) ?_ ?_
  ·refine wReg (sRun (xIdxA 0 Try.underlying56 ti55 rfl rfl (by omega) (by omega)) (sRun (xFld0 Try.underlying55 rfl rfl ti3 (by decide) rfl) (sRun (xLoad Try.underlying3 rfl rfl ((hL.bk 1 rfl).cell (i := 0) rfl)) (sRun (xIdxA 0 Try.underlying56 ti55 rfl rfl (by omega) (by omega)) (sRun (xFld0 Try.underlying55 rfl rfl ti3 (by decide) rfl) (sRun (xLoad Try.underlying3 rfl rfl ((hL.bk 0 rfl).cell (i := 0) rfl)) (sRun (xEqlD rfl rfl) (sRun (xMvB rfl) ?_))))))))
   by_cases h4 : a0.e0.Block = a1.e0.Block
   ·try rw [decide_eq_true h4]
    refine sGo rfl (sRun (xIdxA 1 Try.underlying56 ti55 rfl rfl (by omega) (by omega)) (sGo rfl (sRun (xFld0 Try.underlying55 rfl rfl ti3 (by decide) rfl) (sGo rfl (sRun (xLoad Try.underlying3 rfl rfl ((hL.bk 1 rfl).cell (i := 2) rfl)) (sGo rfl (sRun (xIdxA 1 Try.underlying56 ti55 rfl rfl (by omega) (by omega)) (sGo rfl (sRun (xFld0 Try.underlying55 rfl rfl ti3 (by decide) rfl) (sGo rfl (sRun (xLoad Try.underlying3 rfl rfl ((hL.bk 0 rfl).cell (i := 2) rfl)) (sGo rfl (sRun (xEqlD rfl rfl) ?_)))))))))))))
    refine sRun (xPkTB rfl rfl) (sRun (xMvB rfl) ?_)
    by_cases h5 : a0.e1.Block = a1.e1.Block
    ·try rw [decide_eq_true h5]
     refine sGo rfl (sRun (xIdxA 0 Try.underlying56 ti55 rfl rfl (by omega) (by omega)) (sGo rfl (sRun (xFld (k := 1) Try.underlying55 rfl rfl ti37 (by decide) rfl) (sGo rfl (sRun (xLoad Try.underlying37 rfl rfl ((hL.bk 1 rfl).cell (i := 1) rfl)) (sGo rfl (sRun (xIdxA 0 Try.underlying56 ti55 rfl rfl (by omega) (by omega)) (sGo rfl (sRun (xFld (k := 1) Try.underlying55 rfl rfl ti37 (by decide) rfl) (sGo rfl (sRun (xLoad Try.underlying37 rfl rfl ((hL.bk 0 rfl).cell (i := 1) rfl)) (sGo rfl (sCall (eCall cal37 rfl) (sp_m_same_List_int _ a0.e0.Args (Dat.all (Dat.ext (x := a0.e0.Args) h0.1 hL.1)) a1.e0.Args (Dat.all (Dat.ext (x := a1.e0.Args) h1.1 hL.1))) ?_)))))))))))))
     rintro _ w6 ⟨rfl, he6⟩
     replace hL := hL.ext he6
     refine sRun (xPkTB rfl rfl) (sRun (xMvB rfl) ?_)
     by_cases h7 : (m_same_List_int a0.e0.Args.l a1.e0.Args.l) = true
     ·try rw [h7]
      refine sGo rfl (sRun (xIdxA 1 Try.underlying56 ti55 rfl rfl (by omega) (by omega)) (sGo rfl (sRun (xFld (k := 1) Try.underlying55 rfl rfl ti37 (by decide) rfl) (sGo rfl (sRun (xLoad Try.underlying37 rfl rfl ((hL.bk 1 rfl).cell (i := 3) rfl)) (sGo rfl (sRun (xIdxA 1 Try.underlying56 ti55 rfl rfl (by omega) (by omega)) (sGo rfl (sRun (xFld (k := 1) Try.underlying55 rfl rfl ti37 (by decide) rfl) (sGo rfl (sRun (xLoad Try.underlying37 rfl rfl ((hL.bk 0 rfl).cell (i := 3) rfl)) (sGo rfl (sCall (eCall cal37 rfl) (sp_m_same_List_int _ a0.e1.Args (Dat.all (Dat.ext (x := a0.e1.Args) h0.2 hL.1)) a1.e1.Args (Dat.all (Dat.ext (x := a1.e1.Args) h1.2 hL.1))) ?_)))))))))))))
      rintro _ w8 ⟨rfl, he8⟩
      replace hL := hL.ext he8
      refine sRun (xPkTB rfl rfl) (sRun (xAsB rfl) (sNil ?_))
      exact ⟨⟨(congrArg Value.bool (by rw [← hE3]; first | (simp [h4, h5, h7]; done) | (simp only [decide_eq_true h4, decide_eq_true h5, h7]; done) | grind)), trivial⟩, hL⟩
     ·have h7n : (m_same_List_int a0.e0.Args.l a1.e0.Args.l) = false := Bool.eq_false_iff.2 h7
      try rw [h7n]
      refine sNo rfl (sNo rfl (sNo rfl (sNo rfl (sNo rfl (sNo rfl (sNo rfl (sRun (xPkFB rfl rfl) (sRun (xAsB rfl) (sNil ?_)))))))))
      exact ⟨⟨(congrArg Value.bool (by rw [← hE3]; first | (simp [h4, h5, h7n]; done) | (simp only [decide_eq_true h4, decide_eq_true h5, h7n]; done) | grind)), trivial⟩, hL⟩
    ·try rw [decide_eq_false h5]
     refine sNo rfl (sNo rfl (sNo rfl (sNo rfl (sNo rfl (sNo rfl (sNo rfl (sRun (xPkFB rfl rfl) (sRun (xMvB rfl) (sNo rfl (sNo rfl (sNo rfl (sNo rfl (sNo rfl ?_)))))))))))))
     refine sNo rfl (sNo rfl (sRun (xPkFB rfl rfl) (sRun (xAsB rfl) (sNil ?_))))
     exact ⟨⟨(congrArg Value.bool (by rw [← hE3]; first | (simp [h4, h5]; done) | (simp only [decide_eq_true h4, decide_eq_false h5]; done) | grind)), trivial⟩, hL⟩
   ·try rw [decide_eq_false h4]
    refine sNo rfl (sNo rfl (sNo rfl (sNo rfl (sNo rfl (sNo rfl (sNo rfl (sRun (xPkFB rfl rfl) (sRun (xMvB rfl) (sNo rfl (sNo rfl (sNo rfl (sNo rfl (sNo rfl ?_)))))))))))))
    refine sNo rfl (sNo rfl (sRun (xPkFB rfl rfl) (sRun (xMvB rfl) (sNo rfl (sNo rfl (sNo rfl (sNo rfl (sNo rfl (sNo rfl (sNo rfl (sRun (xPkFB rfl rfl) (sRun (xAsB rfl) (sNil ?_)))))))))))))
    exact ⟨⟨(congrArg Value.bool (by rw [← hE3]; first | (simp [h4]; done) | (simp only [decide_eq_false h4]; done) | grind)), trivial⟩, hL⟩
  ·clear hL
   subst hE3
   rintro f w ⟨hf, hL⟩
   obtain ⟨g, rfl⟩ := has_updL _ _ hf
   clear hf
   refine wRet ?_
   subst hM
   refine res1 (P := Try.prog) (fn := Try.f38) rfl ?_
   exact ⟨rfl, hL.1⟩

def m_same_Code_L0 (a0 : (GCode List)) (a1 : (GCode List)) : Nat → Int → Lp (Unit) (Bool)
  | 0, _ => .go ()
  | n15 + 1, i15 =>
  if (((((((decide ((a0.Blocks[(i15).toNat]?.getD (⟨(0 : Int), [], (⟨(0 : Int), (0 : Int), (0 : Int), [], (⟨(⟨(0 : Int), []⟩ : (GEdge List)), (⟨(0 : Int), []⟩ : (GEdge List))⟩ : (GArr56 List))⟩ : (GTerm List))⟩ : (GBlock List))).Params ≠ (a1.Blocks[(i15).toNat]?.getD (⟨(0 : Int), [], (⟨(0 : Int), (0 : Int), (0 : Int), [], (⟨(⟨(0 : Int), []⟩ : (GEdge List)), (⟨(0 : Int), []⟩ : (GEdge List))⟩ : (GArr56 List))⟩ : (GTerm List))⟩ : (GBlock List))).Params)) || (!(m_same_List_api_Op ((a0.Blocks[(i15).toNat]?.getD (⟨(0 : Int), [], (⟨(0 : Int), (0 : Int), (0 : Int), [], (⟨(⟨(0 : Int), []⟩ : (GEdge List)), (⟨(0 : Int), []⟩ : (GEdge List))⟩ : (GArr56 List))⟩ : (GTerm List))⟩ : (GBlock List))).Ops) ((a1.Blocks[(i15).toNat]?.getD (⟨(0 : Int), [], (⟨(0 : Int), (0 : Int), (0 : Int), [], (⟨(⟨(0 : Int), []⟩ : (GEdge List)), (⟨(0 : Int), []⟩ : (GEdge List))⟩ : (GArr56 List))⟩ : (GTerm List))⟩ : (GBlock List))).Ops)))) || (decide ((a0.Blocks[(i15).toNat]?.getD (⟨(0 : Int), [], (⟨(0 : Int), (0 : Int), (0 : Int), [], (⟨(⟨(0 : Int), []⟩ : (GEdge List)), (⟨(0 : Int), []⟩ : (GEdge List))⟩ : (GArr56 List))⟩ : (GTerm List))⟩ : (GBlock List))).Term.Kind ≠ (a1.Blocks[(i15).toNat]?.getD (⟨(0 : Int), [], (⟨(0 : Int), (0 : Int), (0 : Int), [], (⟨(⟨(0 : Int), []⟩ : (GEdge List)), (⟨(0 : Int), []⟩ : (GEdge List))⟩ : (GArr56 List))⟩ : (GTerm List))⟩ : (GBlock List))).Term.Kind))) || (decide ((a0.Blocks[(i15).toNat]?.getD (⟨(0 : Int), [], (⟨(0 : Int), (0 : Int), (0 : Int), [], (⟨(⟨(0 : Int), []⟩ : (GEdge List)), (⟨(0 : Int), []⟩ : (GEdge List))⟩ : (GArr56 List))⟩ : (GTerm List))⟩ : (GBlock List))).Term.A ≠ (a1.Blocks[(i15).toNat]?.getD (⟨(0 : Int), [], (⟨(0 : Int), (0 : Int), (0 : Int), [], (⟨(⟨(0 : Int), []⟩ : (GEdge List)), (⟨(0 : Int), []⟩ : (GEdge List))⟩ : (GArr56 List))⟩ : (GTerm List))⟩ : (GBlock List))).Term.A))) || (decide ((a0.Blocks[(i15).toNat]?.getD (⟨(0 : Int), [], (⟨(0 : Int), (0 : Int), (0 : Int), [], (⟨(⟨(0 : Int), []⟩ : (GEdge List)), (⟨(0 : Int), []⟩ : (GEdge List))⟩ : (GArr56 List))⟩ : (GTerm List))⟩ : (GBlock List))).Term.N ≠ (a1.Blocks[(i15).toNat]?.getD (⟨(0 : Int), [], (⟨(0 : Int), (0 : Int), (0 : Int), [], (⟨(⟨(0 : Int), []⟩ : (GEdge List)), (⟨(0 : Int), []⟩ : (GEdge List))⟩ : (GArr56 List))⟩ : (GTerm List))⟩ : (GBlock List))).Term.N))) || (!(m_same_List_int ((a0.Blocks[(i15).toNat]?.getD (⟨(0 : Int), [], (⟨(0 : Int), (0 : Int), (0 : Int), [], (⟨(⟨(0 : Int), []⟩ : (GEdge List)), (⟨(0 : Int), []⟩ : (GEdge List))⟩ : (GArr56 List))⟩ : (GTerm List))⟩ : (GBlock List))).Term.Args) ((a1.Blocks[(i15).toNat]?.getD (⟨(0 : Int), [], (⟨(0 : Int), (0 : Int), (0 : Int), [], (⟨(⟨(0 : Int), []⟩ : (GEdge List)), (⟨(0 : Int), []⟩ : (GEdge List))⟩ : (GArr56 List))⟩ : (GTerm List))⟩ : (GBlock List))).Term.Args)))) || (!(m_same_edges ((a0.Blocks[(i15).toNat]?.getD (⟨(0 : Int), [], (⟨(0 : Int), (0 : Int), (0 : Int), [], (⟨(⟨(0 : Int), []⟩ : (GEdge List)), (⟨(0 : Int), []⟩ : (GEdge List))⟩ : (GArr56 List))⟩ : (GTerm List))⟩ : (GBlock List))).Term.To) ((a1.Blocks[(i15).toNat]?.getD (⟨(0 : Int), [], (⟨(0 : Int), (0 : Int), (0 : Int), [], (⟨(⟨(0 : Int), []⟩ : (GEdge List)), (⟨(0 : Int), []⟩ : (GEdge List))⟩ : (GArr56 List))⟩ : (GTerm List))⟩ : (GBlock List))).Term.To)))) = true then
   .out (false)
  else
   m_same_Code_L0 a0 a1 n15 (i15 + 1)
def m_same_Code (a0 : (GCode List)) (a1 : (GCode List)) : Bool :=
 if ((((decide (a0.Params ≠ a1.Params)) || (decide (((a0.Blocks.length : Nat) : Int) ≠ ((a1.Blocks.length : Nat) : Int)))) || (!(m_same_List_api_Context a0.Contexts a1.Contexts))) || (!(m_same_List_api_Object a0.Objects a1.Objects))) = true then
  false
 else
  (m_same_Code_L0 a0 a1 (((a0.Blocks.length : Nat) : Int) - (0 : Int)).toNat (0 : Int)).el (fun _ =>
   true
    ) (fun o => o)
set_option maxHeartbeats 12800000 in
theorem sp_m_same_Code (w0 : World) (a0 : (GCode Lst)) (h0 : Dat.ok (fun _ => True) w0 a0) (a1 : (GCode Lst)) (h1 : Dat.ok (fun _ => True) w0 a1) : Calls Try.prog 11 #[.agg (GCode.cells a0).toArray, .agg (GCode.cells a1).toArray] w0 (Ret fun v w => v = .bool (m_same_Code (GCode.er a0) (GCode.er a1)) ∧ Ext w0 w) := by
  obtain ⟨X, hM⟩ : ∃ X, m_same_Code (GCode.er a0) (GCode.er a1) = X := ⟨_, rfl⟩
  rw [hM]
  unfold m_same_Code at hM
  try simp only [er1, er2, er3, er4, er5, er6, er7, er8, er9, er10, er11, er12, er13, er14, er15, er16, er17, List.length_map] at hM
  have hL : Bx w0 w0 [] := Bx.nil
  refine calls_of Try.func11 rfl (Nat.le_of_ble_eq_true rfl) (by kernel_rfl) ?_
  refine wCut [(0, .agg (GCode.cells a0).toArray), (1, .agg (GCode.cells a1).toArray)] ⟨rfl, rfl, trivial⟩ fun g => ?_
  refine wSeq (wReg (sTo (aNew (mBox rfl)) ?_))
  rintro _ w1 ⟨b1, rfl, hge1, hB1, he1⟩
  replace hL := hL.new hge1 hB1 he1
  refine sTo (aNew (mBox rfl)) ?_
  rintro _ w2 ⟨b2, rfl, hge2, hB2, he2⟩
  replace hL := hL.new hge2 hB2 he2
  refine sRun (xAsB rfl) (sNil (wSeq (wSeq ?_)))
  obtain ⟨E3, hE3⟩ : ∃ E, ((((decide (a0.Params ≠ a1.Params)) || (decide (((a0.Blocks.l.length : Nat) : Int) ≠ ((a1.Blocks.l.length : Nat) : Int)))) || (!(m_same_List_api_Context a0.Contexts.l a1.Contexts.l))) || (!(m_same_List_api_Object a0.Objects.l a1.Objects.l))) = E := ⟨_, rfl⟩
  refine wJ (fun f w => Has f [(2, .pointer (some ⟨b1, 0, none⟩)), (3, .pointer (some ⟨b2, 0, none⟩)), (37, .bool E3)] ∧ Bx w0 w [.box b2 26 (GCode.cells a1).toArray, .box b1 26 (GCode.cells a0).toArray]) ?_ ?_
  ·refine wReg (sRun (xFld0 Try.underlying26 rfl rfl ti3 (by decide) rfl) (sRun (xLoad Try.underlying3 rfl rfl ((hL.bk 1 rfl).cell (i := 0) rfl)) (sRun (xFld0 Try.underlying26 rfl rfl ti3 (by decide) rfl) (sRun (xLoad Try.underlying3 rfl rfl ((hL.bk 0 rfl).cell (i := 0) rfl)) (sRun (xNeqD rfl rfl) (sRun (xMvB rfl) ?_))))))
   by_cases h4 : a0.Params ≠ a1.Params
   ·try rw [decide_eq_true h4]
    refine sNo rfl (sNo rfl (sNo rfl (sNo rfl (sNo rfl (sNo rfl (sNo rfl (sRun (xPkTB rfl rfl) (sRun (xMvB rfl) (sNo rfl (sNo rfl (sNo rfl (sNo rfl (sNo rfl ?_)))))))))))))
    refine sNo rfl (sRun (xPkTB rfl rfl) (sRun (xMvB rfl) (sNo rfl (sNo rfl (sNo rfl (sNo rfl (sNo rfl (sNo rfl (sRun (xPkTB rfl rfl) (sNil ?_))))))))))
    exact ⟨⟨rfl, rfl, (congrArg Value.bool (by rw [← hE3]; first | (simp [h4]; done) | (simp only [decide_eq_true h4]; done) | grind)), trivial⟩, hL⟩
   ·try rw [decide_eq_false h4]
    refine sGo rfl (sRun (xFld (k := 1) Try.underlying26 rfl rfl ti22 (by decide) rfl) (sGo rfl (sRun (xLoad Try.underlying22 rfl rfl ((hL.bk 1 rfl).cell (i := 1) rfl)) (sGo rfl ?_))))
    have hl5 : a0.Blocks.l.length * 144 ≤ 140737488355328 := Lst.bd h0.1
    refine sRun (xLnL (s := a0.Blocks) Try.underlying22 rfl) (sGo rfl (sRun (xFld (k := 1) Try.underlying26 rfl rfl ti22 (by decide) rfl) (sGo rfl (sRun (xLoad Try.underlying22 rfl rfl ((hL.bk 0 rfl).cell (i := 1) rfl)) (sGo rfl ?_)))))
    have hl6 : a1.Blocks.l.length * 144 ≤ 140737488355328 := Lst.bd h1.1
    refine sRun (xLnL (s := a1.Blocks) Try.underlying22 rfl) (sGo rfl (sRun (xNeqD rfl rfl) (sRun (xPkFB rfl rfl) (sRun (xMvB rfl) ?_))))
    by_cases h7 : ((a0.Blocks.l.length : Nat) : Int) ≠ ((a1.Blocks.l.length : Nat) : Int)
    ·try rw [decide_eq_true h7]
     refine sNo rfl (sNo rfl (sNo rfl (sNo rfl (sNo rfl (sNo rfl (sRun (xPkTB rfl rfl) (sRun (xMvB rfl) (sNo rfl (sNo rfl (sNo rfl (sNo rfl (sNo rfl (sNo rfl ?_)))))))))))))
     refine sRun (xPkTB rfl rfl) (sNil ?_)
     exact ⟨⟨rfl, rfl, (congrArg Value.bool (by rw [← hE3]; first | (simp [h4, h7]; done) | (simp only [decide_eq_false h4, decide_eq_true h7]; done) | grind)), trivial⟩, hL⟩
    ·try rw [decide_eq_false h7]
     refine sGo rfl (sRun (xFld (k := 2) Try.underlying26 rfl rfl ti23 (by decide) rfl) (sGo rfl (sRun (xLoad Try.underlying23 rfl rfl ((hL.bk 1 rfl).cell (i := 2) rfl)) (sGo rfl (sRun (xFld (k := 2) Try.underlying26 rfl rfl ti23 (by decide) rfl) (sGo rfl (sRun (xLoad Try.underlying23 rfl rfl ((hL.bk 0 rfl).cell (i := 2) rfl)) (sGo rfl (sCall (eCall cal34 rfl) (sp_m_same_List_api_Context _ a0.Contexts (Dat.all (Dat.ext (x := a0.Contexts) h0.2.1 hL.1)) a1.Contexts (Dat.all (Dat.ext (x := a1.Contexts) h1.2.1 hL.1))) ?_)))))))))
     rintro _ w8 ⟨rfl, he8⟩
     replace hL := hL.ext he8
     by_cases h9 : (m_same_List_api_Context a0.Contexts.l a1.Contexts.l) = true
     ·try rw [h9]
      refine sGo rfl (sRun (xNot rfl) (sRun (xPkFB rfl rfl) (sRun (xMvB rfl) (sGo rfl (sRun (xFld (k := 3) Try.underlying26 rfl rfl ti24 (by decide) rfl) (sGo rfl (sRun (xLoad Try.underlying24 rfl rfl ((hL.bk 1 rfl).cell (i := 3) rfl)) (sGo rfl (sRun (xFld (k := 3) Try.underlying26 rfl rfl ti24 (by decide) rfl) (sGo rfl (sRun (xLoad Try.underlying24 rfl rfl ((hL.bk 0 rfl).cell (i := 3) rfl)) (sGo rfl (sCall (eCall cal35 rfl) (sp_m_same_List_api_Object _ a0.Objects (Dat.all (Dat.ext (x := a0.Objects) h0.2.2 hL.1)) a1.Objects (Dat.all (Dat.ext (x := a1.Objects) h1.2.2 hL.1))) ?_)))))))))))))
      rintro _ w10 ⟨rfl, he10⟩
      replace hL := hL.ext he10
      by_cases h11 : (m_same_List_api_Object a0.Objects.l a1.Objects.l) = true
      ·try rw [h11]
       refine sGo rfl (sRun (xNot rfl) (sRun (xPkFB rfl rfl) (sNil ?_)))
       exact ⟨⟨rfl, rfl, (congrArg Value.bool (by rw [← hE3]; first | (simp [h4, h7, h9, h11]; done) | (simp only [decide_eq_false h4, decide_eq_false h7, h9, h11]; done) | grind)), trivial⟩, hL⟩
      ·have h11n : (m_same_List_api_Object a0.Objects.l a1.Objects.l) = false := Bool.eq_false_iff.2 h11
       try rw [h11n]
       refine sGo rfl (sRun (xNot rfl) (sRun (xPkFB rfl rfl) (sNil ?_)))
       exact ⟨⟨rfl, rfl, (congrArg Value.bool (by rw [← hE3]; first | (simp [h4, h7, h9, h11n]; done) | (simp only [decide_eq_false h4, decide_eq_false h7, h9, h11n]; done) | grind)), trivial⟩, hL⟩
     ·have h9n : (m_same_List_api_Context a0.Contexts.l a1.Contexts.l) = false := Bool.eq_false_iff.2 h9
      try rw [h9n]
      refine sGo rfl (sRun (xNot rfl) (sRun (xPkFB rfl rfl) (sRun (xMvB rfl) (sNo rfl (sNo rfl (sNo rfl (sNo rfl (sNo rfl (sNo rfl (sRun (xPkTB rfl rfl) (sNil ?_)))))))))))
      exact ⟨⟨rfl, rfl, (congrArg Value.bool (by rw [← hE3]; first | (simp [h4, h7, h9n]; done) | (simp only [decide_eq_false h4, decide_eq_false h7, h9n]; done) | grind)), trivial⟩, hL⟩
  ·clear hL
   subst hE3
   rintro f w ⟨hf, hL⟩
   obtain ⟨g, rfl⟩ := has_updL _ _ hf
   clear hf
   by_cases h12 : ((((decide (a0.Params ≠ a1.Params)) || (decide (((a0.Blocks.l.length : Nat) : Int) ≠ ((a1.Blocks.l.length : Nat) : Int)))) || (!(m_same_List_api_Context a0.Contexts.l a1.Contexts.l))) || (!(m_same_List_api_Object a0.Objects.l a1.Objects.l))) = true
   ·try rw [h12]
    rw [if_pos h12] at hM
    refine wIfT rfl (wSeq (wReg (sRun (xAsB rfl) (sNil (wRet ?_)))))
    subst hM
    refine res1 (P := Try.prog) (fn := Try.f11) rfl ?_
    exact ⟨rfl, hL.1⟩
   ·have h12n : ((((decide (a0.Params ≠ a1.Params)) || (decide (((a0.Blocks.l.length : Nat) : Int) ≠ ((a1.Blocks.l.length : Nat) : Int)))) || (!(m_same_List_api_Context a0.Contexts.l a1.Contexts.l))) || (!(m_same_List_api_Object a0.Objects.l a1.Objects.l))) = false := Bool.eq_false_iff.2 h12
    try rw [h12n]
    rw [if_neg h12] at hM
    have h13 : ¬ (a0.Params ≠ a1.Params) := fun hq => by rw [decide_eq_true hq] at h12; simp at h12
    have h14 : ¬ (((a0.Blocks.l.length : Nat) : Int) ≠ ((a1.Blocks.l.length : Nat) : Int)) := fun hq => by rw [decide_eq_true hq] at h12; simp at h12
    refine wIfF rfl (wSkip (wSeq (wSeq (wReg (sRun (xAsI rfl) (sNil ?_))))))
    obtain ⟨Y15, hY15⟩ : ∃ Y, m_same_Code_L0 (GCode.er a0) (GCode.er a1) (((a0.Blocks.l.length : Nat) : Int) - (0 : Int)).toNat (0 : Int) = Y := ⟨_, rfl⟩
    rw [hY15] at hM
    refine wJ (fun f w => Has f [(2, .pointer (some ⟨b1, 0, none⟩)), (3, .pointer (some ⟨b2, 0, none⟩))] ∧ Bx w0 w [.box b2 26 (GCode.cells a1).toArray, .box b1 26 (GCode.cells a0).toArray] ∧ Lp.go () = Y15) ?_ ?_
    ·refine wBlock (wLoopG (fun n f w => ∃ (i15 : Int), n = (((a0.Blocks.l.length : Nat) : Int) - i15).toNat ∧ (0 : Int) ≤ i15 ∧ (i15 ≤ ((a0.Blocks.l.length : Nat) : Int) ∨ i15 = (0 : Int)) ∧ Has f [(5, .int .i64 i15), (2, .pointer (some ⟨b1, 0, none⟩)), (3, .pointer (some ⟨b2, 0, none⟩))] ∧ Bx w0 w [.box b2 26 (GCode.cells a1).toArray, .box b1 26 (GCode.cells a0).toArray] ∧ m_same_Code_L0 (GCode.er a0) (GCode.er a1) n i15 = Y15) (((a0.Blocks.l.length : Nat) : Int) - (0 : Int)).toNat ⟨(0 : Int), rfl, Int.le_refl _, Or.inr rfl, ⟨rfl, rfl, rfl, trivial⟩, hL, hY15⟩ ?_)
     clear hL hY15
     rintro n15 f w ⟨i15, hn15, hk15, hj15, hf, hL, hY15⟩
     obtain ⟨g, rfl⟩ := has_updL _ _ hf
     clear hf
     by_cases hk15b : i15 < ((a0.Blocks.l.length : Nat) : Int)
     ·obtain ⟨m15, rfl⟩ : ∃ m, n15 = m + 1 := ⟨n15 - 1, by omega⟩
      rw [m_same_Code_L0] at hY15
      try simp only [er1, er2, er3, er4, er5, er6, er7, er8, er9, er10, er11, er12, er13, er14, er15, er16, er17, List.length_map] at hY15
      refine wSeq (wSeq (wReg (sRun (xMvI rfl) (sRun (xFld (k := 1) Try.underlying26 rfl rfl ti22 (by decide) rfl) (sRun (xLoad Try.underlying22 rfl rfl ((hL.bk 1 rfl).cell (i := 1) rfl)) ?_)))))
      have hl17 : a0.Blocks.l.length * 144 ≤ 140737488355328 := Lst.bd h0.1
      refine sRun (xLnL (s := a0.Blocks) Try.underlying22 rfl) (sRun (xLssT rfl rfl (by omega)) (sNil (wIfT rfl (wSkip (wSeq (wBlock (wSeq ?_)))))))
      obtain ⟨x18, hx18⟩ := get_ex (l := a0.Blocks.l) (k := (i15).toNat) (by omega)
      try rw [show (a0.Blocks.l.map GBlock.er)[(i15).toNat]?.getD (⟨(0 : Int), [], (⟨(0 : Int), (0 : Int), (0 : Int), [], (⟨(⟨(0 : Int), []⟩ : (GEdge List)), (⟨(0 : Int), []⟩ : (GEdge List))⟩ : (GArr56 List))⟩ : (GTerm List))⟩ : (GBlock List)) = GBlock.er x18 from getD_map hx18] at hY15
      try simp only [er1, er2, er3, er4, er5, er6, er7, er8, er9, er10, er11, er12, er13, er14, er15, er16, er17, List.length_map] at hY15
      have hl20 : a1.Blocks.l.length * 144 ≤ 140737488355328 := Lst.bd h1.1
      obtain ⟨x19, hx19⟩ := get_ex (l := a1.Blocks.l) (k := (i15).toNat) (by omega)
      try rw [show (a1.Blocks.l.map GBlock.er)[(i15).toNat]?.getD (⟨(0 : Int), [], (⟨(0 : Int), (0 : Int), (0 : Int), [], (⟨(⟨(0 : Int), []⟩ : (GEdge List)), (⟨(0 : Int), []⟩ : (GEdge List))⟩ : (GArr56 List))⟩ : (GTerm List))⟩ : (GBlock List)) = GBlock.er x19 from getD_map hx19] at hY15
      try simp only [er1, er2, er3, er4, er5, er6, er7, er8, er9, er10, er11, er12, er13, er14, er15, er16, er17, List.length_map] at hY15
      refine wJ (fun f w => ∃ (bq2110_0 : Nat) (bq2111_0 : Nat), Has f [(2, .pointer (some ⟨b1, 0, none⟩)), (3, .pointer (some ⟨b2, 0, none⟩)), (5, .int .i64 i15), (6, .pointer (some ⟨bq2110_0, 0, none⟩)), (7, .pointer (some ⟨bq2111_0, 0, none⟩))] ∧ Bx w0 w [.box bq2110_0 60 (GBlock.cells x18).toArray, .box bq2111_0 60 (GBlock.cells x19).toArray, .box b2 26 (GCode.cells a1).toArray, .box b1 26 (GCode.cells a0).toArray]) ?_ ?_
      ·replace hL := hL.drew
       refine wDraw (fun wS => Bx w0 wS [.box b2 26 (GCode.cells a1).toArray, .box b1 26 (GCode.cells a0).toArray]) [] (by kernel_rfl) (hTake 0 rfl (by kernel_rfl) rfl (fun wS => (xFld (k := 1) Try.underlying26 rfl rfl ti22 (by decide) rfl)) (sl_of hL) (hTakeS 1 rfl (by kernel_rfl) (by kernel_rfl) rfl (fun wS hS => (xLoad Try.underlying22 rfl rfl ((hS.bk 1 rfl).cell (i := 1) rfl))) (sl_of hL) (hTake 2 rfl (by kernel_rfl) rfl (fun wS => (xMvI rfl)) (sl_of hL) (hTake 3 rfl (by kernel_rfl) rfl (fun wS => (xIdL Try.underlying22 ti60 rfl rfl (by omega) h0.1 hx18)) (sl_of hL) (hTakeS 4 rfl (by kernel_rfl) (by kernel_rfl) rfl (fun wS hS => (xLoadS (GBlock.cells x18) Try.underlying60 rfl ti60 rfl rfl ((Lst.el h0.1 hx18).ext hS.1))) (sl_of hL) (hTake 5 rfl (by kernel_rfl) rfl (fun wS => (xFld (k := 1) Try.underlying26 rfl rfl ti22 (by decide) rfl)) (sl_of hL) (hTakeS 6 rfl (by kernel_rfl) (by kernel_rfl) rfl (fun wS hS => (xLoad Try.underlying22 rfl rfl ((hS.bk 0 rfl).cell (i := 1) rfl))) (sl_of hL) (hTake 7 rfl (by kernel_rfl) rfl (fun wS => (xMvI rfl)) (sl_of hL) (hTake 8 rfl (by kernel_rfl) rfl (fun wS => (xIdL Try.underlying22 ti60 rfl rfl (by omega) h1.1 hx19)) (sl_of hL) (hTakeS 9 rfl (by kernel_rfl) (by kernel_rfl) rfl (fun wS hS => (xLoadS (GBlock.cells x19) Try.underlying60 rfl ti60 rfl rfl ((Lst.el h1.1 hx19).ext hS.1))) (sl_of hL) (hTwo 10 11 (by kernel_rfl) ?_ ?_)))))))))))
       ·refine oTo rfl rfl (aNew (mAlloc ti60)) ?_
        rintro _ w22 ⟨b22, rfl, hge22, hB22, he22⟩
        replace hL := hL.new hge22 hB22 he22
        refine ⟨(sl_of hL.tl), ?_⟩
        refine hOne 11 (by kernel_rfl) (oTo rfl rfl (aNew (mAlloc ti60)) ?_)
        rintro _ w23 ⟨b23, rfl, hge23, hB23, he23⟩
        replace hL := hL.new hge23 hB23 he23
        refine ⟨(sl_of hL.tl.tl), ?_⟩
        refine hOne 12 (by kernel_rfl) (oStS rfl rfl ti60 rfl rfl rfl (by simp [Value.oneCell', Dat.cells, GBlock.cells]) (hL.bk 1 rfl) rfl ?_)
        intro w24 hB24 hC24
        replace hL : Bx w0 w24 [.box b23 60 #[.int .i64 (0 : Int), .slice none 0 0, .int .i64 (0 : Int), .int .i64 (0 : Int), .int .i64 (0 : Int), .slice none 0 0, .int .i64 (0 : Int), .slice none 0 0, .int .i64 (0 : Int), .slice none 0 0], .box b22 60 (GBlock.cells x18).toArray, .box b2 26 (GCode.cells a1).toArray, .box b1 26 (GCode.cells a0).toArray] := hL.wr 1 rfl hC24 hB24
        refine ⟨(sl_of hL.tl.tl), ?_⟩
        refine hOne 13 (by kernel_rfl) (oStS rfl rfl ti60 rfl rfl rfl (by simp [Value.oneCell', Dat.cells, GBlock.cells]) (hL.bk 0 rfl) rfl ?_)
        intro w25 hB25 hC25
        replace hL : Bx w0 w25 [.box b23 60 (GBlock.cells x19).toArray, .box b22 60 (GBlock.cells x18).toArray, .box b2 26 (GCode.cells a1).toArray, .box b1 26 (GCode.cells a0).toArray] := hL.wr 0 rfl hC25 hB25
        refine ⟨(sl_of hL.tl.tl), ?_⟩
        refine hDone (by kernel_rfl) ?_
        exact ⟨b22, b23, ⟨rfl, rfl, rfl, rfl, rfl, trivial⟩, (hL.perm (List.Perm.swap _ _ _))⟩
       ·refine oTo rfl rfl (aNew (mAlloc ti60)) ?_
        rintro _ w26 ⟨b26, rfl, hge26, hB26, he26⟩
        replace hL := hL.new hge26 hB26 he26
        refine ⟨(sl_of hL.tl), ?_⟩
        refine hOne 10 (by kernel_rfl) (oTo rfl rfl (aNew (mAlloc ti60)) ?_)
        rintro _ w27 ⟨b27, rfl, hge27, hB27, he27⟩
        replace hL := hL.new hge27 hB27 he27
        refine ⟨(sl_of hL.tl.tl), ?_⟩
        refine hOne 12 (by kernel_rfl) (oStS rfl rfl ti60 rfl rfl rfl (by simp [Value.oneCell', Dat.cells, GBlock.cells]) (hL.bk 0 rfl) rfl ?_)
        intro w28 hB28 hC28
        replace hL : Bx w0 w28 [.box b27 60 (GBlock.cells x18).toArray, .box b26 60 #[.int .i64 (0 : Int), .slice none 0 0, .int .i64 (0 : Int), .int .i64 (0 : Int), .int .i64 (0 : Int), .slice none 0 0, .int .i64 (0 : Int), .slice none 0 0, .int .i64 (0 : Int), .slice none 0 0], .box b2 26 (GCode.cells a1).toArray, .box b1 26 (GCode.cells a0).toArray] := hL.wr 0 rfl hC28 hB28
        refine ⟨(sl_of hL.tl.tl), ?_⟩
        refine hOne 13 (by kernel_rfl) (oStS rfl rfl ti60 rfl rfl rfl (by simp [Value.oneCell', Dat.cells, GBlock.cells]) (hL.bk 1 rfl) rfl ?_)
        intro w29 hB29 hC29
        replace hL : Bx w0 w29 [.box b27 60 (GBlock.cells x18).toArray, .box b26 60 (GBlock.cells x19).toArray, .box b2 26 (GCode.cells a1).toArray, .box b1 26 (GCode.cells a0).toArray] := hL.wr 1 rfl hC29 hB29
        refine ⟨(sl_of hL.tl.tl), ?_⟩
        refine hDone (by kernel_rfl) ?_
        exact ⟨b27, b26, ⟨rfl, rfl, rfl, rfl, rfl, trivial⟩, hL⟩
      ·clear hL
       rintro f w ⟨bq2110_0, bq2111_0, hf, hL⟩
       obtain ⟨g, rfl⟩ := has_updL _ _ hf
       clear hf
       refine wSeq ?_
       obtain ⟨E30, hE30⟩ : ∃ E, (((((((decide (x18.Params ≠ x19.Params)) || (!(m_same_List_api_Op x18.Ops.l x19.Ops.l))) || (decide (x18.Term.Kind ≠ x19.Term.Kind))) || (decide (x18.Term.A ≠ x19.Term.A))) || (decide (x18.Term.N ≠ x19.Term.N))) || (!(m_same_List_int x18.Term.Args.l x19.Term.Args.l))) || (!(m_same_edges (GArr56.er x18.Term.To) (GArr56.er x19.Term.To)))) = E := ⟨_, rfl⟩
       refine wJ (fun f w => Has f [(2, .pointer (some ⟨b1, 0, none⟩)), (3, .pointer (some ⟨b2, 0, none⟩)), (5, .int .i64 i15), (114, .bool E30)] ∧ Bx w0 w [.box bq2110_0 60 (GBlock.cells x18).toArray, .box bq2111_0 60 (GBlock.cells x19).toArray, .box b2 26 (GCode.cells a1).toArray, .box b1 26 (GCode.cells a0).toArray]) ?_ ?_
       ·refine wReg (sRun (xFld0 Try.underlying60 rfl rfl ti3 (by decide) rfl) (sRun (xLoad Try.underlying3 rfl rfl ((hL.bk 0 rfl).cell (i := 0) rfl)) (sRun (xFld0 Try.underlying60 rfl rfl ti3 (by decide) rfl) (sRun (xLoad Try.underlying3 rfl rfl ((hL.bk 1 rfl).cell (i := 0) rfl)) (sRun (xNeqD rfl rfl) (sRun (xMvB rfl) ?_))))))
        by_cases h31 : x18.Params ≠ x19.Params
        ·try rw [decide_eq_true h31]
         refine sNo rfl (sNo rfl (sNo rfl (sNo rfl (sNo rfl (sNo rfl (sRun (xPkTB rfl rfl) (sRun (xMvB rfl) (sNo rfl (sNo rfl (sNo rfl (sNo rfl (sNo rfl (sNo rfl ?_)))))))))))))
         refine sNo rfl (sRun (xPkTB rfl rfl) (sRun (xMvB rfl) (sNo rfl (sNo rfl (sNo rfl (sNo rfl (sNo rfl (sNo rfl (sNo rfl (sRun (xPkTB rfl rfl) (sRun (xMvB rfl) (sNo rfl (sNo rfl ?_)))))))))))))
         refine sNo rfl (sNo rfl (sNo rfl (sNo rfl (sNo rfl (sRun (xPkTB rfl rfl) (sRun (xMvB rfl) (sNo rfl (sNo rfl (sNo rfl (sNo rfl (sNo rfl (sNo rfl (sNo rfl ?_)))))))))))))
         refine sNo rfl (sRun (xPkTB rfl rfl) (sRun (xMvB rfl) (sNo rfl (sNo rfl (sNo rfl (sNo rfl (sNo rfl (sNo rfl (sNo rfl (sNo rfl (sRun (xPkTB rfl rfl) (sNil ?_))))))))))))
         exact ⟨⟨rfl, rfl, rfl, (congrArg Value.bool (by rw [← hE30]; first | (simp [h31]; done) | (simp only [decide_eq_true h31]; done) | grind)), trivial⟩, hL⟩
        ·try rw [decide_eq_false h31]
         refine sGo rfl (sRun (xFld (k := 1) Try.underlying60 rfl rfl ti53 (by decide) rfl) (sGo rfl (sRun (xLoad Try.underlying53 rfl rfl ((hL.bk 0 rfl).cell (i := 1) rfl)) (sGo rfl (sRun (xFld (k := 1) Try.underlying60 rfl rfl ti53 (by decide) rfl) (sGo rfl (sRun (xLoad Try.underlying53 rfl rfl ((hL.bk 1 rfl).cell (i := 1) rfl)) (sGo rfl (sCall (eCall cal36 rfl) (sp_m_same_List_api_Op _ x18.Ops (Dat.all (Dat.ext (x := x18.Ops) ((Lst.elok h0.1 hx18).1) hL.1)) x19.Ops (Dat.all (Dat.ext (x := x19.Ops) ((Lst.elok h1.1 hx19).1) hL.1))) ?_)))))))))
         rintro _ w32 ⟨rfl, he32⟩
         replace hL := hL.ext he32
         by_cases h33 : (m_same_List_api_Op x18.Ops.l x19.Ops.l) = true
         ·try rw [h33]
          refine sGo rfl (sRun (xNot rfl) (sRun (xPkFB rfl rfl) (sRun (xMvB rfl) (sGo rfl (sRun (xFld (k := 2) Try.underlying60 rfl rfl ti58 (by decide) rfl) (sGo rfl (sRun (xFld0 Try.underlying58 rfl rfl ti3 (by decide) rfl) (sGo rfl (sRun (xLoad Try.underlying3 rfl rfl ((hL.bk 0 rfl).cell (i := 2) rfl)) (sGo rfl (sRun (xFld (k := 2) Try.underlying60 rfl rfl ti58 (by decide) rfl) (sGo rfl (sRun (xFld0 Try.underlying58 rfl rfl ti3 (by decide) rfl) ?_)))))))))))))
          refine sGo rfl (sRun (xLoad Try.underlying3 rfl rfl ((hL.bk 1 rfl).cell (i := 2) rfl)) (sGo rfl (sRun (xNeqD rfl rfl) (sRun (xPkFB rfl rfl) (sRun (xMvB rfl) ?_)))))
          by_cases h34 : x18.Term.Kind ≠ x19.Term.Kind
          ·try rw [decide_eq_true h34]
           refine sNo rfl (sNo rfl (sNo rfl (sNo rfl (sNo rfl (sNo rfl (sNo rfl (sRun (xPkTB rfl rfl) (sRun (xMvB rfl) (sNo rfl (sNo rfl (sNo rfl (sNo rfl (sNo rfl ?_)))))))))))))
           refine sNo rfl (sNo rfl (sRun (xPkTB rfl rfl) (sRun (xMvB rfl) (sNo rfl (sNo rfl (sNo rfl (sNo rfl (sNo rfl (sNo rfl (sNo rfl (sNo rfl (sRun (xPkTB rfl rfl) (sRun (xMvB rfl) ?_)))))))))))))
           refine sNo rfl (sNo rfl (sNo rfl (sNo rfl (sNo rfl (sNo rfl (sNo rfl (sNo rfl (sRun (xPkTB rfl rfl) (sNil ?_)))))))))
           exact ⟨⟨rfl, rfl, rfl, (congrArg Value.bool (by rw [← hE30]; first | (simp [h31, h33, h34]; done) | (simp only [decide_eq_false h31, h33, decide_eq_true h34]; done) | grind)), trivial⟩, hL⟩
          ·try rw [decide_eq_false h34]
           refine sGo rfl (sRun (xFld (k := 2) Try.underlying60 rfl rfl ti58 (by decide) rfl) (sGo rfl (sRun (xFld (k := 1) Try.underlying58 rfl rfl ti3 (by decide) rfl) (sGo rfl (sRun (xLoad Try.underlying3 rfl rfl ((hL.bk 0 rfl).cell (i := 3) rfl)) (sGo rfl (sRun (xFld (k := 2) Try.underlying60 rfl rfl ti58 (by decide) rfl) (sGo rfl (sRun (xFld (k := 1) Try.underlying58 rfl rfl ti3 (by decide) rfl) (sGo rfl (sRun (xLoad Try.underlying3 rfl rfl ((hL.bk 1 rfl).cell (i := 3) rfl)) (sGo rfl (sRun (xNeqD rfl rfl) ?_)))))))))))))
           refine sRun (xPkFB rfl rfl) (sRun (xMvB rfl) ?_)
           by_cases h35 : x18.Term.A ≠ x19.Term.A
           ·try rw [decide_eq_true h35]
            refine sNo rfl (sNo rfl (sNo rfl (sNo rfl (sNo rfl (sNo rfl (sNo rfl (sRun (xPkTB rfl rfl) (sRun (xMvB rfl) (sNo rfl (sNo rfl (sNo rfl (sNo rfl (sNo rfl ?_)))))))))))))
            refine sNo rfl (sNo rfl (sNo rfl (sRun (xPkTB rfl rfl) (sRun (xMvB rfl) (sNo rfl (sNo rfl (sNo rfl (sNo rfl (sNo rfl (sNo rfl (sNo rfl (sNo rfl (sRun (xPkTB rfl rfl) ?_)))))))))))))
            refine sNil ?_
            exact ⟨⟨rfl, rfl, rfl, (congrArg Value.bool (by rw [← hE30]; first | (simp [h31, h33, h34, h35]; done) | (simp only [decide_eq_false h31, h33, decide_eq_false h34, decide_eq_true h35]; done) | grind)), trivial⟩, hL⟩
           ·try rw [decide_eq_false h35]
            refine sGo rfl (sRun (xFld (k := 2) Try.underlying60 rfl rfl ti58 (by decide) rfl) (sGo rfl (sRun (xFld (k := 2) Try.underlying58 rfl rfl ti3 (by decide) rfl) (sGo rfl (sRun (xLoad Try.underlying3 rfl rfl ((hL.bk 0 rfl).cell (i := 4) rfl)) (sGo rfl (sRun (xFld (k := 2) Try.underlying60 rfl rfl ti58 (by decide) rfl) (sGo rfl (sRun (xFld (k := 2) Try.underlying58 rfl rfl ti3 (by decide) rfl) (sGo rfl (sRun (xLoad Try.underlying3 rfl rfl ((hL.bk 1 rfl).cell (i := 4) rfl)) (sGo rfl (sRun (xNeqD rfl rfl) ?_)))))))))))))
            refine sRun (xPkFB rfl rfl) (sRun (xMvB rfl) ?_)
            by_cases h36 : x18.Term.N ≠ x19.Term.N
            ·try rw [decide_eq_true h36]
             refine sNo rfl (sNo rfl (sNo rfl (sNo rfl (sNo rfl (sNo rfl (sNo rfl (sNo rfl (sRun (xPkTB rfl rfl) (sRun (xMvB rfl) (sNo rfl (sNo rfl (sNo rfl (sNo rfl ?_)))))))))))))
             refine sNo rfl (sNo rfl (sNo rfl (sNo rfl (sRun (xPkTB rfl rfl) (sNil ?_)))))
             exact ⟨⟨rfl, rfl, rfl, (congrArg Value.bool (by rw [← hE30]; first | (simp [h31, h33, h34, h35, h36]; done) | (simp only [decide_eq_false h31, h33, decide_eq_false h34, decide_eq_false h35, decide_eq_true h36]; done) | grind)), trivial⟩, hL⟩
            ·try rw [decide_eq_false h36]
             refine sGo rfl (sRun (xFld (k := 2) Try.underlying60 rfl rfl ti58 (by decide) rfl) (sGo rfl (sRun (xFld (k := 3) Try.underlying58 rfl rfl ti37 (by decide) rfl) (sGo rfl (sRun (xLoad Try.underlying37 rfl rfl ((hL.bk 0 rfl).cell (i := 5) rfl)) (sGo rfl (sRun (xFld (k := 2) Try.underlying60 rfl rfl ti58 (by decide) rfl) (sGo rfl (sRun (xFld (k := 3) Try.underlying58 rfl rfl ti37 (by decide) rfl) (sGo rfl (sRun (xLoad Try.underlying37 rfl rfl ((hL.bk 1 rfl).cell (i := 5) rfl)) (sGo rfl (sCall (eCall cal37 rfl) (sp_m_same_List_int _ x18.Term.Args (Dat.all (Dat.ext (x := x18.Term.Args) ((Lst.elok h0.1 hx18).2.1) hL.1)) x19.Term.Args (Dat.all (Dat.ext (x := x19.Term.Args) ((Lst.elok h1.1 hx19).2.1) hL.1))) ?_)))))))))))))
             rintro _ w37 ⟨rfl, he37⟩
             replace hL := hL.ext he37
             by_cases h38 : (m_same_List_int x18.Term.Args.l x19.Term.Args.l) = true
             ·try rw [h38]
              refine sGo rfl (sRun (xNot rfl) (sRun (xPkFB rfl rfl) (sRun (xMvB rfl) (sGo rfl (sRun (xFld (k := 2) Try.underlying60 rfl rfl ti58 (by decide) rfl) (sGo rfl (sRun (xFld (k := 4) Try.underlying58 rfl rfl ti56 (by decide) rfl) (sGo rfl (sRun (xLoadS (GArr56.cells x18.Term.To) Try.underlying56 rfl ti56 rfl rfl ((hL.bk 0 rfl).part rfl)) (sGo rfl (sRun (xFld (k := 2) Try.underlying60 rfl rfl ti58 (by decide) rfl) (sGo rfl (sRun (xFld (k := 4) Try.underlying58 rfl rfl ti56 (by decide) rfl) ?_)))))))))))))
              refine sGo rfl (sRun (xLoadS (GArr56.cells x19.Term.To) Try.underlying56 rfl ti56 rfl rfl ((hL.bk 1 rfl).part rfl)) (sGo rfl (sCall (eCall cal38 rfl) (sp_m_same_edges _ x18.Term.To (Dat.all (Dat.ext (x := x18.Term.To) ((Lst.elok h0.1 hx18).2.2) hL.1)) x19.Term.To (Dat.all (Dat.ext (x := x19.Term.To) ((Lst.elok h1.1 hx19).2.2) hL.1))) ?_)))
              rintro _ w39 ⟨rfl, he39⟩
              replace hL := hL.ext he39
              by_cases h40 : (m_same_edges (GArr56.er x18.Term.To) (GArr56.er x19.Term.To)) = true
              ·try rw [h40]
               refine sGo rfl (sRun (xNot rfl) (sRun (xPkFB rfl rfl) (sNil ?_)))
               exact ⟨⟨rfl, rfl, rfl, (congrArg Value.bool (by rw [← hE30]; first | (simp [h31, h33, h34, h35, h36, h38, h40]; done) | (simp only [decide_eq_false h31, h33, decide_eq_false h34, decide_eq_false h35, decide_eq_false h36, h38, h40]; done) | grind)), trivial⟩, hL⟩
              ·have h40n : (m_same_edges (GArr56.er x18.Term.To) (GArr56.er x19.Term.To)) = false := Bool.eq_false_iff.2 h40
               try rw [h40n]
               refine sGo rfl (sRun (xNot rfl) (sRun (xPkFB rfl rfl) (sNil ?_)))
               exact ⟨⟨rfl, rfl, rfl, (congrArg Value.bool (by rw [← hE30]; first | (simp [h31, h33, h34, h35, h36, h38, h40n]; done) | (simp only [decide_eq_false h31, h33, decide_eq_false h34, decide_eq_false h35, decide_eq_false h36, h38, h40n]; done) | grind)), trivial⟩, hL⟩
             ·have h38n : (m_same_List_int x18.Term.Args.l x19.Term.Args.l) = false := Bool.eq_false_iff.2 h38
              try rw [h38n]
              refine sGo rfl (sRun (xNot rfl) (sRun (xPkFB rfl rfl) (sRun (xMvB rfl) (sNo rfl (sNo rfl (sNo rfl (sNo rfl (sNo rfl (sNo rfl (sNo rfl (sNo rfl (sRun (xPkTB rfl rfl) (sNil ?_)))))))))))))
              exact ⟨⟨rfl, rfl, rfl, (congrArg Value.bool (by rw [← hE30]; first | (simp [h31, h33, h34, h35, h36, h38n]; done) | (simp only [decide_eq_false h31, h33, decide_eq_false h34, decide_eq_false h35, decide_eq_false h36, h38n]; done) | grind)), trivial⟩, hL⟩
         ·have h33n : (m_same_List_api_Op x18.Ops.l x19.Ops.l) = false := Bool.eq_false_iff.2 h33
          try rw [h33n]
          refine sGo rfl (sRun (xNot rfl) (sRun (xPkFB rfl rfl) (sRun (xMvB rfl) (sNo rfl (sNo rfl (sNo rfl (sNo rfl (sNo rfl (sNo rfl (sNo rfl (sRun (xPkTB rfl rfl) (sRun (xMvB rfl) (sNo rfl ?_)))))))))))))
          refine sNo rfl (sNo rfl (sNo rfl (sNo rfl (sNo rfl (sNo rfl (sRun (xPkTB rfl rfl) (sRun (xMvB rfl) (sNo rfl (sNo rfl (sNo rfl (sNo rfl (sNo rfl (sNo rfl ?_)))))))))))))
          refine sNo rfl (sRun (xPkTB rfl rfl) (sRun (xMvB rfl) (sNo rfl (sNo rfl (sNo rfl (sNo rfl (sNo rfl (sNo rfl (sNo rfl (sNo rfl (sRun (xPkTB rfl rfl) (sRun (xMvB rfl) (sNo rfl ?_)))))))))))))
          refine sNo rfl (sNo rfl (sNo rfl (sNo rfl (sNo rfl (sNo rfl (sNo rfl (sRun (xPkTB rfl rfl) (sNil ?_))))))))
          exact ⟨⟨rfl, rfl, rfl, (congrArg Value.bool (by rw [← hE30]; first | (simp [h31, h33n]; done) | (simp only [decide_eq_false h31, h33n]; done) | grind)), trivial⟩, hL⟩
       ·clear hL
        subst hE30
        rintro f w ⟨hf, hL⟩
        obtain ⟨g, rfl⟩ := has_updL _ _ hf
        clear hf
        by_cases h41 : (((((((decide (x18.Params ≠ x19.Params)) || (!(m_same_List_api_Op x18.Ops.l x19.Ops.l))) || (decide (x18.Term.Kind ≠ x19.Term.Kind))) || (decide (x18.Term.A ≠ x19.Term.A))) || (decide (x18.Term.N ≠ x19.Term.N))) || (!(m_same_List_int x18.Term.Args.l x19.Term.Args.l))) || (!(m_same_edges (GArr56.er x18.Term.To) (GArr56.er x19.Term.To)))) = true
        ·try rw [h41]
         rw [if_pos h41] at hY15
         refine wIfT rfl (wSeq (wReg (sRun (xAsB rfl) (sNil (wRet ?_)))))
         subst hY15
         rw [Lp.el_out] at hM
         try dsimp only at hM
         subst hM
         refine res1 (P := Try.prog) (fn := Try.f11) rfl ?_
         exact ⟨rfl, hL.1⟩
        ·have h41n : (((((((decide (x18.Params ≠ x19.Params)) || (!(m_same_List_api_Op x18.Ops.l x19.Ops.l))) || (decide (x18.Term.Kind ≠ x19.Term.Kind))) || (decide (x18.Term.A ≠ x19.Term.A))) || (decide (x18.Term.N ≠ x19.Term.N))) || (!(m_same_List_int x18.Term.Args.l x19.Term.Args.l))) || (!(m_same_edges (GArr56.er x18.Term.To) (GArr56.er x19.Term.To)))) = false := Bool.eq_false_iff.2 h41
         try rw [h41n]
         rw [if_neg h41] at hY15
         have h42 : ¬ (x18.Params ≠ x19.Params) := fun hq => by rw [decide_eq_true hq] at h41; simp at h41
         have h43 : ¬ (x18.Term.Kind ≠ x19.Term.Kind) := fun hq => by rw [decide_eq_true hq] at h41; simp at h41
         have h44 : ¬ (x18.Term.A ≠ x19.Term.A) := fun hq => by rw [decide_eq_true hq] at h41; simp at h41
         have h45 : ¬ (x18.Term.N ≠ x19.Term.N) := fun hq => by rw [decide_eq_true hq] at h41; simp at h41
         refine wIfF rfl (wSkip (wReg (sRun (xMvI rfl) (sRun (xAdd64 rfl rfl (by omega) (by omega)) (sRun (xAsI rfl) (sNil ?_))))))
         exact ⟨m15, by omega, (i15 + 1), by omega, by omega, Or.inl (by omega), ⟨rfl, rfl, rfl, trivial⟩, hL.tl.tl, hY15⟩
     ·obtain rfl : n15 = 0 := by omega
      rw [m_same_Code_L0] at hY15
      refine wSeq (wSeq (wReg (sRun (xMvI rfl) (sRun (xFld (k := 1) Try.underlying26 rfl rfl ti22 (by decide) rfl) (sRun (xLoad Try.underlying22 rfl rfl ((hL.bk 1 rfl).cell (i := 1) rfl)) ?_)))))
      have hl16 : a0.Blocks.l.length * 144 ≤ 140737488355328 := Lst.bd h0.1
      refine sRun (xLnL (s := a0.Blocks) Try.underlying22 rfl) (sRun (xLssF rfl rfl (by omega)) (sNil (wIfF rfl (wExit ?_))))
      exact ⟨⟨rfl, rfl, trivial⟩, hL, hY15⟩
    ·clear hL
     rintro f w ⟨hf, hL, hZ15⟩
     obtain ⟨g, rfl⟩ := has_updL _ _ hf
     clear hf
     subst hZ15
     rw [Lp.el_go] at hM
     try dsimp only at hM
     refine wSeq (wReg (sRun (xAsB rfl) (sNil (wRet ?_))))
     subst hM
     refine res1 (P := Try.prog) (fn := Try.f11) rfl ?_
     exact ⟨rfl, hL.1⟩

end Go.Proofs.Ytbpccmnalhdpmaa
