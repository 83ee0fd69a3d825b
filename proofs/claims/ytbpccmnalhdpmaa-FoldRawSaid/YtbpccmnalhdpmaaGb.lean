/- Contracts, printed by gen2.py. -/
import Derived.Test.YtbpccmnalhdpmaaGa
set_option linter.unusedVariables false
set_option linter.unusedSimpArgs false
set_option maxRecDepth 4000
namespace Go.Proofs.Ytbpccmnalhdpmaa
open Go.RowKit Go.Fw
def m_r06_ops_L1 (a0 : (GCode List)) (a1 : (GBlock List)) (u5 : List Int) : List GOp → Nat → (List Int) → Lp (List Int) (Bool)
  | [], _, s10_0 => .go s10_0
  | x10 :: r10, k10, s10_0 =>
  if (((((decide (x10.Kind < (1 : Int))) || (decide ((21 : Int) < x10.Kind))) || (!(m_r06_plain x10))) || ((m_r06_UsesA x10.Kind) && (!(m_r06_Has s10_0 x10.A)))) || ((m_r06_UsesB x10.Kind) && (!(m_r06_Has s10_0 x10.B)))) = true then
   .out (false)
  else
   if (m_r06_Defines x10.Kind) = true then
    if (((decide (x10.Dst < a1.Params)) || (decide ((9999 : Int) < x10.Dst))) || (m_r06_Has s10_0 x10.Dst)) = true then
     .out (false)
    else
     if ((decide (x10.Kind = (15 : Int))) || ((decide (x10.Kind = (16 : Int))) || (decide (x10.Kind = (17 : Int))))) = true then
      if x10.N < (0 : Int) then
       .out (false)
      else
       if ((a0.Objects.length : Nat) : Int) ≤ x10.N then
        .out (false)
       else
        m_r06_ops_L1 a0 a1 u5 r10 (k10 + 1) (s10_0 ++ [x10.Dst])
     else
      if ((decide (x10.Kind = (19 : Int))) || (decide (x10.Kind = (20 : Int)))) = true then
       if ((((decide (x10.N < (0 : Int))) || (decide ((9999 : Int) < x10.N))) || (decide (x10.Ctx < (0 : Int)))) || (decide (((a0.Contexts.length : Nat) : Int) ≤ x10.Ctx))) = true then
        .out (false)
       else
        m_r06_ops_L1 a0 a1 u5 r10 (k10 + 1) (s10_0 ++ [x10.Dst])
      else
       if x10.Kind = (21 : Int) then
        if (((((((decide (x10.Ctx < (0 : Int))) || (decide (((a0.Contexts.length : Nat) : Int) ≤ x10.Ctx))) || (decide (x10.Var < (0 : Int)))) || (decide ((24 : Int) ≤ x10.Var))) || (decide (x10.Piece < (0 : Int)))) || (decide ((4 : Int) ≤ x10.Piece))) || (!(m_r06_source a0 x10.Src (m_r06_Values a1)))) = true then
         .out (false)
        else
         m_r06_ops_L1 a0 a1 u5 r10 (k10 + 1) (s10_0 ++ [x10.Dst])
       else
        m_r06_ops_L1 a0 a1 u5 r10 (k10 + 1) (s10_0 ++ [x10.Dst])
   else
    if ((decide (x10.Kind = (15 : Int))) || ((decide (x10.Kind = (16 : Int))) || (decide (x10.Kind = (17 : Int))))) = true then
     if x10.N < (0 : Int) then
      .out (false)
     else
      if ((a0.Objects.length : Nat) : Int) ≤ x10.N then
       .out (false)
      else
       m_r06_ops_L1 a0 a1 u5 r10 (k10 + 1) s10_0
    else
     if ((decide (x10.Kind = (19 : Int))) || (decide (x10.Kind = (20 : Int)))) = true then
      if ((((decide (x10.N < (0 : Int))) || (decide ((9999 : Int) < x10.N))) || (decide (x10.Ctx < (0 : Int)))) || (decide (((a0.Contexts.length : Nat) : Int) ≤ x10.Ctx))) = true then
       .out (false)
      else
       m_r06_ops_L1 a0 a1 u5 r10 (k10 + 1) s10_0
     else
      if x10.Kind = (21 : Int) then
       if (((((((decide (x10.Ctx < (0 : Int))) || (decide (((a0.Contexts.length : Nat) : Int) ≤ x10.Ctx))) || (decide (x10.Var < (0 : Int)))) || (decide ((24 : Int) ≤ x10.Var))) || (decide (x10.Piece < (0 : Int)))) || (decide ((4 : Int) ≤ x10.Piece))) || (!(m_r06_source a0 x10.Src (m_r06_Values a1)))) = true then
        .out (false)
       else
        m_r06_ops_L1 a0 a1 u5 r10 (k10 + 1) s10_0
      else
       m_r06_ops_L1 a0 a1 u5 r10 (k10 + 1) s10_0
def m_r06_ops_L0 (a0 : (GCode List)) (a1 : (GBlock List)) : Nat → Int → (List Int) → Lp (List Int) (Bool)
  | 0, _, s5_0 => .go s5_0
  | n5 + 1, i5, s5_0 =>
  m_r06_ops_L0 a0 a1 n5 (i5 + 1) (s5_0 ++ [i5])
def m_r06_ops (a0 : (GCode List)) (a1 : (GBlock List)) : Bool :=
 (m_r06_ops_L0 a0 a1 (a1.Params - (0 : Int)).toNat (0 : Int) ([] : List Int)).el (fun u5 =>
  (m_r06_ops_L1 a0 a1 u5 a1.Ops 0 u5).el (fun u10 =>
   true
    ) (fun o => o)
   ) (fun o => o)
theorem bs43_20 {ρ : Operand → Value} {w : World} {d : Option Nat} {ty : TypeId} {pos : String} {af : Array Edge} {g : Option (Nat × Bool)} {x0 : Int} {o0 : Operand} (h0 : ρ o0 = .int .i64 x0) :
    (execOp ρ ⟨d, .buildSlice 37 1 #[(0, o0)], ty, pos, af, g⟩).run Try.prog w = .ok (.value (.slice (some ⟨w.heap.size, 0, none⟩) 1 1)) (w.alloc (.cells #[.int .i64 x0] 3)) := by
  have e : (Instr.buildSlice 37 1 #[(0, .int .i64 x0)]).run Try.prog w = .ok (.slice (some ⟨w.heap.size, 0, none⟩) 1 1) (w.alloc (.cells #[.int .i64 x0] 3)) := by kernel_rfl
  simp [execOp, h0, e]
theorem bs43_88 {ρ : Operand → Value} {w : World} {d : Option Nat} {ty : TypeId} {pos : String} {af : Array Edge} {g : Option (Nat × Bool)} {x0 : Int} {o0 : Operand} (h0 : ρ o0 = .int .i64 x0) :
    (execOp ρ ⟨d, .buildSlice 37 1 #[(0, o0)], ty, pos, af, g⟩).run Try.prog w = .ok (.value (.slice (some ⟨w.heap.size, 0, none⟩) 1 1)) (w.alloc (.cells #[.int .i64 x0] 3)) := by
  have e : (Instr.buildSlice 37 1 #[(0, .int .i64 x0)]).run Try.prog w = .ok (.slice (some ⟨w.heap.size, 0, none⟩) 1 1) (w.alloc (.cells #[.int .i64 x0] 3)) := by kernel_rfl
  simp [execOp, h0, e]
set_option maxHeartbeats 12800000 in
theorem sp_m_r06_ops (w0 : World) (a0 : (GCode Lst)) (h0 : Dat.ok (fun _ => True) w0 a0) (a1 : (GBlock Lst)) (h1 : Dat.ok (fun _ => True) w0 a1) (hp : a1.Params ≤ 999) : Calls Try.prog 43 #[.agg (GCode.cells a0).toArray, .agg (GBlock.cells a1).toArray] w0 (Ret fun v w => v = .bool (m_r06_ops (GCode.er a0) (GBlock.er a1)) ∧ Ext w0 w) := by
  obtain ⟨X, hM⟩ : ∃ X, m_r06_ops (GCode.er a0) (GBlock.er a1) = X := ⟨_, rfl⟩
  rw [hM]
  unfold m_r06_ops at hM
  try simp only [er1, er2, er3, er4, er5, er6, er7, er8, er9, er10, er11, er12, er13, er14, er15, er16, er17, List.length_map] at hM
  have hL : Bx w0 w0 [] := Bx.nil
  refine calls_of Try.func43 rfl (Nat.le_of_ble_eq_true rfl) (by kernel_rfl) ?_
  refine wCut [(0, .agg (GCode.cells a0).toArray), (1, .agg (GBlock.cells a1).toArray)] ⟨rfl, rfl, trivial⟩ fun g => ?_
  refine wSeq (wReg (sTo (aNew (mBox rfl)) ?_))
  rintro _ w1 ⟨b1, rfl, hge1, hB1, he1⟩
  replace hL := hL.new hge1 hB1 he1
  refine sTo (aNew (mBox rfl)) ?_
  rintro _ w2 ⟨b2, rfl, hge2, hB2, he2⟩
  replace hL := hL.new hge2 hB2 he2
  refine sRun (xAsB rfl) (sNil (wSeq (wReg (sRun (xLoadS (GBlock.cells a1) Try.underlying60 rfl ti60 rfl rfl ((hL.bk 0 rfl).part rfl)) (sCall (eCall cal86 rfl) (sp_m_r06_Values _ a1 (Dat.all (Dat.ext (x := a1) h1 hL.1)) (by omega)) ?_)))))
  rintro _ w3 ⟨r3, rfl, hr3, ho3, he3⟩
  obtain ⟨lo3, hi3, hL⟩ := hL.got' he3 ho3
  try rw [← hr3] at hM
  refine sRun (xAsS rfl) (sNil (wSeq (wReg (sRun (xAsS rfl) (sNil (wSeq (wSeq (wReg (sRun (xAsI rfl) (sNil ?_))))))))))
  replace hL := hL.owL Int 3
  obtain ⟨Y5, hY5⟩ : ∃ Y, m_r06_ops_L0 (GCode.er a0) (GBlock.er a1) (a1.Params - (0 : Int)).toNat (0 : Int) ([] : List Int) = Y := ⟨_, rfl⟩
  rw [hY5] at hM
  refine wJ (fun f w => ∃ (s5_0 : List Int) (A6 : Option Addr) (c6 : Nat), Has f [(2, .pointer (some ⟨b1, 0, none⟩)), (3, .pointer (some ⟨b2, 0, none⟩)), (5, .slice r3.a r3.l.length r3.c), (6, .slice A6 s5_0.length c6)] ∧ Bx w0 w [.ownl A6 c6 3 s5_0, .dat lo3 hi3 r3, .box b2 60 (GBlock.cells a1).toArray, .box b1 26 (GCode.cells a0).toArray] ∧ s5_0.length ≤ ([] : List Int).length + 1 * (a1.Params - (0 : Int)).toNat ∧ Lp.go s5_0 = Y5) ?_ ?_
  ·refine wBlock (wLoopG (fun n f w => ∃ (i5 : Int) (s5_0 : List Int) (A6 : Option Addr) (c6 : Nat), n = (a1.Params - i5).toNat ∧ (0 : Int) ≤ i5 ∧ (i5 ≤ a1.Params ∨ i5 = (0 : Int)) ∧ Has f [(7, .int .i64 i5), (2, .pointer (some ⟨b1, 0, none⟩)), (3, .pointer (some ⟨b2, 0, none⟩)), (5, .slice r3.a r3.l.length r3.c), (6, .slice A6 s5_0.length c6)] ∧ Bx w0 w [.ownl A6 c6 3 s5_0, .dat lo3 hi3 r3, .box b2 60 (GBlock.cells a1).toArray, .box b1 26 (GCode.cells a0).toArray] ∧ s5_0.length ≤ ([] : List Int).length + 1 * (i5 - (0 : Int)).toNat ∧ m_r06_ops_L0 (GCode.er a0) (GBlock.er a1) n i5 s5_0 = Y5) (a1.Params - (0 : Int)).toNat ⟨(0 : Int), ([] : List Int), none, 0, rfl, Int.le_refl _, Or.inr rfl, ⟨rfl, rfl, rfl, rfl, rfl, trivial⟩, hL, (by first | omega | (simp only [List.length_append, List.length_cons, List.length_nil] at *; omega)), hY5⟩ ?_)
   clear hL hY5
   rintro n5 f w ⟨i5, s5_0, A6, c6, hn5, hk5, hj5, hf, hL, hb5_0, hY5⟩
   obtain ⟨g, rfl⟩ := has_updL _ _ hf
   clear hf
   by_cases hk5b : i5 < a1.Params
   ·obtain ⟨m5, rfl⟩ : ∃ m, n5 = m + 1 := ⟨n5 - 1, by omega⟩
    rw [m_r06_ops_L0] at hY5
    try simp only [er1, er2, er3, er4, er5, er6, er7, er8, er9, er10, er11, er12, er13, er14, er15, er16, er17, List.length_map, ← hr3] at hY5
    refine wSeq (wSeq (wReg (sRun (xMvI rfl) (sRun (xFld0 Try.underlying60 rfl rfl ti3 (by decide) rfl) (sRun (xLoad Try.underlying3 rfl rfl ((hL.bk 2 rfl).cell (i := 0) rfl)) (sRun (xLssT rfl rfl (by omega)) (sNil (wIfT rfl (wSkip (wSeq (wBlock (wReg (sRun (xMvS rfl) ?_)))))))))))))
    refine sRun (xMvI rfl) (sTo (aRow (bs43_20 rfl)) ?_)
    rintro _ w7 ⟨b7, rfl, hge7, hB7, he7⟩
    replace hL := hL.new hge7 hB7 he7
    refine sTo (aAppL (xs := s5_0) (ys := [i5]) Try.underlying37 ti3 rfl (by decide) rfl rfl (hL.bo 1 rfl) ((hL.bk 0 rfl).sl1 (α := Int) [i5] rfl rfl) (allOne rfl) (by first | omega | (simp only [List.length_append, List.length_cons, List.length_nil] at *; omega)) (by first | omega | (simp only [List.length_append, List.length_cons, List.length_nil] at *; omega))) ?_
    rintro _ w8 ⟨A8, c8, rfl, ho8, hg8, hr8⟩
    replace hL : Bx w0 w8 [.box b7 3 #[.int .i64 i5], .ownl A8 c8 3 (s5_0 ++ [i5]), .dat lo3 hi3 r3, .box b2 60 (GBlock.cells a1).toArray, .box b1 26 (GCode.cells a0).toArray] := hL.app 1 rfl ho8 hg8 hr8
    refine sRun (xAsS rfl) (sNil (wReg (sRun (xMvI rfl) (sRun (xAdd64 rfl rfl (by omega) (by omega)) (sRun (xAsI rfl) (sNil ?_))))))
    exact ⟨m5, by omega, (i5 + 1), (s5_0 ++ [i5]), A8, c8, by omega, by omega, Or.inl (by omega), ⟨rfl, rfl, rfl, rfl, rfl, trivial⟩, hL.tl, (by first | omega | (simp only [List.length_append, List.length_cons, List.length_nil] at *; omega)), hY5⟩
   ·obtain rfl : n5 = 0 := by omega
    rw [m_r06_ops_L0] at hY5
    refine wSeq (wSeq (wReg (sRun (xMvI rfl) (sRun (xFld0 Try.underlying60 rfl rfl ti3 (by decide) rfl) (sRun (xLoad Try.underlying3 rfl rfl ((hL.bk 2 rfl).cell (i := 0) rfl)) (sRun (xLssF rfl rfl (by omega)) (sNil (wIfF rfl (wExit ?_)))))))))
    exact ⟨s5_0, A6, c6, ⟨rfl, rfl, rfl, rfl, trivial⟩, hL, (by first | omega | (simp only [List.length_append, List.length_cons, List.length_nil] at *; omega)), hY5⟩
  ·clear hL
   rintro f w ⟨s5_0, A6, c6, hf, hL, hb5_0, hZ5⟩
   obtain ⟨g, rfl⟩ := has_updL _ _ hf
   clear hf
   subst hZ5
   rw [Lp.el_go] at hM
   try dsimp only at hM
   refine wSeq (wSeq (wReg (sRun (xFld (k := 1) Try.underlying60 rfl rfl ti53 (by decide) rfl) (sRun (xLoad Try.underlying53 rfl rfl ((hL.bk 2 rfl).cell (i := 1) rfl)) ?_))))
   have hl9 : a1.Ops.l.length * 88 ≤ 140737488355328 := Lst.bd h1.1
   refine sRun (xLnL (s := a1.Ops) Try.underlying53 rfl) (sRun (xMvI rfl) (sNil ?_))
   obtain ⟨Y10, hY10⟩ : ∃ Y, m_r06_ops_L1 (GCode.er a0) (GBlock.er a1) s5_0 a1.Ops.l 0 s5_0 = Y := ⟨_, rfl⟩
   rw [hY10] at hM
   refine wJ (fun f w => ∃ (s10_0 : List Int) (A11 : Option Addr) (c11 : Nat), Has f [(2, .pointer (some ⟨b1, 0, none⟩)), (3, .pointer (some ⟨b2, 0, none⟩)), (5, .slice r3.a r3.l.length r3.c), (6, .slice A11 s10_0.length c11), (23, .slice a1.Ops.a a1.Ops.l.length a1.Ops.c), (24, .int .i64 ((a1.Ops.l.length : Nat) : Int))] ∧ Bx w0 w [.ownl A11 c11 3 s10_0, .dat lo3 hi3 r3, .box b2 60 (GBlock.cells a1).toArray, .box b1 26 (GCode.cells a0).toArray] ∧ s10_0.length ≤ s5_0.length + 1 * a1.Ops.l.length ∧ Lp.go s10_0 = Y10) ?_ ?_
   ·refine wBlock (wLoopG (fun n f w => ∃ (k10 : Nat) (s10_0 : List Int) (A11 : Option Addr) (c11 : Nat), n = a1.Ops.l.length - k10 ∧ k10 ≤ a1.Ops.l.length ∧ Has f [(25, .int .i64 ((k10 : Nat) : Int)), (2, .pointer (some ⟨b1, 0, none⟩)), (3, .pointer (some ⟨b2, 0, none⟩)), (5, .slice r3.a r3.l.length r3.c), (6, .slice A11 s10_0.length c11), (23, .slice a1.Ops.a a1.Ops.l.length a1.Ops.c), (24, .int .i64 ((a1.Ops.l.length : Nat) : Int))] ∧ Bx w0 w [.ownl A11 c11 3 s10_0, .dat lo3 hi3 r3, .box b2 60 (GBlock.cells a1).toArray, .box b1 26 (GCode.cells a0).toArray] ∧ s10_0.length ≤ s5_0.length + 1 * k10 ∧ m_r06_ops_L1 (GCode.er a0) (GBlock.er a1) s5_0 (a1.Ops.l.drop k10) k10 s10_0 = Y10) (a1.Ops.l.length) ⟨0, s5_0, A6, c6, rfl, Nat.zero_le _, ⟨rfl, rfl, rfl, rfl, rfl, rfl, rfl, trivial⟩, hL, (by first | omega | (simp only [List.length_append, List.length_cons, List.length_nil] at *; omega)), hY10⟩ ?_)
    clear hL hY10
    rintro n f w ⟨k10, s10_0, A11, c11, rfl, hk10, hf, hL, hb10_0, hY10⟩
    obtain ⟨g, rfl⟩ := has_updL _ _ hf
    clear hf
    rcases Nat.lt_or_ge k10 a1.Ops.l.length with hk10b | hk10b
    ·obtain ⟨x10, hx10⟩ := get_ex (l := a1.Ops.l) hk10b
     rw [drop_id hx10, m_r06_ops_L1] at hY10
     try simp only [er1, er2, er3, er4, er5, er6, er7, er8, er9, er10, er11, er12, er13, er14, er15, er16, er17, List.length_map, ← hr3] at hY10
     refine wSeq (wReg (sRun (xLssT rfl rfl (by omega)) (sNil (wSeq (wIfT rfl (wSkip (wSeq (wBlock (wSeq (wReg (sRun (xIdL Try.underlying53 ti66 rfl rfl rfl h1.1 hx10) (sRun (xLoadS (GOp.cells x10) Try.underlying66 rfl ti66 rfl rfl ((Lst.el h1.1 hx10).ext hL.1)) (sTo (aNew (mAlloc ti66)) ?_)))))))))))))
     rintro _ w12 ⟨b12, rfl, hge12, hB12, he12⟩
     replace hL := hL.new hge12 hB12 he12
     refine sStS ti66 rfl rfl rfl (by simp [Value.oneCell', Dat.cells, GOp.cells]) (hL.bk 0 rfl) rfl ?_
     intro w13 hB13 hC13
     replace hL : Bx w0 w13 [.box b12 66 (GOp.cells x10).toArray, .ownl A11 c11 3 s10_0, .dat lo3 hi3 r3, .box b2 60 (GBlock.cells a1).toArray, .box b1 26 (GCode.cells a0).toArray] := hL.wr 0 rfl hC13 hB13
     refine sNil (wSeq (wSeq ?_))
     obtain ⟨E14, hE14⟩ : ∃ E, (((((decide (x10.Kind < (1 : Int))) || (decide ((21 : Int) < x10.Kind))) || (!(m_r06_plain x10))) || ((m_r06_UsesA x10.Kind) && (!(m_r06_Has s10_0 x10.A)))) || ((m_r06_UsesB x10.Kind) && (!(m_r06_Has s10_0 x10.B)))) = E := ⟨_, rfl⟩
     refine wJ (fun f w => Has f [(2, .pointer (some ⟨b1, 0, none⟩)), (3, .pointer (some ⟨b2, 0, none⟩)), (5, .slice r3.a r3.l.length r3.c), (6, .slice A11 s10_0.length c11), (9, .pointer (some ⟨b12, 0, none⟩)), (23, .slice a1.Ops.a a1.Ops.l.length a1.Ops.c), (24, .int .i64 ((a1.Ops.l.length : Nat) : Int)), (25, .int .i64 ((k10 : Nat) : Int)), (65, .bool E14)] ∧ Bx w0 w [.box b12 66 (GOp.cells x10).toArray, .ownl A11 c11 3 s10_0, .dat lo3 hi3 r3, .box b2 60 (GBlock.cells a1).toArray, .box b1 26 (GCode.cells a0).toArray]) ?_ ?_
     ·refine wReg (sRun (xFld0 Try.underlying66 rfl rfl ti3 (by decide) rfl) (sRun (xLoad Try.underlying3 rfl rfl ((hL.bk 0 rfl).cell (i := 0) rfl)) (sRun (xLss rfl rfl) (sRun (xMvB rfl) ?_))))
      by_cases h15 : x10.Kind < (1 : Int)
      ·try rw [decide_eq_true h15]
       refine sNo rfl (sNo rfl (sNo rfl (sRun (xPkTB rfl rfl) (sRun (xMvB rfl) (sNo rfl (sNo rfl (sNo rfl (sRun (xPkTB rfl rfl) (sRun (xMvB rfl) (sNo rfl (sNo rfl (sNo rfl (sNo rfl ?_)))))))))))))
       refine sNo rfl (sNo rfl (sNo rfl (sNo rfl (sNo rfl (sNo rfl (sRun (xPkTB rfl rfl) (sRun (xMvB rfl) (sNo rfl (sNo rfl (sNo rfl (sNo rfl (sNo rfl (sNo rfl ?_)))))))))))))
       refine sNo rfl (sNo rfl (sNo rfl (sNo rfl (sRun (xPkTB rfl rfl) (sNil ?_)))))
       exact ⟨⟨rfl, rfl, rfl, rfl, rfl, rfl, rfl, rfl, (congrArg Value.bool (by rw [← hE14]; first | (simp [h15]; done) | (simp only [decide_eq_true h15]; done) | grind)), trivial⟩, hL⟩
      ·try rw [decide_eq_false h15]
       refine sGo rfl (sRun (xFld0 Try.underlying66 rfl rfl ti3 (by decide) rfl) (sGo rfl (sRun (xLoad Try.underlying3 rfl rfl ((hL.bk 0 rfl).cell (i := 0) rfl)) (sGo rfl (sRun (xGtr rfl rfl) (sRun (xPkFB rfl rfl) (sRun (xMvB rfl) ?_)))))))
       by_cases h16 : (21 : Int) < x10.Kind
       ·try rw [decide_eq_true h16]
        refine sNo rfl (sNo rfl (sNo rfl (sRun (xPkTB rfl rfl) (sRun (xMvB rfl) (sNo rfl (sNo rfl (sNo rfl (sNo rfl (sNo rfl (sNo rfl (sNo rfl (sNo rfl (sNo rfl ?_)))))))))))))
        refine sNo rfl (sRun (xPkTB rfl rfl) (sRun (xMvB rfl) (sNo rfl (sNo rfl (sNo rfl (sNo rfl (sNo rfl (sNo rfl (sNo rfl (sNo rfl (sNo rfl (sNo rfl (sRun (xPkTB rfl rfl) ?_)))))))))))))
        refine sNil ?_
        exact ⟨⟨rfl, rfl, rfl, rfl, rfl, rfl, rfl, rfl, (congrArg Value.bool (by rw [← hE14]; first | (simp [h15, h16]; done) | (simp only [decide_eq_false h15, decide_eq_true h16]; done) | grind)), trivial⟩, hL⟩
       ·try rw [decide_eq_false h16]
        refine sGo rfl (sRun (xLoadS (GOp.cells x10) Try.underlying66 rfl ti66 rfl rfl ((hL.bk 0 rfl).part rfl)) (sGo rfl (sCall (eCall cal87 rfl) (sp_m_r06_plain _ x10) ?_)))
        rintro _ w17 ⟨rfl, he17⟩
        replace hL := hL.ext he17
        by_cases h18 : (m_r06_plain x10) = true
        ·try rw [h18]
         refine sGo rfl (sRun (xNot rfl) (sRun (xPkFB rfl rfl) (sRun (xMvB rfl) (sGo rfl (sRun (xFld0 Try.underlying66 rfl rfl ti3 (by decide) rfl) (sGo rfl (sRun (xLoad Try.underlying3 rfl rfl ((hL.bk 0 rfl).cell (i := 0) rfl)) (sGo rfl (sCall (eCall cal80 rfl) (sp_m_r06_UsesA _ x10.Kind) ?_)))))))))
         rintro _ w19 ⟨rfl, he19⟩
         replace hL := hL.ext he19
         refine sGo rfl (sRun (xMvB rfl) ?_)
         by_cases h20 : (m_r06_UsesA x10.Kind) = true
         ·try rw [h20]
          refine sGo rfl (sRun (xMvS rfl) (sGo rfl (sRun (xFld (k := 2) Try.underlying66 rfl rfl ti3 (by decide) rfl) (sGo rfl (sRun (xLoad Try.underlying3 rfl rfl ((hL.bk 0 rfl).cell (i := 2) rfl)) (sGo rfl (sCall (eCall cal55 rfl) (sp_m_r06_Has _ (⟨A11, c11, s10_0⟩ : (Lst Int)) (Dat.all (Own.okL (hL.bo 1 rfl) (hL.base 1 rfl) (fun _ _ => trivial) (show s10_0.length * 8 ≤ 140737488355328 by first | omega | (simp only [List.length_append, List.length_cons, List.length_nil] at *; omega)))) x10.A) ?_)))))))
          rintro _ w21 ⟨rfl, he21⟩
          replace hL := hL.ext he21
          by_cases h22 : (m_r06_Has s10_0 x10.A) = true
          ·try rw [h22]
           refine sGo rfl (sRun (xNot rfl) (sGo rfl (sRun (xPkTB rfl rfl) (sRun (xPkFB rfl rfl) (sRun (xMvB rfl) (sGo rfl (sRun (xFld0 Try.underlying66 rfl rfl ti3 (by decide) rfl) (sGo rfl (sRun (xLoad Try.underlying3 rfl rfl ((hL.bk 0 rfl).cell (i := 0) rfl)) (sGo rfl (sCall (eCall cal81 rfl) (sp_m_r06_UsesB _ x10.Kind) ?_)))))))))))
           rintro _ w23 ⟨rfl, he23⟩
           replace hL := hL.ext he23
           refine sGo rfl (sRun (xMvB rfl) ?_)
           by_cases h24 : (m_r06_UsesB x10.Kind) = true
           ·try rw [h24]
            refine sGo rfl (sRun (xMvS rfl) (sGo rfl (sRun (xFld (k := 3) Try.underlying66 rfl rfl ti3 (by decide) rfl) (sGo rfl (sRun (xLoad Try.underlying3 rfl rfl ((hL.bk 0 rfl).cell (i := 3) rfl)) (sGo rfl (sCall (eCall cal55 rfl) (sp_m_r06_Has _ (⟨A11, c11, s10_0⟩ : (Lst Int)) (Dat.all (Own.okL (hL.bo 1 rfl) (hL.base 1 rfl) (fun _ _ => trivial) (show s10_0.length * 8 ≤ 140737488355328 by first | omega | (simp only [List.length_append, List.length_cons, List.length_nil] at *; omega)))) x10.B) ?_)))))))
            rintro _ w25 ⟨rfl, he25⟩
            replace hL := hL.ext he25
            by_cases h26 : (m_r06_Has s10_0 x10.B) = true
            ·try rw [h26]
             refine sGo rfl (sRun (xNot rfl) (sGo rfl (sRun (xPkTB rfl rfl) (sRun (xPkFB rfl rfl) (sNil ?_)))))
             exact ⟨⟨rfl, rfl, rfl, rfl, rfl, rfl, rfl, rfl, (congrArg Value.bool (by rw [← hE14]; first | (simp [h15, h16, h18, h20, h22, h24, h26]; done) | (simp only [decide_eq_false h15, decide_eq_false h16, h18, h20, h22, h24, h26]; done) | grind)), trivial⟩, hL⟩
            ·have h26n : (m_r06_Has s10_0 x10.B) = false := Bool.eq_false_iff.2 h26
             try rw [h26n]
             refine sGo rfl (sRun (xNot rfl) (sGo rfl (sRun (xPkTB rfl rfl) (sRun (xPkFB rfl rfl) (sNil ?_)))))
             exact ⟨⟨rfl, rfl, rfl, rfl, rfl, rfl, rfl, rfl, (congrArg Value.bool (by rw [← hE14]; first | (simp [h15, h16, h18, h20, h22, h24, h26n]; done) | (simp only [decide_eq_false h15, decide_eq_false h16, h18, h20, h22, h24, h26n]; done) | grind)), trivial⟩, hL⟩
           ·have h24n : (m_r06_UsesB x10.Kind) = false := Bool.eq_false_iff.2 h24
            try rw [h24n]
            refine sNo rfl (sNo rfl (sNo rfl (sNo rfl (sNo rfl (sGo rfl (sRun (xPkFB rfl rfl) (sRun (xPkFB rfl rfl) (sNil ?_))))))))
            exact ⟨⟨rfl, rfl, rfl, rfl, rfl, rfl, rfl, rfl, (congrArg Value.bool (by rw [← hE14]; first | (simp [h15, h16, h18, h20, h22, h24n]; done) | (simp only [decide_eq_false h15, decide_eq_false h16, h18, h20, h22, h24n]; done) | grind)), trivial⟩, hL⟩
          ·have h22n : (m_r06_Has s10_0 x10.A) = false := Bool.eq_false_iff.2 h22
           try rw [h22n]
           refine sGo rfl (sRun (xNot rfl) (sGo rfl (sRun (xPkTB rfl rfl) (sRun (xPkFB rfl rfl) (sRun (xMvB rfl) (sNo rfl (sNo rfl (sNo rfl (sNo rfl (sNo rfl (sNo rfl (sNo rfl (sNo rfl ?_)))))))))))))
           refine sNo rfl (sNo rfl (sRun (xPkTB rfl rfl) (sNil ?_)))
           exact ⟨⟨rfl, rfl, rfl, rfl, rfl, rfl, rfl, rfl, (congrArg Value.bool (by rw [← hE14]; first | (simp [h15, h16, h18, h20, h22n]; done) | (simp only [decide_eq_false h15, decide_eq_false h16, h18, h20, h22n]; done) | grind)), trivial⟩, hL⟩
         ·have h20n : (m_r06_UsesA x10.Kind) = false := Bool.eq_false_iff.2 h20
          try rw [h20n]
          refine sNo rfl (sNo rfl (sNo rfl (sNo rfl (sNo rfl (sGo rfl (sRun (xPkFB rfl rfl) (sRun (xPkFB rfl rfl) (sRun (xMvB rfl) (sGo rfl (sRun (xFld0 Try.underlying66 rfl rfl ti3 (by decide) rfl) (sGo rfl (sRun (xLoad Try.underlying3 rfl rfl ((hL.bk 0 rfl).cell (i := 0) rfl)) (sGo rfl ?_)))))))))))))
          refine sCall (eCall cal81 rfl) (sp_m_r06_UsesB _ x10.Kind) ?_
          rintro _ w27 ⟨rfl, he27⟩
          replace hL := hL.ext he27
          refine sGo rfl (sRun (xMvB rfl) ?_)
          by_cases h28 : (m_r06_UsesB x10.Kind) = true
          ·try rw [h28]
           refine sGo rfl (sRun (xMvS rfl) (sGo rfl (sRun (xFld (k := 3) Try.underlying66 rfl rfl ti3 (by decide) rfl) (sGo rfl (sRun (xLoad Try.underlying3 rfl rfl ((hL.bk 0 rfl).cell (i := 3) rfl)) (sGo rfl (sCall (eCall cal55 rfl) (sp_m_r06_Has _ (⟨A11, c11, s10_0⟩ : (Lst Int)) (Dat.all (Own.okL (hL.bo 1 rfl) (hL.base 1 rfl) (fun _ _ => trivial) (show s10_0.length * 8 ≤ 140737488355328 by first | omega | (simp only [List.length_append, List.length_cons, List.length_nil] at *; omega)))) x10.B) ?_)))))))
           rintro _ w29 ⟨rfl, he29⟩
           replace hL := hL.ext he29
           by_cases h30 : (m_r06_Has s10_0 x10.B) = true
           ·try rw [h30]
            refine sGo rfl (sRun (xNot rfl) (sGo rfl (sRun (xPkTB rfl rfl) (sRun (xPkFB rfl rfl) (sNil ?_)))))
            exact ⟨⟨rfl, rfl, rfl, rfl, rfl, rfl, rfl, rfl, (congrArg Value.bool (by rw [← hE14]; first | (simp [h15, h16, h18, h20n, h28, h30]; done) | (simp only [decide_eq_false h15, decide_eq_false h16, h18, h20n, h28, h30]; done) | grind)), trivial⟩, hL⟩
           ·have h30n : (m_r06_Has s10_0 x10.B) = false := Bool.eq_false_iff.2 h30
            try rw [h30n]
            refine sGo rfl (sRun (xNot rfl) (sGo rfl (sRun (xPkTB rfl rfl) (sRun (xPkFB rfl rfl) (sNil ?_)))))
            exact ⟨⟨rfl, rfl, rfl, rfl, rfl, rfl, rfl, rfl, (congrArg Value.bool (by rw [← hE14]; first | (simp [h15, h16, h18, h20n, h28, h30n]; done) | (simp only [decide_eq_false h15, decide_eq_false h16, h18, h20n, h28, h30n]; done) | grind)), trivial⟩, hL⟩
          ·have h28n : (m_r06_UsesB x10.Kind) = false := Bool.eq_false_iff.2 h28
           try rw [h28n]
           refine sNo rfl (sNo rfl (sNo rfl (sNo rfl (sNo rfl (sGo rfl (sRun (xPkFB rfl rfl) (sRun (xPkFB rfl rfl) (sNil ?_))))))))
           exact ⟨⟨rfl, rfl, rfl, rfl, rfl, rfl, rfl, rfl, (congrArg Value.bool (by rw [← hE14]; first | (simp [h15, h16, h18, h20n, h28n]; done) | (simp only [decide_eq_false h15, decide_eq_false h16, h18, h20n, h28n]; done) | grind)), trivial⟩, hL⟩
        ·have h18n : (m_r06_plain x10) = false := Bool.eq_false_iff.2 h18
         try rw [h18n]
         refine sGo rfl (sRun (xNot rfl) (sRun (xPkFB rfl rfl) (sRun (xMvB rfl) (sNo rfl (sNo rfl (sNo rfl (sNo rfl (sNo rfl (sNo rfl (sNo rfl (sNo rfl (sNo rfl (sNo rfl ?_)))))))))))))
         refine sRun (xPkTB rfl rfl) (sRun (xMvB rfl) (sNo rfl (sNo rfl (sNo rfl (sNo rfl (sNo rfl (sNo rfl (sNo rfl (sNo rfl (sNo rfl (sNo rfl (sRun (xPkTB rfl rfl) (sNil ?_)))))))))))))
         exact ⟨⟨rfl, rfl, rfl, rfl, rfl, rfl, rfl, rfl, (congrArg Value.bool (by rw [← hE14]; first | (simp [h15, h16, h18n]; done) | (simp only [decide_eq_false h15, decide_eq_false h16, h18n]; done) | grind)), trivial⟩, hL⟩
     ·clear hL
      subst hE14
      rintro f w ⟨hf, hL⟩
      obtain ⟨g, rfl⟩ := has_updL _ _ hf
      clear hf
      by_cases h31 : (((((decide (x10.Kind < (1 : Int))) || (decide ((21 : Int) < x10.Kind))) || (!(m_r06_plain x10))) || ((m_r06_UsesA x10.Kind) && (!(m_r06_Has s10_0 x10.A)))) || ((m_r06_UsesB x10.Kind) && (!(m_r06_Has s10_0 x10.B)))) = true
      ·try rw [h31]
       rw [if_pos h31] at hY10
       refine wIfT rfl (wSeq (wReg (sRun (xAsB rfl) (sNil (wRet ?_)))))
       subst hY10
       rw [Lp.el_out] at hM
       try dsimp only at hM
       subst hM
       refine res1 (P := Try.prog) (fn := Try.f43) rfl ?_
       exact ⟨rfl, hL.1⟩
      ·have h31n : (((((decide (x10.Kind < (1 : Int))) || (decide ((21 : Int) < x10.Kind))) || (!(m_r06_plain x10))) || ((m_r06_UsesA x10.Kind) && (!(m_r06_Has s10_0 x10.A)))) || ((m_r06_UsesB x10.Kind) && (!(m_r06_Has s10_0 x10.B)))) = false := Bool.eq_false_iff.2 h31
       try rw [h31n]
       rw [if_neg h31] at hY10
       have h32 : ¬ (x10.Kind < (1 : Int)) := fun hq => by rw [decide_eq_true hq] at h31; simp at h31
       have h33 : ¬ ((21 : Int) < x10.Kind) := fun hq => by rw [decide_eq_true hq] at h31; simp at h31
       refine wIfF rfl (wSkip (wSeq (wSeq (wReg (sRun (xFld0 Try.underlying66 rfl rfl ti3 (by decide) rfl) (sRun (xLoad Try.underlying3 rfl rfl ((hL.bk 0 rfl).cell (i := 0) rfl)) (sCall (eCall cal56 rfl) (sp_m_r06_Defines _ x10.Kind) ?_)))))))
       rintro _ w34 ⟨rfl, he34⟩
       replace hL := hL.ext he34
       refine sNil ?_
       by_cases h35 : (m_r06_Defines x10.Kind) = true
       ·try rw [h35]
        rw [if_pos h35] at hY10
        refine wIfT rfl (wSeq (wSeq ?_))
        obtain ⟨E36, hE36⟩ : ∃ E, (((decide (x10.Dst < a1.Params)) || (decide ((9999 : Int) < x10.Dst))) || (m_r06_Has s10_0 x10.Dst)) = E := ⟨_, rfl⟩
        refine wJ (fun f w => Has f [(2, .pointer (some ⟨b1, 0, none⟩)), (3, .pointer (some ⟨b2, 0, none⟩)), (5, .slice r3.a r3.l.length r3.c), (6, .slice A11 s10_0.length c11), (9, .pointer (some ⟨b12, 0, none⟩)), (23, .slice a1.Ops.a a1.Ops.l.length a1.Ops.c), (24, .int .i64 ((a1.Ops.l.length : Nat) : Int)), (25, .int .i64 ((k10 : Nat) : Int)), (84, .bool E36)] ∧ Bx w0 w [.box b12 66 (GOp.cells x10).toArray, .ownl A11 c11 3 s10_0, .dat lo3 hi3 r3, .box b2 60 (GBlock.cells a1).toArray, .box b1 26 (GCode.cells a0).toArray]) ?_ ?_
        ·refine wReg (sRun (xFld (k := 1) Try.underlying66 rfl rfl ti3 (by decide) rfl) (sRun (xLoad Try.underlying3 rfl rfl ((hL.bk 0 rfl).cell (i := 1) rfl)) (sRun (xFld0 Try.underlying60 rfl rfl ti3 (by decide) rfl) (sRun (xLoad Try.underlying3 rfl rfl ((hL.bk 3 rfl).cell (i := 0) rfl)) (sRun (xLss rfl rfl) (sRun (xMvB rfl) ?_))))))
         by_cases h37 : x10.Dst < a1.Params
         ·try rw [decide_eq_true h37]
          refine sNo rfl (sNo rfl (sNo rfl (sRun (xPkTB rfl rfl) (sRun (xMvB rfl) (sNo rfl (sNo rfl (sNo rfl (sNo rfl (sRun (xPkTB rfl rfl) (sNil ?_))))))))))
          exact ⟨⟨rfl, rfl, rfl, rfl, rfl, rfl, rfl, rfl, (congrArg Value.bool (by rw [← hE36]; first | (simp [h37]; done) | (simp only [decide_eq_true h37]; done) | grind)), trivial⟩, hL⟩
         ·try rw [decide_eq_false h37]
          refine sGo rfl (sRun (xFld (k := 1) Try.underlying66 rfl rfl ti3 (by decide) rfl) (sGo rfl (sRun (xLoad Try.underlying3 rfl rfl ((hL.bk 0 rfl).cell (i := 1) rfl)) (sGo rfl (sRun (xGtr rfl rfl) (sRun (xPkFB rfl rfl) (sRun (xMvB rfl) ?_)))))))
          by_cases h38 : (9999 : Int) < x10.Dst
          ·try rw [decide_eq_true h38]
           refine sNo rfl (sNo rfl (sNo rfl (sNo rfl (sRun (xPkTB rfl rfl) (sNil ?_)))))
           exact ⟨⟨rfl, rfl, rfl, rfl, rfl, rfl, rfl, rfl, (congrArg Value.bool (by rw [← hE36]; first | (simp [h37, h38]; done) | (simp only [decide_eq_false h37, decide_eq_true h38]; done) | grind)), trivial⟩, hL⟩
          ·try rw [decide_eq_false h38]
           refine sGo rfl (sRun (xMvS rfl) (sGo rfl (sRun (xFld (k := 1) Try.underlying66 rfl rfl ti3 (by decide) rfl) (sGo rfl (sRun (xLoad Try.underlying3 rfl rfl ((hL.bk 0 rfl).cell (i := 1) rfl)) (sGo rfl (sCall (eCall cal55 rfl) (sp_m_r06_Has _ (⟨A11, c11, s10_0⟩ : (Lst Int)) (Dat.all (Own.okL (hL.bo 1 rfl) (hL.base 1 rfl) (fun _ _ => trivial) (show s10_0.length * 8 ≤ 140737488355328 by first | omega | (simp only [List.length_append, List.length_cons, List.length_nil] at *; omega)))) x10.Dst) ?_)))))))
           rintro _ w39 ⟨rfl, he39⟩
           replace hL := hL.ext he39
           refine sRun (xPkFB rfl rfl) (sNil ?_)
           exact ⟨⟨rfl, rfl, rfl, rfl, rfl, rfl, rfl, rfl, (congrArg Value.bool (by rw [← hE36]; first | (simp [h37, h38]; done) | (simp only [decide_eq_false h37, decide_eq_false h38]; done) | grind)), trivial⟩, hL⟩
        ·clear hL
         subst hE36
         rintro f w ⟨hf, hL⟩
         obtain ⟨g, rfl⟩ := has_updL _ _ hf
         clear hf
         by_cases h40 : (((decide (x10.Dst < a1.Params)) || (decide ((9999 : Int) < x10.Dst))) || (m_r06_Has s10_0 x10.Dst)) = true
         ·try rw [h40]
          rw [if_pos h40] at hY10
          refine wIfT rfl (wSeq (wReg (sRun (xAsB rfl) (sNil (wRet ?_)))))
          subst hY10
          rw [Lp.el_out] at hM
          try dsimp only at hM
          subst hM
          refine res1 (P := Try.prog) (fn := Try.f43) rfl ?_
          exact ⟨rfl, hL.1⟩
         ·have h40n : (((decide (x10.Dst < a1.Params)) || (decide ((9999 : Int) < x10.Dst))) || (m_r06_Has s10_0 x10.Dst)) = false := Bool.eq_false_iff.2 h40
          try rw [h40n]
          rw [if_neg h40] at hY10
          have h41 : ¬ (x10.Dst < a1.Params) := fun hq => by rw [decide_eq_true hq] at h40; simp at h40
          have h42 : ¬ ((9999 : Int) < x10.Dst) := fun hq => by rw [decide_eq_true hq] at h40; simp at h40
          refine wIfF rfl (wSkip (wReg (sRun (xMvS rfl) (sRun (xFld (k := 1) Try.underlying66 rfl rfl ti3 (by decide) rfl) (sRun (xLoad Try.underlying3 rfl rfl ((hL.bk 0 rfl).cell (i := 1) rfl)) (sTo (aRow (bs43_88 rfl)) ?_))))))
          rintro _ w43 ⟨b43, rfl, hge43, hB43, he43⟩
          replace hL := hL.new hge43 hB43 he43
          refine sTo (aAppL (xs := s10_0) (ys := [x10.Dst]) Try.underlying37 ti3 rfl (by decide) rfl rfl (hL.bo 2 rfl) ((hL.bk 0 rfl).sl1 (α := Int) [x10.Dst] rfl rfl) (allOne rfl) (by first | omega | (simp only [List.length_append, List.length_cons, List.length_nil] at *; omega)) (by first | omega | (simp only [List.length_append, List.length_cons, List.length_nil] at *; omega))) ?_
          rintro _ w44 ⟨A44, c44, rfl, ho44, hg44, hr44⟩
          replace hL : Bx w0 w44 [.box b43 3 #[.int .i64 x10.Dst], .box b12 66 (GOp.cells x10).toArray, .ownl A44 c44 3 (s10_0 ++ [x10.Dst]), .dat lo3 hi3 r3, .box b2 60 (GBlock.cells a1).toArray, .box b1 26 (GCode.cells a0).toArray] := hL.app 2 rfl ho44 hg44 hr44
          refine sRun (xAsS rfl) (sNil (wSeq (wReg (sRun (xFld0 Try.underlying66 rfl rfl ti3 (by decide) rfl) (sRun (xLoad Try.underlying3 rfl rfl ((hL.bk 1 rfl).cell (i := 0) rfl)) (sNil (wBlock (wSeq (wSeq (wReg (sRun (xEqlD rfl rfl) (sRun (xAsB rfl) (sNil ?_)))))))))))))
          obtain ⟨E45, hE45⟩ : ∃ E, ((decide (x10.Kind = (15 : Int))) || ((decide (x10.Kind = (16 : Int))) || (decide (x10.Kind = (17 : Int))))) = E := ⟨_, rfl⟩
          refine wJ (fun f w => Has f [(2, .pointer (some ⟨b1, 0, none⟩)), (3, .pointer (some ⟨b2, 0, none⟩)), (5, .slice r3.a r3.l.length r3.c), (6, .slice A44 (s10_0 ++ [x10.Dst]).length c44), (9, .pointer (some ⟨b12, 0, none⟩)), (23, .slice a1.Ops.a a1.Ops.l.length a1.Ops.c), (24, .int .i64 ((a1.Ops.l.length : Nat) : Int)), (25, .int .i64 ((k10 : Nat) : Int)), (91, .int .i64 x10.Kind), (92, .bool E45)] ∧ Bx w0 w [.box b43 3 #[.int .i64 x10.Dst], .box b12 66 (GOp.cells x10).toArray, .ownl A44 c44 3 (s10_0 ++ [x10.Dst]), .dat lo3 hi3 r3, .box b2 60 (GBlock.cells a1).toArray, .box b1 26 (GCode.cells a0).toArray]) ?_ ?_
          ·by_cases h46 : x10.Kind = (15 : Int)
           ·try rw [decide_eq_true h46]
            refine wIfT rfl (wSkip ?_)
            exact ⟨⟨rfl, rfl, rfl, rfl, rfl, rfl, rfl, rfl, rfl, (congrArg Value.bool (by rw [← hE45]; first | (simp [h46]; done) | (simp only [decide_eq_true h46]; done) | grind)), trivial⟩, hL⟩
           ·try rw [decide_eq_false h46]
            refine wIfF rfl (wSeq (wReg (sRun (xEqlD rfl rfl) (sRun (xAsB rfl) (sNil ?_)))))
            obtain ⟨E47, hE47⟩ : ∃ E, ((decide (x10.Kind = (16 : Int))) || (decide (x10.Kind = (17 : Int)))) = E := ⟨_, rfl⟩
            refine wJ (fun f w => Has f [(2, .pointer (some ⟨b1, 0, none⟩)), (3, .pointer (some ⟨b2, 0, none⟩)), (5, .slice r3.a r3.l.length r3.c), (6, .slice A44 (s10_0 ++ [x10.Dst]).length c44), (9, .pointer (some ⟨b12, 0, none⟩)), (23, .slice a1.Ops.a a1.Ops.l.length a1.Ops.c), (24, .int .i64 ((a1.Ops.l.length : Nat) : Int)), (25, .int .i64 ((k10 : Nat) : Int)), (91, .int .i64 x10.Kind), (92, .bool E47)] ∧ Bx w0 w [.box b43 3 #[.int .i64 x10.Dst], .box b12 66 (GOp.cells x10).toArray, .ownl A44 c44 3 (s10_0 ++ [x10.Dst]), .dat lo3 hi3 r3, .box b2 60 (GBlock.cells a1).toArray, .box b1 26 (GCode.cells a0).toArray]) ?_ ?_
            ·by_cases h48 : x10.Kind = (16 : Int)
             ·try rw [decide_eq_true h48]
              refine wIfT rfl (wSkip ?_)
              exact ⟨⟨rfl, rfl, rfl, rfl, rfl, rfl, rfl, rfl, rfl, (congrArg Value.bool (by rw [← hE47]; first | (simp [h48]; done) | (simp only [decide_eq_true h48]; done) | grind)), trivial⟩, hL⟩
             ·try rw [decide_eq_false h48]
              refine wIfF rfl (wReg (sRun (xEqlD rfl rfl) (sRun (xAsB rfl) (sNil ?_))))
              exact ⟨⟨rfl, rfl, rfl, rfl, rfl, rfl, rfl, rfl, rfl, (congrArg Value.bool (by rw [← hE47]; first | (simp [h48]; done) | (simp only [decide_eq_false h48]; done) | grind)), trivial⟩, hL⟩
            ·clear hL
             subst hE47
             rintro f w ⟨hf, hL⟩
             obtain ⟨g, rfl⟩ := has_updL _ _ hf
             clear hf
             exact ⟨⟨rfl, rfl, rfl, rfl, rfl, rfl, rfl, rfl, rfl, (congrArg Value.bool (by rw [← hE45]; first | (simp [h46]; done) | (simp only [decide_eq_false h46]; done) | grind)), trivial⟩, hL⟩
          ·clear hL
           subst hE45
           rintro f w ⟨hf, hL⟩
           obtain ⟨g, rfl⟩ := has_updL _ _ hf
           clear hf
           by_cases h49 : ((decide (x10.Kind = (15 : Int))) || ((decide (x10.Kind = (16 : Int))) || (decide (x10.Kind = (17 : Int))))) = true
           ·try rw [h49]
            rw [if_pos h49] at hY10
            refine wIfT rfl (wSeq (wReg (sRun (xFld (k := 4) Try.underlying66 rfl rfl ti3 (by decide) rfl) (sRun (xLoad Try.underlying3 rfl rfl ((hL.bk 1 rfl).cell (i := 4) rfl)) (sRun (xLss rfl rfl) (sRun (xMvB rfl) ?_))))))
            by_cases h50 : x10.N < (0 : Int)
            ·try rw [decide_eq_true h50]
             rw [if_pos h50] at hY10
             refine sNo rfl (sNo rfl (sNo rfl (sNo rfl (sNo rfl (sNo rfl (sRun (xPkTB rfl rfl) (sNil (wIfT rfl (wSeq (wReg (sRun (xAsB rfl) (sNil (wRet ?_)))))))))))))
             subst hY10
             rw [Lp.el_out] at hM
             try dsimp only at hM
             subst hM
             refine res1 (P := Try.prog) (fn := Try.f43) rfl ?_
             exact ⟨rfl, hL.1⟩
            ·try rw [decide_eq_false h50]
             rw [if_neg h50] at hY10
             refine sGo rfl (sRun (xFld (k := 4) Try.underlying66 rfl rfl ti3 (by decide) rfl) (sGo rfl (sRun (xLoad Try.underlying3 rfl rfl ((hL.bk 1 rfl).cell (i := 4) rfl)) (sGo rfl (sRun (xFld (k := 3) Try.underlying26 rfl rfl ti24 (by decide) rfl) (sGo rfl (sRun (xLoad Try.underlying24 rfl rfl ((hL.bk 5 rfl).cell (i := 3) rfl)) (sGo rfl ?_))))))))
             have hl51 : a0.Objects.l.length * 24 ≤ 140737488355328 := Lst.bd h0.2.2
             refine sRun (xLnL (s := a0.Objects) Try.underlying24 rfl) (sGo rfl (sRun (xGeq rfl rfl) (sRun (xPkFB rfl rfl) (sNil ?_))))
             by_cases h52 : ((a0.Objects.l.length : Nat) : Int) ≤ x10.N
             ·try rw [decide_eq_true h52]
              rw [if_pos h52] at hY10
              refine wIfT rfl (wSeq (wReg (sRun (xAsB rfl) (sNil (wRet ?_)))))
              subst hY10
              rw [Lp.el_out] at hM
              try dsimp only at hM
              subst hM
              refine res1 (P := Try.prog) (fn := Try.f43) rfl ?_
              exact ⟨rfl, hL.1⟩
             ·try rw [decide_eq_false h52]
              rw [if_neg h52] at hY10
              refine wIfF rfl (wSkip (wReg (sRun (xAdd64 rfl rfl (by omega) (by omega)) (sRun (xMvI rfl) (sNil ?_)))))
              exact ⟨a1.Ops.l.length - (k10 + 1), by omega, k10 + 1, (s10_0 ++ [x10.Dst]), A44, c44, rfl, by omega, ⟨rfl, rfl, rfl, rfl, rfl, rfl, rfl, trivial⟩, hL.tl.tl, (by first | omega | (simp only [List.length_append, List.length_cons, List.length_nil] at *; omega)), hY10⟩
           ·have h49n : ((decide (x10.Kind = (15 : Int))) || ((decide (x10.Kind = (16 : Int))) || (decide (x10.Kind = (17 : Int))))) = false := Bool.eq_false_iff.2 h49
            try rw [h49n]
            rw [if_neg h49] at hY10
            have h53 : ¬ (x10.Kind = (15 : Int)) := fun hq => by rw [decide_eq_true hq] at h49; simp at h49
            have h54 : ¬ (x10.Kind = (16 : Int)) := fun hq => by rw [decide_eq_true hq] at h49; simp at h49
            have h55 : ¬ (x10.Kind = (17 : Int)) := fun hq => by rw [decide_eq_true hq] at h49; simp at h49
            refine wIfF rfl (wSeq (wSeq (wReg (sRun (xEqlD rfl rfl) (sRun (xAsB rfl) (sNil ?_))))))
            obtain ⟨E56, hE56⟩ : ∃ E, ((decide (x10.Kind = (19 : Int))) || (decide (x10.Kind = (20 : Int)))) = E := ⟨_, rfl⟩
            refine wJ (fun f w => Has f [(2, .pointer (some ⟨b1, 0, none⟩)), (3, .pointer (some ⟨b2, 0, none⟩)), (5, .slice r3.a r3.l.length r3.c), (6, .slice A44 (s10_0 ++ [x10.Dst]).length c44), (9, .pointer (some ⟨b12, 0, none⟩)), (23, .slice a1.Ops.a a1.Ops.l.length a1.Ops.c), (24, .int .i64 ((a1.Ops.l.length : Nat) : Int)), (25, .int .i64 ((k10 : Nat) : Int)), (91, .int .i64 x10.Kind), (107, .bool E56)] ∧ Bx w0 w [.box b43 3 #[.int .i64 x10.Dst], .box b12 66 (GOp.cells x10).toArray, .ownl A44 c44 3 (s10_0 ++ [x10.Dst]), .dat lo3 hi3 r3, .box b2 60 (GBlock.cells a1).toArray, .box b1 26 (GCode.cells a0).toArray]) ?_ ?_
            ·by_cases h57 : x10.Kind = (19 : Int)
             ·try rw [decide_eq_true h57]
              refine wIfT rfl (wSkip ?_)
              exact ⟨⟨rfl, rfl, rfl, rfl, rfl, rfl, rfl, rfl, rfl, (congrArg Value.bool (by rw [← hE56]; first | (simp [h57]; done) | (simp only [decide_eq_true h57]; done) | grind)), trivial⟩, hL⟩
             ·try rw [decide_eq_false h57]
              refine wIfF rfl (wReg (sRun (xEqlD rfl rfl) (sRun (xAsB rfl) (sNil ?_))))
              exact ⟨⟨rfl, rfl, rfl, rfl, rfl, rfl, rfl, rfl, rfl, (congrArg Value.bool (by rw [← hE56]; first | (simp [h57]; done) | (simp only [decide_eq_false h57]; done) | grind)), trivial⟩, hL⟩
            ·clear hL
             subst hE56
             rintro f w ⟨hf, hL⟩
             obtain ⟨g, rfl⟩ := has_updL _ _ hf
             clear hf
             by_cases h58 : ((decide (x10.Kind = (19 : Int))) || (decide (x10.Kind = (20 : Int)))) = true
             ·try rw [h58]
              rw [if_pos h58] at hY10
              refine wIfT rfl (wSeq ?_)
              obtain ⟨E59, hE59⟩ : ∃ E, ((((decide (x10.N < (0 : Int))) || (decide ((9999 : Int) < x10.N))) || (decide (x10.Ctx < (0 : Int)))) || (decide (((a0.Contexts.l.length : Nat) : Int) ≤ x10.Ctx))) = E := ⟨_, rfl⟩
              refine wJ (fun f w => Has f [(2, .pointer (some ⟨b1, 0, none⟩)), (3, .pointer (some ⟨b2, 0, none⟩)), (5, .slice r3.a r3.l.length r3.c), (6, .slice A44 (s10_0 ++ [x10.Dst]).length c44), (23, .slice a1.Ops.a a1.Ops.l.length a1.Ops.c), (24, .int .i64 ((a1.Ops.l.length : Nat) : Int)), (25, .int .i64 ((k10 : Nat) : Int)), (130, .bool E59)] ∧ Bx w0 w [.box b43 3 #[.int .i64 x10.Dst], .box b12 66 (GOp.cells x10).toArray, .ownl A44 c44 3 (s10_0 ++ [x10.Dst]), .dat lo3 hi3 r3, .box b2 60 (GBlock.cells a1).toArray, .box b1 26 (GCode.cells a0).toArray]) ?_ ?_
              ·refine wReg (sRun (xFld (k := 4) Try.underlying66 rfl rfl ti3 (by decide) rfl) (sRun (xLoad Try.underlying3 rfl rfl ((hL.bk 1 rfl).cell (i := 4) rfl)) (sRun (xLss rfl rfl) (sRun (xMvB rfl) ?_))))
               by_cases h60 : x10.N < (0 : Int)
               ·try rw [decide_eq_true h60]
                refine sNo rfl (sNo rfl (sNo rfl (sRun (xPkTB rfl rfl) (sRun (xMvB rfl) (sNo rfl (sNo rfl (sNo rfl (sRun (xPkTB rfl rfl) (sRun (xMvB rfl) (sNo rfl (sNo rfl (sNo rfl (sNo rfl ?_)))))))))))))
                refine sNo rfl (sNo rfl (sRun (xPkTB rfl rfl) (sNil ?_)))
                exact ⟨⟨rfl, rfl, rfl, rfl, rfl, rfl, rfl, (congrArg Value.bool (by rw [← hE59]; first | (simp [h60]; done) | (simp only [decide_eq_true h60]; done) | grind)), trivial⟩, hL⟩
               ·try rw [decide_eq_false h60]
                refine sGo rfl (sRun (xFld (k := 4) Try.underlying66 rfl rfl ti3 (by decide) rfl) (sGo rfl (sRun (xLoad Try.underlying3 rfl rfl ((hL.bk 1 rfl).cell (i := 4) rfl)) (sGo rfl (sRun (xGtr rfl rfl) (sRun (xPkFB rfl rfl) (sRun (xMvB rfl) ?_)))))))
                by_cases h61 : (9999 : Int) < x10.N
                ·try rw [decide_eq_true h61]
                 refine sNo rfl (sNo rfl (sNo rfl (sRun (xPkTB rfl rfl) (sRun (xMvB rfl) (sNo rfl (sNo rfl (sNo rfl (sNo rfl (sNo rfl (sNo rfl (sRun (xPkTB rfl rfl) (sNil ?_))))))))))))
                 exact ⟨⟨rfl, rfl, rfl, rfl, rfl, rfl, rfl, (congrArg Value.bool (by rw [← hE59]; first | (simp [h60, h61]; done) | (simp only [decide_eq_false h60, decide_eq_true h61]; done) | grind)), trivial⟩, hL⟩
                ·try rw [decide_eq_false h61]
                 refine sGo rfl (sRun (xFld (k := 5) Try.underlying66 rfl rfl ti3 (by decide) rfl) (sGo rfl (sRun (xLoad Try.underlying3 rfl rfl ((hL.bk 1 rfl).cell (i := 5) rfl)) (sGo rfl (sRun (xLss rfl rfl) (sRun (xPkFB rfl rfl) (sRun (xMvB rfl) ?_)))))))
                 by_cases h62 : x10.Ctx < (0 : Int)
                 ·try rw [decide_eq_true h62]
                  refine sNo rfl (sNo rfl (sNo rfl (sNo rfl (sNo rfl (sNo rfl (sRun (xPkTB rfl rfl) (sNil ?_)))))))
                  exact ⟨⟨rfl, rfl, rfl, rfl, rfl, rfl, rfl, (congrArg Value.bool (by rw [← hE59]; first | (simp [h60, h61, h62]; done) | (simp only [decide_eq_false h60, decide_eq_false h61, decide_eq_true h62]; done) | grind)), trivial⟩, hL⟩
                 ·try rw [decide_eq_false h62]
                  refine sGo rfl (sRun (xFld (k := 5) Try.underlying66 rfl rfl ti3 (by decide) rfl) (sGo rfl (sRun (xLoad Try.underlying3 rfl rfl ((hL.bk 1 rfl).cell (i := 5) rfl)) (sGo rfl (sRun (xFld (k := 2) Try.underlying26 rfl rfl ti23 (by decide) rfl) (sGo rfl (sRun (xLoad Try.underlying23 rfl rfl ((hL.bk 5 rfl).cell (i := 2) rfl)) (sGo rfl ?_))))))))
                  have hl63 : a0.Contexts.l.length * 24 ≤ 140737488355328 := Lst.bd h0.2.1
                  refine sRun (xLnL (s := a0.Contexts) Try.underlying23 rfl) (sGo rfl (sRun (xGeq rfl rfl) (sRun (xPkFB rfl rfl) (sNil ?_))))
                  exact ⟨⟨rfl, rfl, rfl, rfl, rfl, rfl, rfl, (congrArg Value.bool (by rw [← hE59]; first | (simp [h60, h61, h62]; done) | (simp only [decide_eq_false h60, decide_eq_false h61, decide_eq_false h62]; done) | grind)), trivial⟩, hL⟩
              ·clear hL
               subst hE59
               rintro f w ⟨hf, hL⟩
               obtain ⟨g, rfl⟩ := has_updL _ _ hf
               clear hf
               by_cases h64 : ((((decide (x10.N < (0 : Int))) || (decide ((9999 : Int) < x10.N))) || (decide (x10.Ctx < (0 : Int)))) || (decide (((a0.Contexts.l.length : Nat) : Int) ≤ x10.Ctx))) = true
               ·try rw [h64]
                rw [if_pos h64] at hY10
                refine wIfT rfl (wSeq (wReg (sRun (xAsB rfl) (sNil (wRet ?_)))))
                subst hY10
                rw [Lp.el_out] at hM
                try dsimp only at hM
                subst hM
                refine res1 (P := Try.prog) (fn := Try.f43) rfl ?_
                exact ⟨rfl, hL.1⟩
               ·have h64n : ((((decide (x10.N < (0 : Int))) || (decide ((9999 : Int) < x10.N))) || (decide (x10.Ctx < (0 : Int)))) || (decide (((a0.Contexts.l.length : Nat) : Int) ≤ x10.Ctx))) = false := Bool.eq_false_iff.2 h64
                try rw [h64n]
                rw [if_neg h64] at hY10
                have h65 : ¬ (x10.N < (0 : Int)) := fun hq => by rw [decide_eq_true hq] at h64; simp at h64
                have h66 : ¬ ((9999 : Int) < x10.N) := fun hq => by rw [decide_eq_true hq] at h64; simp at h64
                have h67 : ¬ (x10.Ctx < (0 : Int)) := fun hq => by rw [decide_eq_true hq] at h64; simp at h64
                have h68 : ¬ (((a0.Contexts.l.length : Nat) : Int) ≤ x10.Ctx) := fun hq => by rw [decide_eq_true hq] at h64; simp at h64
                refine wIfF rfl (wSkip (wReg (sRun (xAdd64 rfl rfl (by omega) (by omega)) (sRun (xMvI rfl) (sNil ?_)))))
                exact ⟨a1.Ops.l.length - (k10 + 1), by omega, k10 + 1, (s10_0 ++ [x10.Dst]), A44, c44, rfl, by omega, ⟨rfl, rfl, rfl, rfl, rfl, rfl, rfl, trivial⟩, hL.tl.tl, (by first | omega | (simp only [List.length_append, List.length_cons, List.length_nil] at *; omega)), hY10⟩
             ·have h58n : ((decide (x10.Kind = (19 : Int))) || (decide (x10.Kind = (20 : Int)))) = false := Bool.eq_false_iff.2 h58
              try rw [h58n]
              rw [if_neg h58] at hY10
              have h69 : ¬ (x10.Kind = (19 : Int)) := fun hq => by rw [decide_eq_true hq] at h58; simp at h58
              have h70 : ¬ (x10.Kind = (20 : Int)) := fun hq => by rw [decide_eq_true hq] at h58; simp at h58
              refine wIfF rfl (wSeq (wReg (sRun (xEqlD rfl rfl) (sRun (xAsB rfl) (sNil ?_)))))
              by_cases h71 : x10.Kind = (21 : Int)
              ·try rw [decide_eq_true h71]
               rw [if_pos h71] at hY10
               refine wIfT rfl (wSeq ?_)
               obtain ⟨E72, hE72⟩ : ∃ E, (((((((decide (x10.Ctx < (0 : Int))) || (decide (((a0.Contexts.l.length : Nat) : Int) ≤ x10.Ctx))) || (decide (x10.Var < (0 : Int)))) || (decide ((24 : Int) ≤ x10.Var))) || (decide (x10.Piece < (0 : Int)))) || (decide ((4 : Int) ≤ x10.Piece))) || (!(m_r06_source (GCode.er a0) x10.Src r3.l))) = E := ⟨_, rfl⟩
               refine wJ (fun f w => Has f [(2, .pointer (some ⟨b1, 0, none⟩)), (3, .pointer (some ⟨b2, 0, none⟩)), (5, .slice r3.a r3.l.length r3.c), (6, .slice A44 (s10_0 ++ [x10.Dst]).length c44), (23, .slice a1.Ops.a a1.Ops.l.length a1.Ops.c), (24, .int .i64 ((a1.Ops.l.length : Nat) : Int)), (25, .int .i64 ((k10 : Nat) : Int)), (171, .bool E72)] ∧ Bx w0 w [.box b43 3 #[.int .i64 x10.Dst], .box b12 66 (GOp.cells x10).toArray, .ownl A44 c44 3 (s10_0 ++ [x10.Dst]), .dat lo3 hi3 r3, .box b2 60 (GBlock.cells a1).toArray, .box b1 26 (GCode.cells a0).toArray]) ?_ ?_
               ·refine wReg (sRun (xFld (k := 5) Try.underlying66 rfl rfl ti3 (by decide) rfl) (sRun (xLoad Try.underlying3 rfl rfl ((hL.bk 1 rfl).cell (i := 5) rfl)) (sRun (xLss rfl rfl) (sRun (xMvB rfl) ?_))))
                by_cases h73 : x10.Ctx < (0 : Int)
                ·try rw [decide_eq_true h73]
                 refine sNo rfl (sNo rfl (sNo rfl (sNo rfl (sNo rfl (sNo rfl (sRun (xPkTB rfl rfl) (sRun (xMvB rfl) (sNo rfl (sNo rfl (sNo rfl (sRun (xPkTB rfl rfl) (sRun (xMvB rfl) (sNo rfl ?_)))))))))))))
                 refine sNo rfl (sNo rfl (sRun (xPkTB rfl rfl) (sRun (xMvB rfl) (sNo rfl (sNo rfl (sNo rfl (sRun (xPkTB rfl rfl) (sRun (xMvB rfl) (sNo rfl (sNo rfl (sNo rfl (sRun (xPkTB rfl rfl) (sRun (xMvB rfl) ?_)))))))))))))
                 refine sNo rfl (sNo rfl (sNo rfl (sNo rfl (sNo rfl (sNo rfl (sRun (xPkTB rfl rfl) (sNil ?_)))))))
                 exact ⟨⟨rfl, rfl, rfl, rfl, rfl, rfl, rfl, (congrArg Value.bool (by rw [← hE72]; first | (simp [h73]; done) | (simp only [decide_eq_true h73]; done) | grind)), trivial⟩, hL⟩
                ·try rw [decide_eq_false h73]
                 refine sGo rfl (sRun (xFld (k := 5) Try.underlying66 rfl rfl ti3 (by decide) rfl) (sGo rfl (sRun (xLoad Try.underlying3 rfl rfl ((hL.bk 1 rfl).cell (i := 5) rfl)) (sGo rfl (sRun (xFld (k := 2) Try.underlying26 rfl rfl ti23 (by decide) rfl) (sGo rfl (sRun (xLoad Try.underlying23 rfl rfl ((hL.bk 5 rfl).cell (i := 2) rfl)) (sGo rfl ?_))))))))
                 have hl74 : a0.Contexts.l.length * 24 ≤ 140737488355328 := Lst.bd h0.2.1
                 refine sRun (xLnL (s := a0.Contexts) Try.underlying23 rfl) (sGo rfl (sRun (xGeq rfl rfl) (sRun (xPkFB rfl rfl) (sRun (xMvB rfl) ?_))))
                 by_cases h75 : ((a0.Contexts.l.length : Nat) : Int) ≤ x10.Ctx
                 ·try rw [decide_eq_true h75]
                  refine sNo rfl (sNo rfl (sNo rfl (sRun (xPkTB rfl rfl) (sRun (xMvB rfl) (sNo rfl (sNo rfl (sNo rfl (sRun (xPkTB rfl rfl) (sRun (xMvB rfl) (sNo rfl (sNo rfl (sNo rfl (sRun (xPkTB rfl rfl) ?_)))))))))))))
                  refine sRun (xMvB rfl) (sNo rfl (sNo rfl (sNo rfl (sRun (xPkTB rfl rfl) (sRun (xMvB rfl) (sNo rfl (sNo rfl (sNo rfl (sNo rfl (sNo rfl (sNo rfl (sRun (xPkTB rfl rfl) (sNil ?_)))))))))))))
                  exact ⟨⟨rfl, rfl, rfl, rfl, rfl, rfl, rfl, (congrArg Value.bool (by rw [← hE72]; first | (simp [h73, h75]; done) | (simp only [decide_eq_false h73, decide_eq_true h75]; done) | grind)), trivial⟩, hL⟩
                 ·try rw [decide_eq_false h75]
                  refine sGo rfl (sRun (xFld (k := 6) Try.underlying66 rfl rfl ti3 (by decide) rfl) (sGo rfl (sRun (xLoad Try.underlying3 rfl rfl ((hL.bk 1 rfl).cell (i := 6) rfl)) (sGo rfl (sRun (xLss rfl rfl) (sRun (xPkFB rfl rfl) (sRun (xMvB rfl) ?_)))))))
                  by_cases h76 : x10.Var < (0 : Int)
                  ·try rw [decide_eq_true h76]
                   refine sNo rfl (sNo rfl (sNo rfl (sRun (xPkTB rfl rfl) (sRun (xMvB rfl) (sNo rfl (sNo rfl (sNo rfl (sRun (xPkTB rfl rfl) (sRun (xMvB rfl) (sNo rfl (sNo rfl (sNo rfl (sRun (xPkTB rfl rfl) ?_)))))))))))))
                   refine sRun (xMvB rfl) (sNo rfl (sNo rfl (sNo rfl (sNo rfl (sNo rfl (sNo rfl (sRun (xPkTB rfl rfl) (sNil ?_))))))))
                   exact ⟨⟨rfl, rfl, rfl, rfl, rfl, rfl, rfl, (congrArg Value.bool (by rw [← hE72]; first | (simp [h73, h75, h76]; done) | (simp only [decide_eq_false h73, decide_eq_false h75, decide_eq_true h76]; done) | grind)), trivial⟩, hL⟩
                  ·try rw [decide_eq_false h76]
                   refine sGo rfl (sRun (xFld (k := 6) Try.underlying66 rfl rfl ti3 (by decide) rfl) (sGo rfl (sRun (xLoad Try.underlying3 rfl rfl ((hL.bk 1 rfl).cell (i := 6) rfl)) (sGo rfl (sRun (xGeq rfl rfl) (sRun (xPkFB rfl rfl) (sRun (xMvB rfl) ?_)))))))
                   by_cases h77 : (24 : Int) ≤ x10.Var
                   ·try rw [decide_eq_true h77]
                    refine sNo rfl (sNo rfl (sNo rfl (sRun (xPkTB rfl rfl) (sRun (xMvB rfl) (sNo rfl (sNo rfl (sNo rfl (sRun (xPkTB rfl rfl) (sRun (xMvB rfl) (sNo rfl (sNo rfl (sNo rfl (sNo rfl ?_)))))))))))))
                    refine sNo rfl (sNo rfl (sRun (xPkTB rfl rfl) (sNil ?_)))
                    exact ⟨⟨rfl, rfl, rfl, rfl, rfl, rfl, rfl, (congrArg Value.bool (by rw [← hE72]; first | (simp [h73, h75, h76, h77]; done) | (simp only [decide_eq_false h73, decide_eq_false h75, decide_eq_false h76, decide_eq_true h77]; done) | grind)), trivial⟩, hL⟩
                   ·try rw [decide_eq_false h77]
                    refine sGo rfl (sRun (xFld (k := 7) Try.underlying66 rfl rfl ti3 (by decide) rfl) (sGo rfl (sRun (xLoad Try.underlying3 rfl rfl ((hL.bk 1 rfl).cell (i := 7) rfl)) (sGo rfl (sRun (xLss rfl rfl) (sRun (xPkFB rfl rfl) (sRun (xMvB rfl) ?_)))))))
                    by_cases h78 : x10.Piece < (0 : Int)
                    ·try rw [decide_eq_true h78]
                     refine sNo rfl (sNo rfl (sNo rfl (sRun (xPkTB rfl rfl) (sRun (xMvB rfl) (sNo rfl (sNo rfl (sNo rfl (sNo rfl (sNo rfl (sNo rfl (sRun (xPkTB rfl rfl) (sNil ?_))))))))))))
                     exact ⟨⟨rfl, rfl, rfl, rfl, rfl, rfl, rfl, (congrArg Value.bool (by rw [← hE72]; first | (simp [h73, h75, h76, h77, h78]; done) | (simp only [decide_eq_false h73, decide_eq_false h75, decide_eq_false h76, decide_eq_false h77, decide_eq_true h78]; done) | grind)), trivial⟩, hL⟩
                    ·try rw [decide_eq_false h78]
                     refine sGo rfl (sRun (xFld (k := 7) Try.underlying66 rfl rfl ti3 (by decide) rfl) (sGo rfl (sRun (xLoad Try.underlying3 rfl rfl ((hL.bk 1 rfl).cell (i := 7) rfl)) (sGo rfl (sRun (xGeq rfl rfl) (sRun (xPkFB rfl rfl) (sRun (xMvB rfl) ?_)))))))
                     by_cases h79 : (4 : Int) ≤ x10.Piece
                     ·try rw [decide_eq_true h79]
                      refine sNo rfl (sNo rfl (sNo rfl (sNo rfl (sNo rfl (sNo rfl (sRun (xPkTB rfl rfl) (sNil ?_)))))))
                      exact ⟨⟨rfl, rfl, rfl, rfl, rfl, rfl, rfl, (congrArg Value.bool (by rw [← hE72]; first | (simp [h73, h75, h76, h77, h78, h79]; done) | (simp only [decide_eq_false h73, decide_eq_false h75, decide_eq_false h76, decide_eq_false h77, decide_eq_false h78, decide_eq_true h79]; done) | grind)), trivial⟩, hL⟩
                     ·try rw [decide_eq_false h79]
                      refine sGo rfl (sRun (xLoadS (GCode.cells a0) Try.underlying26 rfl ti26 rfl rfl ((hL.bk 5 rfl).part rfl)) (sGo rfl (sRun (xFld (k := 8) Try.underlying66 rfl rfl ti64 (by decide) rfl) (sGo rfl (sRun (xLoadS (GSrc.cells x10.Src) Try.underlying64 rfl ti64 rfl rfl ((hL.bk 1 rfl).part rfl)) (sGo rfl (sRun (xMvS rfl) (sGo rfl (sCall (eCall cal88 rfl) (sp_m_r06_source _ a0 (Dat.all (Dat.ext (x := a0) h0 hL.1)) x10.Src r3 (Dat.all (hL.at 3 rfl).2)) ?_)))))))))
                      rintro _ w80 ⟨rfl, he80⟩
                      replace hL := hL.ext he80
                      by_cases h81 : (m_r06_source (GCode.er a0) x10.Src r3.l) = true
                      ·try rw [h81]
                       refine sGo rfl (sRun (xNot rfl) (sRun (xPkFB rfl rfl) (sNil ?_)))
                       exact ⟨⟨rfl, rfl, rfl, rfl, rfl, rfl, rfl, (congrArg Value.bool (by rw [← hE72]; first | (simp [h73, h75, h76, h77, h78, h79, h81]; done) | (simp only [decide_eq_false h73, decide_eq_false h75, decide_eq_false h76, decide_eq_false h77, decide_eq_false h78, decide_eq_false h79, h81]; done) | grind)), trivial⟩, hL⟩
                      ·have h81n : (m_r06_source (GCode.er a0) x10.Src r3.l) = false := Bool.eq_false_iff.2 h81
                       try rw [h81n]
                       refine sGo rfl (sRun (xNot rfl) (sRun (xPkFB rfl rfl) (sNil ?_)))
                       exact ⟨⟨rfl, rfl, rfl, rfl, rfl, rfl, rfl, (congrArg Value.bool (by rw [← hE72]; first | (simp [h73, h75, h76, h77, h78, h79, h81n]; done) | (simp only [decide_eq_false h73, decide_eq_false h75, decide_eq_false h76, decide_eq_false h77, decide_eq_false h78, decide_eq_false h79, h81n]; done) | grind)), trivial⟩, hL⟩
               ·clear hL
                subst hE72
                rintro f w ⟨hf, hL⟩
                obtain ⟨g, rfl⟩ := has_updL _ _ hf
                clear hf
                by_cases h82 : (((((((decide (x10.Ctx < (0 : Int))) || (decide (((a0.Contexts.l.length : Nat) : Int) ≤ x10.Ctx))) || (decide (x10.Var < (0 : Int)))) || (decide ((24 : Int) ≤ x10.Var))) || (decide (x10.Piece < (0 : Int)))) || (decide ((4 : Int) ≤ x10.Piece))) || (!(m_r06_source (GCode.er a0) x10.Src r3.l))) = true
                ·try rw [h82]
                 rw [if_pos h82] at hY10
                 refine wIfT rfl (wSeq (wReg (sRun (xAsB rfl) (sNil (wRet ?_)))))
                 subst hY10
                 rw [Lp.el_out] at hM
                 try dsimp only at hM
                 subst hM
                 refine res1 (P := Try.prog) (fn := Try.f43) rfl ?_
                 exact ⟨rfl, hL.1⟩
                ·have h82n : (((((((decide (x10.Ctx < (0 : Int))) || (decide (((a0.Contexts.l.length : Nat) : Int) ≤ x10.Ctx))) || (decide (x10.Var < (0 : Int)))) || (decide ((24 : Int) ≤ x10.Var))) || (decide (x10.Piece < (0 : Int)))) || (decide ((4 : Int) ≤ x10.Piece))) || (!(m_r06_source (GCode.er a0) x10.Src r3.l))) = false := Bool.eq_false_iff.2 h82
                 try rw [h82n]
                 rw [if_neg h82] at hY10
                 have h83 : ¬ (x10.Ctx < (0 : Int)) := fun hq => by rw [decide_eq_true hq] at h82; simp at h82
                 have h84 : ¬ (((a0.Contexts.l.length : Nat) : Int) ≤ x10.Ctx) := fun hq => by rw [decide_eq_true hq] at h82; simp at h82
                 have h85 : ¬ (x10.Var < (0 : Int)) := fun hq => by rw [decide_eq_true hq] at h82; simp at h82
                 have h86 : ¬ ((24 : Int) ≤ x10.Var) := fun hq => by rw [decide_eq_true hq] at h82; simp at h82
                 have h87 : ¬ (x10.Piece < (0 : Int)) := fun hq => by rw [decide_eq_true hq] at h82; simp at h82
                 have h88 : ¬ ((4 : Int) ≤ x10.Piece) := fun hq => by rw [decide_eq_true hq] at h82; simp at h82
                 refine wIfF rfl (wSkip (wReg (sRun (xAdd64 rfl rfl (by omega) (by omega)) (sRun (xMvI rfl) (sNil ?_)))))
                 exact ⟨a1.Ops.l.length - (k10 + 1), by omega, k10 + 1, (s10_0 ++ [x10.Dst]), A44, c44, rfl, by omega, ⟨rfl, rfl, rfl, rfl, rfl, rfl, rfl, trivial⟩, hL.tl.tl, (by first | omega | (simp only [List.length_append, List.length_cons, List.length_nil] at *; omega)), hY10⟩
              ·try rw [decide_eq_false h71]
               rw [if_neg h71] at hY10
               refine wIfF rfl (wSkip (wReg (sRun (xAdd64 rfl rfl (by omega) (by omega)) (sRun (xMvI rfl) (sNil ?_)))))
               exact ⟨a1.Ops.l.length - (k10 + 1), by omega, k10 + 1, (s10_0 ++ [x10.Dst]), A44, c44, rfl, by omega, ⟨rfl, rfl, rfl, rfl, rfl, rfl, rfl, trivial⟩, hL.tl.tl, (by first | omega | (simp only [List.length_append, List.length_cons, List.length_nil] at *; omega)), hY10⟩
       ·have h35n : (m_r06_Defines x10.Kind) = false := Bool.eq_false_iff.2 h35
        try rw [h35n]
        rw [if_neg h35] at hY10
        refine wIfF rfl (wSkip (wSeq (wReg (sRun (xFld0 Try.underlying66 rfl rfl ti3 (by decide) rfl) (sRun (xLoad Try.underlying3 rfl rfl ((hL.bk 0 rfl).cell (i := 0) rfl)) (sNil (wBlock (wSeq (wSeq (wReg (sRun (xEqlD rfl rfl) (sRun (xAsB rfl) (sNil ?_)))))))))))))
        obtain ⟨E89, hE89⟩ : ∃ E, ((decide (x10.Kind = (15 : Int))) || ((decide (x10.Kind = (16 : Int))) || (decide (x10.Kind = (17 : Int))))) = E := ⟨_, rfl⟩
        refine wJ (fun f w => Has f [(2, .pointer (some ⟨b1, 0, none⟩)), (3, .pointer (some ⟨b2, 0, none⟩)), (5, .slice r3.a r3.l.length r3.c), (6, .slice A11 s10_0.length c11), (9, .pointer (some ⟨b12, 0, none⟩)), (23, .slice a1.Ops.a a1.Ops.l.length a1.Ops.c), (24, .int .i64 ((a1.Ops.l.length : Nat) : Int)), (25, .int .i64 ((k10 : Nat) : Int)), (91, .int .i64 x10.Kind), (92, .bool E89)] ∧ Bx w0 w [.box b12 66 (GOp.cells x10).toArray, .ownl A11 c11 3 s10_0, .dat lo3 hi3 r3, .box b2 60 (GBlock.cells a1).toArray, .box b1 26 (GCode.cells a0).toArray]) ?_ ?_
        ·by_cases h90 : x10.Kind = (15 : Int)
         ·try rw [decide_eq_true h90]
          refine wIfT rfl (wSkip ?_)
          exact ⟨⟨rfl, rfl, rfl, rfl, rfl, rfl, rfl, rfl, rfl, (congrArg Value.bool (by rw [← hE89]; first | (simp [h90]; done) | (simp only [decide_eq_true h90]; done) | grind)), trivial⟩, hL⟩
         ·try rw [decide_eq_false h90]
          refine wIfF rfl (wSeq (wReg (sRun (xEqlD rfl rfl) (sRun (xAsB rfl) (sNil ?_)))))
          obtain ⟨E91, hE91⟩ : ∃ E, ((decide (x10.Kind = (16 : Int))) || (decide (x10.Kind = (17 : Int)))) = E := ⟨_, rfl⟩
          refine wJ (fun f w => Has f [(2, .pointer (some ⟨b1, 0, none⟩)), (3, .pointer (some ⟨b2, 0, none⟩)), (5, .slice r3.a r3.l.length r3.c), (6, .slice A11 s10_0.length c11), (9, .pointer (some ⟨b12, 0, none⟩)), (23, .slice a1.Ops.a a1.Ops.l.length a1.Ops.c), (24, .int .i64 ((a1.Ops.l.length : Nat) : Int)), (25, .int .i64 ((k10 : Nat) : Int)), (91, .int .i64 x10.Kind), (92, .bool E91)] ∧ Bx w0 w [.box b12 66 (GOp.cells x10).toArray, .ownl A11 c11 3 s10_0, .dat lo3 hi3 r3, .box b2 60 (GBlock.cells a1).toArray, .box b1 26 (GCode.cells a0).toArray]) ?_ ?_
          ·by_cases h92 : x10.Kind = (16 : Int)
           ·try rw [decide_eq_true h92]
            refine wIfT rfl (wSkip ?_)
            exact ⟨⟨rfl, rfl, rfl, rfl, rfl, rfl, rfl, rfl, rfl, (congrArg Value.bool (by rw [← hE91]; first | (simp [h92]; done) | (simp only [decide_eq_true h92]; done) | grind)), trivial⟩, hL⟩
           ·try rw [decide_eq_false h92]
            refine wIfF rfl (wReg (sRun (xEqlD rfl rfl) (sRun (xAsB rfl) (sNil ?_))))
            exact ⟨⟨rfl, rfl, rfl, rfl, rfl, rfl, rfl, rfl, rfl, (congrArg Value.bool (by rw [← hE91]; first | (simp [h92]; done) | (simp only [decide_eq_false h92]; done) | grind)), trivial⟩, hL⟩
          ·clear hL
           subst hE91
           rintro f w ⟨hf, hL⟩
           obtain ⟨g, rfl⟩ := has_updL _ _ hf
           clear hf
           exact ⟨⟨rfl, rfl, rfl, rfl, rfl, rfl, rfl, rfl, rfl, (congrArg Value.bool (by rw [← hE89]; first | (simp [h90]; done) | (simp only [decide_eq_false h90]; done) | grind)), trivial⟩, hL⟩
        ·clear hL
         subst hE89
         rintro f w ⟨hf, hL⟩
         obtain ⟨g, rfl⟩ := has_updL _ _ hf
         clear hf
         by_cases h93 : ((decide (x10.Kind = (15 : Int))) || ((decide (x10.Kind = (16 : Int))) || (decide (x10.Kind = (17 : Int))))) = true
         ·try rw [h93]
          rw [if_pos h93] at hY10
          refine wIfT rfl (wSeq (wReg (sRun (xFld (k := 4) Try.underlying66 rfl rfl ti3 (by decide) rfl) (sRun (xLoad Try.underlying3 rfl rfl ((hL.bk 0 rfl).cell (i := 4) rfl)) (sRun (xLss rfl rfl) (sRun (xMvB rfl) ?_))))))
          by_cases h94 : x10.N < (0 : Int)
          ·try rw [decide_eq_true h94]
           rw [if_pos h94] at hY10
           refine sNo rfl (sNo rfl (sNo rfl (sNo rfl (sNo rfl (sNo rfl (sRun (xPkTB rfl rfl) (sNil (wIfT rfl (wSeq (wReg (sRun (xAsB rfl) (sNil (wRet ?_)))))))))))))
           subst hY10
           rw [Lp.el_out] at hM
           try dsimp only at hM
           subst hM
           refine res1 (P := Try.prog) (fn := Try.f43) rfl ?_
           exact ⟨rfl, hL.1⟩
          ·try rw [decide_eq_false h94]
           rw [if_neg h94] at hY10
           refine sGo rfl (sRun (xFld (k := 4) Try.underlying66 rfl rfl ti3 (by decide) rfl) (sGo rfl (sRun (xLoad Try.underlying3 rfl rfl ((hL.bk 0 rfl).cell (i := 4) rfl)) (sGo rfl (sRun (xFld (k := 3) Try.underlying26 rfl rfl ti24 (by decide) rfl) (sGo rfl (sRun (xLoad Try.underlying24 rfl rfl ((hL.bk 4 rfl).cell (i := 3) rfl)) (sGo rfl ?_))))))))
           have hl95 : a0.Objects.l.length * 24 ≤ 140737488355328 := Lst.bd h0.2.2
           refine sRun (xLnL (s := a0.Objects) Try.underlying24 rfl) (sGo rfl (sRun (xGeq rfl rfl) (sRun (xPkFB rfl rfl) (sNil ?_))))
           by_cases h96 : ((a0.Objects.l.length : Nat) : Int) ≤ x10.N
           ·try rw [decide_eq_true h96]
            rw [if_pos h96] at hY10
            refine wIfT rfl (wSeq (wReg (sRun (xAsB rfl) (sNil (wRet ?_)))))
            subst hY10
            rw [Lp.el_out] at hM
            try dsimp only at hM
            subst hM
            refine res1 (P := Try.prog) (fn := Try.f43) rfl ?_
            exact ⟨rfl, hL.1⟩
           ·try rw [decide_eq_false h96]
            rw [if_neg h96] at hY10
            refine wIfF rfl (wSkip (wReg (sRun (xAdd64 rfl rfl (by omega) (by omega)) (sRun (xMvI rfl) (sNil ?_)))))
            exact ⟨a1.Ops.l.length - (k10 + 1), by omega, k10 + 1, s10_0, A11, c11, rfl, by omega, ⟨rfl, rfl, rfl, rfl, rfl, rfl, rfl, trivial⟩, hL.tl, (by first | omega | (simp only [List.length_append, List.length_cons, List.length_nil] at *; omega)), hY10⟩
         ·have h93n : ((decide (x10.Kind = (15 : Int))) || ((decide (x10.Kind = (16 : Int))) || (decide (x10.Kind = (17 : Int))))) = false := Bool.eq_false_iff.2 h93
          try rw [h93n]
          rw [if_neg h93] at hY10
          have h97 : ¬ (x10.Kind = (15 : Int)) := fun hq => by rw [decide_eq_true hq] at h93; simp at h93
          have h98 : ¬ (x10.Kind = (16 : Int)) := fun hq => by rw [decide_eq_true hq] at h93; simp at h93
          have h99 : ¬ (x10.Kind = (17 : Int)) := fun hq => by rw [decide_eq_true hq] at h93; simp at h93
          refine wIfF rfl (wSeq (wSeq (wReg (sRun (xEqlD rfl rfl) (sRun (xAsB rfl) (sNil ?_))))))
          obtain ⟨E100, hE100⟩ : ∃ E, ((decide (x10.Kind = (19 : Int))) || (decide (x10.Kind = (20 : Int)))) = E := ⟨_, rfl⟩
          refine wJ (fun f w => Has f [(2, .pointer (some ⟨b1, 0, none⟩)), (3, .pointer (some ⟨b2, 0, none⟩)), (5, .slice r3.a r3.l.length r3.c), (6, .slice A11 s10_0.length c11), (9, .pointer (some ⟨b12, 0, none⟩)), (23, .slice a1.Ops.a a1.Ops.l.length a1.Ops.c), (24, .int .i64 ((a1.Ops.l.length : Nat) : Int)), (25, .int .i64 ((k10 : Nat) : Int)), (91, .int .i64 x10.Kind), (107, .bool E100)] ∧ Bx w0 w [.box b12 66 (GOp.cells x10).toArray, .ownl A11 c11 3 s10_0, .dat lo3 hi3 r3, .box b2 60 (GBlock.cells a1).toArray, .box b1 26 (GCode.cells a0).toArray]) ?_ ?_
          ·by_cases h101 : x10.Kind = (19 : Int)
           ·try rw [decide_eq_true h101]
            refine wIfT rfl (wSkip ?_)
            exact ⟨⟨rfl, rfl, rfl, rfl, rfl, rfl, rfl, rfl, rfl, (congrArg Value.bool (by rw [← hE100]; first | (simp [h101]; done) | (simp only [decide_eq_true h101]; done) | grind)), trivial⟩, hL⟩
           ·try rw [decide_eq_false h101]
            refine wIfF rfl (wReg (sRun (xEqlD rfl rfl) (sRun (xAsB rfl) (sNil ?_))))
            exact ⟨⟨rfl, rfl, rfl, rfl, rfl, rfl, rfl, rfl, rfl, (congrArg Value.bool (by rw [← hE100]; first | (simp [h101]; done) | (simp only [decide_eq_false h101]; done) | grind)), trivial⟩, hL⟩
          ·clear hL
           subst hE100
           rintro f w ⟨hf, hL⟩
           obtain ⟨g, rfl⟩ := has_updL _ _ hf
           clear hf
           by_cases h102 : ((decide (x10.Kind = (19 : Int))) || (decide (x10.Kind = (20 : Int)))) = true
           ·try rw [h102]
            rw [if_pos h102] at hY10
            refine wIfT rfl (wSeq ?_)
            obtain ⟨E103, hE103⟩ : ∃ E, ((((decide (x10.N < (0 : Int))) || (decide ((9999 : Int) < x10.N))) || (decide (x10.Ctx < (0 : Int)))) || (decide (((a0.Contexts.l.length : Nat) : Int) ≤ x10.Ctx))) = E := ⟨_, rfl⟩
            refine wJ (fun f w => Has f [(2, .pointer (some ⟨b1, 0, none⟩)), (3, .pointer (some ⟨b2, 0, none⟩)), (5, .slice r3.a r3.l.length r3.c), (6, .slice A11 s10_0.length c11), (23, .slice a1.Ops.a a1.Ops.l.length a1.Ops.c), (24, .int .i64 ((a1.Ops.l.length : Nat) : Int)), (25, .int .i64 ((k10 : Nat) : Int)), (130, .bool E103)] ∧ Bx w0 w [.box b12 66 (GOp.cells x10).toArray, .ownl A11 c11 3 s10_0, .dat lo3 hi3 r3, .box b2 60 (GBlock.cells a1).toArray, .box b1 26 (GCode.cells a0).toArray]) ?_ ?_
            ·refine wReg (sRun (xFld (k := 4) Try.underlying66 rfl rfl ti3 (by decide) rfl) (sRun (xLoad Try.underlying3 rfl rfl ((hL.bk 0 rfl).cell (i := 4) rfl)) (sRun (xLss rfl rfl) (sRun (xMvB rfl) ?_))))
             by_cases h104 : x10.N < (0 : Int)
             ·try rw [decide_eq_true h104]
              refine sNo rfl (sNo rfl (sNo rfl (sRun (xPkTB rfl rfl) (sRun (xMvB rfl) (sNo rfl (sNo rfl (sNo rfl (sRun (xPkTB rfl rfl) (sRun (xMvB rfl) (sNo rfl (sNo rfl (sNo rfl (sNo rfl ?_)))))))))))))
              refine sNo rfl (sNo rfl (sRun (xPkTB rfl rfl) (sNil ?_)))
              exact ⟨⟨rfl, rfl, rfl, rfl, rfl, rfl, rfl, (congrArg Value.bool (by rw [← hE103]; first | (simp [h104]; done) | (simp only [decide_eq_true h104]; done) | grind)), trivial⟩, hL⟩
             ·try rw [decide_eq_false h104]
              refine sGo rfl (sRun (xFld (k := 4) Try.underlying66 rfl rfl ti3 (by decide) rfl) (sGo rfl (sRun (xLoad Try.underlying3 rfl rfl ((hL.bk 0 rfl).cell (i := 4) rfl)) (sGo rfl (sRun (xGtr rfl rfl) (sRun (xPkFB rfl rfl) (sRun (xMvB rfl) ?_)))))))
              by_cases h105 : (9999 : Int) < x10.N
              ·try rw [decide_eq_true h105]
               refine sNo rfl (sNo rfl (sNo rfl (sRun (xPkTB rfl rfl) (sRun (xMvB rfl) (sNo rfl (sNo rfl (sNo rfl (sNo rfl (sNo rfl (sNo rfl (sRun (xPkTB rfl rfl) (sNil ?_))))))))))))
               exact ⟨⟨rfl, rfl, rfl, rfl, rfl, rfl, rfl, (congrArg Value.bool (by rw [← hE103]; first | (simp [h104, h105]; done) | (simp only [decide_eq_false h104, decide_eq_true h105]; done) | grind)), trivial⟩, hL⟩
              ·try rw [decide_eq_false h105]
               refine sGo rfl (sRun (xFld (k := 5) Try.underlying66 rfl rfl ti3 (by decide) rfl) (sGo rfl (sRun (xLoad Try.underlying3 rfl rfl ((hL.bk 0 rfl).cell (i := 5) rfl)) (sGo rfl (sRun (xLss rfl rfl) (sRun (xPkFB rfl rfl) (sRun (xMvB rfl) ?_)))))))
               by_cases h106 : x10.Ctx < (0 : Int)
               ·try rw [decide_eq_true h106]
                refine sNo rfl (sNo rfl (sNo rfl (sNo rfl (sNo rfl (sNo rfl (sRun (xPkTB rfl rfl) (sNil ?_)))))))
                exact ⟨⟨rfl, rfl, rfl, rfl, rfl, rfl, rfl, (congrArg Value.bool (by rw [← hE103]; first | (simp [h104, h105, h106]; done) | (simp only [decide_eq_false h104, decide_eq_false h105, decide_eq_true h106]; done) | grind)), trivial⟩, hL⟩
               ·try rw [decide_eq_false h106]
                refine sGo rfl (sRun (xFld (k := 5) Try.underlying66 rfl rfl ti3 (by decide) rfl) (sGo rfl (sRun (xLoad Try.underlying3 rfl rfl ((hL.bk 0 rfl).cell (i := 5) rfl)) (sGo rfl (sRun (xFld (k := 2) Try.underlying26 rfl rfl ti23 (by decide) rfl) (sGo rfl (sRun (xLoad Try.underlying23 rfl rfl ((hL.bk 4 rfl).cell (i := 2) rfl)) (sGo rfl ?_))))))))
                have hl107 : a0.Contexts.l.length * 24 ≤ 140737488355328 := Lst.bd h0.2.1
                refine sRun (xLnL (s := a0.Contexts) Try.underlying23 rfl) (sGo rfl (sRun (xGeq rfl rfl) (sRun (xPkFB rfl rfl) (sNil ?_))))
                exact ⟨⟨rfl, rfl, rfl, rfl, rfl, rfl, rfl, (congrArg Value.bool (by rw [← hE103]; first | (simp [h104, h105, h106]; done) | (simp only [decide_eq_false h104, decide_eq_false h105, decide_eq_false h106]; done) | grind)), trivial⟩, hL⟩
            ·clear hL
             subst hE103
             rintro f w ⟨hf, hL⟩
             obtain ⟨g, rfl⟩ := has_updL _ _ hf
             clear hf
             by_cases h108 : ((((decide (x10.N < (0 : Int))) || (decide ((9999 : Int) < x10.N))) || (decide (x10.Ctx < (0 : Int)))) || (decide (((a0.Contexts.l.length : Nat) : Int) ≤ x10.Ctx))) = true
             ·try rw [h108]
              rw [if_pos h108] at hY10
              refine wIfT rfl (wSeq (wReg (sRun (xAsB rfl) (sNil (wRet ?_)))))
              subst hY10
              rw [Lp.el_out] at hM
              try dsimp only at hM
              subst hM
              refine res1 (P := Try.prog) (fn := Try.f43) rfl ?_
              exact ⟨rfl, hL.1⟩
             ·have h108n : ((((decide (x10.N < (0 : Int))) || (decide ((9999 : Int) < x10.N))) || (decide (x10.Ctx < (0 : Int)))) || (decide (((a0.Contexts.l.length : Nat) : Int) ≤ x10.Ctx))) = false := Bool.eq_false_iff.2 h108
              try rw [h108n]
              rw [if_neg h108] at hY10
              have h109 : ¬ (x10.N < (0 : Int)) := fun hq => by rw [decide_eq_true hq] at h108; simp at h108
              have h110 : ¬ ((9999 : Int) < x10.N) := fun hq => by rw [decide_eq_true hq] at h108; simp at h108
              have h111 : ¬ (x10.Ctx < (0 : Int)) := fun hq => by rw [decide_eq_true hq] at h108; simp at h108
              have h112 : ¬ (((a0.Contexts.l.length : Nat) : Int) ≤ x10.Ctx) := fun hq => by rw [decide_eq_true hq] at h108; simp at h108
              refine wIfF rfl (wSkip (wReg (sRun (xAdd64 rfl rfl (by omega) (by omega)) (sRun (xMvI rfl) (sNil ?_)))))
              exact ⟨a1.Ops.l.length - (k10 + 1), by omega, k10 + 1, s10_0, A11, c11, rfl, by omega, ⟨rfl, rfl, rfl, rfl, rfl, rfl, rfl, trivial⟩, hL.tl, (by first | omega | (simp only [List.length_append, List.length_cons, List.length_nil] at *; omega)), hY10⟩
           ·have h102n : ((decide (x10.Kind = (19 : Int))) || (decide (x10.Kind = (20 : Int)))) = false := Bool.eq_false_iff.2 h102
            try rw [h102n]
            rw [if_neg h102] at hY10
            have h113 : ¬ (x10.Kind = (19 : Int)) := fun hq => by rw [decide_eq_true hq] at h102; simp at h102
            have h114 : ¬ (x10.Kind = (20 : Int)) := fun hq => by rw [decide_eq_true hq] at h102; simp at h102
            refine wIfF rfl (wSeq (wReg (sRun (xEqlD rfl rfl) (sRun (xAsB rfl) (sNil ?_)))))
            by_cases h115 : x10.Kind = (21 : Int)
            ·try rw [decide_eq_true h115]
             rw [if_pos h115] at hY10
             refine wIfT rfl (wSeq ?_)
             obtain ⟨E116, hE116⟩ : ∃ E, (((((((decide (x10.Ctx < (0 : Int))) || (decide (((a0.Contexts.l.length : Nat) : Int) ≤ x10.Ctx))) || (decide (x10.Var < (0 : Int)))) || (decide ((24 : Int) ≤ x10.Var))) || (decide (x10.Piece < (0 : Int)))) || (decide ((4 : Int) ≤ x10.Piece))) || (!(m_r06_source (GCode.er a0) x10.Src r3.l))) = E := ⟨_, rfl⟩
             refine wJ (fun f w => Has f [(2, .pointer (some ⟨b1, 0, none⟩)), (3, .pointer (some ⟨b2, 0, none⟩)), (5, .slice r3.a r3.l.length r3.c), (6, .slice A11 s10_0.length c11), (23, .slice a1.Ops.a a1.Ops.l.length a1.Ops.c), (24, .int .i64 ((a1.Ops.l.length : Nat) : Int)), (25, .int .i64 ((k10 : Nat) : Int)), (171, .bool E116)] ∧ Bx w0 w [.box b12 66 (GOp.cells x10).toArray, .ownl A11 c11 3 s10_0, .dat lo3 hi3 r3, .box b2 60 (GBlock.cells a1).toArray, .box b1 26 (GCode.cells a0).toArray]) ?_ ?_
             ·refine wReg (sRun (xFld (k := 5) Try.underlying66 rfl rfl ti3 (by decide) rfl) (sRun (xLoad Try.underlying3 rfl rfl ((hL.bk 0 rfl).cell (i := 5) rfl)) (sRun (xLss rfl rfl) (sRun (xMvB rfl) ?_))))
              by_cases h117 : x10.Ctx < (0 : Int)
              ·try rw [decide_eq_true h117]
               refine sNo rfl (sNo rfl (sNo rfl (sNo rfl (sNo rfl (sNo rfl (sRun (xPkTB rfl rfl) (sRun (xMvB rfl) (sNo rfl (sNo rfl (sNo rfl (sRun (xPkTB rfl rfl) (sRun (xMvB rfl) (sNo rfl ?_)))))))))))))
               refine sNo rfl (sNo rfl (sRun (xPkTB rfl rfl) (sRun (xMvB rfl) (sNo rfl (sNo rfl (sNo rfl (sRun (xPkTB rfl rfl) (sRun (xMvB rfl) (sNo rfl (sNo rfl (sNo rfl (sRun (xPkTB rfl rfl) (sRun (xMvB rfl) ?_)))))))))))))
               refine sNo rfl (sNo rfl (sNo rfl (sNo rfl (sNo rfl (sNo rfl (sRun (xPkTB rfl rfl) (sNil ?_)))))))
               exact ⟨⟨rfl, rfl, rfl, rfl, rfl, rfl, rfl, (congrArg Value.bool (by rw [← hE116]; first | (simp [h117]; done) | (simp only [decide_eq_true h117]; done) | grind)), trivial⟩, hL⟩
              ·try rw [decide_eq_false h117]
               refine sGo rfl (sRun (xFld (k := 5) Try.underlying66 rfl rfl ti3 (by decide) rfl) (sGo rfl (sRun (xLoad Try.underlying3 rfl rfl ((hL.bk 0 rfl).cell (i := 5) rfl)) (sGo rfl (sRun (xFld (k := 2) Try.underlying26 rfl rfl ti23 (by decide) rfl) (sGo rfl (sRun (xLoad Try.underlying23 rfl rfl ((hL.bk 4 rfl).cell (i := 2) rfl)) (sGo rfl ?_))))))))
               have hl118 : a0.Contexts.l.length * 24 ≤ 140737488355328 := Lst.bd h0.2.1
               refine sRun (xLnL (s := a0.Contexts) Try.underlying23 rfl) (sGo rfl (sRun (xGeq rfl rfl) (sRun (xPkFB rfl rfl) (sRun (xMvB rfl) ?_))))
               by_cases h119 : ((a0.Contexts.l.length : Nat) : Int) ≤ x10.Ctx
               ·try rw [decide_eq_true h119]
                refine sNo rfl (sNo rfl (sNo rfl (sRun (xPkTB rfl rfl) (sRun (xMvB rfl) (sNo rfl (sNo rfl (sNo rfl (sRun (xPkTB rfl rfl) (sRun (xMvB rfl) (sNo rfl (sNo rfl (sNo rfl (sRun (xPkTB rfl rfl) ?_)))))))))))))
                refine sRun (xMvB rfl) (sNo rfl (sNo rfl (sNo rfl (sRun (xPkTB rfl rfl) (sRun (xMvB rfl) (sNo rfl (sNo rfl (sNo rfl (sNo rfl (sNo rfl (sNo rfl (sRun (xPkTB rfl rfl) (sNil ?_)))))))))))))
                exact ⟨⟨rfl, rfl, rfl, rfl, rfl, rfl, rfl, (congrArg Value.bool (by rw [← hE116]; first | (simp [h117, h119]; done) | (simp only [decide_eq_false h117, decide_eq_true h119]; done) | grind)), trivial⟩, hL⟩
               ·try rw [decide_eq_false h119]
                refine sGo rfl (sRun (xFld (k := 6) Try.underlying66 rfl rfl ti3 (by decide) rfl) (sGo rfl (sRun (xLoad Try.underlying3 rfl rfl ((hL.bk 0 rfl).cell (i := 6) rfl)) (sGo rfl (sRun (xLss rfl rfl) (sRun (xPkFB rfl rfl) (sRun (xMvB rfl) ?_)))))))
                by_cases h120 : x10.Var < (0 : Int)
                ·try rw [decide_eq_true h120]
                 refine sNo rfl (sNo rfl (sNo rfl (sRun (xPkTB rfl rfl) (sRun (xMvB rfl) (sNo rfl (sNo rfl (sNo rfl (sRun (xPkTB rfl rfl) (sRun (xMvB rfl) (sNo rfl (sNo rfl (sNo rfl (sRun (xPkTB rfl rfl) ?_)))))))))))))
                 refine sRun (xMvB rfl) (sNo rfl (sNo rfl (sNo rfl (sNo rfl (sNo rfl (sNo rfl (sRun (xPkTB rfl rfl) (sNil ?_))))))))
                 exact ⟨⟨rfl, rfl, rfl, rfl, rfl, rfl, rfl, (congrArg Value.bool (by rw [← hE116]; first | (simp [h117, h119, h120]; done) | (simp only [decide_eq_false h117, decide_eq_false h119, decide_eq_true h120]; done) | grind)), trivial⟩, hL⟩
                ·try rw [decide_eq_false h120]
                 refine sGo rfl (sRun (xFld (k := 6) Try.underlying66 rfl rfl ti3 (by decide) rfl) (sGo rfl (sRun (xLoad Try.underlying3 rfl rfl ((hL.bk 0 rfl).cell (i := 6) rfl)) (sGo rfl (sRun (xGeq rfl rfl) (sRun (xPkFB rfl rfl) (sRun (xMvB rfl) ?_)))))))
                 by_cases h121 : (24 : Int) ≤ x10.Var
                 ·try rw [decide_eq_true h121]
                  refine sNo rfl (sNo rfl (sNo rfl (sRun (xPkTB rfl rfl) (sRun (xMvB rfl) (sNo rfl (sNo rfl (sNo rfl (sRun (xPkTB rfl rfl) (sRun (xMvB rfl) (sNo rfl (sNo rfl (sNo rfl (sNo rfl ?_)))))))))))))
                  refine sNo rfl (sNo rfl (sRun (xPkTB rfl rfl) (sNil ?_)))
                  exact ⟨⟨rfl, rfl, rfl, rfl, rfl, rfl, rfl, (congrArg Value.bool (by rw [← hE116]; first | (simp [h117, h119, h120, h121]; done) | (simp only [decide_eq_false h117, decide_eq_false h119, decide_eq_false h120, decide_eq_true h121]; done) | grind)), trivial⟩, hL⟩
                 ·try rw [decide_eq_false h121]
                  refine sGo rfl (sRun (xFld (k := 7) Try.underlying66 rfl rfl ti3 (by decide) rfl) (sGo rfl (sRun (xLoad Try.underlying3 rfl rfl ((hL.bk 0 rfl).cell (i := 7) rfl)) (sGo rfl (sRun (xLss rfl rfl) (sRun (xPkFB rfl rfl) (sRun (xMvB rfl) ?_)))))))
                  by_cases h122 : x10.Piece < (0 : Int)
                  ·try rw [decide_eq_true h122]
                   refine sNo rfl (sNo rfl (sNo rfl (sRun (xPkTB rfl rfl) (sRun (xMvB rfl) (sNo rfl (sNo rfl (sNo rfl (sNo rfl (sNo rfl (sNo rfl (sRun (xPkTB rfl rfl) (sNil ?_))))))))))))
                   exact ⟨⟨rfl, rfl, rfl, rfl, rfl, rfl, rfl, (congrArg Value.bool (by rw [← hE116]; first | (simp [h117, h119, h120, h121, h122]; done) | (simp only [decide_eq_false h117, decide_eq_false h119, decide_eq_false h120, decide_eq_false h121, decide_eq_true h122]; done) | grind)), trivial⟩, hL⟩
                  ·try rw [decide_eq_false h122]
                   refine sGo rfl (sRun (xFld (k := 7) Try.underlying66 rfl rfl ti3 (by decide) rfl) (sGo rfl (sRun (xLoad Try.underlying3 rfl rfl ((hL.bk 0 rfl).cell (i := 7) rfl)) (sGo rfl (sRun (xGeq rfl rfl) (sRun (xPkFB rfl rfl) (sRun (xMvB rfl) ?_)))))))
                   by_cases h123 : (4 : Int) ≤ x10.Piece
                   ·try rw [decide_eq_true h123]
                    refine sNo rfl (sNo rfl (sNo rfl (sNo rfl (sNo rfl (sNo rfl (sRun (xPkTB rfl rfl) (sNil ?_)))))))
                    exact ⟨⟨rfl, rfl, rfl, rfl, rfl, rfl, rfl, (congrArg Value.bool (by rw [← hE116]; first | (simp [h117, h119, h120, h121, h122, h123]; done) | (simp only [decide_eq_false h117, decide_eq_false h119, decide_eq_false h120, decide_eq_false h121, decide_eq_false h122, decide_eq_true h123]; done) | grind)), trivial⟩, hL⟩
                   ·try rw [decide_eq_false h123]
                    refine sGo rfl (sRun (xLoadS (GCode.cells a0) Try.underlying26 rfl ti26 rfl rfl ((hL.bk 4 rfl).part rfl)) (sGo rfl (sRun (xFld (k := 8) Try.underlying66 rfl rfl ti64 (by decide) rfl) (sGo rfl (sRun (xLoadS (GSrc.cells x10.Src) Try.underlying64 rfl ti64 rfl rfl ((hL.bk 0 rfl).part rfl)) (sGo rfl (sRun (xMvS rfl) (sGo rfl (sCall (eCall cal88 rfl) (sp_m_r06_source _ a0 (Dat.all (Dat.ext (x := a0) h0 hL.1)) x10.Src r3 (Dat.all (hL.at 2 rfl).2)) ?_)))))))))
                    rintro _ w124 ⟨rfl, he124⟩
                    replace hL := hL.ext he124
                    by_cases h125 : (m_r06_source (GCode.er a0) x10.Src r3.l) = true
                    ·try rw [h125]
                     refine sGo rfl (sRun (xNot rfl) (sRun (xPkFB rfl rfl) (sNil ?_)))
                     exact ⟨⟨rfl, rfl, rfl, rfl, rfl, rfl, rfl, (congrArg Value.bool (by rw [← hE116]; first | (simp [h117, h119, h120, h121, h122, h123, h125]; done) | (simp only [decide_eq_false h117, decide_eq_false h119, decide_eq_false h120, decide_eq_false h121, decide_eq_false h122, decide_eq_false h123, h125]; done) | grind)), trivial⟩, hL⟩
                    ·have h125n : (m_r06_source (GCode.er a0) x10.Src r3.l) = false := Bool.eq_false_iff.2 h125
                     try rw [h125n]
                     refine sGo rfl (sRun (xNot rfl) (sRun (xPkFB rfl rfl) (sNil ?_)))
                     exact ⟨⟨rfl, rfl, rfl, rfl, rfl, rfl, rfl, (congrArg Value.bool (by rw [← hE116]; first | (simp [h117, h119, h120, h121, h122, h123, h125n]; done) | (simp only [decide_eq_false h117, decide_eq_false h119, decide_eq_false h120, decide_eq_false h121, decide_eq_false h122, decide_eq_false h123, h125n]; done) | grind)), trivial⟩, hL⟩
             ·clear hL
              subst hE116
              rintro f w ⟨hf, hL⟩
              obtain ⟨g, rfl⟩ := has_updL _ _ hf
              clear hf
              by_cases h126 : (((((((decide (x10.Ctx < (0 : Int))) || (decide (((a0.Contexts.l.length : Nat) : Int) ≤ x10.Ctx))) || (decide (x10.Var < (0 : Int)))) || (decide ((24 : Int) ≤ x10.Var))) || (decide (x10.Piece < (0 : Int)))) || (decide ((4 : Int) ≤ x10.Piece))) || (!(m_r06_source (GCode.er a0) x10.Src r3.l))) = true
              ·try rw [h126]
               rw [if_pos h126] at hY10
               refine wIfT rfl (wSeq (wReg (sRun (xAsB rfl) (sNil (wRet ?_)))))
               subst hY10
               rw [Lp.el_out] at hM
               try dsimp only at hM
               subst hM
               refine res1 (P := Try.prog) (fn := Try.f43) rfl ?_
               exact ⟨rfl, hL.1⟩
              ·have h126n : (((((((decide (x10.Ctx < (0 : Int))) || (decide (((a0.Contexts.l.length : Nat) : Int) ≤ x10.Ctx))) || (decide (x10.Var < (0 : Int)))) || (decide ((24 : Int) ≤ x10.Var))) || (decide (x10.Piece < (0 : Int)))) || (decide ((4 : Int) ≤ x10.Piece))) || (!(m_r06_source (GCode.er a0) x10.Src r3.l))) = false := Bool.eq_false_iff.2 h126
               try rw [h126n]
               rw [if_neg h126] at hY10
               have h127 : ¬ (x10.Ctx < (0 : Int)) := fun hq => by rw [decide_eq_true hq] at h126; simp at h126
               have h128 : ¬ (((a0.Contexts.l.length : Nat) : Int) ≤ x10.Ctx) := fun hq => by rw [decide_eq_true hq] at h126; simp at h126
               have h129 : ¬ (x10.Var < (0 : Int)) := fun hq => by rw [decide_eq_true hq] at h126; simp at h126
               have h130 : ¬ ((24 : Int) ≤ x10.Var) := fun hq => by rw [decide_eq_true hq] at h126; simp at h126
               have h131 : ¬ (x10.Piece < (0 : Int)) := fun hq => by rw [decide_eq_true hq] at h126; simp at h126
               have h132 : ¬ ((4 : Int) ≤ x10.Piece) := fun hq => by rw [decide_eq_true hq] at h126; simp at h126
               refine wIfF rfl (wSkip (wReg (sRun (xAdd64 rfl rfl (by omega) (by omega)) (sRun (xMvI rfl) (sNil ?_)))))
               exact ⟨a1.Ops.l.length - (k10 + 1), by omega, k10 + 1, s10_0, A11, c11, rfl, by omega, ⟨rfl, rfl, rfl, rfl, rfl, rfl, rfl, trivial⟩, hL.tl, (by first | omega | (simp only [List.length_append, List.length_cons, List.length_nil] at *; omega)), hY10⟩
            ·try rw [decide_eq_false h115]
             rw [if_neg h115] at hY10
             refine wIfF rfl (wSkip (wReg (sRun (xAdd64 rfl rfl (by omega) (by omega)) (sRun (xMvI rfl) (sNil ?_)))))
             exact ⟨a1.Ops.l.length - (k10 + 1), by omega, k10 + 1, s10_0, A11, c11, rfl, by omega, ⟨rfl, rfl, rfl, rfl, rfl, rfl, rfl, trivial⟩, hL.tl, (by first | omega | (simp only [List.length_append, List.length_cons, List.length_nil] at *; omega)), hY10⟩
    ·obtain rfl : k10 = a1.Ops.l.length := by omega
     rw [drop_end, m_r06_ops_L1] at hY10
     refine wSeq (wReg (sRun (xLssF rfl rfl (by omega)) (sNil (wSeq (wIfF rfl (wExit ?_))))))
     exact ⟨s10_0, A11, c11, ⟨rfl, rfl, rfl, rfl, rfl, rfl, trivial⟩, hL, (by first | omega | (simp only [List.length_append, List.length_cons, List.length_nil] at *; omega)), hY10⟩
   ·clear hL
    rintro f w ⟨s10_0, A11, c11, hf, hL, hb10_0, hZ10⟩
    obtain ⟨g, rfl⟩ := has_updL _ _ hf
    clear hf
    subst hZ10
    rw [Lp.el_go] at hM
    try dsimp only at hM
    refine wSeq (wReg (sRun (xAsB rfl) (sNil (wRet ?_))))
    subst hM
    refine res1 (P := Try.prog) (fn := Try.f43) rfl ?_
    exact ⟨rfl, hL.1⟩

end Go.Proofs.Ytbpccmnalhdpmaa
