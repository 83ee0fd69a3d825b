/- Contracts, printed by gen2.py. -/
import Derived.Test.YtbpccmnalhdpmaaGh
set_option linter.unusedVariables false
set_option linter.unusedSimpArgs false
set_option maxRecDepth 4000
namespace Go.Proofs.Ytbpccmnalhdpmaa
open Go.RowKit Go.Fw
def m_ir_rightBlock_L1 (a0 : (GCode List)) (a1 : (GBlock List)) (u7 : List (Int × Int)) : List GOp → Nat → Lp (Unit) (Bool)
  | [], _ => .go ()
  | x20 :: r20, k20 =>
  if (((!(m_ir_clean x20)) || (!(m_ir_rightOp a0 a1.Params u7 x20 ((k20 : Nat) : Int)))) || ((decide (x20.Kind = (21 : Int))) && (!(m_ir_rightBind a0 a1.Params u7 x20 ((a1.Ops.length : Nat) : Int))))) = true then
   .out (false)
  else
   m_ir_rightBlock_L1 a0 a1 u7 r20 (k20 + 1)
def m_ir_rightBlock_L0 (a0 : (GCode List)) (a1 : (GBlock List)) : List GOp → Nat → (List (Int × Int)) → Lp (List (Int × Int)) (Bool)
  | [], _, s7_0 => .go s7_0
  | x7 :: r7, k7, s7_0 =>
  if (bwAnd (m_ir_fields x7.Kind) (1 : Int)) = (0 : Int) then
   m_ir_rightBlock_L0 a0 a1 r7 (k7 + 1) s7_0
  else
   if (((mget s7_0 x7.Dst).isSome || (decide (x7.Dst < a1.Params))) || (decide ((9999 : Int) < x7.Dst))) = true then
    .out (false)
   else
    m_ir_rightBlock_L0 a0 a1 r7 (k7 + 1) (mput s7_0 x7.Dst ((k7 : Nat) : Int))
def m_ir_rightBlock (a0 : (GCode List)) (a1 : (GBlock List)) : Bool :=
 (m_ir_rightBlock_L0 a0 a1 a1.Ops 0 ([] : List (Int × Int))).el (fun u7 =>
  (m_ir_rightBlock_L1 a0 a1 u7 a1.Ops 0).el (fun _ =>
   (m_ir_rightTerm a0 a1.Params u7 a1.Term ((a1.Ops.length : Nat) : Int))
    ) (fun o => o)
   ) (fun o => o)
theorem bd74_15 {ρ : Operand → Value} {w : World} {d : Option Nat} {ty : TypeId} {pos : String} {af : Array Edge} {g : Option (Nat × Bool)} {x0 : Int} {x1 : Option Nat} {o0 : Operand} {o1 : Operand} (h0 : ρ o0 = .int .i64 x0) (h1 : ρ o1 = .map x1) : Yl Try.prog ρ (.build 199 #[(0, o0), (1, o1)]) d ty pos af g w (.agg #[.int .i64 x0, .map x1]) := by
  have e : (Instr.build 199 #[(0, .int .i64 x0), (1, .map x1)]).run Try.prog w = .ok (.agg #[.int .i64 x0, .map x1]) w := by kernel_rfl
  simp [Yl, execOp, h0, h1, e]
set_option maxHeartbeats 12800000 in
theorem sp_m_ir_rightBlock (w0 : World) (a0 : (GCode Lst)) (h0 : Dat.ok (fun _ => True) w0 a0) (a1 : (GBlock Lst)) (h1 : Dat.ok (fun _ => True) w0 a1) : Calls Try.prog 74 #[.agg (GCode.cells a0).toArray, .agg (GBlock.cells a1).toArray] w0 (Ret fun v w => v = .bool (m_ir_rightBlock (GCode.er a0) (GBlock.er a1)) ∧ Ext w0 w) := by
  obtain ⟨X, hM⟩ : ∃ X, m_ir_rightBlock (GCode.er a0) (GBlock.er a1) = X := ⟨_, rfl⟩
  rw [hM]
  unfold m_ir_rightBlock at hM
  try simp only [er1, er2, er3, er4, er5, er6, er7, er8, er9, er10, er11, er12, er13, er14, er15, er16, er17, List.length_map] at hM
  have hL : Bx w0 w0 [] := Bx.nil
  refine calls_of Try.func74 rfl (Nat.le_of_ble_eq_true rfl) (by kernel_rfl) ?_
  refine wCut [(0, .agg (GCode.cells a0).toArray), (1, .agg (GBlock.cells a1).toArray)] ⟨rfl, rfl, trivial⟩ fun g => ?_
  refine wSeq (wReg (sTo (aNew (mBox rfl)) ?_))
  rintro _ w1 ⟨b1, rfl, hge1, hB1, he1⟩
  replace hL := hL.new hge1 hB1 he1
  refine sTo (aNew (mBox rfl)) ?_
  rintro _ w2 ⟨b2, rfl, hge2, hB2, he2⟩
  replace hL := hL.new hge2 hB2 he2
  refine sRun (xAsB rfl) (sNil (wSeq (wReg (sRun (xFld0 Try.underlying60 rfl rfl ti3 (by decide) rfl) (sRun (xLoad Try.underlying3 rfl rfl ((hL.bk 0 rfl).cell (i := 0) rfl)) (sTo (aMap (κ := Int) (ν := Int) ekI evI Try.underlying79) ?_))))))
  rintro _ w3 ⟨b3, rfl, hge3, hB3, he3⟩
  replace hL := hL.mk (κ := Int) (ν := Int) ekI evI hge3 he3 hB3
  refine sRun (bd74_15 rfl rfl) (sTo (aNew (mAlloc ti199)) ?_)
  rintro _ w4 ⟨b4, rfl, hge4, hB4, he4⟩
  replace hL := hL.new hge4 hB4 he4
  refine sStS ti199 rfl rfl rfl (by simp [Value.oneCell']) (hL.bk 0 rfl) rfl ?_
  intro w5 hB5 hC5
  replace hL : Bx w0 w5 [.box b4 199 #[.int .i64 a1.Params, .map (some b3)], .map ekI evI b3 ([] : List (Int × Int)), .box b2 60 (GBlock.cells a1).toArray, .box b1 26 (GCode.cells a0).toArray] := hL.wr 0 rfl hC5 hB5
  refine sNil (wSeq (wSeq (wReg (sRun (xFld (k := 1) Try.underlying60 rfl rfl ti53 (by decide) rfl) (sRun (xLoad Try.underlying53 rfl rfl ((hL.bk 2 rfl).cell (i := 1) rfl)) ?_)))))
  have hl6 : a1.Ops.l.length * 88 ≤ 140737488355328 := Lst.bd h1.1
  refine sRun (xLnL (s := a1.Ops) Try.underlying53 rfl) (sRun (xMvI rfl) (sNil ?_))
  obtain ⟨Y7, hY7⟩ : ∃ Y, m_ir_rightBlock_L0 (GCode.er a0) (GBlock.er a1) a1.Ops.l 0 ([] : List (Int × Int)) = Y := ⟨_, rfl⟩
  rw [hY7] at hM
  refine wJ (fun f w => ∃ (s7_0 : List (Int × Int)), Has f [(2, .pointer (some ⟨b1, 0, none⟩)), (3, .pointer (some ⟨b2, 0, none⟩)), (5, .pointer (some ⟨b4, 0, none⟩)), (17, .slice a1.Ops.a a1.Ops.l.length a1.Ops.c), (18, .int .i64 ((a1.Ops.l.length : Nat) : Int))] ∧ Bx w0 w [.box b4 199 #[.int .i64 a1.Params, .map (some b3)], .map ekI evI b3 s7_0, .box b2 60 (GBlock.cells a1).toArray, .box b1 26 (GCode.cells a0).toArray] ∧ Lp.go s7_0 = Y7) ?_ ?_
  ·refine wBlock (wLoopG (fun n f w => ∃ (k7 : Nat) (s7_0 : List (Int × Int)), n = a1.Ops.l.length - k7 ∧ k7 ≤ a1.Ops.l.length ∧ Has f [(19, .int .i64 ((k7 : Nat) : Int)), (2, .pointer (some ⟨b1, 0, none⟩)), (3, .pointer (some ⟨b2, 0, none⟩)), (5, .pointer (some ⟨b4, 0, none⟩)), (17, .slice a1.Ops.a a1.Ops.l.length a1.Ops.c), (18, .int .i64 ((a1.Ops.l.length : Nat) : Int))] ∧ Bx w0 w [.box b4 199 #[.int .i64 a1.Params, .map (some b3)], .map ekI evI b3 s7_0, .box b2 60 (GBlock.cells a1).toArray, .box b1 26 (GCode.cells a0).toArray] ∧ m_ir_rightBlock_L0 (GCode.er a0) (GBlock.er a1) (a1.Ops.l.drop k7) k7 s7_0 = Y7) (a1.Ops.l.length) ⟨0, ([] : List (Int × Int)), rfl, Nat.zero_le _, ⟨rfl, rfl, rfl, rfl, rfl, rfl, trivial⟩, hL, hY7⟩ ?_)
   clear hL hY7
   rintro n f w ⟨k7, s7_0, rfl, hk7, hf, hL, hY7⟩
   obtain ⟨g, rfl⟩ := has_updL _ _ hf
   clear hf
   rcases Nat.lt_or_ge k7 a1.Ops.l.length with hk7b | hk7b
   ·obtain ⟨x7, hx7⟩ := get_ex (l := a1.Ops.l) hk7b
    rw [drop_id hx7, m_ir_rightBlock_L0] at hY7
    try simp only [er1, er2, er3, er4, er5, er6, er7, er8, er9, er10, er11, er12, er13, er14, er15, er16, er17, List.length_map] at hY7
    refine wSeq (wReg (sRun (xLssT rfl rfl (by omega)) (sNil (wSeq (wIfT rfl (wSkip (wSeq (wBlock (wSeq (wReg (sRun (xMvI rfl) (sRun (xIdL Try.underlying53 ti66 rfl rfl rfl h1.1 hx7) (sRun (xLoadS (GOp.cells x7) Try.underlying66 rfl ti66 rfl rfl ((Lst.el h1.1 hx7).ext hL.1)) ?_)))))))))))))
    refine sTo (aNew (mAlloc ti66)) ?_
    rintro _ w9 ⟨b9, rfl, hge9, hB9, he9⟩
    replace hL := hL.new hge9 hB9 he9
    refine sRun (xAsI rfl) (sStS ti66 rfl rfl rfl (by simp [Value.oneCell', Dat.cells, GOp.cells]) (hL.bk 0 rfl) rfl ?_)
    intro w10 hB10 hC10
    replace hL : Bx w0 w10 [.box b9 66 (GOp.cells x7).toArray, .box b4 199 #[.int .i64 a1.Params, .map (some b3)], .map ekI evI b3 s7_0, .box b2 60 (GBlock.cells a1).toArray, .box b1 26 (GCode.cells a0).toArray] := hL.wr 0 rfl hC10 hB10
    refine sNil (wSeq (wSeq (wReg (sRun (xFld0 Try.underlying66 rfl rfl ti3 (by decide) rfl) (sRun (xLoad Try.underlying3 rfl rfl ((hL.bk 0 rfl).cell (i := 0) rfl)) (sCall (eCall cal120 rfl) (sp_m_ir_fields _ x7.Kind) ?_))))))
    rintro _ w11 ⟨rfl, he11⟩
    replace hL := hL.ext he11
    refine sRun (xAndW rfl rfl) (sRun (xEqlD rfl rfl) (sNil ?_))
    by_cases h12 : (bwAnd (m_ir_fields x7.Kind) (1 : Int)) = (0 : Int)
    ·try rw [decide_eq_true h12]
     rw [if_pos h12] at hY7
     refine wIfT rfl (wExit (wReg (sRun (xAdd64 rfl rfl (by omega) (by omega)) (sRun (xMvI rfl) (sNil ?_)))))
     exact ⟨a1.Ops.l.length - (k7 + 1), by omega, k7 + 1, s7_0, rfl, by omega, ⟨rfl, rfl, rfl, rfl, rfl, rfl, trivial⟩, hL.tl, hY7⟩
    ·try rw [decide_eq_false h12]
     rw [if_neg h12] at hY7
     refine wIfF rfl (wSkip (wSeq (wSeq (wReg (sRun (xFld (k := 1) Try.underlying199 rfl rfl ti79 (by decide) rfl) (sRun (xLoad Try.underlying79 rfl rfl ((hL.bk 1 rfl).cell (i := 1) rfl)) (sRun (xFld (k := 1) Try.underlying66 rfl rfl ti3 (by decide) rfl) (sRun (xLoad Try.underlying3 rfl rfl ((hL.bk 0 rfl).cell (i := 1) rfl)) (sRun (xLook (ek := ekI) (ev := evI) (l := s7_0) (k := x7.Dst) (z := (0 : Int)) Try.underlying79 (fk_int Try.underlying3) (zv_of ti3) (hL.mp 2 rfl) rfl rfl) (sRun xMove (sRun (xExtract rfl rfl) (sRun (xExtract rfl rfl) (sRun (xAsI rfl) ?_)))))))))))))
     refine sRun (xAsB rfl) (sNil (wSeq ?_))
     obtain ⟨E13, hE13⟩ : ∃ E, (((mget s7_0 x7.Dst).isSome || (decide (x7.Dst < a1.Params))) || (decide ((9999 : Int) < x7.Dst))) = E := ⟨_, rfl⟩
     refine wJ (fun f w => Has f [(2, .pointer (some ⟨b1, 0, none⟩)), (3, .pointer (some ⟨b2, 0, none⟩)), (5, .pointer (some ⟨b4, 0, none⟩)), (6, .int .i64 ((k7 : Nat) : Int)), (7, .pointer (some ⟨b9, 0, none⟩)), (17, .slice a1.Ops.a a1.Ops.l.length a1.Ops.c), (18, .int .i64 ((a1.Ops.l.length : Nat) : Int)), (19, .int .i64 ((k7 : Nat) : Int)), (49, .bool E13)] ∧ Bx w0 w [.box b9 66 (GOp.cells x7).toArray, .box b4 199 #[.int .i64 a1.Params, .map (some b3)], .map ekI evI b3 s7_0, .box b2 60 (GBlock.cells a1).toArray, .box b1 26 (GCode.cells a0).toArray]) ?_ ?_
     ·refine wReg (sRun (xMvB rfl) (sRun (xMvB rfl) ?_))
      by_cases h14 : ((mget s7_0 x7.Dst).isSome) = true
      ·try rw [h14]
       refine sNo rfl (sNo rfl (sNo rfl (sNo rfl (sNo rfl (sRun (xPkTB rfl rfl) (sRun (xMvB rfl) (sNo rfl (sNo rfl (sNo rfl (sRun (xPkTB rfl rfl) (sNil ?_)))))))))))
       exact ⟨⟨rfl, rfl, rfl, rfl, rfl, rfl, rfl, rfl, (congrArg Value.bool (by rw [← hE13]; first | (simp [h14]; done) | (simp only [h14]; done) | grind)), trivial⟩, hL⟩
      ·have h14n : ((mget s7_0 x7.Dst).isSome) = false := Bool.eq_false_iff.2 h14
       try rw [h14n]
       refine sGo rfl (sRun (xFld (k := 1) Try.underlying66 rfl rfl ti3 (by decide) rfl) (sGo rfl (sRun (xLoad Try.underlying3 rfl rfl ((hL.bk 0 rfl).cell (i := 1) rfl)) (sGo rfl (sRun (xFld0 Try.underlying60 rfl rfl ti3 (by decide) rfl) (sGo rfl (sRun (xLoad Try.underlying3 rfl rfl ((hL.bk 3 rfl).cell (i := 0) rfl)) (sGo rfl (sRun (xLss rfl rfl) (sRun (xPkFB rfl rfl) (sRun (xMvB rfl) ?_)))))))))))
       by_cases h15 : x7.Dst < a1.Params
       ·try rw [decide_eq_true h15]
        refine sNo rfl (sNo rfl (sNo rfl (sRun (xPkTB rfl rfl) (sNil ?_))))
        exact ⟨⟨rfl, rfl, rfl, rfl, rfl, rfl, rfl, rfl, (congrArg Value.bool (by rw [← hE13]; first | (simp [h14n, h15]; done) | (simp only [h14n, decide_eq_true h15]; done) | grind)), trivial⟩, hL⟩
       ·try rw [decide_eq_false h15]
        refine sGo rfl (sRun (xFld (k := 1) Try.underlying66 rfl rfl ti3 (by decide) rfl) (sGo rfl (sRun (xLoad Try.underlying3 rfl rfl ((hL.bk 0 rfl).cell (i := 1) rfl)) (sGo rfl (sRun (xGtr rfl rfl) (sRun (xPkFB rfl rfl) (sNil ?_)))))))
        exact ⟨⟨rfl, rfl, rfl, rfl, rfl, rfl, rfl, rfl, (congrArg Value.bool (by rw [← hE13]; first | (simp [h14n, h15]; done) | (simp only [h14n, decide_eq_false h15]; done) | grind)), trivial⟩, hL⟩
     ·clear hL
      subst hE13
      rintro f w ⟨hf, hL⟩
      obtain ⟨g, rfl⟩ := has_updL _ _ hf
      clear hf
      by_cases h16 : (((mget s7_0 x7.Dst).isSome || (decide (x7.Dst < a1.Params))) || (decide ((9999 : Int) < x7.Dst))) = true
      ·try rw [h16]
       rw [if_pos h16] at hY7
       refine wIfT rfl (wSeq (wReg (sRun (xAsB rfl) (sNil (wRet ?_)))))
       subst hY7
       rw [Lp.el_out] at hM
       try dsimp only at hM
       subst hM
       refine res1 (P := Try.prog) (fn := Try.f74) rfl ?_
       exact ⟨rfl, hL.1⟩
      ·have h16n : (((mget s7_0 x7.Dst).isSome || (decide (x7.Dst < a1.Params))) || (decide ((9999 : Int) < x7.Dst))) = false := Bool.eq_false_iff.2 h16
       try rw [h16n]
       rw [if_neg h16] at hY7
       have h17 : ¬ (x7.Dst < a1.Params) := fun hq => by rw [decide_eq_true hq] at h16; simp at h16
       have h18 : ¬ ((9999 : Int) < x7.Dst) := fun hq => by rw [decide_eq_true hq] at h16; simp at h16
       refine wIfF rfl (wSkip (wReg (sRun (xFld (k := 1) Try.underlying199 rfl rfl ti79 (by decide) rfl) (sRun (xLoad Try.underlying79 rfl rfl ((hL.bk 1 rfl).cell (i := 1) rfl)) (sRun (xFld (k := 1) Try.underlying66 rfl rfl ti3 (by decide) rfl) (sRun (xLoad Try.underlying3 rfl rfl ((hL.bk 0 rfl).cell (i := 1) rfl)) (sRun (xMvI rfl) (sUpd (ek := ekI) (ev' := evI) (l := s7_0) (k := x7.Dst) (u := ((k7 : Nat) : Int)) Try.underlying79 (fk_int Try.underlying3) (hL.mp 2 rfl) rfl rfl rfl ?_))))))))
       intro w19 hB19 hC19
       replace hL : Bx w0 w19 [.box b9 66 (GOp.cells x7).toArray, .box b4 199 #[.int .i64 a1.Params, .map (some b3)], .map ekI evI b3 (mput s7_0 x7.Dst ((k7 : Nat) : Int)), .box b2 60 (GBlock.cells a1).toArray, .box b1 26 (GCode.cells a0).toArray] := hL.upd 2 rfl hC19 hB19
       refine sNil (wReg (sRun (xAdd64 rfl rfl (by omega) (by omega)) (sRun (xMvI rfl) (sNil ?_))))
       exact ⟨a1.Ops.l.length - (k7 + 1), by omega, k7 + 1, (mput s7_0 x7.Dst ((k7 : Nat) : Int)), rfl, by omega, ⟨rfl, rfl, rfl, rfl, rfl, rfl, trivial⟩, hL.tl, hY7⟩
   ·obtain rfl : k7 = a1.Ops.l.length := by omega
    rw [drop_end, m_ir_rightBlock_L0] at hY7
    refine wSeq (wReg (sRun (xLssF rfl rfl (by omega)) (sNil (wSeq (wIfF rfl (wExit ?_))))))
    exact ⟨s7_0, ⟨rfl, rfl, rfl, rfl, rfl, trivial⟩, hL, hY7⟩
  ·clear hL
   rintro f w ⟨s7_0, hf, hL, hZ7⟩
   obtain ⟨g, rfl⟩ := has_updL _ _ hf
   clear hf
   subst hZ7
   rw [Lp.el_go] at hM
   try dsimp only at hM
   refine wSeq (wSeq (wReg (sRun (xFld (k := 1) Try.underlying60 rfl rfl ti53 (by decide) rfl) (sRun (xLoad Try.underlying53 rfl rfl ((hL.bk 2 rfl).cell (i := 1) rfl)) (sRun (xLnL (s := a1.Ops) Try.underlying53 rfl) (sRun (xMvI rfl) (sNil ?_)))))))
   obtain ⟨Y20, hY20⟩ : ∃ Y, m_ir_rightBlock_L1 (GCode.er a0) (GBlock.er a1) s7_0 a1.Ops.l 0 = Y := ⟨_, rfl⟩
   rw [hY20] at hM
   refine wJ (fun f w => Has f [(2, .pointer (some ⟨b1, 0, none⟩)), (3, .pointer (some ⟨b2, 0, none⟩)), (5, .pointer (some ⟨b4, 0, none⟩)), (57, .slice a1.Ops.a a1.Ops.l.length a1.Ops.c), (58, .int .i64 ((a1.Ops.l.length : Nat) : Int))] ∧ Bx w0 w [.box b4 199 #[.int .i64 a1.Params, .map (some b3)], .map ekI evI b3 s7_0, .box b2 60 (GBlock.cells a1).toArray, .box b1 26 (GCode.cells a0).toArray] ∧ Lp.go () = Y20) ?_ ?_
   ·refine wBlock (wLoopG (fun n f w => ∃ (k20 : Nat), n = a1.Ops.l.length - k20 ∧ k20 ≤ a1.Ops.l.length ∧ Has f [(59, .int .i64 ((k20 : Nat) : Int)), (2, .pointer (some ⟨b1, 0, none⟩)), (3, .pointer (some ⟨b2, 0, none⟩)), (5, .pointer (some ⟨b4, 0, none⟩)), (57, .slice a1.Ops.a a1.Ops.l.length a1.Ops.c), (58, .int .i64 ((a1.Ops.l.length : Nat) : Int))] ∧ Bx w0 w [.box b4 199 #[.int .i64 a1.Params, .map (some b3)], .map ekI evI b3 s7_0, .box b2 60 (GBlock.cells a1).toArray, .box b1 26 (GCode.cells a0).toArray] ∧ m_ir_rightBlock_L1 (GCode.er a0) (GBlock.er a1) s7_0 (a1.Ops.l.drop k20) k20 = Y20) (a1.Ops.l.length) ⟨0, rfl, Nat.zero_le _, ⟨rfl, rfl, rfl, rfl, rfl, rfl, trivial⟩, hL, hY20⟩ ?_)
    clear hL hY20
    rintro n f w ⟨k20, rfl, hk20, hf, hL, hY20⟩
    obtain ⟨g, rfl⟩ := has_updL _ _ hf
    clear hf
    rcases Nat.lt_or_ge k20 a1.Ops.l.length with hk20b | hk20b
    ·obtain ⟨x20, hx20⟩ := get_ex (l := a1.Ops.l) hk20b
     rw [drop_id hx20, m_ir_rightBlock_L1] at hY20
     try simp only [er1, er2, er3, er4, er5, er6, er7, er8, er9, er10, er11, er12, er13, er14, er15, er16, er17, List.length_map] at hY20
     refine wSeq (wReg (sRun (xLssT rfl rfl (by omega)) (sNil (wSeq (wIfT rfl (wSkip (wSeq (wBlock (wSeq (wReg (sRun (xMvI rfl) (sRun (xIdL Try.underlying53 ti66 rfl rfl rfl h1.1 hx20) (sRun (xLoadS (GOp.cells x20) Try.underlying66 rfl ti66 rfl rfl ((Lst.el h1.1 hx20).ext hL.1)) ?_)))))))))))))
     refine sTo (aNew (mAlloc ti66)) ?_
     rintro _ w21 ⟨b21, rfl, hge21, hB21, he21⟩
     replace hL := hL.new hge21 hB21 he21
     refine sRun (xAsI rfl) (sStS ti66 rfl rfl rfl (by simp [Value.oneCell', Dat.cells, GOp.cells]) (hL.bk 0 rfl) rfl ?_)
     intro w22 hB22 hC22
     replace hL : Bx w0 w22 [.box b21 66 (GOp.cells x20).toArray, .box b4 199 #[.int .i64 a1.Params, .map (some b3)], .map ekI evI b3 s7_0, .box b2 60 (GBlock.cells a1).toArray, .box b1 26 (GCode.cells a0).toArray] := hL.wr 0 rfl hC22 hB22
     refine sNil (wSeq ?_)
     obtain ⟨E23, hE23⟩ : ∃ E, (((!(m_ir_clean x20)) || (!(m_ir_rightOp (GCode.er a0) a1.Params s7_0 x20 ((k20 : Nat) : Int)))) || ((decide (x20.Kind = (21 : Int))) && (!(m_ir_rightBind (GCode.er a0) a1.Params s7_0 x20 ((a1.Ops.l.length : Nat) : Int))))) = E := ⟨_, rfl⟩
     refine wJ (fun f w => Has f [(2, .pointer (some ⟨b1, 0, none⟩)), (3, .pointer (some ⟨b2, 0, none⟩)), (5, .pointer (some ⟨b4, 0, none⟩)), (57, .slice a1.Ops.a a1.Ops.l.length a1.Ops.c), (58, .int .i64 ((a1.Ops.l.length : Nat) : Int)), (59, .int .i64 ((k20 : Nat) : Int)), (89, .bool E23)] ∧ Bx w0 w [.box b21 66 (GOp.cells x20).toArray, .box b4 199 #[.int .i64 a1.Params, .map (some b3)], .map ekI evI b3 s7_0, .box b2 60 (GBlock.cells a1).toArray, .box b1 26 (GCode.cells a0).toArray]) ?_ ?_
     ·refine wReg (sRun (xLoadS (GOp.cells x20) Try.underlying66 rfl ti66 rfl rfl ((hL.bk 0 rfl).part rfl)) (sCall (eCall cal121 rfl) (sp_m_ir_clean _ x20) ?_))
      rintro _ w24 ⟨rfl, he24⟩
      replace hL := hL.ext he24
      by_cases h25 : (m_ir_clean x20) = true
      ·try rw [h25]
       refine sRun (xNot rfl) (sRun (xMvB rfl) (sGo rfl (sRun (xLoadS (GCode.cells a0) Try.underlying26 rfl ti26 rfl rfl ((hL.bk 4 rfl).part rfl)) (sGo rfl (sRun (xLoadS [.int .i64 a1.Params, .map (some b3)] Try.underlying199 rfl ti199 rfl rfl ((hL.bk 1 rfl).part rfl)) (sGo rfl (sRun (xLoadS (GOp.cells x20) Try.underlying66 rfl ti66 rfl rfl ((hL.bk 0 rfl).part rfl)) (sGo rfl (sRun (xMvI rfl) (sGo rfl (sCall (eCall cal122 rfl) (sp_m_ir_rightOp _ a0 (Dat.all (Dat.ext (x := a0) h0 hL.1)) a1.Params b3 s7_0 (hL.mp 2 rfl) x20 ((k20 : Nat) : Int)) ?_)))))))))))
       rintro _ w26 ⟨rfl, he26⟩
       replace hL := hL.ext he26
       by_cases h27 : (m_ir_rightOp (GCode.er a0) a1.Params s7_0 x20 ((k20 : Nat) : Int)) = true
       ·try rw [h27]
        refine sGo rfl (sRun (xNot rfl) (sRun (xPkFB rfl rfl) (sRun (xMvB rfl) (sGo rfl (sRun (xFld0 Try.underlying66 rfl rfl ti3 (by decide) rfl) (sGo rfl (sRun (xLoad Try.underlying3 rfl rfl ((hL.bk 0 rfl).cell (i := 0) rfl)) (sGo rfl (sRun (xEqlD rfl rfl) (sGo rfl (sRun (xMvB rfl) ?_)))))))))))
        by_cases h28 : x20.Kind = (21 : Int)
        ·try rw [decide_eq_true h28]
         refine sGo rfl (sRun (xLoadS (GCode.cells a0) Try.underlying26 rfl ti26 rfl rfl ((hL.bk 4 rfl).part rfl)) (sGo rfl (sRun (xLoadS [.int .i64 a1.Params, .map (some b3)] Try.underlying199 rfl ti199 rfl rfl ((hL.bk 1 rfl).part rfl)) (sGo rfl (sRun (xLoadS (GOp.cells x20) Try.underlying66 rfl ti66 rfl rfl ((hL.bk 0 rfl).part rfl)) (sGo rfl (sRun (xFld (k := 1) Try.underlying60 rfl rfl ti53 (by decide) rfl) (sGo rfl (sRun (xLoad Try.underlying53 rfl rfl ((hL.bk 3 rfl).cell (i := 1) rfl)) (sGo rfl (sRun (xLnL (s := a1.Ops) Try.underlying53 rfl) (sGo rfl (sCall (eCall cal123 rfl) (sp_m_ir_rightBind _ a0 (Dat.all (Dat.ext (x := a0) h0 hL.1)) a1.Params b3 s7_0 (hL.mp 2 rfl) x20 ((a1.Ops.l.length : Nat) : Int)) ?_)))))))))))))
         rintro _ w29 ⟨rfl, he29⟩
         replace hL := hL.ext he29
         by_cases h30 : (m_ir_rightBind (GCode.er a0) a1.Params s7_0 x20 ((a1.Ops.l.length : Nat) : Int)) = true
         ·try rw [h30]
          refine sGo rfl (sRun (xNot rfl) (sGo rfl (sRun (xPkTB rfl rfl) (sRun (xPkFB rfl rfl) (sNil ?_)))))
          exact ⟨⟨rfl, rfl, rfl, rfl, rfl, rfl, (congrArg Value.bool (by rw [← hE23]; first | (simp [h25, h27, h28, h30]; done) | (simp only [h25, h27, decide_eq_true h28, h30]; done) | grind)), trivial⟩, hL⟩
         ·have h30n : (m_ir_rightBind (GCode.er a0) a1.Params s7_0 x20 ((a1.Ops.l.length : Nat) : Int)) = false := Bool.eq_false_iff.2 h30
          try rw [h30n]
          refine sGo rfl (sRun (xNot rfl) (sGo rfl (sRun (xPkTB rfl rfl) (sRun (xPkFB rfl rfl) (sNil ?_)))))
          exact ⟨⟨rfl, rfl, rfl, rfl, rfl, rfl, (congrArg Value.bool (by rw [← hE23]; first | (simp [h25, h27, h28, h30n]; done) | (simp only [h25, h27, decide_eq_true h28, h30n]; done) | grind)), trivial⟩, hL⟩
        ·try rw [decide_eq_false h28]
         refine sNo rfl (sNo rfl (sNo rfl (sNo rfl (sNo rfl (sNo rfl (sNo rfl (sNo rfl (sGo rfl (sRun (xPkFB rfl rfl) (sRun (xPkFB rfl rfl) (sNil ?_)))))))))))
         exact ⟨⟨rfl, rfl, rfl, rfl, rfl, rfl, (congrArg Value.bool (by rw [← hE23]; first | (simp [h25, h27, h28]; done) | (simp only [h25, h27, decide_eq_false h28]; done) | grind)), trivial⟩, hL⟩
       ·have h27n : (m_ir_rightOp (GCode.er a0) a1.Params s7_0 x20 ((k20 : Nat) : Int)) = false := Bool.eq_false_iff.2 h27
        try rw [h27n]
        refine sGo rfl (sRun (xNot rfl) (sRun (xPkFB rfl rfl) (sRun (xMvB rfl) (sNo rfl (sNo rfl (sNo rfl (sNo rfl (sNo rfl (sNo rfl (sNo rfl (sNo rfl (sNo rfl (sNo rfl ?_)))))))))))))
        refine sNo rfl (sNo rfl (sNo rfl (sRun (xPkTB rfl rfl) (sNil ?_))))
        exact ⟨⟨rfl, rfl, rfl, rfl, rfl, rfl, (congrArg Value.bool (by rw [← hE23]; first | (simp [h25, h27n]; done) | (simp only [h25, h27n]; done) | grind)), trivial⟩, hL⟩
      ·have h25n : (m_ir_clean x20) = false := Bool.eq_false_iff.2 h25
       try rw [h25n]
       refine sRun (xNot rfl) (sRun (xMvB rfl) (sNo rfl (sNo rfl (sNo rfl (sNo rfl (sNo rfl (sNo rfl (sRun (xPkTB rfl rfl) (sRun (xMvB rfl) (sNo rfl (sNo rfl (sNo rfl (sNo rfl ?_)))))))))))))
       refine sNo rfl (sNo rfl (sNo rfl (sNo rfl (sNo rfl (sNo rfl (sNo rfl (sNo rfl (sNo rfl (sRun (xPkTB rfl rfl) (sNil ?_))))))))))
       exact ⟨⟨rfl, rfl, rfl, rfl, rfl, rfl, (congrArg Value.bool (by rw [← hE23]; first | (simp [h25n]; done) | (simp only [h25n]; done) | grind)), trivial⟩, hL⟩
     ·clear hL
      subst hE23
      rintro f w ⟨hf, hL⟩
      obtain ⟨g, rfl⟩ := has_updL _ _ hf
      clear hf
      by_cases h31 : (((!(m_ir_clean x20)) || (!(m_ir_rightOp (GCode.er a0) a1.Params s7_0 x20 ((k20 : Nat) : Int)))) || ((decide (x20.Kind = (21 : Int))) && (!(m_ir_rightBind (GCode.er a0) a1.Params s7_0 x20 ((a1.Ops.l.length : Nat) : Int))))) = true
      ·try rw [h31]
       rw [if_pos h31] at hY20
       refine wIfT rfl (wSeq (wReg (sRun (xAsB rfl) (sNil (wRet ?_)))))
       subst hY20
       rw [Lp.el_out] at hM
       try dsimp only at hM
       subst hM
       refine res1 (P := Try.prog) (fn := Try.f74) rfl ?_
       exact ⟨rfl, hL.1⟩
      ·have h31n : (((!(m_ir_clean x20)) || (!(m_ir_rightOp (GCode.er a0) a1.Params s7_0 x20 ((k20 : Nat) : Int)))) || ((decide (x20.Kind = (21 : Int))) && (!(m_ir_rightBind (GCode.er a0) a1.Params s7_0 x20 ((a1.Ops.l.length : Nat) : Int))))) = false := Bool.eq_false_iff.2 h31
       try rw [h31n]
       rw [if_neg h31] at hY20
       refine wIfF rfl (wSkip (wReg (sRun (xAdd64 rfl rfl (by omega) (by omega)) (sRun (xMvI rfl) (sNil ?_)))))
       exact ⟨a1.Ops.l.length - (k20 + 1), by omega, k20 + 1, rfl, by omega, ⟨rfl, rfl, rfl, rfl, rfl, rfl, trivial⟩, hL.tl, hY20⟩
    ·obtain rfl : k20 = a1.Ops.l.length := by omega
     rw [drop_end, m_ir_rightBlock_L1] at hY20
     refine wSeq (wReg (sRun (xLssF rfl rfl (by omega)) (sNil (wSeq (wIfF rfl (wExit ?_))))))
     exact ⟨⟨rfl, rfl, rfl, rfl, rfl, trivial⟩, hL, hY20⟩
   ·clear hL
    rintro f w ⟨hf, hL, hZ20⟩
    obtain ⟨g, rfl⟩ := has_updL _ _ hf
    clear hf
    subst hZ20
    rw [Lp.el_go] at hM
    try dsimp only at hM
    refine wSeq (wReg (sRun (xLoadS (GCode.cells a0) Try.underlying26 rfl ti26 rfl rfl ((hL.bk 3 rfl).part rfl)) (sRun (xLoadS [.int .i64 a1.Params, .map (some b3)] Try.underlying199 rfl ti199 rfl rfl ((hL.bk 0 rfl).part rfl)) (sRun (xFld (k := 2) Try.underlying60 rfl rfl ti58 (by decide) rfl) (sRun (xLoadS (GTerm.cells a1.Term) Try.underlying58 rfl ti58 rfl rfl ((hL.bk 2 rfl).part rfl)) (sRun (xFld (k := 1) Try.underlying60 rfl rfl ti53 (by decide) rfl) (sRun (xLoad Try.underlying53 rfl rfl ((hL.bk 2 rfl).cell (i := 1) rfl)) (sRun (xLnL (s := a1.Ops) Try.underlying53 rfl) (sCall (eCall cal124 rfl) (sp_m_ir_rightTerm _ a0 (Dat.all (Dat.ext (x := a0) h0 hL.1)) a1.Params b3 s7_0 (hL.mp 1 rfl) a1.Term (Dat.all (Dat.ext (x := a1.Term) h1.2 hL.1)) ((a1.Ops.l.length : Nat) : Int)) ?_)))))))))
    rintro _ w32 ⟨rfl, he32⟩
    replace hL := hL.ext he32
    refine sRun (xAsB rfl) (sNil (wRet ?_))
    subst hM
    refine res1 (P := Try.prog) (fn := Try.f74) rfl ?_
    exact ⟨rfl, hL.1⟩

def m_ir_CheckCode_L2 (a0 : (GCode List)) (u3 : Int) : List (GBlock List) → Nat → Lp (Unit) (Int)
  | [], _ => .go ()
  | x31 :: r31, k31 =>
  if (m_ir_rightBlock a0 x31) = true then
   m_ir_CheckCode_L2 a0 u3 r31 (k31 + 1)
  else
   .out ((4 : Int))
def m_ir_CheckCode_L1 (a0 : (GCode List)) (u3 : Int) : List (GBlock List) → Nat → Lp (Unit) (Int)
  | [], _ => .go ()
  | x26 :: r26, k26 =>
  if (m_ir_within x26.Params (999 : Int)) = true then
   m_ir_CheckCode_L1 a0 u3 r26 (k26 + 1)
  else
   .out ((4 : Int))
def m_ir_CheckCode_L0 (a0 : (GCode List)) : List (GBlock List) → Nat → Int → Lp (Int) (Int)
  | [], _, s3_0 => .go s3_0
  | x3 :: r3, k3, s3_0 =>
  m_ir_CheckCode_L0 a0 r3 (k3 + 1) (wr (s3_0 + ((x3.Ops.length : Nat) : Int)))
def m_ir_CheckCode (a0 : (GCode List)) : Int :=
 (m_ir_CheckCode_L0 a0 a0.Blocks 0 (0 : Int)).el (fun u3 =>
  if ((((decide ((400 : Int) < ((a0.Blocks.length : Nat) : Int))) || (decide ((6000 : Int) < u3))) || (decide ((64 : Int) < ((a0.Contexts.length : Nat) : Int)))) || (decide ((64 : Int) < ((a0.Objects.length : Nat) : Int)))) = true then
   (5 : Int)
  else
   if (((!(m_ir_rightHead a0)) || (!(m_ir_rightContexts a0.Contexts))) || (!(m_ir_rightObjects a0))) = true then
    (4 : Int)
   else
    (m_ir_CheckCode_L1 a0 u3 a0.Blocks 0).el (fun _ =>
     (m_ir_CheckCode_L2 a0 u3 a0.Blocks 0).el (fun _ =>
      (0 : Int)
       ) (fun o => o)
      ) (fun o => o)
   ) (fun o => o)
set_option maxHeartbeats 12800000 in
theorem sp_m_ir_CheckCode (w0 : World) (a0 : (GCode Lst)) (h0 : Dat.ok (fun _ => True) w0 a0) : Calls Try.prog 30 #[.agg (GCode.cells a0).toArray] w0 (Ret fun v w => v = .int .i64 (m_ir_CheckCode (GCode.er a0)) ∧ Ext w0 w) := by
  obtain ⟨X, hM⟩ : ∃ X, m_ir_CheckCode (GCode.er a0) = X := ⟨_, rfl⟩
  rw [hM]
  unfold m_ir_CheckCode at hM
  try simp only [er1, er2, er3, er4, er5, er6, er7, er8, er9, er10, er11, er12, er13, er14, er15, er16, er17, List.length_map] at hM
  have hL : Bx w0 w0 [] := Bx.nil
  refine calls_of Try.func30 rfl (Nat.le_of_ble_eq_true rfl) (by kernel_rfl) ?_
  refine wCut [(0, .agg (GCode.cells a0).toArray)] ⟨rfl, trivial⟩ fun g => ?_
  refine wSeq (wReg (sTo (aNew (mBox rfl)) ?_))
  rintro _ w1 ⟨b1, rfl, hge1, hB1, he1⟩
  replace hL := hL.new hge1 hB1 he1
  refine sRun (xAsI rfl) (sNil (wSeq (wReg (sRun (xAsI rfl) (sNil (wSeq (wSeq (wReg (sRun (xFld (k := 1) Try.underlying26 rfl rfl ti22 (by decide) rfl) (sRun (xLoad Try.underlying22 rfl rfl ((hL.bk 0 rfl).cell (i := 1) rfl)) ?_))))))))))
  have hl2 : a0.Blocks.l.length * 144 ≤ 140737488355328 := Lst.bd h0.1
  refine sRun (xLnL (s := a0.Blocks) Try.underlying22 rfl) (sRun (xMvI rfl) (sNil ?_))
  obtain ⟨Y3, hY3⟩ : ∃ Y, m_ir_CheckCode_L0 (GCode.er a0) (a0.Blocks.l.map GBlock.er) 0 (0 : Int) = Y := ⟨_, rfl⟩
  rw [hY3] at hM
  refine wJ (fun f w => ∃ (s3_0 : Int), Has f [(1, .pointer (some ⟨b1, 0, none⟩)), (3, .int .i64 s3_0), (11, .slice a0.Blocks.a a0.Blocks.l.length a0.Blocks.c), (12, .int .i64 ((a0.Blocks.l.length : Nat) : Int))] ∧ Bx w0 w [.box b1 26 (GCode.cells a0).toArray] ∧ Lp.go s3_0 = Y3) ?_ ?_
  ·refine wBlock (wLoopG (fun n f w => ∃ (k3 : Nat) (s3_0 : Int), n = a0.Blocks.l.length - k3 ∧ k3 ≤ a0.Blocks.l.length ∧ Has f [(13, .int .i64 ((k3 : Nat) : Int)), (1, .pointer (some ⟨b1, 0, none⟩)), (3, .int .i64 s3_0), (11, .slice a0.Blocks.a a0.Blocks.l.length a0.Blocks.c), (12, .int .i64 ((a0.Blocks.l.length : Nat) : Int))] ∧ Bx w0 w [.box b1 26 (GCode.cells a0).toArray] ∧ m_ir_CheckCode_L0 (GCode.er a0) ((a0.Blocks.l.map GBlock.er).drop k3) k3 s3_0 = Y3) (a0.Blocks.l.length) ⟨0, (0 : Int), rfl, Nat.zero_le _, ⟨rfl, rfl, rfl, rfl, rfl, trivial⟩, hL, hY3⟩ ?_)
   clear hL hY3
   rintro n f w ⟨k3, s3_0, rfl, hk3, hf, hL, hY3⟩
   obtain ⟨g, rfl⟩ := has_updL _ _ hf
   clear hf
   rcases Nat.lt_or_ge k3 a0.Blocks.l.length with hk3b | hk3b
   ·obtain ⟨x3, hx3⟩ := get_ex (l := a0.Blocks.l) hk3b
    rw [drop_map hx3, m_ir_CheckCode_L0] at hY3
    try simp only [er1, er2, er3, er4, er5, er6, er7, er8, er9, er10, er11, er12, er13, er14, er15, er16, er17, List.length_map] at hY3
    refine wSeq (wReg (sRun (xLssT rfl rfl (by omega)) (sNil (wSeq (wIfT rfl (wSkip (wSeq (wBlock (wSeq (wReg (sRun (xIdL Try.underlying22 ti60 rfl rfl rfl h0.1 hx3) (sRun (xLoadS (GBlock.cells x3) Try.underlying60 rfl ti60 rfl rfl ((Lst.el h0.1 hx3).ext hL.1)) (sTo (aNew (mAlloc ti60)) ?_)))))))))))))
    rintro _ w4 ⟨b4, rfl, hge4, hB4, he4⟩
    replace hL := hL.new hge4 hB4 he4
    refine sStS ti60 rfl rfl rfl (by simp [Value.oneCell', Dat.cells, GBlock.cells]) (hL.bk 0 rfl) rfl ?_
    intro w5 hB5 hC5
    replace hL : Bx w0 w5 [.box b4 60 (GBlock.cells x3).toArray, .box b1 26 (GCode.cells a0).toArray] := hL.wr 0 rfl hC5 hB5
    refine sNil (wReg (sRun (xMvI rfl) (sRun (xFld (k := 1) Try.underlying60 rfl rfl ti53 (by decide) rfl) (sRun (xLoad Try.underlying53 rfl rfl ((hL.bk 0 rfl).cell (i := 1) rfl)) ?_))))
    have hl6 : x3.Ops.l.length * 88 ≤ 140737488355328 := Lst.bd ((Lst.elok h0.1 hx3).1)
    refine sRun (xLnL (s := x3.Ops) Try.underlying53 rfl) (sRun (xAddW rfl rfl) (sRun (xAsI rfl) (sNil (wReg (sRun (xAdd64 rfl rfl (by omega) (by omega)) (sRun (xMvI rfl) (sNil ?_)))))))
    exact ⟨a0.Blocks.l.length - (k3 + 1), by omega, k3 + 1, (wr (s3_0 + ((x3.Ops.l.length : Nat) : Int))), rfl, by omega, ⟨rfl, rfl, rfl, rfl, rfl, trivial⟩, hL.tl, hY3⟩
   ·obtain rfl : k3 = a0.Blocks.l.length := by omega
    rw [drop_endm, m_ir_CheckCode_L0] at hY3
    refine wSeq (wReg (sRun (xLssF rfl rfl (by omega)) (sNil (wSeq (wIfF rfl (wExit ?_))))))
    exact ⟨s3_0, ⟨rfl, rfl, rfl, rfl, trivial⟩, hL, hY3⟩
  ·clear hL
   rintro f w ⟨s3_0, hf, hL, hZ3⟩
   obtain ⟨g, rfl⟩ := has_updL _ _ hf
   clear hf
   subst hZ3
   rw [Lp.el_go] at hM
   try dsimp only at hM
   refine wSeq (wSeq ?_)
   obtain ⟨E7, hE7⟩ : ∃ E, ((((decide ((400 : Int) < ((a0.Blocks.l.length : Nat) : Int))) || (decide ((6000 : Int) < s3_0))) || (decide ((64 : Int) < ((a0.Contexts.l.length : Nat) : Int)))) || (decide ((64 : Int) < ((a0.Objects.l.length : Nat) : Int)))) = E := ⟨_, rfl⟩
   refine wJ (fun f w => Has f [(1, .pointer (some ⟨b1, 0, none⟩)), (42, .bool E7)] ∧ Bx w0 w [.box b1 26 (GCode.cells a0).toArray]) ?_ ?_
   ·refine wReg (sRun (xFld (k := 1) Try.underlying26 rfl rfl ti22 (by decide) rfl) (sRun (xLoad Try.underlying22 rfl rfl ((hL.bk 0 rfl).cell (i := 1) rfl)) (sRun (xLnL (s := a0.Blocks) Try.underlying22 rfl) (sRun (xGtr rfl rfl) (sRun (xMvB rfl) ?_)))))
    by_cases h8 : (400 : Int) < ((a0.Blocks.l.length : Nat) : Int)
    ·try rw [decide_eq_true h8]
     refine sNo rfl (sNo rfl (sRun (xPkTB rfl rfl) (sRun (xMvB rfl) (sNo rfl (sNo rfl (sNo rfl (sNo rfl (sRun (xPkTB rfl rfl) (sRun (xMvB rfl) (sNo rfl (sNo rfl (sNo rfl (sNo rfl ?_)))))))))))))
     refine sRun (xPkTB rfl rfl) (sNil ?_)
     exact ⟨⟨rfl, (congrArg Value.bool (by rw [← hE7]; first | (simp [h8]; done) | (simp only [decide_eq_true h8]; done) | grind)), trivial⟩, hL⟩
    ·try rw [decide_eq_false h8]
     refine sGo rfl (sRun (xMvI rfl) (sGo rfl (sRun (xGtr rfl rfl) (sRun (xPkFB rfl rfl) (sRun (xMvB rfl) ?_)))))
     by_cases h9 : (6000 : Int) < s3_0
     ·try rw [decide_eq_true h9]
      refine sNo rfl (sNo rfl (sNo rfl (sNo rfl (sRun (xPkTB rfl rfl) (sRun (xMvB rfl) (sNo rfl (sNo rfl (sNo rfl (sNo rfl (sRun (xPkTB rfl rfl) (sNil ?_)))))))))))
      exact ⟨⟨rfl, (congrArg Value.bool (by rw [← hE7]; first | (simp [h8, h9]; done) | (simp only [decide_eq_false h8, decide_eq_true h9]; done) | grind)), trivial⟩, hL⟩
     ·try rw [decide_eq_false h9]
      refine sGo rfl (sRun (xFld (k := 2) Try.underlying26 rfl rfl ti23 (by decide) rfl) (sGo rfl (sRun (xLoad Try.underlying23 rfl rfl ((hL.bk 0 rfl).cell (i := 2) rfl)) (sGo rfl ?_))))
      have hl10 : a0.Contexts.l.length * 24 ≤ 140737488355328 := Lst.bd h0.2.1
      refine sRun (xLnL (s := a0.Contexts) Try.underlying23 rfl) (sGo rfl (sRun (xGtr rfl rfl) (sRun (xPkFB rfl rfl) (sRun (xMvB rfl) ?_))))
      by_cases h11 : (64 : Int) < ((a0.Contexts.l.length : Nat) : Int)
      ·try rw [decide_eq_true h11]
       refine sNo rfl (sNo rfl (sNo rfl (sNo rfl (sRun (xPkTB rfl rfl) (sNil ?_)))))
       exact ⟨⟨rfl, (congrArg Value.bool (by rw [← hE7]; first | (simp [h8, h9, h11]; done) | (simp only [decide_eq_false h8, decide_eq_false h9, decide_eq_true h11]; done) | grind)), trivial⟩, hL⟩
      ·try rw [decide_eq_false h11]
       refine sGo rfl (sRun (xFld (k := 3) Try.underlying26 rfl rfl ti24 (by decide) rfl) (sGo rfl (sRun (xLoad Try.underlying24 rfl rfl ((hL.bk 0 rfl).cell (i := 3) rfl)) (sGo rfl ?_))))
       have hl12 : a0.Objects.l.length * 24 ≤ 140737488355328 := Lst.bd h0.2.2
       refine sRun (xLnL (s := a0.Objects) Try.underlying24 rfl) (sGo rfl (sRun (xGtr rfl rfl) (sRun (xPkFB rfl rfl) (sNil ?_))))
       exact ⟨⟨rfl, (congrArg Value.bool (by rw [← hE7]; first | (simp [h8, h9, h11]; done) | (simp only [decide_eq_false h8, decide_eq_false h9, decide_eq_false h11]; done) | grind)), trivial⟩, hL⟩
   ·clear hL
    subst hE7
    rintro f w ⟨hf, hL⟩
    obtain ⟨g, rfl⟩ := has_updL _ _ hf
    clear hf
    by_cases h13 : ((((decide ((400 : Int) < ((a0.Blocks.l.length : Nat) : Int))) || (decide ((6000 : Int) < s3_0))) || (decide ((64 : Int) < ((a0.Contexts.l.length : Nat) : Int)))) || (decide ((64 : Int) < ((a0.Objects.l.length : Nat) : Int)))) = true
    ·try rw [h13]
     rw [if_pos h13] at hM
     refine wIfT rfl (wSeq (wReg (sRun (xAsI rfl) (sNil (wRet ?_)))))
     subst hM
     refine res1 (P := Try.prog) (fn := Try.f30) rfl ?_
     exact ⟨rfl, hL.1⟩
    ·have h13n : ((((decide ((400 : Int) < ((a0.Blocks.l.length : Nat) : Int))) || (decide ((6000 : Int) < s3_0))) || (decide ((64 : Int) < ((a0.Contexts.l.length : Nat) : Int)))) || (decide ((64 : Int) < ((a0.Objects.l.length : Nat) : Int)))) = false := Bool.eq_false_iff.2 h13
     try rw [h13n]
     rw [if_neg h13] at hM
     have h14 : ¬ ((400 : Int) < ((a0.Blocks.l.length : Nat) : Int)) := fun hq => by rw [decide_eq_true hq] at h13; simp at h13
     have h15 : ¬ ((6000 : Int) < s3_0) := fun hq => by rw [decide_eq_true hq] at h13; simp at h13
     have h16 : ¬ ((64 : Int) < ((a0.Contexts.l.length : Nat) : Int)) := fun hq => by rw [decide_eq_true hq] at h13; simp at h13
     have h17 : ¬ ((64 : Int) < ((a0.Objects.l.length : Nat) : Int)) := fun hq => by rw [decide_eq_true hq] at h13; simp at h13
     refine wIfF rfl (wSkip (wSeq (wSeq ?_)))
     obtain ⟨E18, hE18⟩ : ∃ E, (((!(m_ir_rightHead (GCode.er a0))) || (!(m_ir_rightContexts a0.Contexts.l))) || (!(m_ir_rightObjects (GCode.er a0)))) = E := ⟨_, rfl⟩
     refine wJ (fun f w => Has f [(1, .pointer (some ⟨b1, 0, none⟩)), (56, .bool E18)] ∧ Bx w0 w [.box b1 26 (GCode.cells a0).toArray]) ?_ ?_
     ·refine wReg (sRun (xLoadS (GCode.cells a0) Try.underlying26 rfl ti26 rfl rfl ((hL.bk 0 rfl).part rfl)) (sCall (eCall cal70 rfl) (sp_m_ir_rightHead _ a0 (Dat.all (Dat.ext (x := a0) h0 hL.1))) ?_))
      rintro _ w19 ⟨rfl, he19⟩
      replace hL := hL.ext he19
      by_cases h20 : (m_ir_rightHead (GCode.er a0)) = true
      ·try rw [h20]
       refine sRun (xNot rfl) (sRun (xMvB rfl) (sGo rfl (sRun (xFld (k := 2) Try.underlying26 rfl rfl ti23 (by decide) rfl) (sGo rfl (sRun (xLoad Try.underlying23 rfl rfl ((hL.bk 0 rfl).cell (i := 2) rfl)) (sGo rfl (sCall (eCall cal71 rfl) (sp_m_ir_rightContexts _ a0.Contexts (Dat.all (Dat.ext (x := a0.Contexts) h0.2.1 hL.1))) ?_)))))))
       rintro _ w21 ⟨rfl, he21⟩
       replace hL := hL.ext he21
       by_cases h22 : (m_ir_rightContexts a0.Contexts.l) = true
       ·try rw [h22]
        refine sGo rfl (sRun (xNot rfl) (sRun (xPkFB rfl rfl) (sRun (xMvB rfl) (sGo rfl (sRun (xLoadS (GCode.cells a0) Try.underlying26 rfl ti26 rfl rfl ((hL.bk 0 rfl).part rfl)) (sGo rfl (sCall (eCall cal72 rfl) (sp_m_ir_rightObjects _ a0 (Dat.all (Dat.ext (x := a0) h0 hL.1))) ?_)))))))
        rintro _ w23 ⟨rfl, he23⟩
        replace hL := hL.ext he23
        by_cases h24 : (m_ir_rightObjects (GCode.er a0)) = true
        ·try rw [h24]
         refine sGo rfl (sRun (xNot rfl) (sRun (xPkFB rfl rfl) (sNil ?_)))
         exact ⟨⟨rfl, (congrArg Value.bool (by rw [← hE18]; first | (simp [h20, h22, h24]; done) | (simp only [h20, h22, h24]; done) | grind)), trivial⟩, hL⟩
        ·have h24n : (m_ir_rightObjects (GCode.er a0)) = false := Bool.eq_false_iff.2 h24
         try rw [h24n]
         refine sGo rfl (sRun (xNot rfl) (sRun (xPkFB rfl rfl) (sNil ?_)))
         exact ⟨⟨rfl, (congrArg Value.bool (by rw [← hE18]; first | (simp [h20, h22, h24n]; done) | (simp only [h20, h22, h24n]; done) | grind)), trivial⟩, hL⟩
       ·have h22n : (m_ir_rightContexts a0.Contexts.l) = false := Bool.eq_false_iff.2 h22
        try rw [h22n]
        refine sGo rfl (sRun (xNot rfl) (sRun (xPkFB rfl rfl) (sRun (xMvB rfl) (sNo rfl (sNo rfl (sNo rfl (sRun (xPkTB rfl rfl) (sNil ?_))))))))
        exact ⟨⟨rfl, (congrArg Value.bool (by rw [← hE18]; first | (simp [h20, h22n]; done) | (simp only [h20, h22n]; done) | grind)), trivial⟩, hL⟩
      ·have h20n : (m_ir_rightHead (GCode.er a0)) = false := Bool.eq_false_iff.2 h20
       try rw [h20n]
       refine sRun (xNot rfl) (sRun (xMvB rfl) (sNo rfl (sNo rfl (sNo rfl (sNo rfl (sRun (xPkTB rfl rfl) (sRun (xMvB rfl) (sNo rfl (sNo rfl (sNo rfl (sRun (xPkTB rfl rfl) (sNil ?_))))))))))))
       exact ⟨⟨rfl, (congrArg Value.bool (by rw [← hE18]; first | (simp [h20n]; done) | (simp only [h20n]; done) | grind)), trivial⟩, hL⟩
     ·clear hL
      subst hE18
      rintro f w ⟨hf, hL⟩
      obtain ⟨g, rfl⟩ := has_updL _ _ hf
      clear hf
      by_cases h25 : (((!(m_ir_rightHead (GCode.er a0))) || (!(m_ir_rightContexts a0.Contexts.l))) || (!(m_ir_rightObjects (GCode.er a0)))) = true
      ·try rw [h25]
       rw [if_pos h25] at hM
       refine wIfT rfl (wSeq (wReg (sRun (xAsI rfl) (sNil (wRet ?_)))))
       subst hM
       refine res1 (P := Try.prog) (fn := Try.f30) rfl ?_
       exact ⟨rfl, hL.1⟩
      ·have h25n : (((!(m_ir_rightHead (GCode.er a0))) || (!(m_ir_rightContexts a0.Contexts.l))) || (!(m_ir_rightObjects (GCode.er a0)))) = false := Bool.eq_false_iff.2 h25
       try rw [h25n]
       rw [if_neg h25] at hM
       refine wIfF rfl (wSkip (wSeq (wSeq (wReg (sRun (xFld (k := 1) Try.underlying26 rfl rfl ti22 (by decide) rfl) (sRun (xLoad Try.underlying22 rfl rfl ((hL.bk 0 rfl).cell (i := 1) rfl)) (sRun (xLnL (s := a0.Blocks) Try.underlying22 rfl) (sRun (xMvI rfl) (sNil ?_)))))))))
       obtain ⟨Y26, hY26⟩ : ∃ Y, m_ir_CheckCode_L1 (GCode.er a0) s3_0 (a0.Blocks.l.map GBlock.er) 0 = Y := ⟨_, rfl⟩
       rw [hY26] at hM
       refine wJ (fun f w => Has f [(1, .pointer (some ⟨b1, 0, none⟩)), (58, .slice a0.Blocks.a a0.Blocks.l.length a0.Blocks.c), (59, .int .i64 ((a0.Blocks.l.length : Nat) : Int))] ∧ Bx w0 w [.box b1 26 (GCode.cells a0).toArray] ∧ Lp.go () = Y26) ?_ ?_
       ·refine wBlock (wLoopG (fun n f w => ∃ (k26 : Nat), n = a0.Blocks.l.length - k26 ∧ k26 ≤ a0.Blocks.l.length ∧ Has f [(60, .int .i64 ((k26 : Nat) : Int)), (1, .pointer (some ⟨b1, 0, none⟩)), (58, .slice a0.Blocks.a a0.Blocks.l.length a0.Blocks.c), (59, .int .i64 ((a0.Blocks.l.length : Nat) : Int))] ∧ Bx w0 w [.box b1 26 (GCode.cells a0).toArray] ∧ m_ir_CheckCode_L1 (GCode.er a0) s3_0 ((a0.Blocks.l.map GBlock.er).drop k26) k26 = Y26) (a0.Blocks.l.length) ⟨0, rfl, Nat.zero_le _, ⟨rfl, rfl, rfl, rfl, trivial⟩, hL, hY26⟩ ?_)
        clear hL hY26
        rintro n f w ⟨k26, rfl, hk26, hf, hL, hY26⟩
        obtain ⟨g, rfl⟩ := has_updL _ _ hf
        clear hf
        rcases Nat.lt_or_ge k26 a0.Blocks.l.length with hk26b | hk26b
        ·obtain ⟨x26, hx26⟩ := get_ex (l := a0.Blocks.l) hk26b
         rw [drop_map hx26, m_ir_CheckCode_L1] at hY26
         try simp only [er1, er2, er3, er4, er5, er6, er7, er8, er9, er10, er11, er12, er13, er14, er15, er16, er17, List.length_map] at hY26
         refine wSeq (wReg (sRun (xLssT rfl rfl (by omega)) (sNil (wSeq (wIfT rfl (wSkip (wSeq (wBlock (wSeq (wReg (sRun (xIdL Try.underlying22 ti60 rfl rfl rfl h0.1 hx26) (sRun (xLoadS (GBlock.cells x26) Try.underlying60 rfl ti60 rfl rfl ((Lst.el h0.1 hx26).ext hL.1)) (sTo (aNew (mAlloc ti60)) ?_)))))))))))))
         rintro _ w27 ⟨b27, rfl, hge27, hB27, he27⟩
         replace hL := hL.new hge27 hB27 he27
         refine sStS ti60 rfl rfl rfl (by simp [Value.oneCell', Dat.cells, GBlock.cells]) (hL.bk 0 rfl) rfl ?_
         intro w28 hB28 hC28
         replace hL : Bx w0 w28 [.box b27 60 (GBlock.cells x26).toArray, .box b1 26 (GCode.cells a0).toArray] := hL.wr 0 rfl hC28 hB28
         refine sNil (wSeq (wReg (sRun (xFld0 Try.underlying60 rfl rfl ti3 (by decide) rfl) (sRun (xLoad Try.underlying3 rfl rfl ((hL.bk 0 rfl).cell (i := 0) rfl)) (sCall (eCall cal73 rfl) (sp_m_ir_within _ x26.Params (999 : Int)) ?_)))))
         rintro _ w29 ⟨rfl, he29⟩
         replace hL := hL.ext he29
         by_cases h30 : (m_ir_within x26.Params (999 : Int)) = true
         ·try rw [h30]
          rw [if_pos h30] at hY26
          refine sRun (xNot rfl) (sNil (wIfF rfl (wSkip (wReg (sRun (xAdd64 rfl rfl (by omega) (by omega)) (sRun (xMvI rfl) (sNil ?_)))))))
          exact ⟨a0.Blocks.l.length - (k26 + 1), by omega, k26 + 1, rfl, by omega, ⟨rfl, rfl, rfl, rfl, trivial⟩, hL.tl, hY26⟩
         ·have h30n : (m_ir_within x26.Params (999 : Int)) = false := Bool.eq_false_iff.2 h30
          try rw [h30n]
          rw [if_neg h30] at hY26
          refine sRun (xNot rfl) (sNil (wIfT rfl (wSeq (wReg (sRun (xAsI rfl) (sNil (wRet ?_)))))))
          subst hY26
          rw [Lp.el_out] at hM
          try dsimp only at hM
          subst hM
          refine res1 (P := Try.prog) (fn := Try.f30) rfl ?_
          exact ⟨rfl, hL.1⟩
        ·obtain rfl : k26 = a0.Blocks.l.length := by omega
         rw [drop_endm, m_ir_CheckCode_L1] at hY26
         refine wSeq (wReg (sRun (xLssF rfl rfl (by omega)) (sNil (wSeq (wIfF rfl (wExit ?_))))))
         exact ⟨⟨rfl, rfl, rfl, trivial⟩, hL, hY26⟩
       ·clear hL
        rintro f w ⟨hf, hL, hZ26⟩
        obtain ⟨g, rfl⟩ := has_updL _ _ hf
        clear hf
        subst hZ26
        rw [Lp.el_go] at hM
        try dsimp only at hM
        refine wSeq (wSeq (wReg (sRun (xFld (k := 1) Try.underlying26 rfl rfl ti22 (by decide) rfl) (sRun (xLoad Try.underlying22 rfl rfl ((hL.bk 0 rfl).cell (i := 1) rfl)) (sRun (xLnL (s := a0.Blocks) Try.underlying22 rfl) (sRun (xMvI rfl) (sNil ?_)))))))
        obtain ⟨Y31, hY31⟩ : ∃ Y, m_ir_CheckCode_L2 (GCode.er a0) s3_0 (a0.Blocks.l.map GBlock.er) 0 = Y := ⟨_, rfl⟩
        rw [hY31] at hM
        refine wJ (fun f w => Has f [(1, .pointer (some ⟨b1, 0, none⟩)), (70, .slice a0.Blocks.a a0.Blocks.l.length a0.Blocks.c), (71, .int .i64 ((a0.Blocks.l.length : Nat) : Int))] ∧ Bx w0 w [.box b1 26 (GCode.cells a0).toArray] ∧ Lp.go () = Y31) ?_ ?_
        ·refine wBlock (wLoopG (fun n f w => ∃ (k31 : Nat), n = a0.Blocks.l.length - k31 ∧ k31 ≤ a0.Blocks.l.length ∧ Has f [(72, .int .i64 ((k31 : Nat) : Int)), (1, .pointer (some ⟨b1, 0, none⟩)), (70, .slice a0.Blocks.a a0.Blocks.l.length a0.Blocks.c), (71, .int .i64 ((a0.Blocks.l.length : Nat) : Int))] ∧ Bx w0 w [.box b1 26 (GCode.cells a0).toArray] ∧ m_ir_CheckCode_L2 (GCode.er a0) s3_0 ((a0.Blocks.l.map GBlock.er).drop k31) k31 = Y31) (a0.Blocks.l.length) ⟨0, rfl, Nat.zero_le _, ⟨rfl, rfl, rfl, rfl, trivial⟩, hL, hY31⟩ ?_)
         clear hL hY31
         rintro n f w ⟨k31, rfl, hk31, hf, hL, hY31⟩
         obtain ⟨g, rfl⟩ := has_updL _ _ hf
         clear hf
         rcases Nat.lt_or_ge k31 a0.Blocks.l.length with hk31b | hk31b
         ·obtain ⟨x31, hx31⟩ := get_ex (l := a0.Blocks.l) hk31b
          rw [drop_map hx31, m_ir_CheckCode_L2] at hY31
          try simp only [er1, er2, er3, er4, er5, er6, er7, er8, er9, er10, er11, er12, er13, er14, er15, er16, er17, List.length_map] at hY31
          refine wSeq (wReg (sRun (xLssT rfl rfl (by omega)) (sNil (wSeq (wIfT rfl (wSkip (wSeq (wBlock (wSeq (wReg (sRun (xIdL Try.underlying22 ti60 rfl rfl rfl h0.1 hx31) (sRun (xLoadS (GBlock.cells x31) Try.underlying60 rfl ti60 rfl rfl ((Lst.el h0.1 hx31).ext hL.1)) (sTo (aNew (mAlloc ti60)) ?_)))))))))))))
          rintro _ w32 ⟨b32, rfl, hge32, hB32, he32⟩
          replace hL := hL.new hge32 hB32 he32
          refine sStS ti60 rfl rfl rfl (by simp [Value.oneCell', Dat.cells, GBlock.cells]) (hL.bk 0 rfl) rfl ?_
          intro w33 hB33 hC33
          replace hL : Bx w0 w33 [.box b32 60 (GBlock.cells x31).toArray, .box b1 26 (GCode.cells a0).toArray] := hL.wr 0 rfl hC33 hB33
          refine sNil (wSeq (wReg (sRun (xLoadS (GCode.cells a0) Try.underlying26 rfl ti26 rfl rfl ((hL.bk 1 rfl).part rfl)) (sRun (xLoadS (GBlock.cells x31) Try.underlying60 rfl ti60 rfl rfl ((hL.bk 0 rfl).part rfl)) (sCall (eCall cal74 rfl) (sp_m_ir_rightBlock _ a0 (Dat.all (Dat.ext (x := a0) h0 hL.1)) x31 (Dat.all (Dat.ext (x := x31) (Lst.elok h0.1 hx31) hL.1))) ?_)))))
          rintro _ w34 ⟨rfl, he34⟩
          replace hL := hL.ext he34
          by_cases h35 : (m_ir_rightBlock (GCode.er a0) (GBlock.er x31)) = true
          ·try rw [h35]
           rw [if_pos h35] at hY31
           refine sRun (xNot rfl) (sNil (wIfF rfl (wSkip (wReg (sRun (xAdd64 rfl rfl (by omega) (by omega)) (sRun (xMvI rfl) (sNil ?_)))))))
           exact ⟨a0.Blocks.l.length - (k31 + 1), by omega, k31 + 1, rfl, by omega, ⟨rfl, rfl, rfl, rfl, trivial⟩, hL.tl, hY31⟩
          ·have h35n : (m_ir_rightBlock (GCode.er a0) (GBlock.er x31)) = false := Bool.eq_false_iff.2 h35
           try rw [h35n]
           rw [if_neg h35] at hY31
           refine sRun (xNot rfl) (sNil (wIfT rfl (wSeq (wReg (sRun (xAsI rfl) (sNil (wRet ?_)))))))
           subst hY31
           rw [Lp.el_out] at hM
           try dsimp only at hM
           subst hM
           refine res1 (P := Try.prog) (fn := Try.f30) rfl ?_
           exact ⟨rfl, hL.1⟩
         ·obtain rfl : k31 = a0.Blocks.l.length := by omega
          rw [drop_endm, m_ir_CheckCode_L2] at hY31
          refine wSeq (wReg (sRun (xLssF rfl rfl (by omega)) (sNil (wSeq (wIfF rfl (wExit ?_))))))
          exact ⟨⟨rfl, rfl, rfl, trivial⟩, hL, hY31⟩
        ·clear hL
         rintro f w ⟨hf, hL, hZ31⟩
         obtain ⟨g, rfl⟩ := has_updL _ _ hf
         clear hf
         subst hZ31
         rw [Lp.el_go] at hM
         try dsimp only at hM
         refine wSeq (wReg (sRun (xAsI rfl) (sNil (wRet ?_))))
         subst hM
         refine res1 (P := Try.prog) (fn := Try.f30) rfl ?_
         exact ⟨rfl, hL.1⟩

end Go.Proofs.Ytbpccmnalhdpmaa
