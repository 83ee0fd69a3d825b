/- Contracts, printed by gen4.py. -/
import Derived.Test.YtbpccmnalhdpmaaFt
import Derived.Test.YtbpccmnalhdpmaaGe
set_option linter.unusedVariables false
set_option linter.unusedSimpArgs false
set_option maxRecDepth 4000
namespace Go.Proofs.Ytbpccmnalhdpmaa
open Go.RowKit Go.Fw
def m_rop (cs20 rs20 : List (Int × Int)) (x20 : GOp) : GOp × List (Int × Int) × List (Int × Int) :=
 if x20.Kind = (21 : Int) then
  ((m_r08_facts_bind cs20 rs20 x20), cs20, rs20)
 else
  lt (m_r08_facts_op cs20 rs20 x20) fun y28 =>
   (y28.1, y28.2.1, y28.2.2)
def m_rops : List GOp → List (Int × Int) → List (Int × Int) → List GOp × List (Int × Int) × List (Int × Int)
  | [], cs, rs => ([], cs, rs)
  | x :: l, cs, rs => lt (m_rop cs rs x) fun y => (y.1 :: (m_rops l y.2.1 y.2.2).1, (m_rops l y.2.1 y.2.2).2)
def m_rblock (x10 : GBlock List) : GBlock List :=
 (⟨x10.Params, (m_rops x10.Ops [] []).1, (m_r08_facts_term ((m_rops x10.Ops [] []).2.1) ((m_rops x10.Ops [] []).2.2) x10.Term)⟩ : (GBlock List))
def m_r08_Fold (a0 : (GCode List)) : (GCode List) :=
 if (m_r06_CheckCode a0) ≠ (0 : Int) then
  (⟨a0.Params, a0.Blocks, a0.Contexts, a0.Objects⟩ : (GCode List))
 else
  (⟨a0.Params, (a0.Blocks.map m_rblock), a0.Contexts, a0.Objects⟩ : (GCode List))
theorem bd12_25 {ρ : Operand → Value} {w : World} {d : Option Nat} {ty : TypeId} {pos : String} {af : Array Edge} {g : Option (Nat × Bool)} {x0 : Option Nat} {x1 : Option Nat} {o0 : Operand} {o1 : Operand} (h0 : ρ o0 = .map x0) (h1 : ρ o1 = .map x1) : Yl Try.prog ρ (.build 81 #[(0, o0), (1, o1)]) d ty pos af g w (.agg #[.map x0, .map x1]) := by
  have e : (Instr.build 81 #[(0, .map x0), (1, .map x1)]).run Try.prog w = .ok (.agg #[.map x0, .map x1]) w := by kernel_rfl
  simp [Yl, execOp, h0, h1, e]
theorem bd12_28 {ρ : Operand → Value} {w : World} {d : Option Nat} {ty : TypeId} {pos : String} {af : Array Edge} {g : Option (Nat × Bool)} {x0 : Int} {o0 : Operand} (h0 : ρ o0 = .int .i64 x0) : Yl Try.prog ρ (.build 60 #[(0, o0)]) d ty pos af g w (.agg #[.int .i64 x0, .slice none 0 0, .int .i64 0, .int .i64 0, .int .i64 0, .slice none 0 0, .int .i64 0, .slice none 0 0, .int .i64 0, .slice none 0 0]) := by
  have e : (Instr.build 60 #[(0, .int .i64 x0)]).run Try.prog w = .ok (.agg #[.int .i64 x0, .slice none 0 0, .int .i64 0, .int .i64 0, .int .i64 0, .slice none 0 0, .int .i64 0, .slice none 0 0, .int .i64 0, .slice none 0 0]) w := by kernel_rfl
  simp [Yl, execOp, h0, e]
theorem bs12_44 {ρ : Operand → Value} {w : World} {d : Option Nat} {ty : TypeId} {pos : String} {af : Array Edge} {g : Option (Nat × Bool)} {x00_ : Int} {x01_ : Int} {x02_ : Int} {x03_ : Int} {x04_ : Int} {x05_ : Int} {x06_ : Int} {x07_ : Int} {x08_0_ : Int} {x08_1_ : Int} {x08_2_ : Int} {o0 : Operand} (h0 : ρ o0 = .agg #[.int .i64 x00_, .int .i64 x01_, .int .i64 x02_, .int .i64 x03_, .int .i64 x04_, .int .i64 x05_, .int .i64 x06_, .int .i64 x07_, .int .i64 x08_0_, .int .i64 x08_1_, .int .i64 x08_2_]) :
    (execOp ρ ⟨d, .buildSlice 53 1 #[(0, o0)], ty, pos, af, g⟩).run Try.prog w = .ok (.value (.slice (some ⟨w.heap.size, 0, none⟩) 1 1)) (w.alloc (.cells #[.int .i64 x00_, .int .i64 x01_, .int .i64 x02_, .int .i64 x03_, .int .i64 x04_, .int .i64 x05_, .int .i64 x06_, .int .i64 x07_, .int .i64 x08_0_, .int .i64 x08_1_, .int .i64 x08_2_] 66)) := by
  have e : (Instr.buildSlice 53 1 #[(0, .agg #[.int .i64 x00_, .int .i64 x01_, .int .i64 x02_, .int .i64 x03_, .int .i64 x04_, .int .i64 x05_, .int .i64 x06_, .int .i64 x07_, .int .i64 x08_0_, .int .i64 x08_1_, .int .i64 x08_2_])]).run Try.prog w = .ok (.slice (some ⟨w.heap.size, 0, none⟩) 1 1) (w.alloc (.cells #[.int .i64 x00_, .int .i64 x01_, .int .i64 x02_, .int .i64 x03_, .int .i64 x04_, .int .i64 x05_, .int .i64 x06_, .int .i64 x07_, .int .i64 x08_0_, .int .i64 x08_1_, .int .i64 x08_2_] 66)) := by kernel_rfl
  simp [execOp, h0, e]
theorem bs12_52 {ρ : Operand → Value} {w : World} {d : Option Nat} {ty : TypeId} {pos : String} {af : Array Edge} {g : Option (Nat × Bool)} {x00_ : Int} {x01_ : Int} {x02_ : Int} {x03_ : Int} {x04_ : Int} {x05_ : Int} {x06_ : Int} {x07_ : Int} {x08_0_ : Int} {x08_1_ : Int} {x08_2_ : Int} {o0 : Operand} (h0 : ρ o0 = .agg #[.int .i64 x00_, .int .i64 x01_, .int .i64 x02_, .int .i64 x03_, .int .i64 x04_, .int .i64 x05_, .int .i64 x06_, .int .i64 x07_, .int .i64 x08_0_, .int .i64 x08_1_, .int .i64 x08_2_]) :
    (execOp ρ ⟨d, .buildSlice 53 1 #[(0, o0)], ty, pos, af, g⟩).run Try.prog w = .ok (.value (.slice (some ⟨w.heap.size, 0, none⟩) 1 1)) (w.alloc (.cells #[.int .i64 x00_, .int .i64 x01_, .int .i64 x02_, .int .i64 x03_, .int .i64 x04_, .int .i64 x05_, .int .i64 x06_, .int .i64 x07_, .int .i64 x08_0_, .int .i64 x08_1_, .int .i64 x08_2_] 66)) := by
  have e : (Instr.buildSlice 53 1 #[(0, .agg #[.int .i64 x00_, .int .i64 x01_, .int .i64 x02_, .int .i64 x03_, .int .i64 x04_, .int .i64 x05_, .int .i64 x06_, .int .i64 x07_, .int .i64 x08_0_, .int .i64 x08_1_, .int .i64 x08_2_])]).run Try.prog w = .ok (.slice (some ⟨w.heap.size, 0, none⟩) 1 1) (w.alloc (.cells #[.int .i64 x00_, .int .i64 x01_, .int .i64 x02_, .int .i64 x03_, .int .i64 x04_, .int .i64 x05_, .int .i64 x06_, .int .i64 x07_, .int .i64 x08_0_, .int .i64 x08_1_, .int .i64 x08_2_] 66)) := by kernel_rfl
  simp [execOp, h0, e]
theorem bs12_64 {ρ : Operand → Value} {w : World} {d : Option Nat} {ty : TypeId} {pos : String} {af : Array Edge} {g : Option (Nat × Bool)} {x00_ : Int} {x01_A : Option Addr} {x01_n x01_c : Nat} {x02_0_ : Int} {x02_1_ : Int} {x02_2_ : Int} {x02_3_A : Option Addr} {x02_3_n x02_3_c : Nat} {x02_4_0_0_ : Int} {x02_4_0_1_A : Option Addr} {x02_4_0_1_n x02_4_0_1_c : Nat} {x02_4_1_0_ : Int} {x02_4_1_1_A : Option Addr} {x02_4_1_1_n x02_4_1_1_c : Nat} {o0 : Operand} (h0 : ρ o0 = .agg #[.int .i64 x00_, .slice x01_A x01_n x01_c, .int .i64 x02_0_, .int .i64 x02_1_, .int .i64 x02_2_, .slice x02_3_A x02_3_n x02_3_c, .int .i64 x02_4_0_0_, .slice x02_4_0_1_A x02_4_0_1_n x02_4_0_1_c, .int .i64 x02_4_1_0_, .slice x02_4_1_1_A x02_4_1_1_n x02_4_1_1_c]) :
    (execOp ρ ⟨d, .buildSlice 22 1 #[(0, o0)], ty, pos, af, g⟩).run Try.prog w = .ok (.value (.slice (some ⟨w.heap.size, 0, none⟩) 1 1)) (w.alloc (.cells #[.int .i64 x00_, .slice x01_A x01_n x01_c, .int .i64 x02_0_, .int .i64 x02_1_, .int .i64 x02_2_, .slice x02_3_A x02_3_n x02_3_c, .int .i64 x02_4_0_0_, .slice x02_4_0_1_A x02_4_0_1_n x02_4_0_1_c, .int .i64 x02_4_1_0_, .slice x02_4_1_1_A x02_4_1_1_n x02_4_1_1_c] 60)) := by
  have e : (Instr.buildSlice 22 1 #[(0, .agg #[.int .i64 x00_, .slice x01_A x01_n x01_c, .int .i64 x02_0_, .int .i64 x02_1_, .int .i64 x02_2_, .slice x02_3_A x02_3_n x02_3_c, .int .i64 x02_4_0_0_, .slice x02_4_0_1_A x02_4_0_1_n x02_4_0_1_c, .int .i64 x02_4_1_0_, .slice x02_4_1_1_A x02_4_1_1_n x02_4_1_1_c])]).run Try.prog w = .ok (.slice (some ⟨w.heap.size, 0, none⟩) 1 1) (w.alloc (.cells #[.int .i64 x00_, .slice x01_A x01_n x01_c, .int .i64 x02_0_, .int .i64 x02_1_, .int .i64 x02_2_, .slice x02_3_A x02_3_n x02_3_c, .int .i64 x02_4_0_0_, .slice x02_4_0_1_A x02_4_0_1_n x02_4_0_1_c, .int .i64 x02_4_1_0_, .slice x02_4_1_1_A x02_4_1_1_n x02_4_1_1_c] 60)) := by kernel_rfl
  simp [execOp, h0, e]
set_option maxHeartbeats 12800000 in
theorem sp_m_r08_Fold (w0 : World) (a0 : (GCode Lst)) (h0 : Dat.ok (fun _ => True) w0 a0) : Calls Try.prog 12 #[.agg (GCode.cells a0).toArray] w0 (Ret fun v w => ∃ r : (GCode Lst), v = .agg (GCode.cells r).toArray ∧ GCode.er r = m_r08_Fold (GCode.er a0) ∧ Dat.ok (fun _ => True) w r ∧ Ext w0 w) := by
  obtain ⟨X, hM⟩ : ∃ X, m_r08_Fold (GCode.er a0) = X := ⟨_, rfl⟩
  rw [hM]
  unfold m_r08_Fold at hM
  try simp only [er1, er2, er3, er4, er5, er6, er7, er8, er9, er10, er11, er12, er13, er14, er15, er16, er17, List.length_map] at hM
  have hL : Bx w0 w0 [] := Bx.nil
  refine calls_of Try.func12 rfl (Nat.le_of_ble_eq_true rfl) (by kernel_rfl) ?_
  refine wCut [(0, .agg (GCode.cells a0).toArray)] ⟨rfl, trivial⟩ fun g => ?_
  refine wSeq (wReg (sTo (aNew (mBox rfl)) ?_))
  rintro _ w1 ⟨b1, rfl, hge1, hB1, he1⟩
  replace hL := hL.new hge1 hB1 he1
  refine sTo (aNew (mAlloc ti26)) ?_
  rintro _ w2 ⟨b2, rfl, hge2, hB2, he2⟩
  replace hL := hL.new hge2 hB2 he2
  refine sNil (wSeq (wSeq (wReg (sRun (xLoadS (GCode.cells a0) Try.underlying26 rfl ti26 rfl rfl ((hL.bk 1 rfl).part rfl)) (sCall (eCall cal13 rfl) (sp_m_r06_CheckCode _ a0 (Dat.all (Dat.ext (x := a0) h0 hL.1))) ?_)))))
  rintro _ w3 ⟨rfl, he3⟩
  replace hL := hL.ext he3
  refine sRun (xNeqD rfl rfl) (sNil ?_)
  by_cases h4 : (m_r06_CheckCode (GCode.er a0)) ≠ (0 : Int)
  ·try rw [decide_eq_true h4]
   rw [if_pos h4] at hM
   refine wIfT rfl (wSeq (wReg (sRun (xLoadS (GCode.cells a0) Try.underlying26 rfl ti26 rfl rfl ((hL.bk 1 rfl).part rfl)) (sStS ti26 rfl rfl rfl (by simp [Value.oneCell', Dat.cells, GCode.cells]) (hL.bk 0 rfl) rfl ?_))))
   intro w5 hB5 hC5
   replace hL : Bx w0 w5 [.box b2 26 (GCode.cells a0).toArray, .box b1 26 (GCode.cells a0).toArray] := hL.wr 0 rfl hC5 hB5
   refine sNil (wRet (resC (P := Try.prog) (fn := Try.f12) rfl Try.underlying26 rfl ti26 rfl rfl (hL.bk 0 rfl) ?_))
   exact ⟨(⟨a0.Params, a0.Blocks, a0.Contexts, a0.Objects⟩ : (GCode Lst)), rfl, hM, ⟨Dat.all (Dat.ext (x := a0.Blocks) h0.1 hL.1), Dat.all (Dat.ext (x := a0.Contexts) h0.2.1 hL.1), Dat.all (Dat.ext (x := a0.Objects) h0.2.2 hL.1)⟩, hL.1⟩
  ·try rw [decide_eq_false h4]
   rw [if_neg h4] at hM
   refine wIfF rfl (wSkip (wSeq (wReg (sRun (xLoadS (GCode.cells a0) Try.underlying26 rfl ti26 rfl rfl ((hL.bk 1 rfl).part rfl)) (sTo (aNew (mAlloc ti26)) ?_)))))
   rintro _ w6 ⟨b6, rfl, hge6, hB6, he6⟩
   replace hL := hL.new hge6 hB6 he6
   refine sStS ti26 rfl rfl rfl (by simp [Value.oneCell', Dat.cells, GCode.cells]) (hL.bk 0 rfl) rfl ?_
   intro w7 hB7 hC7
   replace hL : Bx w0 w7 [.box b6 26 (GCode.cells a0).toArray, .box b2 26 #[.int .i64 (0 : Int), .slice none 0 0, .slice none 0 0, .slice none 0 0], .box b1 26 (GCode.cells a0).toArray] := hL.wr 0 rfl hC7 hB7
   refine sNil (wSeq (wReg (sRun (xFld (k := 1) Try.underlying26 rfl rfl ti22 (by decide) rfl) (sSt1 ti22 rfl rfl rfl (hL.bk 0 rfl) (Nat.le_of_ble_eq_true rfl) ?_))))
   intro w8 hB8 hC8
   replace hL : Bx w0 w8 [.box b6 26 #[.int .i64 a0.Params, .slice none 0 0, .slice a0.Contexts.a a0.Contexts.l.length a0.Contexts.c, .slice a0.Objects.a a0.Objects.l.length a0.Objects.c], .box b2 26 #[.int .i64 (0 : Int), .slice none 0 0, .slice none 0 0, .slice none 0 0], .box b1 26 (GCode.cells a0).toArray] := hL.wr 0 rfl hC8 hB8
   refine sNil (wSeq (wSeq (wReg (sRun (xFld (k := 1) Try.underlying26 rfl rfl ti22 (by decide) rfl) (sRun (xLoad Try.underlying22 rfl rfl ((hL.bk 2 rfl).cell (i := 1) rfl)) ?_)))))
   have hl9 : a0.Blocks.l.length * 144 ≤ 140737488355328 := Lst.bd h0.1
   refine sRun (xLnL (s := a0.Blocks) Try.underlying22 rfl) (sRun (xMvI rfl) (sNil ?_))
   replace hL : Bx w0 _ [.rowd (fun _ => False) none 0 60 ([] : List (GBlock Lst)), .box b6 26 #[.int .i64 a0.Params, .slice none ([] : List (GBlock Lst)).length 0, .slice a0.Contexts.a a0.Contexts.l.length a0.Contexts.c, .slice a0.Objects.a a0.Objects.l.length a0.Objects.c], .box b2 26 #[.int .i64 (0 : Int), .slice none 0 0, .slice none 0 0, .slice none 0 0], .box b1 26 (GCode.cells a0).toArray] := hL.rowd0 (α := GBlock Lst) 60
   refine wJ (fun f w => ∃ (F10 : Nat → Prop) (A10 : Option Addr) (c10 : Nat) (xs10 : List (GBlock Lst)), xs10.length = a0.Blocks.l.length ∧ xs10.map GBlock.er = (a0.Blocks.l.map GBlock.er).map m_rblock ∧ Has f [(2, .pointer (some ⟨b2, 0, none⟩)), (3, .pointer (some ⟨b6, 0, none⟩)), (17, .slice a0.Blocks.a a0.Blocks.l.length a0.Blocks.c), (18, .int .i64 ((a0.Blocks.l.length : Nat) : Int))] ∧ Bx w0 w [.rowd F10 A10 c10 60 xs10, .box b6 26 #[.int .i64 a0.Params, .slice A10 xs10.length c10, .slice a0.Contexts.a a0.Contexts.l.length a0.Contexts.c, .slice a0.Objects.a a0.Objects.l.length a0.Objects.c], .box b2 26 #[.int .i64 (0 : Int), .slice none 0 0, .slice none 0 0, .slice none 0 0], .box b1 26 (GCode.cells a0).toArray]) ?_ ?_
   ·refine wBlock (wLoopG (fun n f w => ∃ (k10 : Nat) (F10 : Nat → Prop) (A10 : Option Addr) (c10 : Nat) (xs10 : List (GBlock Lst)), n = a0.Blocks.l.length - k10 ∧ k10 ≤ a0.Blocks.l.length ∧ xs10.length = k10 ∧ xs10.map GBlock.er = ((a0.Blocks.l.map GBlock.er).take k10).map m_rblock ∧ Has f [(19, .int .i64 ((k10 : Nat) : Int)), (2, .pointer (some ⟨b2, 0, none⟩)), (3, .pointer (some ⟨b6, 0, none⟩)), (17, .slice a0.Blocks.a a0.Blocks.l.length a0.Blocks.c), (18, .int .i64 ((a0.Blocks.l.length : Nat) : Int))] ∧ Bx w0 w [.rowd F10 A10 c10 60 xs10, .box b6 26 #[.int .i64 a0.Params, .slice A10 xs10.length c10, .slice a0.Contexts.a a0.Contexts.l.length a0.Contexts.c, .slice a0.Objects.a a0.Objects.l.length a0.Objects.c], .box b2 26 #[.int .i64 (0 : Int), .slice none 0 0, .slice none 0 0, .slice none 0 0], .box b1 26 (GCode.cells a0).toArray]) a0.Blocks.l.length ⟨0, (fun _ => False), none, 0, [], rfl, Nat.zero_le _, rfl, rfl, ⟨rfl, rfl, rfl, rfl, rfl, trivial⟩, hL⟩ ?_)
    clear hL
    rintro n f w ⟨k10, F10, A10, c10, xs10, rfl, hk10, hl10, hE10, hf, hL⟩
    obtain ⟨g, rfl⟩ := has_updL _ _ hf
    clear hf
    rcases Nat.lt_or_ge k10 a0.Blocks.l.length with hb10 | hb10
    ·obtain ⟨x10, hx10⟩ := get_ex (l := a0.Blocks.l) hb10
     obtain ⟨Yv10, hY010⟩ : ∃ Y, m_rblock (GBlock.er x10) = Y := ⟨_, rfl⟩
     have hY10 := hY010
     unfold m_rblock at hY10
     try simp only [er1, er2, er3, er4, er5, er6, er7, er8, er9, er10, er11, er12, er13, er14, er15, er16, er17, List.length_map] at hY10
     refine wSeq (wReg (sRun (xLssT rfl rfl (by omega)) (sNil (wSeq (wIfT rfl (wSkip (wSeq (wBlock (wSeq (wReg (sRun (xIdL Try.underlying22 ti60 rfl rfl rfl h0.1 hx10) (sRun (xLoadS (GBlock.cells x10) Try.underlying60 rfl ti60 rfl rfl ((Lst.el h0.1 hx10).ext hL.1)) (sTo (aNew (mAlloc ti60)) ?_)))))))))))))
     rintro _ w11 ⟨b11, rfl, hge11, hB11, he11⟩
     replace hL := hL.new hge11 hB11 he11
     refine sStS ti60 rfl rfl rfl (by simp [Value.oneCell', Dat.cells, GBlock.cells]) (hL.bk 0 rfl) rfl ?_
     intro w12 hB12 hC12
     replace hL : Bx w0 w12 [.box b11 60 (GBlock.cells x10).toArray, .rowd F10 A10 c10 60 xs10, .box b6 26 #[.int .i64 a0.Params, .slice A10 xs10.length c10, .slice a0.Contexts.a a0.Contexts.l.length a0.Contexts.c, .slice a0.Objects.a a0.Objects.l.length a0.Objects.c], .box b2 26 #[.int .i64 (0 : Int), .slice none 0 0, .slice none 0 0, .slice none 0 0], .box b1 26 (GCode.cells a0).toArray] := hL.wr 0 rfl hC12 hB12
     refine sNil (wSeq (wReg (sTo (aMap (κ := Int) (ν := Int) ekI evI Try.underlying79) ?_)))
     rintro _ w13 ⟨b13, rfl, hge13, hB13, he13⟩
     replace hL := hL.mk (κ := Int) (ν := Int) ekI evI hge13 he13 hB13
     refine sTo (aMap (κ := Int) (ν := Int) ekI evI Try.underlying79) ?_
     rintro _ w14 ⟨b14, rfl, hge14, hB14, he14⟩
     replace hL := hL.mk (κ := Int) (ν := Int) ekI evI hge14 he14 hB14
     refine sRun (bd12_25 rfl rfl) (sTo (aNew (mAlloc ti81)) ?_)
     rintro _ w15 ⟨b15, rfl, hge15, hB15, he15⟩
     replace hL := hL.new hge15 hB15 he15
     refine sStS ti81 rfl rfl rfl (by simp [Value.oneCell']) (hL.bk 0 rfl) rfl ?_
     intro w16 hB16 hC16
     replace hL : Bx w0 w16 [.box b15 81 #[.map (some b13), .map (some b14)], .map ekI evI b14 ([] : List (Int × Int)), .map ekI evI b13 ([] : List (Int × Int)), .box b11 60 (GBlock.cells x10).toArray, .rowd F10 A10 c10 60 xs10, .box b6 26 #[.int .i64 a0.Params, .slice A10 xs10.length c10, .slice a0.Contexts.a a0.Contexts.l.length a0.Contexts.c, .slice a0.Objects.a a0.Objects.l.length a0.Objects.c], .box b2 26 #[.int .i64 (0 : Int), .slice none 0 0, .slice none 0 0, .slice none 0 0], .box b1 26 (GCode.cells a0).toArray] := hL.wr 0 rfl hC16 hB16
     refine sNil (wSeq (wReg (sRun (xFld0 Try.underlying60 rfl rfl ti3 (by decide) rfl) (sRun (xLoad Try.underlying3 rfl rfl ((hL.bk 3 rfl).cell (i := 0) rfl)) (sRun (bd12_28 rfl) (sTo (aNew (mAlloc ti60)) ?_))))))
     rintro _ w17 ⟨b17, rfl, hge17, hB17, he17⟩
     replace hL := hL.new hge17 hB17 he17
     refine sStS ti60 rfl rfl rfl (by simp [Value.oneCell', Dat.cells, GBlock.cells]) (hL.bk 0 rfl) rfl ?_
     intro w18 hB18 hC18
     replace hL : Bx w0 w18 [.box b17 60 #[.int .i64 x10.Params, .slice none 0 0, .int .i64 (0 : Int), .int .i64 (0 : Int), .int .i64 (0 : Int), .slice none 0 0, .int .i64 (0 : Int), .slice none 0 0, .int .i64 (0 : Int), .slice none 0 0], .box b15 81 #[.map (some b13), .map (some b14)], .map ekI evI b14 ([] : List (Int × Int)), .map ekI evI b13 ([] : List (Int × Int)), .box b11 60 (GBlock.cells x10).toArray, .rowd F10 A10 c10 60 xs10, .box b6 26 #[.int .i64 a0.Params, .slice A10 xs10.length c10, .slice a0.Contexts.a a0.Contexts.l.length a0.Contexts.c, .slice a0.Objects.a a0.Objects.l.length a0.Objects.c], .box b2 26 #[.int .i64 (0 : Int), .slice none 0 0, .slice none 0 0, .slice none 0 0], .box b1 26 (GCode.cells a0).toArray] := hL.wr 0 rfl hC18 hB18
     refine sNil (wSeq (wSeq (wReg (sRun (xFld (k := 1) Try.underlying60 rfl rfl ti53 (by decide) rfl) (sRun (xLoad Try.underlying53 rfl rfl ((hL.bk 4 rfl).cell (i := 1) rfl)) ?_)))))
     have hl19 : x10.Ops.l.length * 88 ≤ 140737488355328 := Lst.bd ((Lst.elok h0.1 hx10).1)
     refine sRun (xLnL (s := x10.Ops) Try.underlying53 rfl) (sRun (xMvI rfl) (sNil ?_))
     replace hL : Bx w0 _ [.ownl none 0 66 ([] : List GOp), .box b17 60 #[.int .i64 x10.Params, .slice none ([] : List GOp).length 0, .int .i64 (0 : Int), .int .i64 (0 : Int), .int .i64 (0 : Int), .slice none 0 0, .int .i64 (0 : Int), .slice none 0 0, .int .i64 (0 : Int), .slice none 0 0], .box b15 81 #[.map (some b13), .map (some b14)], .map ekI evI b14 ([] : List (Int × Int)), .map ekI evI b13 ([] : List (Int × Int)), .box b11 60 (GBlock.cells x10).toArray, .rowd F10 A10 c10 60 xs10, .box b6 26 #[.int .i64 a0.Params, .slice A10 xs10.length c10, .slice a0.Contexts.a a0.Contexts.l.length a0.Contexts.c, .slice a0.Objects.a a0.Objects.l.length a0.Objects.c], .box b2 26 #[.int .i64 (0 : Int), .slice none 0 0, .slice none 0 0, .slice none 0 0], .box b1 26 (GCode.cells a0).toArray] := hL.owL GOp 66
     refine wJ (fun f w => ∃ (A20 : Option Addr) (c20 : Nat) (p20 : List GOp) (cs20 rs20 : List (Int × Int)), p20.length = x10.Ops.l.length ∧ (p20, cs20, rs20) = m_rops x10.Ops.l [] [] ∧ Has f [(2, .pointer (some ⟨b2, 0, none⟩)), (3, .pointer (some ⟨b6, 0, none⟩)), (5, .pointer (some ⟨b11, 0, none⟩)), (6, .pointer (some ⟨b15, 0, none⟩)), (7, .pointer (some ⟨b17, 0, none⟩)), (17, .slice a0.Blocks.a a0.Blocks.l.length a0.Blocks.c), (18, .int .i64 ((a0.Blocks.l.length : Nat) : Int)), (19, .int .i64 ((k10 : Nat) : Int)), (30, .slice x10.Ops.a x10.Ops.l.length x10.Ops.c), (31, .int .i64 ((x10.Ops.l.length : Nat) : Int))] ∧ Bx w0 w [.ownl A20 c20 66 p20, .box b17 60 #[.int .i64 x10.Params, .slice A20 p20.length c20, .int .i64 (0 : Int), .int .i64 (0 : Int), .int .i64 (0 : Int), .slice none 0 0, .int .i64 (0 : Int), .slice none 0 0, .int .i64 (0 : Int), .slice none 0 0], .box b15 81 #[.map (some b13), .map (some b14)], .map ekI evI b14 rs20, .map ekI evI b13 cs20, .box b11 60 (GBlock.cells x10).toArray, .rowd F10 A10 c10 60 xs10, .box b6 26 #[.int .i64 a0.Params, .slice A10 xs10.length c10, .slice a0.Contexts.a a0.Contexts.l.length a0.Contexts.c, .slice a0.Objects.a a0.Objects.l.length a0.Objects.c], .box b2 26 #[.int .i64 (0 : Int), .slice none 0 0, .slice none 0 0, .slice none 0 0], .box b1 26 (GCode.cells a0).toArray]) ?_ ?_
     ·refine wBlock (wLoopG (fun n f w => ∃ (k20 : Nat) (A20 : Option Addr) (c20 : Nat) (p20 : List GOp) (cs20 rs20 : List (Int × Int)), n = x10.Ops.l.length - k20 ∧ k20 ≤ x10.Ops.l.length ∧ p20.length = k20 ∧ m_rops x10.Ops.l [] [] = (p20 ++ (m_rops (x10.Ops.l.drop k20) cs20 rs20).1, (m_rops (x10.Ops.l.drop k20) cs20 rs20).2) ∧ Has f [(32, .int .i64 ((k20 : Nat) : Int)), (2, .pointer (some ⟨b2, 0, none⟩)), (3, .pointer (some ⟨b6, 0, none⟩)), (5, .pointer (some ⟨b11, 0, none⟩)), (6, .pointer (some ⟨b15, 0, none⟩)), (7, .pointer (some ⟨b17, 0, none⟩)), (17, .slice a0.Blocks.a a0.Blocks.l.length a0.Blocks.c), (18, .int .i64 ((a0.Blocks.l.length : Nat) : Int)), (19, .int .i64 ((k10 : Nat) : Int)), (30, .slice x10.Ops.a x10.Ops.l.length x10.Ops.c), (31, .int .i64 ((x10.Ops.l.length : Nat) : Int))] ∧ Bx w0 w [.ownl A20 c20 66 p20, .box b17 60 #[.int .i64 x10.Params, .slice A20 p20.length c20, .int .i64 (0 : Int), .int .i64 (0 : Int), .int .i64 (0 : Int), .slice none 0 0, .int .i64 (0 : Int), .slice none 0 0, .int .i64 (0 : Int), .slice none 0 0], .box b15 81 #[.map (some b13), .map (some b14)], .map ekI evI b14 rs20, .map ekI evI b13 cs20, .box b11 60 (GBlock.cells x10).toArray, .rowd F10 A10 c10 60 xs10, .box b6 26 #[.int .i64 a0.Params, .slice A10 xs10.length c10, .slice a0.Contexts.a a0.Contexts.l.length a0.Contexts.c, .slice a0.Objects.a a0.Objects.l.length a0.Objects.c], .box b2 26 #[.int .i64 (0 : Int), .slice none 0 0, .slice none 0 0, .slice none 0 0], .box b1 26 (GCode.cells a0).toArray]) x10.Ops.l.length ⟨0, none, 0, [], [], [], rfl, Nat.zero_le _, rfl, rfl, ⟨rfl, rfl, rfl, rfl, rfl, rfl, rfl, rfl, rfl, rfl, rfl, trivial⟩, hL⟩ ?_)
      clear hL
      rintro n f w ⟨k20, A20, c20, p20, cs20, rs20, rfl, hk20, hl20, hE20, hf, hL⟩
      obtain ⟨g, rfl⟩ := has_updL _ _ hf
      clear hf
      rcases Nat.lt_or_ge k20 x10.Ops.l.length with hb20 | hb20
      ·obtain ⟨x20, hx20⟩ := get_ex (l := x10.Ops.l) hb20
       obtain ⟨Yv20, hY20⟩ : ∃ Y, m_rop cs20 rs20 x20 = Y := ⟨_, rfl⟩
       rw [drop_id hx20, m_rops, hY20, lt_eq] at hE20
       unfold m_rop at hY20
       refine wSeq (wReg (sRun (xLssT rfl rfl (by omega)) (sNil (wSeq (wIfT rfl (wSkip (wSeq (wBlock (wSeq (wReg (sRun (xIdL Try.underlying53 ti66 rfl rfl rfl ((Lst.elok h0.1 hx10).1) hx20) (sRun (xLoadS (GOp.cells x20) Try.underlying66 rfl ti66 rfl rfl ((Lst.el ((Lst.elok h0.1 hx10).1) hx20).ext hL.1)) (sTo (aNew (mAlloc ti66)) ?_)))))))))))))
       rintro _ w21 ⟨b21, rfl, hge21, hB21, he21⟩
       replace hL := hL.new hge21 hB21 he21
       refine sStS ti66 rfl rfl rfl (by simp [Value.oneCell', Dat.cells, GOp.cells]) (hL.bk 0 rfl) rfl ?_
       intro w22 hB22 hC22
       replace hL : Bx w0 w22 [.box b21 66 (GOp.cells x20).toArray, .ownl A20 c20 66 p20, .box b17 60 #[.int .i64 x10.Params, .slice A20 p20.length c20, .int .i64 (0 : Int), .int .i64 (0 : Int), .int .i64 (0 : Int), .slice none 0 0, .int .i64 (0 : Int), .slice none 0 0, .int .i64 (0 : Int), .slice none 0 0], .box b15 81 #[.map (some b13), .map (some b14)], .map ekI evI b14 rs20, .map ekI evI b13 cs20, .box b11 60 (GBlock.cells x10).toArray, .rowd F10 A10 c10 60 xs10, .box b6 26 #[.int .i64 a0.Params, .slice A10 xs10.length c10, .slice a0.Contexts.a a0.Contexts.l.length a0.Contexts.c, .slice a0.Objects.a a0.Objects.l.length a0.Objects.c], .box b2 26 #[.int .i64 (0 : Int), .slice none 0 0, .slice none 0 0, .slice none 0 0], .box b1 26 (GCode.cells a0).toArray] := hL.wr 0 rfl hC22 hB22
       refine sNil (wSeq (wReg (sRun (xFld0 Try.underlying66 rfl rfl ti3 (by decide) rfl) (sRun (xLoad Try.underlying3 rfl rfl ((hL.bk 0 rfl).cell (i := 0) rfl)) (sRun (xEqlD rfl rfl) (sNil ?_))))))
       by_cases h23 : x20.Kind = (21 : Int)
       ·try rw [decide_eq_true h23]
        rw [if_pos h23] at hY20
        refine wIfT rfl ?_
        replace hL := hL.drew
        refine wDraw (fun wS => Bx w0 wS [.box b21 66 (GOp.cells x20).toArray, .ownl A20 c20 66 p20, .box b17 60 #[.int .i64 x10.Params, .slice A20 p20.length c20, .int .i64 (0 : Int), .int .i64 (0 : Int), .int .i64 (0 : Int), .slice none 0 0, .int .i64 (0 : Int), .slice none 0 0, .int .i64 (0 : Int), .slice none 0 0], .box b15 81 #[.map (some b13), .map (some b14)], .map ekI evI b14 rs20, .map ekI evI b13 cs20, .box b11 60 (GBlock.cells x10).toArray, .rowd F10 A10 c10 60 xs10, .box b6 26 #[.int .i64 a0.Params, .slice A10 xs10.length c10, .slice a0.Contexts.a a0.Contexts.l.length a0.Contexts.c, .slice a0.Objects.a a0.Objects.l.length a0.Objects.c], .box b2 26 #[.int .i64 (0 : Int), .slice none 0 0, .slice none 0 0, .slice none 0 0], .box b1 26 (GCode.cells a0).toArray]) [6, 8] (by kernel_rfl) (hTake 0 rfl (by kernel_rfl) rfl (fun wS => (xFld (k := 1) Try.underlying60 rfl rfl ti53 (by decide) rfl)) (sl_of hL) (hTakeS 1 rfl (by kernel_rfl) (by kernel_rfl) rfl (fun wS hS => (xLoad Try.underlying53 rfl rfl ((hS.bk 2 rfl).cell (i := 1) rfl))) (sl_of hL) (hTakeS 2 rfl (by kernel_rfl) (by kernel_rfl) rfl (fun wS hS => (xLoadS [.map (some b13), .map (some b14)] Try.underlying81 rfl ti81 rfl rfl ((hS.bk 3 rfl).part rfl))) (sl_of hL) (hTakeS 3 rfl (by kernel_rfl) (by kernel_rfl) rfl (fun wS hS => (xLoadS (GOp.cells x20) Try.underlying66 rfl ti66 rfl rfl ((hS.bk 0 rfl).part rfl))) (sl_of hL) ?_))))
        refine hOne 4 (by kernel_rfl) (oCall rfl rfl (eCall cal39 rfl) (sp_m_r08_facts_bind _ b13 cs20 (hL.mp 5 rfl) b14 rs20 (hL.mp 4 rfl) x20) ?_)
        rintro _ w24 ⟨rfl, he24⟩
        replace hL := hL.ext he24
        refine ⟨(sl_of hL), ?_⟩
        refine hOne 5 (by kernel_rfl) (oTo rfl rfl (aRow (bs12_44 rfl)) ?_)
        rintro _ w25 ⟨b25, rfl, hge25, hB25, he25⟩
        replace hL := hL.new hge25 hB25 he25
        refine ⟨(sl_of hL.tl), ?_⟩
        refine hOne 6 (by kernel_rfl) (oTo rfl rfl (aAppL (xs := p20) (ys := [(m_r08_facts_bind cs20 rs20 x20)]) Try.underlying53 ti66 rfl (by decide) rfl rfl (hL.bo 2 rfl) ((hL.bk 0 rfl).sl1 (α := GOp) [(m_r08_facts_bind cs20 rs20 x20)] rfl rfl) (allOne rfl) (by first | omega | (simp only [List.length_append, List.length_cons, List.length_nil] at *; omega)) (by first | omega | (simp only [List.length_append, List.length_cons, List.length_nil] at *; omega))) ?_)
        rintro _ w26 ⟨A26, c26, rfl, ho26, hg26, hr26⟩
        replace hL : Bx w0 w26 [.box b25 66 #[.int .i64 ((m_r08_facts_bind cs20 rs20 x20).Kind), .int .i64 ((m_r08_facts_bind cs20 rs20 x20).Dst), .int .i64 ((m_r08_facts_bind cs20 rs20 x20).A), .int .i64 ((m_r08_facts_bind cs20 rs20 x20).B), .int .i64 ((m_r08_facts_bind cs20 rs20 x20).N), .int .i64 ((m_r08_facts_bind cs20 rs20 x20).Ctx), .int .i64 ((m_r08_facts_bind cs20 rs20 x20).Var), .int .i64 ((m_r08_facts_bind cs20 rs20 x20).Piece), .int .i64 ((m_r08_facts_bind cs20 rs20 x20).Src.Kind), .int .i64 ((m_r08_facts_bind cs20 rs20 x20).Src.Val), .int .i64 ((m_r08_facts_bind cs20 rs20 x20).Src.Add)], .box b21 66 (GOp.cells x20).toArray, .ownl A26 c26 66 (p20 ++ [(m_r08_facts_bind cs20 rs20 x20)]), .box b17 60 #[.int .i64 x10.Params, .slice A20 p20.length c20, .int .i64 (0 : Int), .int .i64 (0 : Int), .int .i64 (0 : Int), .slice none 0 0, .int .i64 (0 : Int), .slice none 0 0, .int .i64 (0 : Int), .slice none 0 0], .box b15 81 #[.map (some b13), .map (some b14)], .map ekI evI b14 rs20, .map ekI evI b13 cs20, .box b11 60 (GBlock.cells x10).toArray, .rowd F10 A10 c10 60 xs10, .box b6 26 #[.int .i64 a0.Params, .slice A10 xs10.length c10, .slice a0.Contexts.a a0.Contexts.l.length a0.Contexts.c, .slice a0.Objects.a a0.Objects.l.length a0.Objects.c], .box b2 26 #[.int .i64 (0 : Int), .slice none 0 0, .slice none 0 0, .slice none 0 0], .box b1 26 (GCode.cells a0).toArray] := hL.app 2 rfl ho26 hg26 hr26
        refine ⟨(sl_late 6 rfl), ?_⟩
        refine hTake 7 rfl (by kernel_rfl) rfl (fun wS => (xFld (k := 1) Try.underlying60 rfl rfl ti53 (by decide) rfl)) (sl_late 6 rfl) ?_
        refine hOne 8 (by kernel_rfl) (oSt1 rfl rfl ti53 rfl rfl rfl (hL.bk 3 rfl) (Nat.le_of_ble_eq_true rfl) ?_)
        intro w27 hB27 hC27
        replace hL : Bx w0 w27 [.box b25 66 #[.int .i64 ((m_r08_facts_bind cs20 rs20 x20).Kind), .int .i64 ((m_r08_facts_bind cs20 rs20 x20).Dst), .int .i64 ((m_r08_facts_bind cs20 rs20 x20).A), .int .i64 ((m_r08_facts_bind cs20 rs20 x20).B), .int .i64 ((m_r08_facts_bind cs20 rs20 x20).N), .int .i64 ((m_r08_facts_bind cs20 rs20 x20).Ctx), .int .i64 ((m_r08_facts_bind cs20 rs20 x20).Var), .int .i64 ((m_r08_facts_bind cs20 rs20 x20).Piece), .int .i64 ((m_r08_facts_bind cs20 rs20 x20).Src.Kind), .int .i64 ((m_r08_facts_bind cs20 rs20 x20).Src.Val), .int .i64 ((m_r08_facts_bind cs20 rs20 x20).Src.Add)], .box b21 66 (GOp.cells x20).toArray, .ownl A26 c26 66 (p20 ++ [(m_r08_facts_bind cs20 rs20 x20)]), .box b17 60 #[.int .i64 x10.Params, .slice A26 (p20 ++ [(m_r08_facts_bind cs20 rs20 x20)]).length c26, .int .i64 (0 : Int), .int .i64 (0 : Int), .int .i64 (0 : Int), .slice none 0 0, .int .i64 (0 : Int), .slice none 0 0, .int .i64 (0 : Int), .slice none 0 0], .box b15 81 #[.map (some b13), .map (some b14)], .map ekI evI b14 rs20, .map ekI evI b13 cs20, .box b11 60 (GBlock.cells x10).toArray, .rowd F10 A10 c10 60 xs10, .box b6 26 #[.int .i64 a0.Params, .slice A10 xs10.length c10, .slice a0.Contexts.a a0.Contexts.l.length a0.Contexts.c, .slice a0.Objects.a a0.Objects.l.length a0.Objects.c], .box b2 26 #[.int .i64 (0 : Int), .slice none 0 0, .slice none 0 0, .slice none 0 0], .box b1 26 (GCode.cells a0).toArray] := hL.wr 3 rfl hC27 hB27
        refine ⟨(sl_late 6 rfl), ?_⟩
        refine hDone (by kernel_rfl) (wReg (sRun (xAdd64 rfl rfl (by omega) (by omega)) (sRun (xMvI rfl) (sNil ?_))))
        subst hY20
        exact ⟨x10.Ops.l.length - (k20 + 1), by omega, k20 + 1, _, _, p20 ++ [(m_r08_facts_bind cs20 rs20 x20)], _, _, rfl, by omega, by rw [List.length_append, hl20]; rfl, by rw [hE20]; simp, ⟨rfl, rfl, rfl, rfl, rfl, rfl, rfl, rfl, rfl, rfl, rfl, trivial⟩, hL.tl.tl⟩
       ·try rw [decide_eq_false h23]
        rw [if_neg h23] at hY20
        refine wIfF rfl ?_
        replace hL := hL.drew
        refine wDraw (fun wS => Bx w0 wS [.box b21 66 (GOp.cells x20).toArray, .ownl A20 c20 66 p20, .box b17 60 #[.int .i64 x10.Params, .slice A20 p20.length c20, .int .i64 (0 : Int), .int .i64 (0 : Int), .int .i64 (0 : Int), .slice none 0 0, .int .i64 (0 : Int), .slice none 0 0, .int .i64 (0 : Int), .slice none 0 0], .box b15 81 #[.map (some b13), .map (some b14)], .box b11 60 (GBlock.cells x10).toArray, .rowd F10 A10 c10 60 xs10, .box b6 26 #[.int .i64 a0.Params, .slice A10 xs10.length c10, .slice a0.Contexts.a a0.Contexts.l.length a0.Contexts.c, .slice a0.Objects.a a0.Objects.l.length a0.Objects.c], .box b2 26 #[.int .i64 (0 : Int), .slice none 0 0, .slice none 0 0, .slice none 0 0], .box b1 26 (GCode.cells a0).toArray]) [6, 8] (by kernel_rfl) (hTake 0 rfl (by kernel_rfl) rfl (fun wS => (xFld (k := 1) Try.underlying60 rfl rfl ti53 (by decide) rfl)) (sl_of (((((((((((hL.front 10 rfl).front 10 rfl).front 10 rfl).front 10 rfl).front 10 rfl).front 8 rfl).front 8 rfl).front 8 rfl).front 8 rfl).front 10 rfl).front 10 rfl).tl.tl) (hTakeS 1 rfl (by kernel_rfl) (by kernel_rfl) rfl (fun wS hS => (xLoad Try.underlying53 rfl rfl ((hS.bk 2 rfl).cell (i := 1) rfl))) (sl_of (((((((((((hL.front 10 rfl).front 10 rfl).front 10 rfl).front 10 rfl).front 10 rfl).front 8 rfl).front 8 rfl).front 8 rfl).front 8 rfl).front 10 rfl).front 10 rfl).tl.tl) (hTakeS 2 rfl (by kernel_rfl) (by kernel_rfl) rfl (fun wS hS => (xLoadS [.map (some b13), .map (some b14)] Try.underlying81 rfl ti81 rfl rfl ((hS.bk 3 rfl).part rfl))) (sl_of (((((((((((hL.front 10 rfl).front 10 rfl).front 10 rfl).front 10 rfl).front 10 rfl).front 8 rfl).front 8 rfl).front 8 rfl).front 8 rfl).front 10 rfl).front 10 rfl).tl.tl) (hTakeS 3 rfl (by kernel_rfl) (by kernel_rfl) rfl (fun wS hS => (xLoadS (GOp.cells x20) Try.underlying66 rfl ti66 rfl rfl ((hS.bk 0 rfl).part rfl))) (sl_of (((((((((((hL.front 10 rfl).front 10 rfl).front 10 rfl).front 10 rfl).front 10 rfl).front 8 rfl).front 8 rfl).front 8 rfl).front 8 rfl).front 10 rfl).front 10 rfl).tl.tl) ?_))))
        replace hL : Bx w0 _ [.map ekI evI b13 cs20, .map ekI evI b14 rs20, .box b21 66 (GOp.cells x20).toArray, .ownl A20 c20 66 p20, .box b17 60 #[.int .i64 x10.Params, .slice A20 p20.length c20, .int .i64 (0 : Int), .int .i64 (0 : Int), .int .i64 (0 : Int), .slice none 0 0, .int .i64 (0 : Int), .slice none 0 0, .int .i64 (0 : Int), .slice none 0 0], .box b15 81 #[.map (some b13), .map (some b14)], .box b11 60 (GBlock.cells x10).toArray, .rowd F10 A10 c10 60 xs10, .box b6 26 #[.int .i64 a0.Params, .slice A10 xs10.length c10, .slice a0.Contexts.a a0.Contexts.l.length a0.Contexts.c, .slice a0.Objects.a a0.Objects.l.length a0.Objects.c], .box b2 26 #[.int .i64 (0 : Int), .slice none 0 0, .slice none 0 0, .slice none 0 0], .box b1 26 (GCode.cells a0).toArray] := ((hL.front 4 rfl).front 5 rfl)
        refine hOne 4 (by kernel_rfl) (oCall rfl rfl (eCall cal40 rfl) (sp_m_r08_facts_op w0 _ [.box b21 66 (GOp.cells x20).toArray, .ownl A20 c20 66 p20, .box b17 60 #[.int .i64 x10.Params, .slice A20 p20.length c20, .int .i64 (0 : Int), .int .i64 (0 : Int), .int .i64 (0 : Int), .slice none 0 0, .int .i64 (0 : Int), .slice none 0 0, .int .i64 (0 : Int), .slice none 0 0], .box b15 81 #[.map (some b13), .map (some b14)], .box b11 60 (GBlock.cells x10).toArray, .rowd F10 A10 c10 60 xs10, .box b6 26 #[.int .i64 a0.Params, .slice A10 xs10.length c10, .slice a0.Contexts.a a0.Contexts.l.length a0.Contexts.c, .slice a0.Objects.a a0.Objects.l.length a0.Objects.c], .box b2 26 #[.int .i64 (0 : Int), .slice none 0 0, .slice none 0 0, .slice none 0 0], .box b1 26 (GCode.cells a0).toArray] b13 cs20 b14 rs20 x20 hL) ?_)
        rintro _ w28 ⟨rfl, hL28⟩
        obtain ⟨y28, hy28⟩ : ∃ y, (m_r08_facts_op cs20 rs20 x20) = y := ⟨_, rfl⟩
        rw [hy28] at hL28
        rw [hy28, lt_eq] at hY20
        try dsimp only at hY20
        try rw [hy28]
        replace hL : Bx w0 w28 [.map ekI evI b13 y28.2.1, .map ekI evI b14 y28.2.2, .box b21 66 (GOp.cells x20).toArray, .ownl A20 c20 66 p20, .box b17 60 #[.int .i64 x10.Params, .slice A20 p20.length c20, .int .i64 (0 : Int), .int .i64 (0 : Int), .int .i64 (0 : Int), .slice none 0 0, .int .i64 (0 : Int), .slice none 0 0, .int .i64 (0 : Int), .slice none 0 0], .box b15 81 #[.map (some b13), .map (some b14)], .box b11 60 (GBlock.cells x10).toArray, .rowd F10 A10 c10 60 xs10, .box b6 26 #[.int .i64 a0.Params, .slice A10 xs10.length c10, .slice a0.Contexts.a a0.Contexts.l.length a0.Contexts.c, .slice a0.Objects.a a0.Objects.l.length a0.Objects.c], .box b2 26 #[.int .i64 (0 : Int), .slice none 0 0, .slice none 0 0, .slice none 0 0], .box b1 26 (GCode.cells a0).toArray] := hL28
        refine ⟨(sl_of hL.tl.tl), ?_⟩
        refine hOne 5 (by kernel_rfl) (oTo rfl rfl (aRow (bs12_52 rfl)) ?_)
        rintro _ w29 ⟨b29, rfl, hge29, hB29, he29⟩
        replace hL := hL.new hge29 hB29 he29
        refine ⟨(sl_of hL.tl.tl.tl), ?_⟩
        refine hOne 6 (by kernel_rfl) (oTo rfl rfl (aAppL (xs := p20) (ys := [y28.1]) Try.underlying53 ti66 rfl (by decide) rfl rfl (hL.bo 4 rfl) ((hL.bk 0 rfl).sl1 (α := GOp) [y28.1] rfl rfl) (allOne rfl) (by first | omega | (simp only [List.length_append, List.length_cons, List.length_nil] at *; omega)) (by first | omega | (simp only [List.length_append, List.length_cons, List.length_nil] at *; omega))) ?_)
        rintro _ w30 ⟨A30, c30, rfl, ho30, hg30, hr30⟩
        replace hL : Bx w0 w30 [.box b29 66 #[.int .i64 y28.1.Kind, .int .i64 y28.1.Dst, .int .i64 y28.1.A, .int .i64 y28.1.B, .int .i64 y28.1.N, .int .i64 y28.1.Ctx, .int .i64 y28.1.Var, .int .i64 y28.1.Piece, .int .i64 y28.1.Src.Kind, .int .i64 y28.1.Src.Val, .int .i64 y28.1.Src.Add], .map ekI evI b13 y28.2.1, .map ekI evI b14 y28.2.2, .box b21 66 (GOp.cells x20).toArray, .ownl A30 c30 66 (p20 ++ [y28.1]), .box b17 60 #[.int .i64 x10.Params, .slice A20 p20.length c20, .int .i64 (0 : Int), .int .i64 (0 : Int), .int .i64 (0 : Int), .slice none 0 0, .int .i64 (0 : Int), .slice none 0 0, .int .i64 (0 : Int), .slice none 0 0], .box b15 81 #[.map (some b13), .map (some b14)], .box b11 60 (GBlock.cells x10).toArray, .rowd F10 A10 c10 60 xs10, .box b6 26 #[.int .i64 a0.Params, .slice A10 xs10.length c10, .slice a0.Contexts.a a0.Contexts.l.length a0.Contexts.c, .slice a0.Objects.a a0.Objects.l.length a0.Objects.c], .box b2 26 #[.int .i64 (0 : Int), .slice none 0 0, .slice none 0 0, .slice none 0 0], .box b1 26 (GCode.cells a0).toArray] := hL.app 4 rfl ho30 hg30 hr30
        refine ⟨(sl_late 6 rfl), ?_⟩
        refine hTake 7 rfl (by kernel_rfl) rfl (fun wS => (xFld (k := 1) Try.underlying60 rfl rfl ti53 (by decide) rfl)) (sl_late 6 rfl) ?_
        refine hOne 8 (by kernel_rfl) (oSt1 rfl rfl ti53 rfl rfl rfl (hL.bk 5 rfl) (Nat.le_of_ble_eq_true rfl) ?_)
        intro w31 hB31 hC31
        replace hL : Bx w0 w31 [.box b29 66 #[.int .i64 y28.1.Kind, .int .i64 y28.1.Dst, .int .i64 y28.1.A, .int .i64 y28.1.B, .int .i64 y28.1.N, .int .i64 y28.1.Ctx, .int .i64 y28.1.Var, .int .i64 y28.1.Piece, .int .i64 y28.1.Src.Kind, .int .i64 y28.1.Src.Val, .int .i64 y28.1.Src.Add], .map ekI evI b13 y28.2.1, .map ekI evI b14 y28.2.2, .box b21 66 (GOp.cells x20).toArray, .ownl A30 c30 66 (p20 ++ [y28.1]), .box b17 60 #[.int .i64 x10.Params, .slice A30 (p20 ++ [y28.1]).length c30, .int .i64 (0 : Int), .int .i64 (0 : Int), .int .i64 (0 : Int), .slice none 0 0, .int .i64 (0 : Int), .slice none 0 0, .int .i64 (0 : Int), .slice none 0 0], .box b15 81 #[.map (some b13), .map (some b14)], .box b11 60 (GBlock.cells x10).toArray, .rowd F10 A10 c10 60 xs10, .box b6 26 #[.int .i64 a0.Params, .slice A10 xs10.length c10, .slice a0.Contexts.a a0.Contexts.l.length a0.Contexts.c, .slice a0.Objects.a a0.Objects.l.length a0.Objects.c], .box b2 26 #[.int .i64 (0 : Int), .slice none 0 0, .slice none 0 0, .slice none 0 0], .box b1 26 (GCode.cells a0).toArray] := hL.wr 5 rfl hC31 hB31
        refine ⟨(sl_late 6 rfl), ?_⟩
        refine hDone (by kernel_rfl) (wReg (sRun (xAdd64 rfl rfl (by omega) (by omega)) (sRun (xMvI rfl) (sNil ?_))))
        subst hY20
        exact ⟨x10.Ops.l.length - (k20 + 1), by omega, k20 + 1, _, _, p20 ++ [y28.1], _, _, rfl, by omega, by rw [List.length_append, hl20]; rfl, by rw [hE20]; simp, ⟨rfl, rfl, rfl, rfl, rfl, rfl, rfl, rfl, rfl, rfl, rfl, trivial⟩, ((((((((((((hL.front 11 rfl).front 11 rfl).front 11 rfl).front 11 rfl).front 11 rfl).front 6 rfl).front 7 rfl).front 11 rfl).front 11 rfl).front 11 rfl).front 11 rfl).front 11 rfl).tl.tl⟩
      ·obtain rfl : k20 = x10.Ops.l.length := by omega
       rw [drop_end, m_rops, List.append_nil] at hE20
       refine wSeq (wReg (sRun (xLssF rfl rfl (by omega)) (sNil (wSeq (wIfF rfl (wExit ?_))))))
       exact ⟨_, _, _, _, _, hl20, hE20.symm, ⟨rfl, rfl, rfl, rfl, rfl, rfl, rfl, rfl, rfl, rfl, trivial⟩, hL⟩
     ·clear hL
      rintro f w ⟨A20, c20, p20, cs20, rs20, hl20, hE20, hf, hL⟩
      obtain ⟨g, rfl⟩ := has_updL _ _ hf
      clear hf
      rw [← hE20] at hY10
      try dsimp only at hY10
      refine wSeq (wReg (sRun (xLoadS [.map (some b13), .map (some b14)] Try.underlying81 rfl ti81 rfl rfl ((hL.bk 2 rfl).part rfl)) (sRun (xFld (k := 2) Try.underlying60 rfl rfl ti58 (by decide) rfl) (sRun (xLoadS (GTerm.cells x10.Term) Try.underlying58 rfl ti58 rfl rfl ((hL.bk 5 rfl).part rfl)) (sCall (eCall cal41 rfl) (sp_m_r08_facts_term _ b13 cs20 (hL.mp 4 rfl) b14 rs20 (hL.mp 3 rfl) x10.Term (Dat.all (Dat.ext (x := x10.Term) ((Lst.elok h0.1 hx10).2) hL.1))) ?_)))))
      rintro _ w32 ⟨r32, rfl, hr32, ho32, he32⟩
      obtain ⟨lo32, hi32, hL⟩ := hL.got' he32 ho32
      try rw [← hr32] at hY10
      refine sRun (xFld (k := 2) Try.underlying60 rfl rfl ti58 (by decide) rfl) (sSlS 2 (T := fun cs => .box b17 60 cs.toArray) (b := b17) (o := 0) (k := 2) (cs := [.int .i64 x10.Params, .slice A20 p20.length c20, .int .i64 (0 : Int), .int .i64 (0 : Int), .int .i64 (0 : Int), .slice none 0 0, .int .i64 (0 : Int), .slice none 0 0, .int .i64 (0 : Int), .slice none 0 0]) (Slot.box b17 60) ti58 rfl rfl rfl rfl (by simp [Value.oneCell', Dat.cells, GTerm.cells]) hL rfl rfl ?_)
      intro w33 hL33
      replace hL : Bx w0 w33 [.dat lo32 hi32 r32, .ownl A20 c20 66 p20, .box b17 60 #[.int .i64 x10.Params, .slice A20 p20.length c20, .int .i64 r32.Kind, .int .i64 r32.A, .int .i64 r32.N, .slice r32.Args.a r32.Args.l.length r32.Args.c, .int .i64 r32.To.e0.Block, .slice r32.To.e0.Args.a r32.To.e0.Args.l.length r32.To.e0.Args.c, .int .i64 r32.To.e1.Block, .slice r32.To.e1.Args.a r32.To.e1.Args.l.length r32.To.e1.Args.c], .box b15 81 #[.map (some b13), .map (some b14)], .map ekI evI b14 rs20, .map ekI evI b13 cs20, .box b11 60 (GBlock.cells x10).toArray, .rowd F10 A10 c10 60 xs10, .box b6 26 #[.int .i64 a0.Params, .slice A10 xs10.length c10, .slice a0.Contexts.a a0.Contexts.l.length a0.Contexts.c, .slice a0.Objects.a a0.Objects.l.length a0.Objects.c], .box b2 26 #[.int .i64 (0 : Int), .slice none 0 0, .slice none 0 0, .slice none 0 0], .box b1 26 (GCode.cells a0).toArray] := hL33
      refine sNil (wReg (sRun (xFld (k := 1) Try.underlying26 rfl rfl ti22 (by decide) rfl) (sRun (xLoad Try.underlying22 rfl rfl ((hL.bk 8 rfl).cell (i := 1) rfl)) (sRun (xLoadS [.int .i64 x10.Params, .slice A20 p20.length c20, .int .i64 r32.Kind, .int .i64 r32.A, .int .i64 r32.N, .slice r32.Args.a r32.Args.l.length r32.Args.c, .int .i64 r32.To.e0.Block, .slice r32.To.e0.Args.a r32.To.e0.Args.l.length r32.To.e0.Args.c, .int .i64 r32.To.e1.Block, .slice r32.To.e1.Args.a r32.To.e1.Args.l.length r32.To.e1.Args.c] Try.underlying60 rfl ti60 rfl rfl ((hL.bk 2 rfl).part rfl)) (sTo (aRow (bs12_64 rfl)) ?_)))))
      rintro _ w34 ⟨b34, rfl, hge34, hB34, he34⟩
      replace hL := hL.new hge34 hB34 he34
      have hL36 := (((((((((((((hL.front 11 rfl).front 11 rfl).front 11 rfl).front 11 rfl).front 11 rfl).front 11 rfl).front 11 rfl).front 11 rfl).front 11 rfl).front 9 rfl).front 10 rfl).front 11 rfl)).two
      replace hL : Bx w0 _ [.datF ((It.two (.ownl A20 c20 66 p20) (.dat lo32 hi32 r32)).F) (⟨x10.Params, ⟨A20, c20, p20⟩, r32⟩ : (GBlock Lst)), .box b34 60 #[.int .i64 x10.Params, .slice A20 p20.length c20, .int .i64 r32.Kind, .int .i64 r32.A, .int .i64 r32.N, .slice r32.Args.a r32.Args.l.length r32.Args.c, .int .i64 r32.To.e0.Block, .slice r32.To.e0.Args.a r32.To.e0.Args.l.length r32.To.e0.Args.c, .int .i64 r32.To.e1.Block, .slice r32.To.e1.Args.a r32.To.e1.Args.l.length r32.To.e1.Args.c], .box b17 60 #[.int .i64 x10.Params, .slice A20 p20.length c20, .int .i64 r32.Kind, .int .i64 r32.A, .int .i64 r32.N, .slice r32.Args.a r32.Args.l.length r32.Args.c, .int .i64 r32.To.e0.Block, .slice r32.To.e0.Args.a r32.To.e0.Args.l.length r32.To.e0.Args.c, .int .i64 r32.To.e1.Block, .slice r32.To.e1.Args.a r32.To.e1.Args.l.length r32.To.e1.Args.c], .box b15 81 #[.map (some b13), .map (some b14)], .map ekI evI b14 rs20, .map ekI evI b13 cs20, .box b11 60 (GBlock.cells x10).toArray, .rowd F10 A10 c10 60 xs10, .box b6 26 #[.int .i64 a0.Params, .slice A10 xs10.length c10, .slice a0.Contexts.a a0.Contexts.l.length a0.Contexts.c, .slice a0.Objects.a a0.Objects.l.length a0.Objects.c], .box b2 26 #[.int .i64 (0 : Int), .slice none 0 0, .slice none 0 0, .slice none 0 0], .box b1 26 (GCode.cells a0).toArray] := hL36.weak (it' := .datF (It.two (.ownl A20 c20 66 p20) (.dat lo32 hi32 r32)).F (⟨x10.Params, ⟨A20, c20, p20⟩, r32⟩ : (GBlock Lst))) (fun b hb => hb) (fun hp => ⟨fun b hb => It.bd (It.two (.ownl A20 c20 66 p20) (.dat lo32 hi32 r32)) _ hp b hb, ⟨Own.okF (e := 66) hp.1 (fun b hb => (.inl hb)) (fun _ _ => trivial) (show p20.length * 88 ≤ 140737488355328 by first | omega | (simp only [List.length_append, List.length_cons, List.length_nil] at *; omega)), ⟨Dat.mv hp.2.2.1 (fun b hb _ => ⟨(.inr hb), rfl⟩) (Nat.le_refl _), ⟨Dat.mv hp.2.2.2.1 (fun b hb _ => ⟨(.inr hb), rfl⟩) (Nat.le_refl _), Dat.mv hp.2.2.2.2 (fun b hb _ => ⟨(.inr hb), rfl⟩) (Nat.le_refl _)⟩⟩⟩⟩)
      refine sTo (aAppL (α := (GBlock Lst)) (xs := xs10) (ys := [(⟨x10.Params, ⟨A20, c20, p20⟩, r32⟩ : (GBlock Lst))]) Try.underlying22 ti60 rfl (by decide) rfl rfl (hL.at 7 rfl).1 ((hL.bk 1 rfl).sl1 (α := (GBlock Lst)) [(⟨x10.Params, ⟨A20, c20, p20⟩, r32⟩ : (GBlock Lst))] rfl rfl) (allOne rfl) (by first | omega | (simp only [List.length_append, List.length_cons, List.length_nil] at *; omega)) (by first | omega | (simp only [List.length_append, List.length_cons, List.length_nil] at *; omega))) ?_
      rintro _ w35 ⟨A35, c35, rfl, ho35, hg35, hr35⟩
      replace hL : Bx w0 w35 [.rowd (fun b => F10 b ∨ ((It.two (.ownl A20 c20 66 p20) (.dat lo32 hi32 r32)).F) b) A35 c35 60 (xs10 ++ [(⟨x10.Params, ⟨A20, c20, p20⟩, r32⟩ : (GBlock Lst))]), .box b34 60 #[.int .i64 x10.Params, .slice A20 p20.length c20, .int .i64 r32.Kind, .int .i64 r32.A, .int .i64 r32.N, .slice r32.Args.a r32.Args.l.length r32.Args.c, .int .i64 r32.To.e0.Block, .slice r32.To.e0.Args.a r32.To.e0.Args.l.length r32.To.e0.Args.c, .int .i64 r32.To.e1.Block, .slice r32.To.e1.Args.a r32.To.e1.Args.l.length r32.To.e1.Args.c], .box b17 60 #[.int .i64 x10.Params, .slice A20 p20.length c20, .int .i64 r32.Kind, .int .i64 r32.A, .int .i64 r32.N, .slice r32.Args.a r32.Args.l.length r32.Args.c, .int .i64 r32.To.e0.Block, .slice r32.To.e0.Args.a r32.To.e0.Args.l.length r32.To.e0.Args.c, .int .i64 r32.To.e1.Block, .slice r32.To.e1.Args.a r32.To.e1.Args.l.length r32.To.e1.Args.c], .box b15 81 #[.map (some b13), .map (some b14)], .map ekI evI b14 rs20, .map ekI evI b13 cs20, .box b11 60 (GBlock.cells x10).toArray, .box b6 26 #[.int .i64 a0.Params, .slice A10 xs10.length c10, .slice a0.Contexts.a a0.Contexts.l.length a0.Contexts.c, .slice a0.Objects.a a0.Objects.l.length a0.Objects.c], .box b2 26 #[.int .i64 (0 : Int), .slice none 0 0, .slice none 0 0, .slice none 0 0], .box b1 26 (GCode.cells a0).toArray] := ((((((((((((hL.front 10 rfl).front 10 rfl).front 10 rfl).front 9 rfl).front 9 rfl).front 9 rfl).front 9 rfl).front 9 rfl).front 9 rfl).front 9 rfl).front 10 rfl)).rowdApp ho35 hg35 hr35
      refine sRun (xFld (k := 1) Try.underlying26 rfl rfl ti22 (by decide) rfl) (sSt1 ti22 rfl rfl rfl (hL.bk 7 rfl) (Nat.le_of_ble_eq_true rfl) ?_)
      intro w37 hB37 hC37
      replace hL : Bx w0 w37 [.rowd (fun b => F10 b ∨ ((It.two (.ownl A20 c20 66 p20) (.dat lo32 hi32 r32)).F) b) A35 c35 60 (xs10 ++ [(⟨x10.Params, ⟨A20, c20, p20⟩, r32⟩ : (GBlock Lst))]), .box b34 60 #[.int .i64 x10.Params, .slice A20 p20.length c20, .int .i64 r32.Kind, .int .i64 r32.A, .int .i64 r32.N, .slice r32.Args.a r32.Args.l.length r32.Args.c, .int .i64 r32.To.e0.Block, .slice r32.To.e0.Args.a r32.To.e0.Args.l.length r32.To.e0.Args.c, .int .i64 r32.To.e1.Block, .slice r32.To.e1.Args.a r32.To.e1.Args.l.length r32.To.e1.Args.c], .box b17 60 #[.int .i64 x10.Params, .slice A20 p20.length c20, .int .i64 r32.Kind, .int .i64 r32.A, .int .i64 r32.N, .slice r32.Args.a r32.Args.l.length r32.Args.c, .int .i64 r32.To.e0.Block, .slice r32.To.e0.Args.a r32.To.e0.Args.l.length r32.To.e0.Args.c, .int .i64 r32.To.e1.Block, .slice r32.To.e1.Args.a r32.To.e1.Args.l.length r32.To.e1.Args.c], .box b15 81 #[.map (some b13), .map (some b14)], .map ekI evI b14 rs20, .map ekI evI b13 cs20, .box b11 60 (GBlock.cells x10).toArray, .box b6 26 #[.int .i64 a0.Params, .slice A35 (xs10 ++ [(⟨x10.Params, ⟨A20, c20, p20⟩, r32⟩ : (GBlock Lst))]).length c35, .slice a0.Contexts.a a0.Contexts.l.length a0.Contexts.c, .slice a0.Objects.a a0.Objects.l.length a0.Objects.c], .box b2 26 #[.int .i64 (0 : Int), .slice none 0 0, .slice none 0 0, .slice none 0 0], .box b1 26 (GCode.cells a0).toArray] := hL.wr 7 rfl hC37 hB37
      refine sNil (wReg (sRun (xAdd64 rfl rfl (by omega) (by omega)) (sRun (xMvI rfl) (sNil ?_))))
      subst hY10
      have hy10 : GBlock.er (⟨x10.Params, ⟨A20, c20, p20⟩, r32⟩ : (GBlock Lst)) = m_rblock (GBlock.er x10) := hY010.symm
      exact ⟨a0.Blocks.l.length - (k10 + 1), by omega, k10 + 1, _, _, _, _, rfl, by omega, by rw [List.length_append, hl10]; rfl, loop_eq hE10 hx10 hy10, ⟨rfl, rfl, rfl, rfl, rfl, trivial⟩, ((((((((((hL.front 9 rfl).front 9 rfl).front 9 rfl).front 3 rfl).front 9 rfl).front 9 rfl).front 9 rfl).front 9 rfl).front 9 rfl).front 9 rfl).tl.tl.tl.tl.tl.tl⟩
    ·obtain rfl : k10 = a0.Blocks.l.length := by omega
     rw [take_end] at hE10
     refine wSeq (wReg (sRun (xLssF rfl rfl (by omega)) (sNil (wSeq (wIfF rfl (wExit ?_))))))
     exact ⟨_, _, _, _, hl10, hE10, ⟨rfl, rfl, rfl, rfl, trivial⟩, hL⟩
   ·clear hL
    rintro f w ⟨F10, A10, c10, xs10, hl10, hE10, hf, hL⟩
    obtain ⟨g, rfl⟩ := has_updL _ _ hf
    clear hf
    try rw [← hE10] at hM
    refine wSeq (wReg (sRun (xLoadS [.int .i64 a0.Params, .slice A10 xs10.length c10, .slice a0.Contexts.a a0.Contexts.l.length a0.Contexts.c, .slice a0.Objects.a a0.Objects.l.length a0.Objects.c] Try.underlying26 rfl ti26 rfl rfl ((hL.bk 1 rfl).part rfl)) (sStS ti26 rfl rfl rfl (by simp [Value.oneCell', Dat.cells, GCode.cells]) (hL.bk 2 rfl) rfl ?_)))
    intro w38 hB38 hC38
    replace hL : Bx w0 w38 [.rowd F10 A10 c10 60 xs10, .box b6 26 #[.int .i64 a0.Params, .slice A10 xs10.length c10, .slice a0.Contexts.a a0.Contexts.l.length a0.Contexts.c, .slice a0.Objects.a a0.Objects.l.length a0.Objects.c], .box b2 26 #[.int .i64 a0.Params, .slice A10 xs10.length c10, .slice a0.Contexts.a a0.Contexts.l.length a0.Contexts.c, .slice a0.Objects.a a0.Objects.l.length a0.Objects.c], .box b1 26 (GCode.cells a0).toArray] := hL.wr 2 rfl hC38 hB38
    refine sNil (wRet (resC (P := Try.prog) (fn := Try.f12) rfl Try.underlying26 rfl ti26 rfl rfl (hL.bk 2 rfl) ?_))
    exact ⟨(⟨a0.Params, ⟨A10, c10, xs10⟩, a0.Contexts, a0.Objects⟩ : (GCode Lst)), rfl, hM, ⟨Own.okF (hL.at 0 rfl).1 (fun _ _ => trivial) (fun x hx => Dat.all ((hL.at 0 rfl).2.2.2 x hx)) (show xs10.length * 144 ≤ 140737488355328 by omega), Dat.all (Dat.ext (x := a0.Contexts) h0.2.1 hL.1), Dat.all (Dat.ext (x := a0.Objects) h0.2.2 hL.1)⟩, hL.1⟩

end Go.Proofs.Ytbpccmnalhdpmaa
