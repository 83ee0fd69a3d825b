/- Contracts, printed by gen4.py. -/
import Derived.Test.YtbpccmnalhdpmaaFe
import Derived.Test.YtbpccmnalhdpmaaGi
set_option linter.unusedVariables false
set_option linter.unusedSimpArgs false
set_option maxRecDepth 4000
namespace Go.Proofs.Ytbpccmnalhdpmaa
open Go.RowKit Go.Fw
def m_fold_Fold (a0 : (GCode List)) : (GCode List) :=
 if (m_ir_CheckCode a0) ≠ (0 : Int) then
  (⟨a0.Params, a0.Blocks, a0.Contexts, a0.Objects⟩ : (GCode List))
 else
  (⟨a0.Params, (a0.Blocks.map m_foldBlock), a0.Contexts, a0.Objects⟩ : (GCode List))
theorem bd10_18 {ρ : Operand → Value} {w : World} {d : Option Nat} {ty : TypeId} {pos : String} {af : Array Edge} {g : Option (Nat × Bool)} {x0 : Int} {x2A : Option Addr} {x2n x2c : Nat} {x3A : Option Addr} {x3n x3c : Nat} {o0 : Operand} {o2 : Operand} {o3 : Operand} (h0 : ρ o0 = .int .i64 x0) (h2 : ρ o2 = .slice x2A x2n x2c) (h3 : ρ o3 = .slice x3A x3n x3c) : Yl Try.prog ρ (.build 26 #[(0, o0), (2, o2), (3, o3)]) d ty pos af g w (.agg #[.int .i64 x0, .slice none 0 0, .slice x2A x2n x2c, .slice x3A x3n x3c]) := by
  have e : (Instr.build 26 #[(0, .int .i64 x0), (2, .slice x2A x2n x2c), (3, .slice x3A x3n x3c)]).run Try.prog w = .ok (.agg #[.int .i64 x0, .slice none 0 0, .slice x2A x2n x2c, .slice x3A x3n x3c]) w := by kernel_rfl
  simp [Yl, execOp, h0, h2, h3, e]
theorem bs10_30 {ρ : Operand → Value} {w : World} {d : Option Nat} {ty : TypeId} {pos : String} {af : Array Edge} {g : Option (Nat × Bool)} {x00_ : Int} {x01_A : Option Addr} {x01_n x01_c : Nat} {x02_0_ : Int} {x02_1_ : Int} {x02_2_ : Int} {x02_3_A : Option Addr} {x02_3_n x02_3_c : Nat} {x02_4_0_0_ : Int} {x02_4_0_1_A : Option Addr} {x02_4_0_1_n x02_4_0_1_c : Nat} {x02_4_1_0_ : Int} {x02_4_1_1_A : Option Addr} {x02_4_1_1_n x02_4_1_1_c : Nat} {o0 : Operand} (h0 : ρ o0 = .agg #[.int .i64 x00_, .slice x01_A x01_n x01_c, .int .i64 x02_0_, .int .i64 x02_1_, .int .i64 x02_2_, .slice x02_3_A x02_3_n x02_3_c, .int .i64 x02_4_0_0_, .slice x02_4_0_1_A x02_4_0_1_n x02_4_0_1_c, .int .i64 x02_4_1_0_, .slice x02_4_1_1_A x02_4_1_1_n x02_4_1_1_c]) :
    (execOp ρ ⟨d, .buildSlice 22 1 #[(0, o0)], ty, pos, af, g⟩).run Try.prog w = .ok (.value (.slice (some ⟨w.heap.size, 0, none⟩) 1 1)) (w.alloc (.cells #[.int .i64 x00_, .slice x01_A x01_n x01_c, .int .i64 x02_0_, .int .i64 x02_1_, .int .i64 x02_2_, .slice x02_3_A x02_3_n x02_3_c, .int .i64 x02_4_0_0_, .slice x02_4_0_1_A x02_4_0_1_n x02_4_0_1_c, .int .i64 x02_4_1_0_, .slice x02_4_1_1_A x02_4_1_1_n x02_4_1_1_c] 60)) := by
  have e : (Instr.buildSlice 22 1 #[(0, .agg #[.int .i64 x00_, .slice x01_A x01_n x01_c, .int .i64 x02_0_, .int .i64 x02_1_, .int .i64 x02_2_, .slice x02_3_A x02_3_n x02_3_c, .int .i64 x02_4_0_0_, .slice x02_4_0_1_A x02_4_0_1_n x02_4_0_1_c, .int .i64 x02_4_1_0_, .slice x02_4_1_1_A x02_4_1_1_n x02_4_1_1_c])]).run Try.prog w = .ok (.slice (some ⟨w.heap.size, 0, none⟩) 1 1) (w.alloc (.cells #[.int .i64 x00_, .slice x01_A x01_n x01_c, .int .i64 x02_0_, .int .i64 x02_1_, .int .i64 x02_2_, .slice x02_3_A x02_3_n x02_3_c, .int .i64 x02_4_0_0_, .slice x02_4_0_1_A x02_4_0_1_n x02_4_0_1_c, .int .i64 x02_4_1_0_, .slice x02_4_1_1_A x02_4_1_1_n x02_4_1_1_c] 60)) := by kernel_rfl
  simp [execOp, h0, e]
set_option maxHeartbeats 12800000 in
theorem sp_m_fold_Fold (w0 : World) (a0 : (GCode Lst)) (h0 : Dat.ok (fun _ => True) w0 a0) : Calls Try.prog 10 #[.agg (GCode.cells a0).toArray] w0 (Ret fun v w => ∃ r : (GCode Lst), v = .agg (GCode.cells r).toArray ∧ GCode.er r = m_fold_Fold (GCode.er a0) ∧ Dat.ok (fun _ => True) w r ∧ Ext w0 w) := by
  obtain ⟨X, hM⟩ : ∃ X, m_fold_Fold (GCode.er a0) = X := ⟨_, rfl⟩
  rw [hM]
  unfold m_fold_Fold at hM
  try simp only [er1, er2, er3, er4, er5, er6, er7, er8, er9, er10, er11, er12, er13, er14, er15, er16, er17, List.length_map] at hM
  have hL : Bx w0 w0 [] := Bx.nil
  refine calls_of Try.func10 rfl (Nat.le_of_ble_eq_true rfl) (by kernel_rfl) ?_
  refine wCut [(0, .agg (GCode.cells a0).toArray)] ⟨rfl, trivial⟩ fun g => ?_
  refine wSeq (wReg (sTo (aNew (mBox rfl)) ?_))
  rintro _ w1 ⟨b1, rfl, hge1, hB1, he1⟩
  replace hL := hL.new hge1 hB1 he1
  refine sTo (aNew (mAlloc ti26)) ?_
  rintro _ w2 ⟨b2, rfl, hge2, hB2, he2⟩
  replace hL := hL.new hge2 hB2 he2
  refine sNil (wSeq (wSeq (wReg (sRun (xLoadS (GCode.cells a0) Try.underlying26 rfl ti26 rfl rfl ((hL.bk 1 rfl).part rfl)) (sCall (eCall cal30 rfl) (sp_m_ir_CheckCode _ a0 (Dat.all (Dat.ext (x := a0) h0 hL.1))) ?_)))))
  rintro _ w3 ⟨rfl, he3⟩
  replace hL := hL.ext he3
  refine sRun (xNeqD rfl rfl) (sNil ?_)
  by_cases h4 : (m_ir_CheckCode (GCode.er a0)) ≠ (0 : Int)
  ·try rw [decide_eq_true h4]
   rw [if_pos h4] at hM
   refine wIfT rfl (wSeq (wReg (sRun (xLoadS (GCode.cells a0) Try.underlying26 rfl ti26 rfl rfl ((hL.bk 1 rfl).part rfl)) (sStS ti26 rfl rfl rfl (by simp [Value.oneCell', Dat.cells, GCode.cells]) (hL.bk 0 rfl) rfl ?_))))
   intro w5 hB5 hC5
   replace hL : Bx w0 w5 [.box b2 26 (GCode.cells a0).toArray, .box b1 26 (GCode.cells a0).toArray] := hL.wr 0 rfl hC5 hB5
   refine sNil (wRet (resC (P := Try.prog) (fn := Try.f10) rfl Try.underlying26 rfl ti26 rfl rfl (hL.bk 0 rfl) ?_))
   exact ⟨(⟨a0.Params, a0.Blocks, a0.Contexts, a0.Objects⟩ : (GCode Lst)), rfl, hM, ⟨Dat.all (Dat.ext (x := a0.Blocks) h0.1 hL.1), Dat.all (Dat.ext (x := a0.Contexts) h0.2.1 hL.1), Dat.all (Dat.ext (x := a0.Objects) h0.2.2 hL.1)⟩, hL.1⟩
  ·try rw [decide_eq_false h4]
   rw [if_neg h4] at hM
   refine wIfF rfl (wSkip (wSeq (wJ (fun f w => ∃ (Aq64_0 : Option Addr) (cq64_1 : Nat) (Aq67_0 : Option Addr) (cq67_1 : Nat) (bq69_0 : Nat), Has f [(1, .pointer (some ⟨b1, 0, none⟩)), (2, .pointer (some ⟨b2, 0, none⟩)), (3, .pointer (some ⟨bq69_0, 0, none⟩))] ∧ Bx w0 w [.ownl Aq64_0 cq64_1 69 a0.Contexts.l, .ownl Aq67_0 cq67_1 72 a0.Objects.l, .box bq69_0 26 #[.int .i64 a0.Params, .slice none 0 0, .slice Aq64_0 a0.Contexts.l.length cq64_1, .slice Aq67_0 a0.Objects.l.length cq67_1], .box b2 26 #[.int .i64 (0 : Int), .slice none 0 0, .slice none 0 0, .slice none 0 0], .box b1 26 (GCode.cells a0).toArray]) ?_ ?_)))
   ·replace hL := hL.drew
    refine wDraw (fun wS => Bx w0 wS [.box b2 26 #[.int .i64 (0 : Int), .slice none 0 0, .slice none 0 0, .slice none 0 0], .box b1 26 (GCode.cells a0).toArray]) [] (by kernel_rfl) (hTake 0 rfl (by kernel_rfl) rfl (fun wS => (xFld0 Try.underlying26 rfl rfl ti3 (by decide) rfl)) (sl_of hL) (hTakeS 1 rfl (by kernel_rfl) (by kernel_rfl) rfl (fun wS hS => (xLoad Try.underlying3 rfl rfl ((hS.bk 1 rfl).cell (i := 0) rfl))) (sl_of hL) (hTake 2 rfl (by kernel_rfl) rfl (fun wS => (xFld (k := 2) Try.underlying26 rfl rfl ti23 (by decide) rfl)) (sl_of hL) (hTakeS 3 rfl (by kernel_rfl) (by kernel_rfl) rfl (fun wS hS => (xLoad Try.underlying23 rfl rfl ((hS.bk 1 rfl).cell (i := 2) rfl))) (sl_of hL) (hTake 5 rfl (by kernel_rfl) rfl (fun wS => (xFld (k := 3) Try.underlying26 rfl rfl ti24 (by decide) rfl)) (sl_of hL) (hTakeS 6 rfl (by kernel_rfl) (by kernel_rfl) rfl (fun wS hS => (xLoad Try.underlying24 rfl rfl ((hS.bk 1 rfl).cell (i := 3) rfl))) (sl_of hL) (hTwo 4 9 (by kernel_rfl) ?_ ?_)))))))
    ·refine oCall rfl rfl (eCall cal31 rfl) (sp_clone31 w0 _ [.box b2 26 #[.int .i64 (0 : Int), .slice none 0 0, .slice none 0 0, .slice none 0 0], .box b1 26 (GCode.cells a0).toArray] a0.Contexts h0.2.1 hL) ?_
     rintro _ w7 ⟨A7, c7, rfl, hL7⟩
     replace hL : Bx w0 w7 [.ownl A7 c7 69 a0.Contexts.l, .box b2 26 #[.int .i64 (0 : Int), .slice none 0 0, .slice none 0 0, .slice none 0 0], .box b1 26 (GCode.cells a0).toArray] := hL7
     refine ⟨(sl_of hL.tl), ?_⟩
     refine hTwo 7 9 (by kernel_rfl) ?_ ?_
     ·refine oCall rfl rfl (eCall cal32 rfl) (sp_clone32 w0 _ [.ownl A7 c7 69 a0.Contexts.l, .box b2 26 #[.int .i64 (0 : Int), .slice none 0 0, .slice none 0 0, .slice none 0 0], .box b1 26 (GCode.cells a0).toArray] a0.Objects h0.2.2 hL) ?_
      rintro _ w8 ⟨A8, c8, rfl, hL8⟩
      replace hL : Bx w0 w8 [.ownl A8 c8 72 a0.Objects.l, .ownl A7 c7 69 a0.Contexts.l, .box b2 26 #[.int .i64 (0 : Int), .slice none 0 0, .slice none 0 0, .slice none 0 0], .box b1 26 (GCode.cells a0).toArray] := hL8
      refine ⟨(sl_of hL.tl.tl), ?_⟩
      refine hTake 8 rfl (by kernel_rfl) rfl (fun wS => (bd10_18 rfl rfl rfl)) (sl_of hL.tl.tl) ?_
      refine hOne 9 (by kernel_rfl) (oTo rfl rfl (aNew (mAlloc ti26)) ?_)
      rintro _ w9 ⟨b9, rfl, hge9, hB9, he9⟩
      replace hL := hL.new hge9 hB9 he9
      refine ⟨(sl_of hL.tl.tl.tl), ?_⟩
      refine hOne 10 (by kernel_rfl) (oStS rfl rfl ti26 rfl rfl rfl (by simp [Value.oneCell', Dat.cells, GCode.cells]) (hL.bk 0 rfl) rfl ?_)
      intro w10 hB10 hC10
      replace hL : Bx w0 w10 [.box b9 26 #[.int .i64 a0.Params, .slice none 0 0, .slice A7 a0.Contexts.l.length c7, .slice A8 a0.Objects.l.length c8], .ownl A8 c8 72 a0.Objects.l, .ownl A7 c7 69 a0.Contexts.l, .box b2 26 #[.int .i64 (0 : Int), .slice none 0 0, .slice none 0 0, .slice none 0 0], .box b1 26 (GCode.cells a0).toArray] := hL.wr 0 rfl hC10 hB10
      refine ⟨(sl_of hL.tl.tl.tl), ?_⟩
      refine hDone (by kernel_rfl) ?_
      exact ⟨A7, c7, A8, c8, b9, ⟨rfl, rfl, rfl, trivial⟩, (((hL.perm (List.Perm.swap _ _ _)).perm (List.Perm.cons _ (List.Perm.swap _ _ _))).perm (List.Perm.swap _ _ _))⟩
     ·refine oTo rfl rfl (aNew (mAlloc ti26)) ?_
      rintro _ w11 ⟨b11, rfl, hge11, hB11, he11⟩
      replace hL := hL.new hge11 hB11 he11
      refine ⟨(sl_of hL.tl.tl), ?_⟩
      refine hOne 7 (by kernel_rfl) (oCall rfl rfl (eCall cal32 rfl) (sp_clone32 w0 _ [.box b11 26 #[.int .i64 (0 : Int), .slice none 0 0, .slice none 0 0, .slice none 0 0], .ownl A7 c7 69 a0.Contexts.l, .box b2 26 #[.int .i64 (0 : Int), .slice none 0 0, .slice none 0 0, .slice none 0 0], .box b1 26 (GCode.cells a0).toArray] a0.Objects h0.2.2 hL) ?_)
      rintro _ w12 ⟨A12, c12, rfl, hL12⟩
      replace hL : Bx w0 w12 [.ownl A12 c12 72 a0.Objects.l, .box b11 26 #[.int .i64 (0 : Int), .slice none 0 0, .slice none 0 0, .slice none 0 0], .ownl A7 c7 69 a0.Contexts.l, .box b2 26 #[.int .i64 (0 : Int), .slice none 0 0, .slice none 0 0, .slice none 0 0], .box b1 26 (GCode.cells a0).toArray] := hL12
      refine ⟨(sl_of hL.tl.tl.tl), ?_⟩
      refine hTake 8 rfl (by kernel_rfl) rfl (fun wS => (bd10_18 rfl rfl rfl)) (sl_of hL.tl.tl.tl) ?_
      refine hOne 10 (by kernel_rfl) (oStS rfl rfl ti26 rfl rfl rfl (by simp [Value.oneCell', Dat.cells, GCode.cells]) (hL.bk 1 rfl) rfl ?_)
      intro w13 hB13 hC13
      replace hL : Bx w0 w13 [.ownl A12 c12 72 a0.Objects.l, .box b11 26 #[.int .i64 a0.Params, .slice none 0 0, .slice A7 a0.Contexts.l.length c7, .slice A12 a0.Objects.l.length c12], .ownl A7 c7 69 a0.Contexts.l, .box b2 26 #[.int .i64 (0 : Int), .slice none 0 0, .slice none 0 0, .slice none 0 0], .box b1 26 (GCode.cells a0).toArray] := hL.wr 1 rfl hC13 hB13
      refine ⟨(sl_of hL.tl.tl.tl), ?_⟩
      refine hDone (by kernel_rfl) ?_
      exact ⟨A7, c7, A12, c12, b11, ⟨rfl, rfl, rfl, trivial⟩, ((hL.perm (List.Perm.cons _ (List.Perm.swap _ _ _))).perm (List.Perm.swap _ _ _))⟩
    ·refine oTo rfl rfl (aNew (mAlloc ti26)) ?_
     rintro _ w14 ⟨b14, rfl, hge14, hB14, he14⟩
     replace hL := hL.new hge14 hB14 he14
     refine ⟨(sl_of hL.tl), ?_⟩
     refine hOne 4 (by kernel_rfl) (oCall rfl rfl (eCall cal31 rfl) (sp_clone31 w0 _ [.box b14 26 #[.int .i64 (0 : Int), .slice none 0 0, .slice none 0 0, .slice none 0 0], .box b2 26 #[.int .i64 (0 : Int), .slice none 0 0, .slice none 0 0, .slice none 0 0], .box b1 26 (GCode.cells a0).toArray] a0.Contexts h0.2.1 hL) ?_)
     rintro _ w15 ⟨A15, c15, rfl, hL15⟩
     replace hL : Bx w0 w15 [.ownl A15 c15 69 a0.Contexts.l, .box b14 26 #[.int .i64 (0 : Int), .slice none 0 0, .slice none 0 0, .slice none 0 0], .box b2 26 #[.int .i64 (0 : Int), .slice none 0 0, .slice none 0 0, .slice none 0 0], .box b1 26 (GCode.cells a0).toArray] := hL15
     refine ⟨(sl_of hL.tl.tl), ?_⟩
     refine hOne 7 (by kernel_rfl) (oCall rfl rfl (eCall cal32 rfl) (sp_clone32 w0 _ [.ownl A15 c15 69 a0.Contexts.l, .box b14 26 #[.int .i64 (0 : Int), .slice none 0 0, .slice none 0 0, .slice none 0 0], .box b2 26 #[.int .i64 (0 : Int), .slice none 0 0, .slice none 0 0, .slice none 0 0], .box b1 26 (GCode.cells a0).toArray] a0.Objects h0.2.2 hL) ?_)
     rintro _ w16 ⟨A16, c16, rfl, hL16⟩
     replace hL : Bx w0 w16 [.ownl A16 c16 72 a0.Objects.l, .ownl A15 c15 69 a0.Contexts.l, .box b14 26 #[.int .i64 (0 : Int), .slice none 0 0, .slice none 0 0, .slice none 0 0], .box b2 26 #[.int .i64 (0 : Int), .slice none 0 0, .slice none 0 0, .slice none 0 0], .box b1 26 (GCode.cells a0).toArray] := hL16
     refine ⟨(sl_of hL.tl.tl.tl), ?_⟩
     refine hTake 8 rfl (by kernel_rfl) rfl (fun wS => (bd10_18 rfl rfl rfl)) (sl_of hL.tl.tl.tl) ?_
     refine hOne 10 (by kernel_rfl) (oStS rfl rfl ti26 rfl rfl rfl (by simp [Value.oneCell', Dat.cells, GCode.cells]) (hL.bk 2 rfl) rfl ?_)
     intro w17 hB17 hC17
     replace hL : Bx w0 w17 [.ownl A16 c16 72 a0.Objects.l, .ownl A15 c15 69 a0.Contexts.l, .box b14 26 #[.int .i64 a0.Params, .slice none 0 0, .slice A15 a0.Contexts.l.length c15, .slice A16 a0.Objects.l.length c16], .box b2 26 #[.int .i64 (0 : Int), .slice none 0 0, .slice none 0 0, .slice none 0 0], .box b1 26 (GCode.cells a0).toArray] := hL.wr 2 rfl hC17 hB17
     refine ⟨(sl_of hL.tl.tl.tl), ?_⟩
     refine hDone (by kernel_rfl) ?_
     exact ⟨A15, c15, A16, c16, b14, ⟨rfl, rfl, rfl, trivial⟩, (hL.perm (List.Perm.swap _ _ _))⟩
   ·clear hL
    rintro f w ⟨Aq64_0, cq64_1, Aq67_0, cq67_1, bq69_0, hf, hL⟩
    obtain ⟨g, rfl⟩ := has_updL _ _ hf
    clear hf
    refine wSeq (wSeq (wReg (sRun (xFld (k := 1) Try.underlying26 rfl rfl ti22 (by decide) rfl) (sRun (xLoad Try.underlying22 rfl rfl ((hL.bk 4 rfl).cell (i := 1) rfl)) ?_))))
    have hl18 : a0.Blocks.l.length * 144 ≤ 140737488355328 := Lst.bd h0.1
    refine sRun (xLnL (s := a0.Blocks) Try.underlying22 rfl) (sRun (xMvI rfl) (sNil ?_))
    replace hL : Bx w0 _ [.rowd (fun _ => False) none 0 60 ([] : List (GBlock Lst)), .ownl Aq64_0 cq64_1 69 a0.Contexts.l, .ownl Aq67_0 cq67_1 72 a0.Objects.l, .box bq69_0 26 #[.int .i64 a0.Params, .slice none ([] : List (GBlock Lst)).length 0, .slice Aq64_0 a0.Contexts.l.length cq64_1, .slice Aq67_0 a0.Objects.l.length cq67_1], .box b2 26 #[.int .i64 (0 : Int), .slice none 0 0, .slice none 0 0, .slice none 0 0], .box b1 26 (GCode.cells a0).toArray] := hL.rowd0 (α := GBlock Lst) 60
    refine wJ (fun f w => ∃ (F19 : Nat → Prop) (A19 : Option Addr) (c19 : Nat) (xs19 : List (GBlock Lst)), xs19.length = a0.Blocks.l.length ∧ xs19.map GBlock.er = (a0.Blocks.l.map GBlock.er).map m_foldBlock ∧ Has f [(2, .pointer (some ⟨b2, 0, none⟩)), (3, .pointer (some ⟨bq69_0, 0, none⟩)), (20, .slice a0.Blocks.a a0.Blocks.l.length a0.Blocks.c), (21, .int .i64 ((a0.Blocks.l.length : Nat) : Int))] ∧ Bx w0 w [.rowd F19 A19 c19 60 xs19, .ownl Aq64_0 cq64_1 69 a0.Contexts.l, .ownl Aq67_0 cq67_1 72 a0.Objects.l, .box bq69_0 26 #[.int .i64 a0.Params, .slice A19 xs19.length c19, .slice Aq64_0 a0.Contexts.l.length cq64_1, .slice Aq67_0 a0.Objects.l.length cq67_1], .box b2 26 #[.int .i64 (0 : Int), .slice none 0 0, .slice none 0 0, .slice none 0 0], .box b1 26 (GCode.cells a0).toArray]) ?_ ?_
    ·refine wBlock (wLoopG (fun n f w => ∃ (k19 : Nat) (F19 : Nat → Prop) (A19 : Option Addr) (c19 : Nat) (xs19 : List (GBlock Lst)), n = a0.Blocks.l.length - k19 ∧ k19 ≤ a0.Blocks.l.length ∧ xs19.length = k19 ∧ xs19.map GBlock.er = ((a0.Blocks.l.map GBlock.er).take k19).map m_foldBlock ∧ Has f [(22, .int .i64 ((k19 : Nat) : Int)), (2, .pointer (some ⟨b2, 0, none⟩)), (3, .pointer (some ⟨bq69_0, 0, none⟩)), (20, .slice a0.Blocks.a a0.Blocks.l.length a0.Blocks.c), (21, .int .i64 ((a0.Blocks.l.length : Nat) : Int))] ∧ Bx w0 w [.rowd F19 A19 c19 60 xs19, .ownl Aq64_0 cq64_1 69 a0.Contexts.l, .ownl Aq67_0 cq67_1 72 a0.Objects.l, .box bq69_0 26 #[.int .i64 a0.Params, .slice A19 xs19.length c19, .slice Aq64_0 a0.Contexts.l.length cq64_1, .slice Aq67_0 a0.Objects.l.length cq67_1], .box b2 26 #[.int .i64 (0 : Int), .slice none 0 0, .slice none 0 0, .slice none 0 0], .box b1 26 (GCode.cells a0).toArray]) a0.Blocks.l.length ⟨0, (fun _ => False), none, 0, [], rfl, Nat.zero_le _, rfl, rfl, ⟨rfl, rfl, rfl, rfl, rfl, trivial⟩, hL⟩ ?_)
     clear hL
     rintro n f w ⟨k19, F19, A19, c19, xs19, rfl, hk19, hl19, hE19, hf, hL⟩
     obtain ⟨g, rfl⟩ := has_updL _ _ hf
     clear hf
     rcases Nat.lt_or_ge k19 a0.Blocks.l.length with hb19 | hb19
     ·obtain ⟨x19, hx19⟩ := get_ex (l := a0.Blocks.l) hb19
      refine wSeq (wReg (sRun (xLssT rfl rfl (by omega)) (sNil (wSeq (wIfT rfl (wSkip (wSeq (wBlock (wSeq (wReg (sRun (xIdL Try.underlying22 ti60 rfl rfl rfl h0.1 hx19) (sRun (xLoadS (GBlock.cells x19) Try.underlying60 rfl ti60 rfl rfl ((Lst.el h0.1 hx19).ext hL.1)) (sTo (aNew (mAlloc ti60)) ?_)))))))))))))
      rintro _ w20 ⟨b20, rfl, hge20, hB20, he20⟩
      replace hL := hL.new hge20 hB20 he20
      refine sStS ti60 rfl rfl rfl (by simp [Value.oneCell', Dat.cells, GBlock.cells]) (hL.bk 0 rfl) rfl ?_
      intro w21 hB21 hC21
      replace hL : Bx w0 w21 [.box b20 60 (GBlock.cells x19).toArray, .rowd F19 A19 c19 60 xs19, .ownl Aq64_0 cq64_1 69 a0.Contexts.l, .ownl Aq67_0 cq67_1 72 a0.Objects.l, .box bq69_0 26 #[.int .i64 a0.Params, .slice A19 xs19.length c19, .slice Aq64_0 a0.Contexts.l.length cq64_1, .slice Aq67_0 a0.Objects.l.length cq67_1], .box b2 26 #[.int .i64 (0 : Int), .slice none 0 0, .slice none 0 0, .slice none 0 0], .box b1 26 (GCode.cells a0).toArray] := hL.wr 0 rfl hC21 hB21
      refine sNil ?_
      replace hL := hL.drew
      refine wDraw (fun wS => Bx w0 wS [.box b20 60 (GBlock.cells x19).toArray, .rowd F19 A19 c19 60 xs19, .ownl Aq64_0 cq64_1 69 a0.Contexts.l, .ownl Aq67_0 cq67_1 72 a0.Objects.l, .box bq69_0 26 #[.int .i64 a0.Params, .slice A19 xs19.length c19, .slice Aq64_0 a0.Contexts.l.length cq64_1, .slice Aq67_0 a0.Objects.l.length cq67_1], .box b2 26 #[.int .i64 (0 : Int), .slice none 0 0, .slice none 0 0, .slice none 0 0], .box b1 26 (GCode.cells a0).toArray]) [5, 7] (by kernel_rfl) (hTake 0 rfl (by kernel_rfl) rfl (fun wS => (xFld (k := 1) Try.underlying26 rfl rfl ti22 (by decide) rfl)) (sl_of hL) (hTakeS 1 rfl (by kernel_rfl) (by kernel_rfl) rfl (fun wS hS => (xLoad Try.underlying22 rfl rfl ((hS.bk 4 rfl).cell (i := 1) rfl))) (sl_of hL) (hTakeS 2 rfl (by kernel_rfl) (by kernel_rfl) rfl (fun wS hS => (xLoadS (GBlock.cells x19) Try.underlying60 rfl ti60 rfl rfl ((hS.bk 0 rfl).part rfl))) (sl_of hL) ?_)))
      refine hOne 3 (by kernel_rfl) (oCall rfl rfl (eCall cal33 rfl) (sp_foldBlock w0 _ [.box b20 60 (GBlock.cells x19).toArray, .rowd F19 A19 c19 60 xs19, .ownl Aq64_0 cq64_1 69 a0.Contexts.l, .ownl Aq67_0 cq67_1 72 a0.Objects.l, .box bq69_0 26 #[.int .i64 a0.Params, .slice A19 xs19.length c19, .slice Aq64_0 a0.Contexts.l.length cq64_1, .slice Aq67_0 a0.Objects.l.length cq67_1], .box b2 26 #[.int .i64 (0 : Int), .slice none 0 0, .slice none 0 0, .slice none 0 0], .box b1 26 (GCode.cells a0).toArray] x19 (Lst.elok h0.1 hx19) hL) ?_)
      rintro _ w22 ⟨F22, r22, rfl, hr22, hL22⟩
      replace hL : Bx w0 w22 [.datF F22 r22, .box b20 60 (GBlock.cells x19).toArray, .rowd F19 A19 c19 60 xs19, .ownl Aq64_0 cq64_1 69 a0.Contexts.l, .ownl Aq67_0 cq67_1 72 a0.Objects.l, .box bq69_0 26 #[.int .i64 a0.Params, .slice A19 xs19.length c19, .slice Aq64_0 a0.Contexts.l.length cq64_1, .slice Aq67_0 a0.Objects.l.length cq67_1], .box b2 26 #[.int .i64 (0 : Int), .slice none 0 0, .slice none 0 0, .slice none 0 0], .box b1 26 (GCode.cells a0).toArray] := hL22
      refine ⟨(sl_of hL.tl), ?_⟩
      refine hOne 4 (by kernel_rfl) (oTo rfl rfl (aRow (bs10_30 rfl)) ?_)
      rintro _ w23 ⟨b23, rfl, hge23, hB23, he23⟩
      replace hL := hL.new hge23 hB23 he23
      refine ⟨(sl_of hL.tl.tl), ?_⟩
      refine hOne 5 (by kernel_rfl) (oTo rfl rfl (aAppL (α := (GBlock Lst)) (xs := xs19) (ys := [r22]) Try.underlying22 ti60 rfl (by decide) rfl rfl (hL.at 3 rfl).1 ((hL.bk 0 rfl).sl1 (α := (GBlock Lst)) [r22] rfl rfl) (allOne rfl) (by first | omega | (simp only [List.length_append, List.length_cons, List.length_nil] at *; omega)) (by first | omega | (simp only [List.length_append, List.length_cons, List.length_nil] at *; omega))) ?_)
      rintro _ w24 ⟨A24, c24, rfl, ho24, hg24, hr24⟩
      replace hL : Bx w0 w24 [.rowd (fun b => F19 b ∨ F22 b) A24 c24 60 (xs19 ++ [r22]), .box b23 60 #[.int .i64 r22.Params, .slice r22.Ops.a r22.Ops.l.length r22.Ops.c, .int .i64 r22.Term.Kind, .int .i64 r22.Term.A, .int .i64 r22.Term.N, .slice r22.Term.Args.a r22.Term.Args.l.length r22.Term.Args.c, .int .i64 r22.Term.To.e0.Block, .slice r22.Term.To.e0.Args.a r22.Term.To.e0.Args.l.length r22.Term.To.e0.Args.c, .int .i64 r22.Term.To.e1.Block, .slice r22.Term.To.e1.Args.a r22.Term.To.e1.Args.l.length r22.Term.To.e1.Args.c], .box b20 60 (GBlock.cells x19).toArray, .ownl Aq64_0 cq64_1 69 a0.Contexts.l, .ownl Aq67_0 cq67_1 72 a0.Objects.l, .box bq69_0 26 #[.int .i64 a0.Params, .slice A19 xs19.length c19, .slice Aq64_0 a0.Contexts.l.length cq64_1, .slice Aq67_0 a0.Objects.l.length cq67_1], .box b2 26 #[.int .i64 (0 : Int), .slice none 0 0, .slice none 0 0, .slice none 0 0], .box b1 26 (GCode.cells a0).toArray] := ((((((((((hL.front 8 rfl).front 8 rfl).front 8 rfl).front 8 rfl).front 8 rfl).front 7 rfl).front 6 rfl).front 7 rfl).front 8 rfl)).rowdApp ho24 hg24 hr24
      refine ⟨(sl_late 5 rfl), ?_⟩
      refine hTake 6 rfl (by kernel_rfl) rfl (fun wS => (xFld (k := 1) Try.underlying26 rfl rfl ti22 (by decide) rfl)) (sl_late 5 rfl) ?_
      refine hOne 7 (by kernel_rfl) (oSt1 rfl rfl ti22 rfl rfl rfl (hL.bk 5 rfl) (Nat.le_of_ble_eq_true rfl) ?_)
      intro w25 hB25 hC25
      replace hL : Bx w0 w25 [.rowd (fun b => F19 b ∨ F22 b) A24 c24 60 (xs19 ++ [r22]), .box b23 60 #[.int .i64 r22.Params, .slice r22.Ops.a r22.Ops.l.length r22.Ops.c, .int .i64 r22.Term.Kind, .int .i64 r22.Term.A, .int .i64 r22.Term.N, .slice r22.Term.Args.a r22.Term.Args.l.length r22.Term.Args.c, .int .i64 r22.Term.To.e0.Block, .slice r22.Term.To.e0.Args.a r22.Term.To.e0.Args.l.length r22.Term.To.e0.Args.c, .int .i64 r22.Term.To.e1.Block, .slice r22.Term.To.e1.Args.a r22.Term.To.e1.Args.l.length r22.Term.To.e1.Args.c], .box b20 60 (GBlock.cells x19).toArray, .ownl Aq64_0 cq64_1 69 a0.Contexts.l, .ownl Aq67_0 cq67_1 72 a0.Objects.l, .box bq69_0 26 #[.int .i64 a0.Params, .slice A24 (xs19 ++ [r22]).length c24, .slice Aq64_0 a0.Contexts.l.length cq64_1, .slice Aq67_0 a0.Objects.l.length cq67_1], .box b2 26 #[.int .i64 (0 : Int), .slice none 0 0, .slice none 0 0, .slice none 0 0], .box b1 26 (GCode.cells a0).toArray] := hL.wr 5 rfl hC25 hB25
      refine ⟨(sl_late 5 rfl), ?_⟩
      refine hDone (by kernel_rfl) (wReg (sRun (xAdd64 rfl rfl (by omega) (by omega)) (sRun (xMvI rfl) (sNil ?_))))
      exact ⟨a0.Blocks.l.length - (k19 + 1), by omega, k19 + 1, _, _, _, _, rfl, by omega, by rw [List.length_append, hl19]; rfl, loop_eq hE19 hx19 hr22, ⟨rfl, rfl, rfl, rfl, rfl, trivial⟩, ((((((((hL.front 7 rfl).front 7 rfl).front 7 rfl).front 7 rfl).front 7 rfl).front 5 rfl).front 7 rfl).front 7 rfl).tl.tl⟩
     ·obtain rfl : k19 = a0.Blocks.l.length := by omega
      rw [take_end] at hE19
      refine wSeq (wReg (sRun (xLssF rfl rfl (by omega)) (sNil (wSeq (wIfF rfl (wExit ?_))))))
      exact ⟨_, _, _, _, hl19, hE19, ⟨rfl, rfl, rfl, rfl, trivial⟩, hL⟩
    ·clear hL
     rintro f w ⟨F19, A19, c19, xs19, hl19, hE19, hf, hL⟩
     obtain ⟨g, rfl⟩ := has_updL _ _ hf
     clear hf
     try rw [← hE19] at hM
     refine wSeq (wReg (sRun (xLoadS [.int .i64 a0.Params, .slice A19 xs19.length c19, .slice Aq64_0 a0.Contexts.l.length cq64_1, .slice Aq67_0 a0.Objects.l.length cq67_1] Try.underlying26 rfl ti26 rfl rfl ((hL.bk 3 rfl).part rfl)) (sStS ti26 rfl rfl rfl (by simp [Value.oneCell', Dat.cells, GCode.cells]) (hL.bk 4 rfl) rfl ?_)))
     intro w26 hB26 hC26
     replace hL : Bx w0 w26 [.rowd F19 A19 c19 60 xs19, .ownl Aq64_0 cq64_1 69 a0.Contexts.l, .ownl Aq67_0 cq67_1 72 a0.Objects.l, .box bq69_0 26 #[.int .i64 a0.Params, .slice A19 xs19.length c19, .slice Aq64_0 a0.Contexts.l.length cq64_1, .slice Aq67_0 a0.Objects.l.length cq67_1], .box b2 26 #[.int .i64 a0.Params, .slice A19 xs19.length c19, .slice Aq64_0 a0.Contexts.l.length cq64_1, .slice Aq67_0 a0.Objects.l.length cq67_1], .box b1 26 (GCode.cells a0).toArray] := hL.wr 4 rfl hC26 hB26
     refine sNil (wRet (resC (P := Try.prog) (fn := Try.f10) rfl Try.underlying26 rfl ti26 rfl rfl (hL.bk 4 rfl) ?_))
     exact ⟨(⟨a0.Params, ⟨A19, c19, xs19⟩, ⟨Aq64_0, cq64_1, a0.Contexts.l⟩, ⟨Aq67_0, cq67_1, a0.Objects.l⟩⟩ : (GCode Lst)), rfl, hM, ⟨Own.okF (hL.at 0 rfl).1 (fun _ _ => trivial) (fun x hx => Dat.all ((hL.at 0 rfl).2.2.2 x hx)) (show xs19.length * 144 ≤ 140737488355328 by omega), Dat.all (Own.okL (lo := 0) (hL.bo 1 rfl) (fun _ _ => Nat.zero_le _) (fun _ _ => trivial) (Lst.bd (s := a0.Contexts) h0.2.1)), Dat.all (Own.okL (lo := 0) (hL.bo 2 rfl) (fun _ _ => Nat.zero_le _) (fun _ _ => trivial) (Lst.bd (s := a0.Objects) h0.2.2))⟩, hL.1⟩

end Go.Proofs.Ytbpccmnalhdpmaa
