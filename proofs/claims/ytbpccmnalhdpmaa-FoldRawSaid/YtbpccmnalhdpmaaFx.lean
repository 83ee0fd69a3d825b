/- Contracts, printed by gen4.py. -/
import Derived.Test.YtbpccmnalhdpmaaFv
set_option linter.unusedVariables false
set_option linter.unusedSimpArgs false
set_option maxRecDepth 4000
namespace Go.Proofs.Ytbpccmnalhdpmaa
open Go.RowKit Go.Fw
def m_l08_returns (a0 : Int) (a1 : Int) (a2 : (List GOp)) : (GBlock List) :=
 (⟨a0, a2, ⟨(4 : Int), a1, (0 : Int), [], ⟨⟨(-1 : Int), []⟩, ⟨(-1 : Int), []⟩⟩⟩⟩ : (GBlock List))
theorem bs29_8 {ρ : Operand → Value} {w : World} {d : Option Nat} {ty : TypeId} {pos : String} {af : Array Edge} {g : Option (Nat × Bool)}    :
    (execOp ρ ⟨d, .buildSlice 53 0 #[], ty, pos, af, g⟩).run Try.prog w = .ok (.value (.slice (some ⟨w.heap.size, 0, none⟩) 0 0)) (w.alloc (.cells #[] 66)) := by
  have e : (Instr.buildSlice 53 0 #[]).run Try.prog w = .ok (.slice (some ⟨w.heap.size, 0, none⟩) 0 0) (w.alloc (.cells #[] 66)) := by kernel_rfl
  simp [execOp, e]
theorem bd29_12 {ρ : Operand → Value} {w : World} {d : Option Nat} {ty : TypeId} {pos : String} {af : Array Edge} {g : Option (Nat × Bool)} {x0 : Int} {o0 : Operand} (h0 : ρ o0 = .int .i64 x0) : Yl Try.prog ρ (.build 55 #[(0, o0)]) d ty pos af g w (.agg #[.int .i64 x0, .slice none 0 0]) := by
  have e : (Instr.build 55 #[(0, .int .i64 x0)]).run Try.prog w = .ok (.agg #[.int .i64 x0, .slice none 0 0]) w := by kernel_rfl
  simp [Yl, execOp, h0, e]
theorem bd29_13 {ρ : Operand → Value} {w : World} {d : Option Nat} {ty : TypeId} {pos : String} {af : Array Edge} {g : Option (Nat × Bool)} {x0 : Int} {o0 : Operand} (h0 : ρ o0 = .int .i64 x0) : Yl Try.prog ρ (.build 55 #[(0, o0)]) d ty pos af g w (.agg #[.int .i64 x0, .slice none 0 0]) := by
  have e : (Instr.build 55 #[(0, .int .i64 x0)]).run Try.prog w = .ok (.agg #[.int .i64 x0, .slice none 0 0]) w := by kernel_rfl
  simp [Yl, execOp, h0, e]
theorem bd29_14 {ρ : Operand → Value} {w : World} {d : Option Nat} {ty : TypeId} {pos : String} {af : Array Edge} {g : Option (Nat × Bool)} {x00_ : Int} {x01_A : Option Addr} {x01_n x01_c : Nat} {x10_ : Int} {x11_A : Option Addr} {x11_n x11_c : Nat} {o0 : Operand} {o1 : Operand} (h0 : ρ o0 = .agg #[.int .i64 x00_, .slice x01_A x01_n x01_c]) (h1 : ρ o1 = .agg #[.int .i64 x10_, .slice x11_A x11_n x11_c]) : Yl Try.prog ρ (.build 56 #[(0, o0), (1, o1)]) d ty pos af g w (.agg #[.int .i64 x00_, .slice x01_A x01_n x01_c, .int .i64 x10_, .slice x11_A x11_n x11_c]) := by
  have e : (Instr.build 56 #[(0, .agg #[.int .i64 x00_, .slice x01_A x01_n x01_c]), (1, .agg #[.int .i64 x10_, .slice x11_A x11_n x11_c])]).run Try.prog w = .ok (.agg #[.int .i64 x00_, .slice x01_A x01_n x01_c, .int .i64 x10_, .slice x11_A x11_n x11_c]) w := by kernel_rfl
  simp [Yl, execOp, h0, h1, e]
theorem bd29_15 {ρ : Operand → Value} {w : World} {d : Option Nat} {ty : TypeId} {pos : String} {af : Array Edge} {g : Option (Nat × Bool)} {x0 : Int} {x1 : Int} {x40_0_ : Int} {x40_1_A : Option Addr} {x40_1_n x40_1_c : Nat} {x41_0_ : Int} {x41_1_A : Option Addr} {x41_1_n x41_1_c : Nat} {o0 : Operand} {o1 : Operand} {o4 : Operand} (h0 : ρ o0 = .int .i64 x0) (h1 : ρ o1 = .int .i64 x1) (h4 : ρ o4 = .agg #[.int .i64 x40_0_, .slice x40_1_A x40_1_n x40_1_c, .int .i64 x41_0_, .slice x41_1_A x41_1_n x41_1_c]) : Yl Try.prog ρ (.build 58 #[(0, o0), (1, o1), (4, o4)]) d ty pos af g w (.agg #[.int .i64 x0, .int .i64 x1, .int .i64 0, .slice none 0 0, .int .i64 x40_0_, .slice x40_1_A x40_1_n x40_1_c, .int .i64 x41_0_, .slice x41_1_A x41_1_n x41_1_c]) := by
  have e : (Instr.build 58 #[(0, .int .i64 x0), (1, .int .i64 x1), (4, .agg #[.int .i64 x40_0_, .slice x40_1_A x40_1_n x40_1_c, .int .i64 x41_0_, .slice x41_1_A x41_1_n x41_1_c])]).run Try.prog w = .ok (.agg #[.int .i64 x0, .int .i64 x1, .int .i64 0, .slice none 0 0, .int .i64 x40_0_, .slice x40_1_A x40_1_n x40_1_c, .int .i64 x41_0_, .slice x41_1_A x41_1_n x41_1_c]) w := by kernel_rfl
  simp [Yl, execOp, h0, h1, h4, e]
theorem bd29_16 {ρ : Operand → Value} {w : World} {d : Option Nat} {ty : TypeId} {pos : String} {af : Array Edge} {g : Option (Nat × Bool)} {x0 : Int} {x1A : Option Addr} {x1n x1c : Nat} {x20_ : Int} {x21_ : Int} {x22_ : Int} {x23_A : Option Addr} {x23_n x23_c : Nat} {x24_0_0_ : Int} {x24_0_1_A : Option Addr} {x24_0_1_n x24_0_1_c : Nat} {x24_1_0_ : Int} {x24_1_1_A : Option Addr} {x24_1_1_n x24_1_1_c : Nat} {o0 : Operand} {o1 : Operand} {o2 : Operand} (h0 : ρ o0 = .int .i64 x0) (h1 : ρ o1 = .slice x1A x1n x1c) (h2 : ρ o2 = .agg #[.int .i64 x20_, .int .i64 x21_, .int .i64 x22_, .slice x23_A x23_n x23_c, .int .i64 x24_0_0_, .slice x24_0_1_A x24_0_1_n x24_0_1_c, .int .i64 x24_1_0_, .slice x24_1_1_A x24_1_1_n x24_1_1_c]) : Yl Try.prog ρ (.build 60 #[(0, o0), (1, o1), (2, o2)]) d ty pos af g w (.agg #[.int .i64 x0, .slice x1A x1n x1c, .int .i64 x20_, .int .i64 x21_, .int .i64 x22_, .slice x23_A x23_n x23_c, .int .i64 x24_0_0_, .slice x24_0_1_A x24_0_1_n x24_0_1_c, .int .i64 x24_1_0_, .slice x24_1_1_A x24_1_1_n x24_1_1_c]) := by
  have e : (Instr.build 60 #[(0, .int .i64 x0), (1, .slice x1A x1n x1c), (2, .agg #[.int .i64 x20_, .int .i64 x21_, .int .i64 x22_, .slice x23_A x23_n x23_c, .int .i64 x24_0_0_, .slice x24_0_1_A x24_0_1_n x24_0_1_c, .int .i64 x24_1_0_, .slice x24_1_1_A x24_1_1_n x24_1_1_c])]).run Try.prog w = .ok (.agg #[.int .i64 x0, .slice x1A x1n x1c, .int .i64 x20_, .int .i64 x21_, .int .i64 x22_, .slice x23_A x23_n x23_c, .int .i64 x24_0_0_, .slice x24_0_1_A x24_0_1_n x24_0_1_c, .int .i64 x24_1_0_, .slice x24_1_1_A x24_1_1_n x24_1_1_c]) w := by kernel_rfl
  simp [Yl, execOp, h0, h1, h2, e]
set_option maxHeartbeats 12800000 in
theorem sp_m_l08_returns (w0 : World) (a0 : Int) (a1 : Int) (a2 : (Lst GOp)) (h2 : Dat.ok (fun _ => True) w0 a2) : Calls Try.prog 29 #[.int .i64 a0, .int .i64 a1, .slice a2.a a2.l.length a2.c] w0 (Ret fun v w => ∃ r : (GBlock Lst), v = .agg (GBlock.cells r).toArray ∧ GBlock.er r = m_l08_returns a0 a1 a2.l ∧ Dat.ok (fun _ => True) w r ∧ Ext w0 w) := by
  obtain ⟨X, hM⟩ : ∃ X, m_l08_returns a0 a1 a2.l = X := ⟨_, rfl⟩
  rw [hM]
  unfold m_l08_returns at hM
  try simp only [er1, er2, er3, er4, er5, er6, er7, er8, er9, er10, er11, er12, er13, er14, er15, er16, er17, List.length_map] at hM
  have hL : Bx w0 w0 [] := Bx.nil
  refine calls_of Try.func29 rfl (Nat.le_of_ble_eq_true rfl) (by kernel_rfl) ?_
  refine wCut [(0, .int .i64 a0), (1, .int .i64 a1), (2, .slice a2.a a2.l.length a2.c)] ⟨rfl, rfl, rfl, trivial⟩ fun g => ?_
  refine wSeq (wReg (sTo (aNew (mAlloc ti60)) ?_))
  rintro _ w1 ⟨b1, rfl, hge1, hB1, he1⟩
  replace hL := hL.new hge1 hB1 he1
  refine sNil (wSeq (wReg (sRun (xMvI rfl) (sTo (aRow (bs29_8)) ?_))))
  rintro _ w2 ⟨b2, rfl, hge2, hB2, he2⟩
  replace hL := hL.new hge2 hB2 he2
  refine sRun (xMvS rfl) ?_
  replace hL : Bx w0 _ [.ownl (some ⟨b2, 0, none⟩) 0 66 ([] : List GOp), .box b1 60 #[.int .i64 (0 : Int), .slice none 0 0, .int .i64 (0 : Int), .int .i64 (0 : Int), .int .i64 (0 : Int), .slice none 0 0, .int .i64 (0 : Int), .slice none 0 0, .int .i64 (0 : Int), .slice none 0 0]] := (hL).boxOwn (n := 0) (size := Dat.sz GOp) (Nat.zero_le _) rfl
  have hbd3 : a2.l.length * 88 ≤ 140737488355328 := Lst.bd h2
  refine sTo (aAppL (xs := ([] : List GOp)) (ys := a2.l) Try.underlying53 ti66 rfl (by decide) rfl rfl (hL.bo 0 rfl) (Lst.sl (F := fun _ => True) (Dat.ext (x := a2) h2 hL.1)) (fun u hu => by obtain ⟨x, _, hx⟩ := List.mem_flatMap.1 hu; exact allOne (l := Dat.cells x) rfl u hx) (by simp only [List.length_nil]; omega) (by simp only [List.length_nil]; omega)) ?_
  rintro _ w3 ⟨A3, c3, rfl, ho3, hg3, hr3⟩
  replace hL : Bx w0 w3 [.ownl A3 c3 66 a2.l, .box b1 60 #[.int .i64 (0 : Int), .slice none 0 0, .int .i64 (0 : Int), .int .i64 (0 : Int), .int .i64 (0 : Int), .slice none 0 0, .int .i64 (0 : Int), .slice none 0 0, .int .i64 (0 : Int), .slice none 0 0]] := hL.app 0 rfl ho3 hg3 hr3
  refine sRun (xMvI rfl) (sRun (bd29_12 rfl) (sRun (bd29_13 rfl) (sRun (bd29_14 rfl rfl) (sRun (bd29_15 rfl rfl rfl) (sRun (bd29_16 rfl rfl rfl) (sStS ti60 rfl rfl rfl (by simp [Value.oneCell', Dat.cells, GBlock.cells]) (hL.bk 1 rfl) rfl ?_))))))
  intro w4 hB4 hC4
  replace hL : Bx w0 w4 [.ownl A3 c3 66 a2.l, .box b1 60 #[.int .i64 a0, .slice A3 a2.l.length c3, .int .i64 (4 : Int), .int .i64 a1, .int .i64 (0 : Int), .slice none 0 0, .int .i64 (-1 : Int), .slice none 0 0, .int .i64 (-1 : Int), .slice none 0 0]] := hL.wr 1 rfl hC4 hB4
  refine sNil (wRet (resC (P := Try.prog) (fn := Try.f29) rfl Try.underlying60 rfl ti60 rfl rfl (hL.bk 1 rfl) ?_))
  exact ⟨(⟨a0, ⟨A3, c3, a2.l⟩, ⟨(4 : Int), a1, (0 : Int), ⟨none, 0, []⟩, ⟨⟨(-1 : Int), ⟨none, 0, []⟩⟩, ⟨(-1 : Int), ⟨none, 0, []⟩⟩⟩⟩⟩ : (GBlock Lst)), rfl, hM, ⟨Own.okF (hL.bo 0 rfl) (fun _ _ => trivial) (fun _ _ => trivial) hbd3, ⟨Lst.nil_ok, ⟨Lst.nil_ok, Lst.nil_ok⟩⟩⟩, hL.1⟩

def m_l08_code (a0 : Int) (a1 : (List (GBlock List))) : (GCode List) :=
 (⟨a0, a1, [(⟨(-1 : Int), (-1 : Int), (0 : Int)⟩ : GContext)], []⟩ : (GCode List))
theorem bs28_6 {ρ : Operand → Value} {w : World} {d : Option Nat} {ty : TypeId} {pos : String} {af : Array Edge} {g : Option (Nat × Bool)}    :
    (execOp ρ ⟨d, .buildSlice 22 0 #[], ty, pos, af, g⟩).run Try.prog w = .ok (.value (.slice (some ⟨w.heap.size, 0, none⟩) 0 0)) (w.alloc (.cells #[] 60)) := by
  have e : (Instr.buildSlice 22 0 #[]).run Try.prog w = .ok (.slice (some ⟨w.heap.size, 0, none⟩) 0 0) (w.alloc (.cells #[] 60)) := by kernel_rfl
  simp [execOp, e]
theorem bd28_9 {ρ : Operand → Value} {w : World} {d : Option Nat} {ty : TypeId} {pos : String} {af : Array Edge} {g : Option (Nat × Bool)} {x0 : Int} {x1 : Int} {o0 : Operand} {o1 : Operand} (h0 : ρ o0 = .int .i64 x0) (h1 : ρ o1 = .int .i64 x1) : Yl Try.prog ρ (.build 69 #[(0, o0), (1, o1)]) d ty pos af g w (.agg #[.int .i64 x0, .int .i64 x1, .int .i64 0]) := by
  have e : (Instr.build 69 #[(0, .int .i64 x0), (1, .int .i64 x1)]).run Try.prog w = .ok (.agg #[.int .i64 x0, .int .i64 x1, .int .i64 0]) w := by kernel_rfl
  simp [Yl, execOp, h0, h1, e]
theorem bs28_10 {ρ : Operand → Value} {w : World} {d : Option Nat} {ty : TypeId} {pos : String} {af : Array Edge} {g : Option (Nat × Bool)} {x00_ : Int} {x01_ : Int} {x02_ : Int} {o0 : Operand} (h0 : ρ o0 = .agg #[.int .i64 x00_, .int .i64 x01_, .int .i64 x02_]) :
    (execOp ρ ⟨d, .buildSlice 23 1 #[(0, o0)], ty, pos, af, g⟩).run Try.prog w = .ok (.value (.slice (some ⟨w.heap.size, 0, none⟩) 1 1)) (w.alloc (.cells #[.int .i64 x00_, .int .i64 x01_, .int .i64 x02_] 69)) := by
  have e : (Instr.buildSlice 23 1 #[(0, .agg #[.int .i64 x00_, .int .i64 x01_, .int .i64 x02_])]).run Try.prog w = .ok (.slice (some ⟨w.heap.size, 0, none⟩) 1 1) (w.alloc (.cells #[.int .i64 x00_, .int .i64 x01_, .int .i64 x02_] 69)) := by kernel_rfl
  simp [execOp, h0, e]
theorem bd28_11 {ρ : Operand → Value} {w : World} {d : Option Nat} {ty : TypeId} {pos : String} {af : Array Edge} {g : Option (Nat × Bool)} {x0 : Int} {x1A : Option Addr} {x1n x1c : Nat} {x2A : Option Addr} {x2n x2c : Nat} {o0 : Operand} {o1 : Operand} {o2 : Operand} (h0 : ρ o0 = .int .i64 x0) (h1 : ρ o1 = .slice x1A x1n x1c) (h2 : ρ o2 = .slice x2A x2n x2c) : Yl Try.prog ρ (.build 26 #[(0, o0), (1, o1), (2, o2)]) d ty pos af g w (.agg #[.int .i64 x0, .slice x1A x1n x1c, .slice x2A x2n x2c, .slice none 0 0]) := by
  have e : (Instr.build 26 #[(0, .int .i64 x0), (1, .slice x1A x1n x1c), (2, .slice x2A x2n x2c)]).run Try.prog w = .ok (.agg #[.int .i64 x0, .slice x1A x1n x1c, .slice x2A x2n x2c, .slice none 0 0]) w := by kernel_rfl
  simp [Yl, execOp, h0, h1, h2, e]
set_option maxHeartbeats 12800000 in
theorem sp_m_l08_code (w0 : World) (a0 : Int) (a1 : (Lst (GBlock Lst))) (h1 : Dat.ok (fun _ => True) w0 a1) : Calls Try.prog 28 #[.int .i64 a0, .slice a1.a a1.l.length a1.c] w0 (Ret fun v w => ∃ r : (GCode Lst), v = .agg (GCode.cells r).toArray ∧ GCode.er r = m_l08_code a0 (a1.l.map GBlock.er) ∧ Dat.ok (fun _ => True) w r ∧ Ext w0 w) := by
  obtain ⟨X, hM⟩ : ∃ X, m_l08_code a0 (a1.l.map GBlock.er) = X := ⟨_, rfl⟩
  rw [hM]
  unfold m_l08_code at hM
  try simp only [er1, er2, er3, er4, er5, er6, er7, er8, er9, er10, er11, er12, er13, er14, er15, er16, er17, List.length_map] at hM
  have hL : Bx w0 w0 [] := Bx.nil
  refine calls_of Try.func28 rfl (Nat.le_of_ble_eq_true rfl) (by kernel_rfl) ?_
  refine wCut [(0, .int .i64 a0), (1, .slice a1.a a1.l.length a1.c)] ⟨rfl, rfl, trivial⟩ fun g => ?_
  refine wSeq (wReg (sTo (aNew (mAlloc ti26)) ?_))
  rintro _ w1 ⟨b1, rfl, hge1, hB1, he1⟩
  replace hL := hL.new hge1 hB1 he1
  refine sNil (wSeq (wReg (sRun (xMvI rfl) (sTo (aRow (bs28_6)) ?_))))
  rintro _ w2 ⟨b2, rfl, hge2, hB2, he2⟩
  replace hL := hL.new hge2 hB2 he2
  refine sRun (xMvS rfl) ?_
  replace hL : Bx w0 _ [.ownl (some ⟨b2, 0, none⟩) 0 60 ([] : List (GBlock Lst)), .box b1 26 #[.int .i64 (0 : Int), .slice none 0 0, .slice none 0 0, .slice none 0 0]] := (hL).boxOwn (n := 0) (size := Dat.sz (GBlock Lst)) (Nat.zero_le _) rfl
  have hbd3 : a1.l.length * 144 ≤ 140737488355328 := Lst.bd h1
  refine sTo (aAppL (xs := ([] : List (GBlock Lst))) (ys := a1.l) Try.underlying22 ti60 rfl (by decide) rfl rfl (hL.bo 0 rfl) (Lst.sl (F := fun _ => True) (Dat.ext (x := a1) h1 hL.1)) (fun u hu => by obtain ⟨x, _, hx⟩ := List.mem_flatMap.1 hu; exact allOne (l := Dat.cells x) rfl u hx) (by simp only [List.length_nil]; omega) (by simp only [List.length_nil]; omega)) ?_
  rintro _ w3 ⟨A3, c3, rfl, ho3, hg3, hr3⟩
  replace hL : Bx w0 w3 [.ownl A3 c3 60 a1.l, .box b1 26 #[.int .i64 (0 : Int), .slice none 0 0, .slice none 0 0, .slice none 0 0]] := hL.app 0 rfl ho3 hg3 hr3
  refine sRun (bd28_9 rfl rfl) (sTo (aRow (bs28_10 rfl)) ?_)
  rintro _ w4 ⟨b4, rfl, hge4, hB4, he4⟩
  replace hL := hL.new hge4 hB4 he4
  refine sRun (bd28_11 rfl rfl rfl) (sStS ti26 rfl rfl rfl (by simp [Value.oneCell', Dat.cells, GCode.cells]) (hL.bk 2 rfl) rfl ?_)
  intro w5 hB5 hC5
  replace hL : Bx w0 w5 [.box b4 69 #[.int .i64 (-1 : Int), .int .i64 (-1 : Int), .int .i64 (0 : Int)], .ownl A3 c3 60 a1.l, .box b1 26 #[.int .i64 a0, .slice A3 a1.l.length c3, .slice (some ⟨b4, 0, none⟩) 1 1, .slice none 0 0]] := hL.wr 2 rfl hC5 hB5
  refine sNil (wRet (resC (P := Try.prog) (fn := Try.f28) rfl Try.underlying26 rfl ti26 rfl rfl (hL.bk 2 rfl) ?_))
  exact ⟨(⟨a0, ⟨A3, c3, a1.l⟩, (⟨some ⟨b4, 0, none⟩, 1, [(⟨(-1 : Int), (-1 : Int), (0 : Int)⟩ : GContext)]⟩ : Lst GContext), ⟨none, 0, []⟩⟩ : (GCode Lst)), rfl, hM, ⟨Own.okF (hL.bo 1 rfl) (fun _ _ => trivial) (fun x hx => by obtain ⟨i, hi⟩ := List.mem_iff_getElem?.1 hx; exact Dat.all (Dat.ext (x := x) (Lst.elok h1 hi) hL.1)) hbd3, (Blk.lst (hL.bk 0 rfl) ([(⟨(-1 : Int), (-1 : Int), (0 : Int)⟩ : GContext)] : List GContext) rfl (fun _ _ => trivial) trivial (show 1 ≤ maxLen by decide) (show 1 * 24 ≤ 140737488355328 by decide)), Lst.nil_ok⟩, hL.1⟩

def m_l08_known  : Bool :=
 if ((((m_fold_Fold (m_l08_code (1 : Int) ([(m_l08_returns (1 : Int) (3 : Int) ([(⟨(1 : Int), (1 : Int), (0 : Int), (0 : Int), (2 : Int), (0 : Int), (0 : Int), (0 : Int), (⟨(0 : Int), (0 : Int), (0 : Int)⟩ : GSrc)⟩ : GOp), (⟨(5 : Int), (2 : Int), (0 : Int), (1 : Int), (0 : Int), (0 : Int), (0 : Int), (0 : Int), (⟨(0 : Int), (0 : Int), (0 : Int)⟩ : GSrc)⟩ : GOp), (⟨(2 : Int), (3 : Int), (2 : Int), (0 : Int), (0 : Int), (0 : Int), (0 : Int), (0 : Int), (⟨(0 : Int), (0 : Int), (0 : Int)⟩ : GSrc)⟩ : GOp), (⟨(21 : Int), (0 : Int), (0 : Int), (0 : Int), (0 : Int), (0 : Int), (0 : Int), (0 : Int), (⟨(2 : Int), (3 : Int), (0 : Int)⟩ : GSrc)⟩ : GOp)]))]))).Blocks).length : Nat) : Int) = (1 : Int) then
  if ((((((m_fold_Fold (m_l08_code (1 : Int) ([(m_l08_returns (1 : Int) (3 : Int) ([(⟨(1 : Int), (1 : Int), (0 : Int), (0 : Int), (2 : Int), (0 : Int), (0 : Int), (0 : Int), (⟨(0 : Int), (0 : Int), (0 : Int)⟩ : GSrc)⟩ : GOp), (⟨(5 : Int), (2 : Int), (0 : Int), (1 : Int), (0 : Int), (0 : Int), (0 : Int), (0 : Int), (⟨(0 : Int), (0 : Int), (0 : Int)⟩ : GSrc)⟩ : GOp), (⟨(2 : Int), (3 : Int), (2 : Int), (0 : Int), (0 : Int), (0 : Int), (0 : Int), (0 : Int), (⟨(0 : Int), (0 : Int), (0 : Int)⟩ : GSrc)⟩ : GOp), (⟨(21 : Int), (0 : Int), (0 : Int), (0 : Int), (0 : Int), (0 : Int), (0 : Int), (0 : Int), (⟨(2 : Int), (3 : Int), (0 : Int)⟩ : GSrc)⟩ : GOp)]))]))).Blocks)[0]?.getD (⟨(0 : Int), [], (⟨(0 : Int), (0 : Int), (0 : Int), [], (⟨(⟨(0 : Int), []⟩ : (GEdge List)), (⟨(0 : Int), []⟩ : (GEdge List))⟩ : (GArr56 List))⟩ : (GTerm List))⟩ : (GBlock List))).Ops).length : Nat) : Int) = (4 : Int) then
   if (((((m_fold_Fold (m_l08_code (1 : Int) ([(m_l08_returns (1 : Int) (3 : Int) ([(⟨(1 : Int), (1 : Int), (0 : Int), (0 : Int), (2 : Int), (0 : Int), (0 : Int), (0 : Int), (⟨(0 : Int), (0 : Int), (0 : Int)⟩ : GSrc)⟩ : GOp), (⟨(5 : Int), (2 : Int), (0 : Int), (1 : Int), (0 : Int), (0 : Int), (0 : Int), (0 : Int), (⟨(0 : Int), (0 : Int), (0 : Int)⟩ : GSrc)⟩ : GOp), (⟨(2 : Int), (3 : Int), (2 : Int), (0 : Int), (0 : Int), (0 : Int), (0 : Int), (0 : Int), (⟨(0 : Int), (0 : Int), (0 : Int)⟩ : GSrc)⟩ : GOp), (⟨(21 : Int), (0 : Int), (0 : Int), (0 : Int), (0 : Int), (0 : Int), (0 : Int), (0 : Int), (⟨(2 : Int), (3 : Int), (0 : Int)⟩ : GSrc)⟩ : GOp)]))]))).Blocks)[0]?.getD (⟨(0 : Int), [], (⟨(0 : Int), (0 : Int), (0 : Int), [], (⟨(⟨(0 : Int), []⟩ : (GEdge List)), (⟨(0 : Int), []⟩ : (GEdge List))⟩ : (GArr56 List))⟩ : (GTerm List))⟩ : (GBlock List))).Ops)[3]?.getD (⟨(0 : Int), (0 : Int), (0 : Int), (0 : Int), (0 : Int), (0 : Int), (0 : Int), (0 : Int), (⟨(0 : Int), (0 : Int), (0 : Int)⟩ : GSrc)⟩ : GOp)).Src.Val = (2 : Int) then
    (decide ((((m_fold_Fold (m_l08_code (1 : Int) ([(m_l08_returns (1 : Int) (3 : Int) ([(⟨(1 : Int), (1 : Int), (0 : Int), (0 : Int), (2 : Int), (0 : Int), (0 : Int), (0 : Int), (⟨(0 : Int), (0 : Int), (0 : Int)⟩ : GSrc)⟩ : GOp), (⟨(5 : Int), (2 : Int), (0 : Int), (1 : Int), (0 : Int), (0 : Int), (0 : Int), (0 : Int), (⟨(0 : Int), (0 : Int), (0 : Int)⟩ : GSrc)⟩ : GOp), (⟨(2 : Int), (3 : Int), (2 : Int), (0 : Int), (0 : Int), (0 : Int), (0 : Int), (0 : Int), (⟨(0 : Int), (0 : Int), (0 : Int)⟩ : GSrc)⟩ : GOp), (⟨(21 : Int), (0 : Int), (0 : Int), (0 : Int), (0 : Int), (0 : Int), (0 : Int), (0 : Int), (⟨(2 : Int), (3 : Int), (0 : Int)⟩ : GSrc)⟩ : GOp)]))]))).Blocks)[0]?.getD (⟨(0 : Int), [], (⟨(0 : Int), (0 : Int), (0 : Int), [], (⟨(⟨(0 : Int), []⟩ : (GEdge List)), (⟨(0 : Int), []⟩ : (GEdge List))⟩ : (GArr56 List))⟩ : (GTerm List))⟩ : (GBlock List))).Term.A = (2 : Int)))
   else
    false
  else
   false
 else
  false
theorem bd9_2 {ρ : Operand → Value} {w : World} {d : Option Nat} {ty : TypeId} {pos : String} {af : Array Edge} {g : Option (Nat × Bool)} {x0 : Int} {x1 : Int} {x4 : Int} {o0 : Operand} {o1 : Operand} {o4 : Operand} (h0 : ρ o0 = .int .i64 x0) (h1 : ρ o1 = .int .i64 x1) (h4 : ρ o4 = .int .i64 x4) : Yl Try.prog ρ (.build 66 #[(0, o0), (1, o1), (4, o4)]) d ty pos af g w (.agg #[.int .i64 x0, .int .i64 x1, .int .i64 0, .int .i64 0, .int .i64 x4, .int .i64 0, .int .i64 0, .int .i64 0, .int .i64 0, .int .i64 0, .int .i64 0]) := by
  have e : (Instr.build 66 #[(0, .int .i64 x0), (1, .int .i64 x1), (4, .int .i64 x4)]).run Try.prog w = .ok (.agg #[.int .i64 x0, .int .i64 x1, .int .i64 0, .int .i64 0, .int .i64 x4, .int .i64 0, .int .i64 0, .int .i64 0, .int .i64 0, .int .i64 0, .int .i64 0]) w := by kernel_rfl
  simp [Yl, execOp, h0, h1, h4, e]
theorem bd9_3 {ρ : Operand → Value} {w : World} {d : Option Nat} {ty : TypeId} {pos : String} {af : Array Edge} {g : Option (Nat × Bool)} {x0 : Int} {x1 : Int} {x3 : Int} {o0 : Operand} {o1 : Operand} {o3 : Operand} (h0 : ρ o0 = .int .i64 x0) (h1 : ρ o1 = .int .i64 x1) (h3 : ρ o3 = .int .i64 x3) : Yl Try.prog ρ (.build 66 #[(0, o0), (1, o1), (3, o3)]) d ty pos af g w (.agg #[.int .i64 x0, .int .i64 x1, .int .i64 0, .int .i64 x3, .int .i64 0, .int .i64 0, .int .i64 0, .int .i64 0, .int .i64 0, .int .i64 0, .int .i64 0]) := by
  have e : (Instr.build 66 #[(0, .int .i64 x0), (1, .int .i64 x1), (3, .int .i64 x3)]).run Try.prog w = .ok (.agg #[.int .i64 x0, .int .i64 x1, .int .i64 0, .int .i64 x3, .int .i64 0, .int .i64 0, .int .i64 0, .int .i64 0, .int .i64 0, .int .i64 0, .int .i64 0]) w := by kernel_rfl
  simp [Yl, execOp, h0, h1, h3, e]
theorem bd9_4 {ρ : Operand → Value} {w : World} {d : Option Nat} {ty : TypeId} {pos : String} {af : Array Edge} {g : Option (Nat × Bool)} {x0 : Int} {x1 : Int} {x2 : Int} {o0 : Operand} {o1 : Operand} {o2 : Operand} (h0 : ρ o0 = .int .i64 x0) (h1 : ρ o1 = .int .i64 x1) (h2 : ρ o2 = .int .i64 x2) : Yl Try.prog ρ (.build 66 #[(0, o0), (1, o1), (2, o2)]) d ty pos af g w (.agg #[.int .i64 x0, .int .i64 x1, .int .i64 x2, .int .i64 0, .int .i64 0, .int .i64 0, .int .i64 0, .int .i64 0, .int .i64 0, .int .i64 0, .int .i64 0]) := by
  have e : (Instr.build 66 #[(0, .int .i64 x0), (1, .int .i64 x1), (2, .int .i64 x2)]).run Try.prog w = .ok (.agg #[.int .i64 x0, .int .i64 x1, .int .i64 x2, .int .i64 0, .int .i64 0, .int .i64 0, .int .i64 0, .int .i64 0, .int .i64 0, .int .i64 0, .int .i64 0]) w := by kernel_rfl
  simp [Yl, execOp, h0, h1, h2, e]
theorem bd9_5 {ρ : Operand → Value} {w : World} {d : Option Nat} {ty : TypeId} {pos : String} {af : Array Edge} {g : Option (Nat × Bool)} {x0 : Int} {x1 : Int} {o0 : Operand} {o1 : Operand} (h0 : ρ o0 = .int .i64 x0) (h1 : ρ o1 = .int .i64 x1) : Yl Try.prog ρ (.build 64 #[(0, o0), (1, o1)]) d ty pos af g w (.agg #[.int .i64 x0, .int .i64 x1, .int .i64 0]) := by
  have e : (Instr.build 64 #[(0, .int .i64 x0), (1, .int .i64 x1)]).run Try.prog w = .ok (.agg #[.int .i64 x0, .int .i64 x1, .int .i64 0]) w := by kernel_rfl
  simp [Yl, execOp, h0, h1, e]
theorem bd9_6 {ρ : Operand → Value} {w : World} {d : Option Nat} {ty : TypeId} {pos : String} {af : Array Edge} {g : Option (Nat × Bool)} {x0 : Int} {x80_ : Int} {x81_ : Int} {x82_ : Int} {o0 : Operand} {o8 : Operand} (h0 : ρ o0 = .int .i64 x0) (h8 : ρ o8 = .agg #[.int .i64 x80_, .int .i64 x81_, .int .i64 x82_]) : Yl Try.prog ρ (.build 66 #[(0, o0), (8, o8)]) d ty pos af g w (.agg #[.int .i64 x0, .int .i64 0, .int .i64 0, .int .i64 0, .int .i64 0, .int .i64 0, .int .i64 0, .int .i64 0, .int .i64 x80_, .int .i64 x81_, .int .i64 x82_]) := by
  have e : (Instr.build 66 #[(0, .int .i64 x0), (8, .agg #[.int .i64 x80_, .int .i64 x81_, .int .i64 x82_])]).run Try.prog w = .ok (.agg #[.int .i64 x0, .int .i64 0, .int .i64 0, .int .i64 0, .int .i64 0, .int .i64 0, .int .i64 0, .int .i64 0, .int .i64 x80_, .int .i64 x81_, .int .i64 x82_]) w := by kernel_rfl
  simp [Yl, execOp, h0, h8, e]
theorem bs9_7 {ρ : Operand → Value} {w : World} {d : Option Nat} {ty : TypeId} {pos : String} {af : Array Edge} {g : Option (Nat × Bool)} {x00_ : Int} {x01_ : Int} {x02_ : Int} {x03_ : Int} {x04_ : Int} {x05_ : Int} {x06_ : Int} {x07_ : Int} {x08_0_ : Int} {x08_1_ : Int} {x08_2_ : Int} {x10_ : Int} {x11_ : Int} {x12_ : Int} {x13_ : Int} {x14_ : Int} {x15_ : Int} {x16_ : Int} {x17_ : Int} {x18_0_ : Int} {x18_1_ : Int} {x18_2_ : Int} {x20_ : Int} {x21_ : Int} {x22_ : Int} {x23_ : Int} {x24_ : Int} {x25_ : Int} {x26_ : Int} {x27_ : Int} {x28_0_ : Int} {x28_1_ : Int} {x28_2_ : Int} {x30_ : Int} {x31_ : Int} {x32_ : Int} {x33_ : Int} {x34_ : Int} {x35_ : Int} {x36_ : Int} {x37_ : Int} {x38_0_ : Int} {x38_1_ : Int} {x38_2_ : Int} {o0 : Operand} {o1 : Operand} {o2 : Operand} {o3 : Operand} (h0 : ρ o0 = .agg #[.int .i64 x00_, .int .i64 x01_, .int .i64 x02_, .int .i64 x03_, .int .i64 x04_, .int .i64 x05_, .int .i64 x06_, .int .i64 x07_, .int .i64 x08_0_, .int .i64 x08_1_, .int .i64 x08_2_]) (h1 : ρ o1 = .agg #[.int .i64 x10_, .int .i64 x11_, .int .i64 x12_, .int .i64 x13_, .int .i64 x14_, .int .i64 x15_, .int .i64 x16_, .int .i64 x17_, .int .i64 x18_0_, .int .i64 x18_1_, .int .i64 x18_2_]) (h2 : ρ o2 = .agg #[.int .i64 x20_, .int .i64 x21_, .int .i64 x22_, .int .i64 x23_, .int .i64 x24_, .int .i64 x25_, .int .i64 x26_, .int .i64 x27_, .int .i64 x28_0_, .int .i64 x28_1_, .int .i64 x28_2_]) (h3 : ρ o3 = .agg #[.int .i64 x30_, .int .i64 x31_, .int .i64 x32_, .int .i64 x33_, .int .i64 x34_, .int .i64 x35_, .int .i64 x36_, .int .i64 x37_, .int .i64 x38_0_, .int .i64 x38_1_, .int .i64 x38_2_]) :
    (execOp ρ ⟨d, .buildSlice 53 4 #[(0, o0), (1, o1), (2, o2), (3, o3)], ty, pos, af, g⟩).run Try.prog w = .ok (.value (.slice (some ⟨w.heap.size, 0, none⟩) 4 4)) (w.alloc (.cells #[.int .i64 x00_, .int .i64 x01_, .int .i64 x02_, .int .i64 x03_, .int .i64 x04_, .int .i64 x05_, .int .i64 x06_, .int .i64 x07_, .int .i64 x08_0_, .int .i64 x08_1_, .int .i64 x08_2_, .int .i64 x10_, .int .i64 x11_, .int .i64 x12_, .int .i64 x13_, .int .i64 x14_, .int .i64 x15_, .int .i64 x16_, .int .i64 x17_, .int .i64 x18_0_, .int .i64 x18_1_, .int .i64 x18_2_, .int .i64 x20_, .int .i64 x21_, .int .i64 x22_, .int .i64 x23_, .int .i64 x24_, .int .i64 x25_, .int .i64 x26_, .int .i64 x27_, .int .i64 x28_0_, .int .i64 x28_1_, .int .i64 x28_2_, .int .i64 x30_, .int .i64 x31_, .int .i64 x32_, .int .i64 x33_, .int .i64 x34_, .int .i64 x35_, .int .i64 x36_, .int .i64 x37_, .int .i64 x38_0_, .int .i64 x38_1_, .int .i64 x38_2_] 66)) := by
  have e : (Instr.buildSlice 53 4 #[(0, .agg #[.int .i64 x00_, .int .i64 x01_, .int .i64 x02_, .int .i64 x03_, .int .i64 x04_, .int .i64 x05_, .int .i64 x06_, .int .i64 x07_, .int .i64 x08_0_, .int .i64 x08_1_, .int .i64 x08_2_]), (1, .agg #[.int .i64 x10_, .int .i64 x11_, .int .i64 x12_, .int .i64 x13_, .int .i64 x14_, .int .i64 x15_, .int .i64 x16_, .int .i64 x17_, .int .i64 x18_0_, .int .i64 x18_1_, .int .i64 x18_2_]), (2, .agg #[.int .i64 x20_, .int .i64 x21_, .int .i64 x22_, .int .i64 x23_, .int .i64 x24_, .int .i64 x25_, .int .i64 x26_, .int .i64 x27_, .int .i64 x28_0_, .int .i64 x28_1_, .int .i64 x28_2_]), (3, .agg #[.int .i64 x30_, .int .i64 x31_, .int .i64 x32_, .int .i64 x33_, .int .i64 x34_, .int .i64 x35_, .int .i64 x36_, .int .i64 x37_, .int .i64 x38_0_, .int .i64 x38_1_, .int .i64 x38_2_])]).run Try.prog w = .ok (.slice (some ⟨w.heap.size, 0, none⟩) 4 4) (w.alloc (.cells #[.int .i64 x00_, .int .i64 x01_, .int .i64 x02_, .int .i64 x03_, .int .i64 x04_, .int .i64 x05_, .int .i64 x06_, .int .i64 x07_, .int .i64 x08_0_, .int .i64 x08_1_, .int .i64 x08_2_, .int .i64 x10_, .int .i64 x11_, .int .i64 x12_, .int .i64 x13_, .int .i64 x14_, .int .i64 x15_, .int .i64 x16_, .int .i64 x17_, .int .i64 x18_0_, .int .i64 x18_1_, .int .i64 x18_2_, .int .i64 x20_, .int .i64 x21_, .int .i64 x22_, .int .i64 x23_, .int .i64 x24_, .int .i64 x25_, .int .i64 x26_, .int .i64 x27_, .int .i64 x28_0_, .int .i64 x28_1_, .int .i64 x28_2_, .int .i64 x30_, .int .i64 x31_, .int .i64 x32_, .int .i64 x33_, .int .i64 x34_, .int .i64 x35_, .int .i64 x36_, .int .i64 x37_, .int .i64 x38_0_, .int .i64 x38_1_, .int .i64 x38_2_] 66)) := by kernel_rfl
  simp [execOp, h0, h1, h2, h3, e]
theorem bs9_9 {ρ : Operand → Value} {w : World} {d : Option Nat} {ty : TypeId} {pos : String} {af : Array Edge} {g : Option (Nat × Bool)} {x00_ : Int} {x01_A : Option Addr} {x01_n x01_c : Nat} {x02_0_ : Int} {x02_1_ : Int} {x02_2_ : Int} {x02_3_A : Option Addr} {x02_3_n x02_3_c : Nat} {x02_4_0_0_ : Int} {x02_4_0_1_A : Option Addr} {x02_4_0_1_n x02_4_0_1_c : Nat} {x02_4_1_0_ : Int} {x02_4_1_1_A : Option Addr} {x02_4_1_1_n x02_4_1_1_c : Nat} {o0 : Operand} (h0 : ρ o0 = .agg #[.int .i64 x00_, .slice x01_A x01_n x01_c, .int .i64 x02_0_, .int .i64 x02_1_, .int .i64 x02_2_, .slice x02_3_A x02_3_n x02_3_c, .int .i64 x02_4_0_0_, .slice x02_4_0_1_A x02_4_0_1_n x02_4_0_1_c, .int .i64 x02_4_1_0_, .slice x02_4_1_1_A x02_4_1_1_n x02_4_1_1_c]) :
    (execOp ρ ⟨d, .buildSlice 22 1 #[(0, o0)], ty, pos, af, g⟩).run Try.prog w = .ok (.value (.slice (some ⟨w.heap.size, 0, none⟩) 1 1)) (w.alloc (.cells #[.int .i64 x00_, .slice x01_A x01_n x01_c, .int .i64 x02_0_, .int .i64 x02_1_, .int .i64 x02_2_, .slice x02_3_A x02_3_n x02_3_c, .int .i64 x02_4_0_0_, .slice x02_4_0_1_A x02_4_0_1_n x02_4_0_1_c, .int .i64 x02_4_1_0_, .slice x02_4_1_1_A x02_4_1_1_n x02_4_1_1_c] 60)) := by
  have e : (Instr.buildSlice 22 1 #[(0, .agg #[.int .i64 x00_, .slice x01_A x01_n x01_c, .int .i64 x02_0_, .int .i64 x02_1_, .int .i64 x02_2_, .slice x02_3_A x02_3_n x02_3_c, .int .i64 x02_4_0_0_, .slice x02_4_0_1_A x02_4_0_1_n x02_4_0_1_c, .int .i64 x02_4_1_0_, .slice x02_4_1_1_A x02_4_1_1_n x02_4_1_1_c])]).run Try.prog w = .ok (.slice (some ⟨w.heap.size, 0, none⟩) 1 1) (w.alloc (.cells #[.int .i64 x00_, .slice x01_A x01_n x01_c, .int .i64 x02_0_, .int .i64 x02_1_, .int .i64 x02_2_, .slice x02_3_A x02_3_n x02_3_c, .int .i64 x02_4_0_0_, .slice x02_4_0_1_A x02_4_0_1_n x02_4_0_1_c, .int .i64 x02_4_1_0_, .slice x02_4_1_1_A x02_4_1_1_n x02_4_1_1_c] 60)) := by kernel_rfl
  simp [execOp, h0, e]
set_option maxHeartbeats 12800000 in
theorem sp_m_l08_known (w0 : World)  : Calls Try.prog 9 #[] w0 (Ret fun v w => v = .bool (m_l08_known) ∧ Ext w0 w) := by
  obtain ⟨X, hM⟩ : ∃ X, m_l08_known = X := ⟨_, rfl⟩
  rw [hM]
  unfold m_l08_known at hM
  try simp only [er1, er2, er3, er4, er5, er6, er7, er8, er9, er10, er11, er12, er13, er14, er15, er16, er17, List.length_map] at hM
  have hL : Bx w0 w0 [] := Bx.nil
  refine calls_of Try.func9 rfl (Nat.le_of_ble_eq_true rfl) (by kernel_rfl) ?_
  refine wCut [] trivial fun g => ?_
  refine wSeq (wReg (sRun (xAsB rfl) (sNil (wSeq (wReg (sRun (bd9_2 rfl rfl rfl) (sRun (bd9_3 rfl rfl rfl) (sRun (bd9_4 rfl rfl rfl) (sRun (bd9_5 rfl rfl) (sRun (bd9_6 rfl rfl) (sTo (aRow (bs9_7 rfl rfl rfl rfl)) ?_)))))))))))
  rintro _ w1 ⟨b1, rfl, hge1, hB1, he1⟩
  replace hL := hL.new hge1 hB1 he1
  refine sCall (eCall cal29 rfl) (sp_m_l08_returns _ (1 : Int) (3 : Int) (⟨some ⟨b1, 0, none⟩, 4, [(⟨(1 : Int), (1 : Int), (0 : Int), (0 : Int), (2 : Int), (0 : Int), (0 : Int), (0 : Int), (⟨(0 : Int), (0 : Int), (0 : Int)⟩ : GSrc)⟩ : GOp), (⟨(5 : Int), (2 : Int), (0 : Int), (1 : Int), (0 : Int), (0 : Int), (0 : Int), (0 : Int), (⟨(0 : Int), (0 : Int), (0 : Int)⟩ : GSrc)⟩ : GOp), (⟨(2 : Int), (3 : Int), (2 : Int), (0 : Int), (0 : Int), (0 : Int), (0 : Int), (0 : Int), (⟨(0 : Int), (0 : Int), (0 : Int)⟩ : GSrc)⟩ : GOp), (⟨(21 : Int), (0 : Int), (0 : Int), (0 : Int), (0 : Int), (0 : Int), (0 : Int), (0 : Int), (⟨(2 : Int), (3 : Int), (0 : Int)⟩ : GSrc)⟩ : GOp)]⟩ : Lst GOp) (Blk.lst (hL.bk 0 rfl) ([(⟨(1 : Int), (1 : Int), (0 : Int), (0 : Int), (2 : Int), (0 : Int), (0 : Int), (0 : Int), (⟨(0 : Int), (0 : Int), (0 : Int)⟩ : GSrc)⟩ : GOp), (⟨(5 : Int), (2 : Int), (0 : Int), (1 : Int), (0 : Int), (0 : Int), (0 : Int), (0 : Int), (⟨(0 : Int), (0 : Int), (0 : Int)⟩ : GSrc)⟩ : GOp), (⟨(2 : Int), (3 : Int), (2 : Int), (0 : Int), (0 : Int), (0 : Int), (0 : Int), (0 : Int), (⟨(0 : Int), (0 : Int), (0 : Int)⟩ : GSrc)⟩ : GOp), (⟨(21 : Int), (0 : Int), (0 : Int), (0 : Int), (0 : Int), (0 : Int), (0 : Int), (0 : Int), (⟨(2 : Int), (3 : Int), (0 : Int)⟩ : GSrc)⟩ : GOp)] : List GOp) rfl (fun _ _ => trivial) trivial (show 4 ≤ maxLen by decide) (show 4 * 88 ≤ 140737488355328 by decide))) ?_
  rintro _ w2 ⟨r2, rfl, hr2, ho2, he2⟩
  replace hL := hL.ext he2
  have hE2 := hL.1
  have hRO_b1 := hL.bk 0 rfl
  have hE0 := hE2
  replace hL : Bx w2 w2 [] := Bx.nil
  obtain ⟨w0, rfl⟩ : ∃ x, x = w2 := ⟨_, rfl⟩
  try simp only [List.map_cons, List.map_nil] at hr2
  try rw [← hr2] at hM
  try simp only [er1, er2, er3, er4, er5, er6, er7, er8, er9, er10, er11, er12, er13, er14, er15, er16, er17, List.length_map] at hM
  refine sTo (aRow (bs9_9 rfl)) ?_
  rintro _ w3 ⟨b3, rfl, hge3, hB3, he3⟩
  replace hL := hL.new hge3 hB3 he3
  refine sCall (eCall cal28 rfl) (sp_m_l08_code _ (1 : Int) (⟨some ⟨b3, 0, none⟩, 1, [r2]⟩ : Lst (GBlock Lst)) (Blk.lst (hL.bk 0 rfl) ([r2] : List (GBlock Lst)) rfl (fun x hx => by simp only [List.mem_cons, List.not_mem_nil, or_false] at hx; rw [hx]; exact (Dat.all (Dat.ext (x := r2) ho2 hL.1))) trivial (show 1 ≤ maxLen by decide) (show 1 * 144 ≤ 140737488355328 by decide))) ?_
  rintro _ w4 ⟨r4, rfl, hr4, ho4, he4⟩
  replace hL := hL.ext he4
  have hE4 := hL.1
  have hRO_b3 := hL.bk 0 rfl
  replace hRO_b1 := hRO_b1.ext hE4
  replace ho2 : Dat.ok (fun _ => True) _ r2 := Dat.all (Dat.ext (x := r2) ho2 hE4)
  replace hE0 := hE0.trans hE4
  replace hL : Bx w4 w4 [] := Bx.nil
  obtain ⟨w0, rfl⟩ : ∃ x, x = w4 := ⟨_, rfl⟩
  try simp only [List.map_cons, List.map_nil] at hr4
  try rw [← hr4] at hM
  try simp only [er1, er2, er3, er4, er5, er6, er7, er8, er9, er10, er11, er12, er13, er14, er15, er16, er17, List.length_map] at hM
  refine sCall (eCall cal10 rfl) (sp_m_fold_Fold _ r4 (Dat.all (Dat.ext (x := r4) ho4 hL.1))) ?_
  rintro _ w5 ⟨r5, rfl, hr5, ho5, he5⟩
  replace hL := hL.ext he5
  have hE5 := hL.1
  replace hRO_b1 := hRO_b1.ext hE5
  replace hRO_b3 := hRO_b3.ext hE5
  replace ho2 : Dat.ok (fun _ => True) _ r2 := Dat.all (Dat.ext (x := r2) ho2 hE5)
  replace ho4 : Dat.ok (fun _ => True) _ r4 := Dat.all (Dat.ext (x := r4) ho4 hE5)
  replace hE0 := hE0.trans hE5
  replace hL : Bx w5 w5 [] := Bx.nil
  obtain ⟨w0, rfl⟩ : ∃ x, x = w5 := ⟨_, rfl⟩
  try simp only [List.map_cons, List.map_nil] at hr5
  try rw [← hr5] at hM
  try simp only [er1, er2, er3, er4, er5, er6, er7, er8, er9, er10, er11, er12, er13, er14, er15, er16, er17, List.length_map] at hM
  refine sTo (aNew (mAlloc ti26)) ?_
  rintro _ w6 ⟨b6, rfl, hge6, hB6, he6⟩
  replace hL := hL.new hge6 hB6 he6
  refine sStS ti26 rfl rfl rfl (by simp [Value.oneCell', Dat.cells, GCode.cells]) (hL.bk 0 rfl) rfl ?_
  intro w7 hB7 hC7
  replace hL : Bx w0 w7 [.box b6 26 (GCode.cells r5).toArray] := hL.wr 0 rfl hC7 hB7
  refine sNil (wSeq (wReg (sRun (xFld (k := 1) Try.underlying26 rfl rfl ti22 (by decide) rfl) (sRun (xLoad Try.underlying22 rfl rfl ((hL.bk 0 rfl).cell (i := 1) rfl)) ?_))))
  have hl8 : r5.Blocks.l.length * 144 ≤ 140737488355328 := Lst.bd ho5.1
  refine sRun (xLnL (s := r5.Blocks) Try.underlying22 rfl) (sRun (xEqlD rfl rfl) (sRun (xMvB rfl) ?_))
  by_cases h9 : ((r5.Blocks.l.length : Nat) : Int) = (1 : Int)
  ·try rw [decide_eq_true h9]
   rw [if_pos h9] at hM
   refine sGo rfl (sRun (xFld (k := 1) Try.underlying26 rfl rfl ti22 (by decide) rfl) (sGo rfl (sRun (xLoad Try.underlying22 rfl rfl ((hL.bk 0 rfl).cell (i := 1) rfl)) (sGo rfl ?_))))
   obtain ⟨x10, hx10⟩ := get_ex (l := r5.Blocks.l) (k := 0) (by omega)
   try rw [show (r5.Blocks.l.map GBlock.er)[0]?.getD (⟨(0 : Int), [], (⟨(0 : Int), (0 : Int), (0 : Int), [], (⟨(⟨(0 : Int), []⟩ : (GEdge List)), (⟨(0 : Int), []⟩ : (GEdge List))⟩ : (GArr56 List))⟩ : (GTerm List))⟩ : (GBlock List)) = GBlock.er x10 from getD_map hx10] at hM
   try simp only [er1, er2, er3, er4, er5, er6, er7, er8, er9, er10, er11, er12, er13, er14, er15, er16, er17, List.length_map] at hM
   refine sRun (xIdL Try.underlying22 ti60 rfl rfl rfl ho5.1 hx10) (sGo rfl (sRun (xFld (k := 1) Try.underlying60 rfl rfl ti53 (by decide) rfl) (sGo rfl (sRun (xLoad Try.underlying53 rfl rfl (((Lst.el ho5.1 hx10).ext hL.1) 1 _ rfl)) (sGo rfl ?_)))))
   have hl11 : x10.Ops.l.length * 88 ≤ 140737488355328 := Lst.bd ((Lst.elok ho5.1 hx10).1)
   refine sRun (xLnL (s := x10.Ops) Try.underlying53 rfl) (sGo rfl (sRun (xEqlD rfl rfl) (sRun (xPkTB rfl rfl) (sRun (xMvB rfl) ?_))))
   by_cases h12 : ((x10.Ops.l.length : Nat) : Int) = (4 : Int)
   ·try rw [decide_eq_true h12]
    rw [if_pos h12] at hM
    refine sGo rfl (sRun (xFld (k := 1) Try.underlying26 rfl rfl ti22 (by decide) rfl) (sGo rfl (sRun (xLoad Try.underlying22 rfl rfl ((hL.bk 0 rfl).cell (i := 1) rfl)) (sGo rfl (sRun (xIdL Try.underlying22 ti60 rfl rfl rfl ho5.1 hx10) (sGo rfl (sRun (xFld (k := 1) Try.underlying60 rfl rfl ti53 (by decide) rfl) (sGo rfl (sRun (xLoad Try.underlying53 rfl rfl (((Lst.el ho5.1 hx10).ext hL.1) 1 _ rfl)) (sGo rfl ?_))))))))))
    obtain ⟨x13, hx13⟩ := get_ex (l := x10.Ops.l) (k := 3) (by omega)
    try rw [show x10.Ops.l[3]?.getD (⟨(0 : Int), (0 : Int), (0 : Int), (0 : Int), (0 : Int), (0 : Int), (0 : Int), (0 : Int), (⟨(0 : Int), (0 : Int), (0 : Int)⟩ : GSrc)⟩ : GOp) = x13 from getD_of hx13] at hM
    try simp only [er1, er2, er3, er4, er5, er6, er7, er8, er9, er10, er11, er12, er13, er14, er15, er16, er17, List.length_map] at hM
    refine sRun (xIdL Try.underlying53 ti66 rfl rfl rfl ((Lst.elok ho5.1 hx10).1) hx13) (sGo rfl (sRun (xFld (k := 8) Try.underlying66 rfl rfl ti64 (by decide) rfl) (sGo rfl (sRun (xFld (k := 1) Try.underlying64 rfl rfl ti3 (by decide) rfl) (sGo rfl (sRun (xLoad Try.underlying3 rfl rfl (((Lst.el ((Lst.elok ho5.1 hx10).1) hx13).ext hL.1) 9 _ rfl)) (sGo rfl (sRun (xEqlD rfl rfl) (sRun (xPkTB rfl rfl) (sRun (xMvB rfl) ?_))))))))))
    by_cases h14 : x13.Src.Val = (2 : Int)
    ·try rw [decide_eq_true h14]
     rw [if_pos h14] at hM
     refine sGo rfl (sRun (xFld (k := 1) Try.underlying26 rfl rfl ti22 (by decide) rfl) (sGo rfl (sRun (xLoad Try.underlying22 rfl rfl ((hL.bk 0 rfl).cell (i := 1) rfl)) (sGo rfl (sRun (xIdL Try.underlying22 ti60 rfl rfl rfl ho5.1 hx10) (sGo rfl (sRun (xFld (k := 2) Try.underlying60 rfl rfl ti58 (by decide) rfl) (sGo rfl (sRun (xFld (k := 1) Try.underlying58 rfl rfl ti3 (by decide) rfl) (sGo rfl (sRun (xLoad Try.underlying3 rfl rfl (((Lst.el ho5.1 hx10).ext hL.1) 3 _ rfl)) (sGo rfl (sRun (xEqlD rfl rfl) ?_)))))))))))))
     refine sRun (xPkTB rfl rfl) (sRun (xAsB rfl) (sNil (wRet ?_)))
     subst hM
     refine res1 (P := Try.prog) (fn := Try.f9) rfl ?_
     exact ⟨rfl, hE0.trans hL.1⟩
    ·try rw [decide_eq_false h14]
     rw [if_neg h14] at hM
     refine sNo rfl (sNo rfl (sNo rfl (sNo rfl (sNo rfl (sNo rfl (sNo rfl (sRun (xPkFB rfl rfl) (sRun (xAsB rfl) (sNil (wRet ?_))))))))))
     subst hM
     refine res1 (P := Try.prog) (fn := Try.f9) rfl ?_
     exact ⟨rfl, hE0.trans hL.1⟩
   ·try rw [decide_eq_false h12]
    rw [if_neg h12] at hM
    refine sNo rfl (sNo rfl (sNo rfl (sNo rfl (sNo rfl (sNo rfl (sNo rfl (sNo rfl (sNo rfl (sNo rfl (sRun (xPkFB rfl rfl) (sRun (xMvB rfl) (sNo rfl (sNo rfl ?_)))))))))))))
    refine sNo rfl (sNo rfl (sNo rfl (sNo rfl (sNo rfl (sRun (xPkFB rfl rfl) (sRun (xAsB rfl) (sNil (wRet ?_))))))))
    subst hM
    refine res1 (P := Try.prog) (fn := Try.f9) rfl ?_
    exact ⟨rfl, hE0.trans hL.1⟩
  ·try rw [decide_eq_false h9]
   rw [if_neg h9] at hM
   refine sNo rfl (sNo rfl (sNo rfl (sNo rfl (sNo rfl (sNo rfl (sNo rfl (sRun (xPkFB rfl rfl) (sRun (xMvB rfl) (sNo rfl (sNo rfl (sNo rfl (sNo rfl (sNo rfl ?_)))))))))))))
   refine sNo rfl (sNo rfl (sNo rfl (sNo rfl (sNo rfl (sRun (xPkFB rfl rfl) (sRun (xMvB rfl) (sNo rfl (sNo rfl (sNo rfl (sNo rfl (sNo rfl (sNo rfl (sNo rfl ?_)))))))))))))
   refine sRun (xPkFB rfl rfl) (sRun (xAsB rfl) (sNil (wRet ?_)))
   subst hM
   refine res1 (P := Try.prog) (fn := Try.f9) rfl ?_
   exact ⟨rfl, hE0.trans hL.1⟩

end Go.Proofs.Ytbpccmnalhdpmaa
