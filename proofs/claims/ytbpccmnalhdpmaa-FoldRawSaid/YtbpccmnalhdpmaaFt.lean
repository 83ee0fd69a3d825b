/- Contracts, printed by gen4.py. -/
import Derived.Test.YtbpccmnalhdpmaaFr
import Derived.Test.YtbpccmnalhdpmaaOz
set_option linter.unusedVariables false
set_option linter.unusedSimpArgs false
set_option maxRecDepth 4000
namespace Go.Proofs.Ytbpccmnalhdpmaa
open Go.RowKit Go.Fw
def m_r08_facts_list_L0 (a0_constant : List (Int × Int)) (a0_same : List (Int × Int)) (a1 : (List Int)) : List Int → Nat → (List Int) → Lp (List Int) ((List Int))
  | [], _, s4_0 => .go s4_0
  | x4 :: r4, k4, s4_0 =>
  m_r08_facts_list_L0 a0_constant a0_same a1 r4 (k4 + 1) (s4_0 ++ [(m_r08_facts_of a0_constant a0_same x4)])
def m_r08_facts_list (a0_constant : List (Int × Int)) (a0_same : List (Int × Int)) (a1 : (List Int)) : (List Int) :=
 (m_r08_facts_list_L0 a0_constant a0_same a1 a1 0 ([] : List Int)).el (fun u4 =>
  u4
   ) (fun o => o)
theorem bs85_18 {ρ : Operand → Value} {w : World} {d : Option Nat} {ty : TypeId} {pos : String} {af : Array Edge} {g : Option (Nat × Bool)} {x0 : Int} {o0 : Operand} (h0 : ρ o0 = .int .i64 x0) :
    (execOp ρ ⟨d, .buildSlice 37 1 #[(0, o0)], ty, pos, af, g⟩).run Try.prog w = .ok (.value (.slice (some ⟨w.heap.size, 0, none⟩) 1 1)) (w.alloc (.cells #[.int .i64 x0] 3)) := by
  have e : (Instr.buildSlice 37 1 #[(0, .int .i64 x0)]).run Try.prog w = .ok (.slice (some ⟨w.heap.size, 0, none⟩) 1 1) (w.alloc (.cells #[.int .i64 x0] 3)) := by kernel_rfl
  simp [execOp, h0, e]
set_option maxHeartbeats 12800000 in
theorem sp_m_r08_facts_list (w0 : World) (a0_constantb : Nat) (a0_constant : List (Int × Int)) (a0_constanth : Mp ekI evI w0 a0_constantb a0_constant) (a0_sameb : Nat) (a0_same : List (Int × Int)) (a0_sameh : Mp ekI evI w0 a0_sameb a0_same) (a1 : (Lst Int)) (h1 : Dat.ok (fun _ => True) w0 a1) : Calls Try.prog 85 #[.agg #[.map (some a0_constantb), .map (some a0_sameb)], .slice a1.a a1.l.length a1.c] w0 (Ret fun v w => ∃ r : (Lst Int), v = r.val ∧ r.l = m_r08_facts_list a0_constant a0_same a1.l ∧ Dat.ok (fun b => w0.heap.size ≤ b) w r ∧ Ext w0 w) := by
  obtain ⟨X, hM⟩ : ∃ X, m_r08_facts_list a0_constant a0_same a1.l = X := ⟨_, rfl⟩
  rw [hM]
  unfold m_r08_facts_list at hM
  try simp only [er1, er2, er3, er4, er5, er6, er7, er8, er9, er10, er11, er12, er13, er14, er15, er16, er17, List.length_map] at hM
  have hL : Bx w0 w0 [] := Bx.nil
  refine calls_of Try.func85 rfl (Nat.le_of_ble_eq_true rfl) (by kernel_rfl) ?_
  refine wCut [(0, .agg #[.map (some a0_constantb), .map (some a0_sameb)]), (1, .slice a1.a a1.l.length a1.c)] ⟨rfl, rfl, trivial⟩ fun g => ?_
  refine wSeq (wReg (sTo (aNew (mBox rfl)) ?_))
  rintro _ w1 ⟨b1, rfl, hge1, hB1, he1⟩
  replace hL := hL.new hge1 hB1 he1
  refine sRun (xAsS rfl) (sNil (wSeq (wReg (sRun (xAsS rfl) (sNil (wSeq (wSeq (wReg (sRun (xMvS rfl) ?_)))))))))
  have hl2 : a1.l.length * 8 ≤ 140737488355328 := Lst.bd h1
  refine sRun (xLnL (s := a1) Try.underlying37 rfl) (sRun (xMvI rfl) (sNil ?_))
  replace hL := hL.owL Int 3
  obtain ⟨Y4, hY4⟩ : ∃ Y, m_r08_facts_list_L0 a0_constant a0_same a1.l a1.l 0 ([] : List Int) = Y := ⟨_, rfl⟩
  rw [hY4] at hM
  refine wJ (fun f w => ∃ (s4_0 : List Int) (A5 : Option Addr) (c5 : Nat), Has f [(2, .pointer (some ⟨b1, 0, none⟩)), (5, .slice A5 s4_0.length c5), (8, .slice a1.a a1.l.length a1.c), (9, .int .i64 ((a1.l.length : Nat) : Int))] ∧ Bx w0 w [.ownl A5 c5 3 s4_0, .box b1 81 #[.map (some a0_constantb), .map (some a0_sameb)]] ∧ s4_0.length ≤ ([] : List Int).length + 1 * a1.l.length ∧ Lp.go s4_0 = Y4) ?_ ?_
  ·refine wBlock (wLoopG (fun n f w => ∃ (k4 : Nat) (s4_0 : List Int) (A5 : Option Addr) (c5 : Nat), n = a1.l.length - k4 ∧ k4 ≤ a1.l.length ∧ Has f [(10, .int .i64 ((k4 : Nat) : Int)), (2, .pointer (some ⟨b1, 0, none⟩)), (5, .slice A5 s4_0.length c5), (8, .slice a1.a a1.l.length a1.c), (9, .int .i64 ((a1.l.length : Nat) : Int))] ∧ Bx w0 w [.ownl A5 c5 3 s4_0, .box b1 81 #[.map (some a0_constantb), .map (some a0_sameb)]] ∧ s4_0.length ≤ ([] : List Int).length + 1 * k4 ∧ m_r08_facts_list_L0 a0_constant a0_same a1.l (a1.l.drop k4) k4 s4_0 = Y4) (a1.l.length) ⟨0, ([] : List Int), none, 0, rfl, Nat.zero_le _, ⟨rfl, rfl, rfl, rfl, rfl, trivial⟩, hL, (by first | omega | (simp only [List.length_append, List.length_cons, List.length_nil] at *; omega)), hY4⟩ ?_)
   clear hL hY4
   rintro n f w ⟨k4, s4_0, A5, c5, rfl, hk4, hf, hL, hb4_0, hY4⟩
   obtain ⟨g, rfl⟩ := has_updL _ _ hf
   clear hf
   rcases Nat.lt_or_ge k4 a1.l.length with hk4b | hk4b
   ·obtain ⟨x4, hx4⟩ := get_ex (l := a1.l) hk4b
    rw [drop_id hx4, m_r08_facts_list_L0] at hY4
    try simp only [er1, er2, er3, er4, er5, er6, er7, er8, er9, er10, er11, er12, er13, er14, er15, er16, er17, List.length_map] at hY4
    refine wSeq (wReg (sRun (xLssT rfl rfl (by omega)) (sNil (wSeq (wIfT rfl (wSkip (wSeq (wBlock (wSeq (wReg (sRun (xIdL Try.underlying37 ti3 rfl rfl rfl h1 hx4) (sRun (xLoad Try.underlying3 rfl rfl (((Lst.el h1 hx4).ext hL.1) 0 _ rfl)) (sRun (xAsI rfl) ?_)))))))))))))
    refine sNil (wReg (sRun (xMvS rfl) (sRun (xLoadS [.map (some a0_constantb), .map (some a0_sameb)] Try.underlying81 rfl ti81 rfl rfl ((hL.bk 1 rfl).part rfl)) (sRun (xMvI rfl) (sCall (eCall cal79 rfl) (sp_m_r08_facts_of _ a0_constantb a0_constant (a0_constanth.ext hL.1) a0_sameb a0_same (a0_sameh.ext hL.1) x4) ?_)))))
    rintro _ w6 ⟨rfl, he6⟩
    replace hL := hL.ext he6
    refine sTo (aRow (bs85_18 rfl)) ?_
    rintro _ w7 ⟨b7, rfl, hge7, hB7, he7⟩
    replace hL := hL.new hge7 hB7 he7
    refine sTo (aAppL (xs := s4_0) (ys := [(m_r08_facts_of a0_constant a0_same x4)]) Try.underlying37 ti3 rfl (by decide) rfl rfl (hL.bo 1 rfl) ((hL.bk 0 rfl).sl1 (α := Int) [(m_r08_facts_of a0_constant a0_same x4)] rfl rfl) (allOne rfl) (by first | omega | (simp only [List.length_append, List.length_cons, List.length_nil] at *; omega)) (by first | omega | (simp only [List.length_append, List.length_cons, List.length_nil] at *; omega))) ?_
    rintro _ w8 ⟨A8, c8, rfl, ho8, hg8, hr8⟩
    replace hL : Bx w0 w8 [.box b7 3 #[.int .i64 (m_r08_facts_of a0_constant a0_same x4)], .ownl A8 c8 3 (s4_0 ++ [(m_r08_facts_of a0_constant a0_same x4)]), .box b1 81 #[.map (some a0_constantb), .map (some a0_sameb)]] := hL.app 1 rfl ho8 hg8 hr8
    refine sRun (xAsS rfl) (sNil (wReg (sRun (xAdd64 rfl rfl (by omega) (by omega)) (sRun (xMvI rfl) (sNil ?_)))))
    exact ⟨a1.l.length - (k4 + 1), by omega, k4 + 1, (s4_0 ++ [(m_r08_facts_of a0_constant a0_same x4)]), A8, c8, rfl, by omega, ⟨rfl, rfl, rfl, rfl, rfl, trivial⟩, hL.tl, (by first | omega | (simp only [List.length_append, List.length_cons, List.length_nil] at *; omega)), hY4⟩
   ·obtain rfl : k4 = a1.l.length := by omega
    rw [drop_end, m_r08_facts_list_L0] at hY4
    refine wSeq (wReg (sRun (xLssF rfl rfl (by omega)) (sNil (wSeq (wIfF rfl (wExit ?_))))))
    exact ⟨s4_0, A5, c5, ⟨rfl, rfl, rfl, rfl, trivial⟩, hL, (by first | omega | (simp only [List.length_append, List.length_cons, List.length_nil] at *; omega)), hY4⟩
  ·clear hL
   rintro f w ⟨s4_0, A5, c5, hf, hL, hb4_0, hZ4⟩
   obtain ⟨g, rfl⟩ := has_updL _ _ hf
   clear hf
   subst hZ4
   rw [Lp.el_go] at hM
   try dsimp only at hM
   refine wSeq (wReg (sRun (xMvS rfl) (sRun (xAsS rfl) (sNil (wRet (res1 (P := Try.prog) (fn := Try.f85) rfl ?_))))))
   exact ⟨⟨A5, c5, s4_0⟩, rfl, hM, Own.okL (hL.bo 0 rfl) (hL.base 0 rfl) (fun _ _ => trivial) (show s4_0.length * 8 ≤ 140737488355328 by first | omega | (simp only [List.length_append, List.length_cons, List.length_nil] at *; omega)), hL.1⟩

def m_r08_facts_term_J0 (a0_constant : List (Int × Int)) (a0_same : List (Int × Int)) (a1 : (GTerm List)) : Lp (Int) ((GTerm List)) :=
  if (((decide (a1.Kind = (2 : Int))) || (decide (a1.Kind = (4 : Int)))) || (decide (a1.Kind = (5 : Int)))) = true then
   .go (m_r08_facts_of a0_constant a0_same a1.A)
  else
   .go a1.A
def m_r08_facts_term (a0_constant : List (Int × Int)) (a0_same : List (Int × Int)) (a1 : (GTerm List)) : (GTerm List) :=
 (m_r08_facts_term_J0 a0_constant a0_same a1).el (fun u7 =>
  if a1.Kind ≠ (2 : Int) then
   (⟨a1.Kind, u7, a1.N, (m_r08_facts_list a0_constant a0_same a1.Args), ⟨⟨a1.To.e0.Block, (m_r08_facts_list a0_constant a0_same a1.To.e0.Args)⟩, ⟨a1.To.e1.Block, (m_r08_facts_list a0_constant a0_same a1.To.e1.Args)⟩⟩⟩ : (GTerm List))
  else
   if ((mget a0_constant u7).isSome) = true then
    if ((mget a0_constant u7).getD (0 : Int)) = (0 : Int) then
     (⟨(1 : Int), (0 : Int), (0 : Int), [], ⟨⟨a1.To.e1.Block, (m_r08_facts_list a0_constant a0_same a1.To.e1.Args)⟩, ⟨(-1 : Int), []⟩⟩⟩ : (GTerm List))
    else
     (⟨(1 : Int), (0 : Int), (0 : Int), [], ⟨⟨a1.To.e0.Block, (m_r08_facts_list a0_constant a0_same a1.To.e0.Args)⟩, ⟨(-1 : Int), []⟩⟩⟩ : (GTerm List))
   else
    (⟨a1.Kind, u7, a1.N, (m_r08_facts_list a0_constant a0_same a1.Args), ⟨⟨a1.To.e0.Block, (m_r08_facts_list a0_constant a0_same a1.To.e0.Args)⟩, ⟨a1.To.e1.Block, (m_r08_facts_list a0_constant a0_same a1.To.e1.Args)⟩⟩⟩ : (GTerm List))
   ) (fun o => o)
theorem bd41_72 {ρ : Operand → Value} {w : World} {d : Option Nat} {ty : TypeId} {pos : String} {af : Array Edge} {g : Option (Nat × Bool)} {x0 : Int} {o0 : Operand} (h0 : ρ o0 = .int .i64 x0) : Yl Try.prog ρ (.build 55 #[(0, o0)]) d ty pos af g w (.agg #[.int .i64 x0, .slice none 0 0]) := by
  have e : (Instr.build 55 #[(0, .int .i64 x0)]).run Try.prog w = .ok (.agg #[.int .i64 x0, .slice none 0 0]) w := by kernel_rfl
  simp [Yl, execOp, h0, e]
theorem bd41_73 {ρ : Operand → Value} {w : World} {d : Option Nat} {ty : TypeId} {pos : String} {af : Array Edge} {g : Option (Nat × Bool)} {x00_ : Int} {x01_A : Option Addr} {x01_n x01_c : Nat} {x10_ : Int} {x11_A : Option Addr} {x11_n x11_c : Nat} {o0 : Operand} {o1 : Operand} (h0 : ρ o0 = .agg #[.int .i64 x00_, .slice x01_A x01_n x01_c]) (h1 : ρ o1 = .agg #[.int .i64 x10_, .slice x11_A x11_n x11_c]) : Yl Try.prog ρ (.build 56 #[(0, o0), (1, o1)]) d ty pos af g w (.agg #[.int .i64 x00_, .slice x01_A x01_n x01_c, .int .i64 x10_, .slice x11_A x11_n x11_c]) := by
  have e : (Instr.build 56 #[(0, .agg #[.int .i64 x00_, .slice x01_A x01_n x01_c]), (1, .agg #[.int .i64 x10_, .slice x11_A x11_n x11_c])]).run Try.prog w = .ok (.agg #[.int .i64 x00_, .slice x01_A x01_n x01_c, .int .i64 x10_, .slice x11_A x11_n x11_c]) w := by kernel_rfl
  simp [Yl, execOp, h0, h1, e]
theorem bd41_74 {ρ : Operand → Value} {w : World} {d : Option Nat} {ty : TypeId} {pos : String} {af : Array Edge} {g : Option (Nat × Bool)} {x0 : Int} {x40_0_ : Int} {x40_1_A : Option Addr} {x40_1_n x40_1_c : Nat} {x41_0_ : Int} {x41_1_A : Option Addr} {x41_1_n x41_1_c : Nat} {o0 : Operand} {o4 : Operand} (h0 : ρ o0 = .int .i64 x0) (h4 : ρ o4 = .agg #[.int .i64 x40_0_, .slice x40_1_A x40_1_n x40_1_c, .int .i64 x41_0_, .slice x41_1_A x41_1_n x41_1_c]) : Yl Try.prog ρ (.build 58 #[(0, o0), (4, o4)]) d ty pos af g w (.agg #[.int .i64 x0, .int .i64 0, .int .i64 0, .slice none 0 0, .int .i64 x40_0_, .slice x40_1_A x40_1_n x40_1_c, .int .i64 x41_0_, .slice x41_1_A x41_1_n x41_1_c]) := by
  have e : (Instr.build 58 #[(0, .int .i64 x0), (4, .agg #[.int .i64 x40_0_, .slice x40_1_A x40_1_n x40_1_c, .int .i64 x41_0_, .slice x41_1_A x41_1_n x41_1_c])]).run Try.prog w = .ok (.agg #[.int .i64 x0, .int .i64 0, .int .i64 0, .slice none 0 0, .int .i64 x40_0_, .slice x40_1_A x40_1_n x40_1_c, .int .i64 x41_0_, .slice x41_1_A x41_1_n x41_1_c]) w := by kernel_rfl
  simp [Yl, execOp, h0, h4, e]
set_option maxHeartbeats 12800000 in
theorem sp_m_r08_facts_term (w0 : World) (a0_constantb : Nat) (a0_constant : List (Int × Int)) (a0_constanth : Mp ekI evI w0 a0_constantb a0_constant) (a0_sameb : Nat) (a0_same : List (Int × Int)) (a0_sameh : Mp ekI evI w0 a0_sameb a0_same) (a1 : (GTerm Lst)) (h1 : Dat.ok (fun _ => True) w0 a1) : Calls Try.prog 41 #[.agg #[.map (some a0_constantb), .map (some a0_sameb)], .agg (GTerm.cells a1).toArray] w0 (Ret fun v w => ∃ r : (GTerm Lst), v = .agg (GTerm.cells r).toArray ∧ GTerm.er r = m_r08_facts_term a0_constant a0_same (GTerm.er a1) ∧ Dat.ok (fun b => w0.heap.size ≤ b) w r ∧ Ext w0 w) := by
  obtain ⟨X, hM⟩ : ∃ X, m_r08_facts_term a0_constant a0_same (GTerm.er a1) = X := ⟨_, rfl⟩
  rw [hM]
  unfold m_r08_facts_term at hM
  try simp only [er1, er2, er3, er4, er5, er6, er7, er8, er9, er10, er11, er12, er13, er14, er15, er16, er17, List.length_map] at hM
  have hL : Bx w0 w0 [] := Bx.nil
  refine calls_of Try.func41 rfl (Nat.le_of_ble_eq_true rfl) (by kernel_rfl) ?_
  refine wCut [(0, .agg #[.map (some a0_constantb), .map (some a0_sameb)]), (1, .agg (GTerm.cells a1).toArray)] ⟨rfl, rfl, trivial⟩ fun g => ?_
  refine wSeq (wReg (sTo (aNew (mBox rfl)) ?_))
  rintro _ w1 ⟨b1, rfl, hge1, hB1, he1⟩
  replace hL := hL.new hge1 hB1 he1
  refine sTo (aNew (mBox rfl)) ?_
  rintro _ w2 ⟨b2, rfl, hge2, hB2, he2⟩
  replace hL := hL.new hge2 hB2 he2
  refine sTo (aNew (mAlloc ti58)) ?_
  rintro _ w3 ⟨b3, rfl, hge3, hB3, he3⟩
  replace hL := hL.new hge3 hB3 he3
  refine sNil (wSeq (wSeq ?_))
  obtain ⟨E4, hE4⟩ : ∃ E, (((decide (a1.Kind = (2 : Int))) || (decide (a1.Kind = (4 : Int)))) || (decide (a1.Kind = (5 : Int)))) = E := ⟨_, rfl⟩
  refine wJ (fun f w => Has f [(2, .pointer (some ⟨b1, 0, none⟩)), (3, .pointer (some ⟨b2, 0, none⟩)), (4, .pointer (some ⟨b3, 0, none⟩)), (21, .bool E4)] ∧ Bx w0 w [.box b3 58 #[.int .i64 (0 : Int), .int .i64 (0 : Int), .int .i64 (0 : Int), .slice none 0 0, .int .i64 (0 : Int), .slice none 0 0, .int .i64 (0 : Int), .slice none 0 0], .box b2 58 (GTerm.cells a1).toArray, .box b1 81 #[.map (some a0_constantb), .map (some a0_sameb)]]) ?_ ?_
  ·refine wReg (sRun (xFld0 Try.underlying58 rfl rfl ti3 (by decide) rfl) (sRun (xLoad Try.underlying3 rfl rfl ((hL.bk 1 rfl).cell (i := 0) rfl)) (sRun (xEqlD rfl rfl) (sRun (xMvB rfl) ?_))))
   by_cases h5 : a1.Kind = (2 : Int)
   ·try rw [decide_eq_true h5]
    refine sNo rfl (sNo rfl (sNo rfl (sRun (xPkTB rfl rfl) (sRun (xMvB rfl) (sNo rfl (sNo rfl (sNo rfl (sRun (xPkTB rfl rfl) (sNil ?_)))))))))
    exact ⟨⟨rfl, rfl, rfl, (congrArg Value.bool (by rw [← hE4]; first | (simp [h5]; done) | (simp only [decide_eq_true h5]; done) | grind)), trivial⟩, hL⟩
   ·try rw [decide_eq_false h5]
    refine sGo rfl (sRun (xFld0 Try.underlying58 rfl rfl ti3 (by decide) rfl) (sGo rfl (sRun (xLoad Try.underlying3 rfl rfl ((hL.bk 1 rfl).cell (i := 0) rfl)) (sGo rfl (sRun (xEqlD rfl rfl) (sRun (xPkFB rfl rfl) (sRun (xMvB rfl) ?_)))))))
    by_cases h6 : a1.Kind = (4 : Int)
    ·try rw [decide_eq_true h6]
     refine sNo rfl (sNo rfl (sNo rfl (sRun (xPkTB rfl rfl) (sNil ?_))))
     exact ⟨⟨rfl, rfl, rfl, (congrArg Value.bool (by rw [← hE4]; first | (simp [h5, h6]; done) | (simp only [decide_eq_false h5, decide_eq_true h6]; done) | grind)), trivial⟩, hL⟩
    ·try rw [decide_eq_false h6]
     refine sGo rfl (sRun (xFld0 Try.underlying58 rfl rfl ti3 (by decide) rfl) (sGo rfl (sRun (xLoad Try.underlying3 rfl rfl ((hL.bk 1 rfl).cell (i := 0) rfl)) (sGo rfl (sRun (xEqlD rfl rfl) (sRun (xPkFB rfl rfl) (sNil ?_)))))))
     exact ⟨⟨rfl, rfl, rfl, (congrArg Value.bool (by rw [← hE4]; first | (simp [h5, h6]; done) | (simp only [decide_eq_false h5, decide_eq_false h6]; done) | grind)), trivial⟩, hL⟩
  ·clear hL
   subst hE4
   rintro f w ⟨hf, hL⟩
   obtain ⟨g, rfl⟩ := has_updL _ _ hf
   clear hf
   obtain ⟨Y7, hY7⟩ : ∃ Y, m_r08_facts_term_J0 a0_constant a0_same (GTerm.er a1) = Y := ⟨_, rfl⟩
   rw [hY7] at hM
   refine wJ (fun f w => ∃ (s7_0 : Int), Has f [(2, .pointer (some ⟨b1, 0, none⟩)), (3, .pointer (some ⟨b2, 0, none⟩)), (4, .pointer (some ⟨b3, 0, none⟩))] ∧ Bx w0 w [.box b3 58 #[.int .i64 (0 : Int), .int .i64 (0 : Int), .int .i64 (0 : Int), .slice none 0 0, .int .i64 (0 : Int), .slice none 0 0, .int .i64 (0 : Int), .slice none 0 0], .box b2 58 #[.int .i64 a1.Kind, .int .i64 s7_0, .int .i64 a1.N, .slice a1.Args.a a1.Args.l.length a1.Args.c, .int .i64 a1.To.e0.Block, .slice a1.To.e0.Args.a a1.To.e0.Args.l.length a1.To.e0.Args.c, .int .i64 a1.To.e1.Block, .slice a1.To.e1.Args.a a1.To.e1.Args.l.length a1.To.e1.Args.c], .box b1 81 #[.map (some a0_constantb), .map (some a0_sameb)]] ∧ Lp.go s7_0 = Y7) ?_ ?_
   ·unfold m_r08_facts_term_J0 at hY7
    try simp only [er1, er2, er3, er4, er5, er6, er7, er8, er9, er10, er11, er12, er13, er14, er15, er16, er17, List.length_map] at hY7
    by_cases h8 : (((decide (a1.Kind = (2 : Int))) || (decide (a1.Kind = (4 : Int)))) || (decide (a1.Kind = (5 : Int)))) = true
    ·try rw [h8]
     rw [if_pos h8] at hY7
     refine wIfT rfl (wReg (sRun (xLoadS [.map (some a0_constantb), .map (some a0_sameb)] Try.underlying81 rfl ti81 rfl rfl ((hL.bk 2 rfl).part rfl)) (sRun (xFld (k := 1) Try.underlying58 rfl rfl ti3 (by decide) rfl) (sRun (xLoad Try.underlying3 rfl rfl ((hL.bk 1 rfl).cell (i := 1) rfl)) (sCall (eCall cal79 rfl) (sp_m_r08_facts_of _ a0_constantb a0_constant (a0_constanth.ext hL.1) a0_sameb a0_same (a0_sameh.ext hL.1) a1.A) ?_)))))
     rintro _ w9 ⟨rfl, he9⟩
     replace hL := hL.ext he9
     refine sRun (xFld (k := 1) Try.underlying58 rfl rfl ti3 (by decide) rfl) (sSt1 ti3 rfl rfl rfl (hL.bk 1 rfl) (Nat.le_of_ble_eq_true rfl) ?_)
     intro w10 hB10 hC10
     replace hL : Bx w0 w10 [.box b3 58 #[.int .i64 (0 : Int), .int .i64 (0 : Int), .int .i64 (0 : Int), .slice none 0 0, .int .i64 (0 : Int), .slice none 0 0, .int .i64 (0 : Int), .slice none 0 0], .box b2 58 #[.int .i64 a1.Kind, .int .i64 (m_r08_facts_of a0_constant a0_same a1.A), .int .i64 a1.N, .slice a1.Args.a a1.Args.l.length a1.Args.c, .int .i64 a1.To.e0.Block, .slice a1.To.e0.Args.a a1.To.e0.Args.l.length a1.To.e0.Args.c, .int .i64 a1.To.e1.Block, .slice a1.To.e1.Args.a a1.To.e1.Args.l.length a1.To.e1.Args.c], .box b1 81 #[.map (some a0_constantb), .map (some a0_sameb)]] := hL.wr 1 rfl hC10 hB10
     refine sNil ?_
     exact ⟨(m_r08_facts_of a0_constant a0_same a1.A), ⟨rfl, rfl, rfl, trivial⟩, hL, hY7⟩
    ·have h8n : (((decide (a1.Kind = (2 : Int))) || (decide (a1.Kind = (4 : Int)))) || (decide (a1.Kind = (5 : Int)))) = false := Bool.eq_false_iff.2 h8
     try rw [h8n]
     rw [if_neg h8] at hY7
     have h11 : ¬ (a1.Kind = (2 : Int)) := fun hq => by rw [decide_eq_true hq] at h8; simp at h8
     have h12 : ¬ (a1.Kind = (4 : Int)) := fun hq => by rw [decide_eq_true hq] at h8; simp at h8
     have h13 : ¬ (a1.Kind = (5 : Int)) := fun hq => by rw [decide_eq_true hq] at h8; simp at h8
     refine wIfF rfl (wSkip ?_)
     exact ⟨a1.A, ⟨rfl, rfl, rfl, trivial⟩, hL, hY7⟩
   ·clear hL
    rintro f w ⟨s7_0, hf, hL, hZ7⟩
    obtain ⟨g, rfl⟩ := has_updL _ _ hf
    clear hf
    subst hZ7
    rw [Lp.el_go] at hM
    try dsimp only at hM
    refine wSeq (wReg (sRun (xLoadS [.map (some a0_constantb), .map (some a0_sameb)] Try.underlying81 rfl ti81 rfl rfl ((hL.bk 2 rfl).part rfl)) (sRun (xFld (k := 3) Try.underlying58 rfl rfl ti37 (by decide) rfl) (sRun (xLoad Try.underlying37 rfl rfl ((hL.bk 1 rfl).cell (i := 3) rfl)) (sCall (eCall cal85 rfl) (sp_m_r08_facts_list _ a0_constantb a0_constant (a0_constanth.ext hL.1) a0_sameb a0_same (a0_sameh.ext hL.1) a1.Args (Dat.all (Dat.ext (x := a1.Args) h1.1 hL.1))) ?_)))))
    rintro _ w14 ⟨r14, rfl, hr14, ho14, he14⟩
    obtain ⟨lo14, hi14, hL⟩ := hL.got' he14 ho14
    try rw [← hr14] at hM
    refine sRun (xFld (k := 3) Try.underlying58 rfl rfl ti37 (by decide) rfl) (sSt1 ti37 rfl rfl rfl (hL.bk 2 rfl) (Nat.le_of_ble_eq_true rfl) ?_)
    intro w15 hB15 hC15
    replace hL : Bx w0 w15 [.dat lo14 hi14 r14, .box b3 58 #[.int .i64 (0 : Int), .int .i64 (0 : Int), .int .i64 (0 : Int), .slice none 0 0, .int .i64 (0 : Int), .slice none 0 0, .int .i64 (0 : Int), .slice none 0 0], .box b2 58 #[.int .i64 a1.Kind, .int .i64 s7_0, .int .i64 a1.N, .slice r14.a r14.l.length r14.c, .int .i64 a1.To.e0.Block, .slice a1.To.e0.Args.a a1.To.e0.Args.l.length a1.To.e0.Args.c, .int .i64 a1.To.e1.Block, .slice a1.To.e1.Args.a a1.To.e1.Args.l.length a1.To.e1.Args.c], .box b1 81 #[.map (some a0_constantb), .map (some a0_sameb)]] := hL.wr 2 rfl hC15 hB15
    refine sNil (wSeq (wSeq (wReg (sRun (xAsI rfl) (sNil (wBlock (wLoopN 3 (wRnd (wSeq (wSeq (wReg (sRun (xMvI rfl) (sRun (xLssT rfl rfl (by omega)) ?_)))))))))))))
    refine sNil (wIfT rfl (wSkip (wSeq (wBlock ?_))))
    replace hL := hL.drew
    refine wDraw (fun wS => Bx w0 wS [.dat lo14 hi14 r14, .box b3 58 #[.int .i64 (0 : Int), .int .i64 (0 : Int), .int .i64 (0 : Int), .slice none 0 0, .int .i64 (0 : Int), .slice none 0 0, .int .i64 (0 : Int), .slice none 0 0], .box b2 58 #[.int .i64 a1.Kind, .int .i64 s7_0, .int .i64 a1.N, .slice r14.a r14.l.length r14.c, .int .i64 a1.To.e0.Block, .slice a1.To.e0.Args.a a1.To.e0.Args.l.length a1.To.e0.Args.c, .int .i64 a1.To.e1.Block, .slice a1.To.e1.Args.a a1.To.e1.Args.l.length a1.To.e1.Args.c], .box b1 81 #[.map (some a0_constantb), .map (some a0_sameb)]]) [11] (by kernel_rfl) (hTake 0 rfl (by kernel_rfl) rfl (fun wS => (xMvI rfl)) (sl_of hL) (hTakeS 1 rfl (by kernel_rfl) (by kernel_rfl) rfl (fun wS hS => (xLoadS [.map (some a0_constantb), .map (some a0_sameb)] Try.underlying81 rfl ti81 rfl rfl ((hS.bk 3 rfl).part rfl))) (sl_of hL) (hTake 2 rfl (by kernel_rfl) rfl (fun wS => (xMvI rfl)) (sl_of hL) (hTake 3 rfl (by kernel_rfl) rfl (fun wS => (xFld (k := 4) Try.underlying58 rfl rfl ti56 (by decide) rfl)) (sl_of hL) (hTake 4 rfl (by kernel_rfl) rfl (fun wS => (xIdxA 0 Try.underlying56 ti55 rfl rfl (by omega) (by omega))) (sl_of hL) (hTake 5 rfl (by kernel_rfl) rfl (fun wS => (xFld (k := 1) Try.underlying55 rfl rfl ti37 (by decide) rfl)) (sl_of hL) (hTakeS 6 rfl (by kernel_rfl) (by kernel_rfl) rfl (fun wS hS => (xLoad Try.underlying37 rfl rfl ((hS.bk 2 rfl).cell (i := 5) rfl))) (sl_of hL) (hTake 8 rfl (by kernel_rfl) rfl (fun wS => (xFld (k := 4) Try.underlying58 rfl rfl ti56 (by decide) rfl)) (sl_of hL) ?_))))))))
    refine hOne 7 (by kernel_rfl) (oCall rfl rfl (eCall cal85 rfl) (sp_m_r08_facts_list _ a0_constantb a0_constant (a0_constanth.ext hL.1) a0_sameb a0_same (a0_sameh.ext hL.1) a1.To.e0.Args (Dat.all (Dat.ext (x := a1.To.e0.Args) h1.2.1 hL.1))) ?_)
    rintro _ w16 ⟨r16, rfl, hr16, ho16, he16⟩
    obtain ⟨lo16, hi16, hL⟩ := hL.got' he16 ho16
    try rw [← hr16] at hM
    refine ⟨(sl_of hL.tl), ?_⟩
    refine hTake 9 rfl (by kernel_rfl) rfl (fun wS => (xIdxA 0 Try.underlying56 ti55 rfl rfl (by omega) (by omega))) (sl_of hL.tl) (hTake 10 rfl (by kernel_rfl) rfl (fun wS => (xFld (k := 1) Try.underlying55 rfl rfl ti37 (by decide) rfl)) (sl_of hL.tl) ?_)
    refine hOne 11 (by kernel_rfl) (oSt1 rfl rfl ti37 rfl rfl rfl (hL.bk 3 rfl) (Nat.le_of_ble_eq_true rfl) ?_)
    intro w17 hB17 hC17
    replace hL : Bx w0 w17 [.dat lo16 hi16 r16, .dat lo14 hi14 r14, .box b3 58 #[.int .i64 (0 : Int), .int .i64 (0 : Int), .int .i64 (0 : Int), .slice none 0 0, .int .i64 (0 : Int), .slice none 0 0, .int .i64 (0 : Int), .slice none 0 0], .box b2 58 #[.int .i64 a1.Kind, .int .i64 s7_0, .int .i64 a1.N, .slice r14.a r14.l.length r14.c, .int .i64 a1.To.e0.Block, .slice r16.a r16.l.length r16.c, .int .i64 a1.To.e1.Block, .slice a1.To.e1.Args.a a1.To.e1.Args.l.length a1.To.e1.Args.c], .box b1 81 #[.map (some a0_constantb), .map (some a0_sameb)]] := hL.wr 3 rfl hC17 hB17
    refine ⟨(sl_late 11 rfl), ?_⟩
    refine hDone (by kernel_rfl) (wReg (sRun (xMvI rfl) (sRun (xAddK (c := (1 : Int)) rfl rfl (by decide) (by decide) (by decide)) (sRun (xAsI rfl) (sNil (wRnd (wSeq (wSeq (wReg (sRun (xMvI rfl) (sRun (xLssT rfl rfl (by omega)) (sNil (wIfT rfl ?_)))))))))))))
    refine wSkip (wSeq (wBlock ?_))
    replace hL := hL.drew
    refine wDraw (fun wS => Bx w0 wS [.dat lo16 hi16 r16, .dat lo14 hi14 r14, .box b3 58 #[.int .i64 (0 : Int), .int .i64 (0 : Int), .int .i64 (0 : Int), .slice none 0 0, .int .i64 (0 : Int), .slice none 0 0, .int .i64 (0 : Int), .slice none 0 0], .box b2 58 #[.int .i64 a1.Kind, .int .i64 s7_0, .int .i64 a1.N, .slice r14.a r14.l.length r14.c, .int .i64 a1.To.e0.Block, .slice r16.a r16.l.length r16.c, .int .i64 a1.To.e1.Block, .slice a1.To.e1.Args.a a1.To.e1.Args.l.length a1.To.e1.Args.c], .box b1 81 #[.map (some a0_constantb), .map (some a0_sameb)]]) [11] (by kernel_rfl) (hTake 0 rfl (by kernel_rfl) rfl (fun wS => (xMvI rfl)) (sl_of hL) (hTakeS 1 rfl (by kernel_rfl) (by kernel_rfl) rfl (fun wS hS => (xLoadS [.map (some a0_constantb), .map (some a0_sameb)] Try.underlying81 rfl ti81 rfl rfl ((hS.bk 4 rfl).part rfl))) (sl_of hL) (hTake 2 rfl (by kernel_rfl) rfl (fun wS => (xMvI rfl)) (sl_of hL) (hTake 3 rfl (by kernel_rfl) rfl (fun wS => (xFld (k := 4) Try.underlying58 rfl rfl ti56 (by decide) rfl)) (sl_of hL) (hTake 4 rfl (by kernel_rfl) rfl (fun wS => (xIdxA 1 Try.underlying56 ti55 rfl rfl (by omega) (by omega))) (sl_of hL) (hTake 5 rfl (by kernel_rfl) rfl (fun wS => (xFld (k := 1) Try.underlying55 rfl rfl ti37 (by decide) rfl)) (sl_of hL) (hTakeS 6 rfl (by kernel_rfl) (by kernel_rfl) rfl (fun wS hS => (xLoad Try.underlying37 rfl rfl ((hS.bk 3 rfl).cell (i := 7) rfl))) (sl_of hL) (hTake 8 rfl (by kernel_rfl) rfl (fun wS => (xFld (k := 4) Try.underlying58 rfl rfl ti56 (by decide) rfl)) (sl_of hL) ?_))))))))
    refine hOne 7 (by kernel_rfl) (oCall rfl rfl (eCall cal85 rfl) (sp_m_r08_facts_list _ a0_constantb a0_constant (a0_constanth.ext hL.1) a0_sameb a0_same (a0_sameh.ext hL.1) a1.To.e1.Args (Dat.all (Dat.ext (x := a1.To.e1.Args) h1.2.2 hL.1))) ?_)
    rintro _ w18 ⟨r18, rfl, hr18, ho18, he18⟩
    obtain ⟨lo18, hi18, hL⟩ := hL.got' he18 ho18
    try rw [← hr18] at hM
    refine ⟨(sl_of hL.tl), ?_⟩
    refine hTake 9 rfl (by kernel_rfl) rfl (fun wS => (xIdxA 1 Try.underlying56 ti55 rfl rfl (by omega) (by omega))) (sl_of hL.tl) (hTake 10 rfl (by kernel_rfl) rfl (fun wS => (xFld (k := 1) Try.underlying55 rfl rfl ti37 (by decide) rfl)) (sl_of hL.tl) ?_)
    refine hOne 11 (by kernel_rfl) (oSt1 rfl rfl ti37 rfl rfl rfl (hL.bk 4 rfl) (Nat.le_of_ble_eq_true rfl) ?_)
    intro w19 hB19 hC19
    replace hL : Bx w0 w19 [.dat lo18 hi18 r18, .dat lo16 hi16 r16, .dat lo14 hi14 r14, .box b3 58 #[.int .i64 (0 : Int), .int .i64 (0 : Int), .int .i64 (0 : Int), .slice none 0 0, .int .i64 (0 : Int), .slice none 0 0, .int .i64 (0 : Int), .slice none 0 0], .box b2 58 #[.int .i64 a1.Kind, .int .i64 s7_0, .int .i64 a1.N, .slice r14.a r14.l.length r14.c, .int .i64 a1.To.e0.Block, .slice r16.a r16.l.length r16.c, .int .i64 a1.To.e1.Block, .slice r18.a r18.l.length r18.c], .box b1 81 #[.map (some a0_constantb), .map (some a0_sameb)]] := hL.wr 4 rfl hC19 hB19
    refine ⟨(sl_late 11 rfl), ?_⟩
    refine hDone (by kernel_rfl) (wReg (sRun (xMvI rfl) (sRun (xAddK (c := (2 : Int)) rfl rfl (by decide) (by decide) (by decide)) (sRun (xAsI rfl) (sNil (wRnd (wSeq (wSeq (wReg (sRun (xMvI rfl) (sRun (xLssF rfl rfl (by omega)) (sNil (wIfF rfl ?_)))))))))))))
    refine wExit (wSeq (wReg (sRun (xFld0 Try.underlying81 rfl rfl ti79 (by decide) rfl) (sRun (xLoad Try.underlying79 rfl rfl ((hL.bk 5 rfl).cell (i := 0) rfl)) (sRun (xFld (k := 1) Try.underlying58 rfl rfl ti3 (by decide) rfl) (sRun (xLoad Try.underlying3 rfl rfl ((hL.bk 4 rfl).cell (i := 1) rfl)) (sRun (xLook (ek := ekI) (ev := evI) (l := a0_constant) (k := s7_0) (z := (0 : Int)) Try.underlying79 (fk_int Try.underlying3) (zv_of ti3) (a0_constanth.ext hL.1) rfl rfl) (sRun xMove (sRun (xExtract rfl rfl) (sRun (xExtract rfl rfl) (sRun (xAsI rfl) (sRun (xAsB rfl) (sNil ?_)))))))))))))
    refine wSeq (wSeq (wReg (sRun (xFld0 Try.underlying58 rfl rfl ti3 (by decide) rfl) (sRun (xLoad Try.underlying3 rfl rfl ((hL.bk 4 rfl).cell (i := 0) rfl)) (sRun (xNeqD rfl rfl) (sRun (xMvB rfl) ?_))))))
    by_cases h20 : a1.Kind ≠ (2 : Int)
    ·try rw [decide_eq_true h20]
     rw [if_pos h20] at hM
     refine sNo rfl (sNo rfl (sRun (xPkTB rfl rfl) (sNil (wIfT rfl (wSeq (wReg (sRun (xLoadS [.int .i64 a1.Kind, .int .i64 s7_0, .int .i64 a1.N, .slice r14.a r14.l.length r14.c, .int .i64 a1.To.e0.Block, .slice r16.a r16.l.length r16.c, .int .i64 a1.To.e1.Block, .slice r18.a r18.l.length r18.c] Try.underlying58 rfl ti58 rfl rfl ((hL.bk 4 rfl).part rfl)) (sStS ti58 rfl rfl rfl (by simp [Value.oneCell', Dat.cells, GTerm.cells]) (hL.bk 3 rfl) rfl ?_))))))))
     intro w21 hB21 hC21
     replace hL : Bx w0 w21 [.dat lo18 hi18 r18, .dat lo16 hi16 r16, .dat lo14 hi14 r14, .box b3 58 #[.int .i64 a1.Kind, .int .i64 s7_0, .int .i64 a1.N, .slice r14.a r14.l.length r14.c, .int .i64 a1.To.e0.Block, .slice r16.a r16.l.length r16.c, .int .i64 a1.To.e1.Block, .slice r18.a r18.l.length r18.c], .box b2 58 #[.int .i64 a1.Kind, .int .i64 s7_0, .int .i64 a1.N, .slice r14.a r14.l.length r14.c, .int .i64 a1.To.e0.Block, .slice r16.a r16.l.length r16.c, .int .i64 a1.To.e1.Block, .slice r18.a r18.l.length r18.c], .box b1 81 #[.map (some a0_constantb), .map (some a0_sameb)]] := hL.wr 3 rfl hC21 hB21
     refine sNil (wRet (resC (P := Try.prog) (fn := Try.f41) rfl Try.underlying58 rfl ti58 rfl rfl (hL.bk 3 rfl) ?_))
     exact ⟨(⟨a1.Kind, s7_0, a1.N, r14, ⟨⟨a1.To.e0.Block, r16⟩, ⟨a1.To.e1.Block, r18⟩⟩⟩ : (GTerm Lst)), rfl, hM, ⟨Dat.mv ((hL.at 2 rfl).2) (fun b hb _ => ⟨hL.base 2 rfl b hb, rfl⟩) (Nat.le_refl _), ⟨Dat.mv ((hL.at 1 rfl).2) (fun b hb _ => ⟨hL.base 1 rfl b hb, rfl⟩) (Nat.le_refl _), Dat.mv ((hL.at 0 rfl).2) (fun b hb _ => ⟨hL.base 0 rfl b hb, rfl⟩) (Nat.le_refl _)⟩⟩, hL.1⟩
    ·try rw [decide_eq_false h20]
     rw [if_neg h20] at hM
     refine sGo rfl (sRun (xMvB rfl) ?_)
     by_cases h22 : ((mget a0_constant s7_0).isSome) = true
     ·try rw [h22]
      rw [if_pos h22] at hM
      refine sGo rfl (sRun (xNot rfl) (sRun (xPkFB rfl rfl) (sNil (wIfF rfl (wSkip (wSeq (wReg (sRun (xFld (k := 4) Try.underlying58 rfl rfl ti56 (by decide) rfl) (sRun (xIdxA 0 Try.underlying56 ti55 rfl rfl (by omega) (by omega)) (sRun (xLoadS [.int .i64 a1.To.e0.Block, .slice r16.a r16.l.length r16.c] Try.underlying55 rfl ti55 rfl rfl ((hL.bk 4 rfl).part rfl)) (sTo (aNew (mAlloc ti55)) ?_)))))))))))
      rintro _ w23 ⟨b23, rfl, hge23, hB23, he23⟩
      replace hL := hL.new hge23 hB23 he23
      refine sStS ti55 rfl rfl rfl (by simp [Value.oneCell', Dat.cells, GEdge.cells]) (hL.bk 0 rfl) rfl ?_
      intro w24 hB24 hC24
      replace hL : Bx w0 w24 [.box b23 55 #[.int .i64 a1.To.e0.Block, .slice r16.a r16.l.length r16.c], .dat lo18 hi18 r18, .dat lo16 hi16 r16, .dat lo14 hi14 r14, .box b3 58 #[.int .i64 (0 : Int), .int .i64 (0 : Int), .int .i64 (0 : Int), .slice none 0 0, .int .i64 (0 : Int), .slice none 0 0, .int .i64 (0 : Int), .slice none 0 0], .box b2 58 #[.int .i64 a1.Kind, .int .i64 s7_0, .int .i64 a1.N, .slice r14.a r14.l.length r14.c, .int .i64 a1.To.e0.Block, .slice r16.a r16.l.length r16.c, .int .i64 a1.To.e1.Block, .slice r18.a r18.l.length r18.c], .box b1 81 #[.map (some a0_constantb), .map (some a0_sameb)]] := hL.wr 0 rfl hC24 hB24
      refine sNil (wSeq (wSeq (wReg (sRun (xMvI rfl) (sRun (xEqlD rfl rfl) (sNil ?_))))))
      by_cases h25 : ((mget a0_constant s7_0).getD (0 : Int)) = (0 : Int)
      ·try rw [decide_eq_true h25]
       rw [if_pos h25] at hM
       refine wIfT rfl (wReg (sRun (xFld (k := 4) Try.underlying58 rfl rfl ti56 (by decide) rfl) (sRun (xIdxA 1 Try.underlying56 ti55 rfl rfl (by omega) (by omega)) (sRun (xLoadS [.int .i64 a1.To.e1.Block, .slice r18.a r18.l.length r18.c] Try.underlying55 rfl ti55 rfl rfl ((hL.bk 5 rfl).part rfl)) (sStS ti55 rfl rfl rfl (by simp [Value.oneCell', Dat.cells, GEdge.cells]) (hL.bk 0 rfl) rfl ?_)))))
       intro w26 hB26 hC26
       replace hL : Bx w0 w26 [.box b23 55 #[.int .i64 a1.To.e1.Block, .slice r18.a r18.l.length r18.c], .dat lo18 hi18 r18, .dat lo16 hi16 r16, .dat lo14 hi14 r14, .box b3 58 #[.int .i64 (0 : Int), .int .i64 (0 : Int), .int .i64 (0 : Int), .slice none 0 0, .int .i64 (0 : Int), .slice none 0 0, .int .i64 (0 : Int), .slice none 0 0], .box b2 58 #[.int .i64 a1.Kind, .int .i64 s7_0, .int .i64 a1.N, .slice r14.a r14.l.length r14.c, .int .i64 a1.To.e0.Block, .slice r16.a r16.l.length r16.c, .int .i64 a1.To.e1.Block, .slice r18.a r18.l.length r18.c], .box b1 81 #[.map (some a0_constantb), .map (some a0_sameb)]] := hL.wr 0 rfl hC26 hB26
       refine sNil (wSeq (wReg (sRun (xLoadS [.int .i64 a1.To.e1.Block, .slice r18.a r18.l.length r18.c] Try.underlying55 rfl ti55 rfl rfl ((hL.bk 0 rfl).part rfl)) (sRun (bd41_72 rfl) (sRun (bd41_73 rfl rfl) (sRun (bd41_74 rfl rfl) (sStS ti58 rfl rfl rfl (by simp [Value.oneCell', Dat.cells, GTerm.cells]) (hL.bk 4 rfl) rfl ?_)))))))
       intro w27 hB27 hC27
       replace hL : Bx w0 w27 [.box b23 55 #[.int .i64 a1.To.e1.Block, .slice r18.a r18.l.length r18.c], .dat lo18 hi18 r18, .dat lo16 hi16 r16, .dat lo14 hi14 r14, .box b3 58 #[.int .i64 (1 : Int), .int .i64 (0 : Int), .int .i64 (0 : Int), .slice none 0 0, .int .i64 a1.To.e1.Block, .slice r18.a r18.l.length r18.c, .int .i64 (-1 : Int), .slice none 0 0], .box b2 58 #[.int .i64 a1.Kind, .int .i64 s7_0, .int .i64 a1.N, .slice r14.a r14.l.length r14.c, .int .i64 a1.To.e0.Block, .slice r16.a r16.l.length r16.c, .int .i64 a1.To.e1.Block, .slice r18.a r18.l.length r18.c], .box b1 81 #[.map (some a0_constantb), .map (some a0_sameb)]] := hL.wr 4 rfl hC27 hB27
       refine sNil (wRet (resC (P := Try.prog) (fn := Try.f41) rfl Try.underlying58 rfl ti58 rfl rfl (hL.bk 4 rfl) ?_))
       exact ⟨(⟨(1 : Int), (0 : Int), (0 : Int), ⟨none, 0, []⟩, ⟨⟨a1.To.e1.Block, r18⟩, ⟨(-1 : Int), ⟨none, 0, []⟩⟩⟩⟩ : (GTerm Lst)), rfl, hM, ⟨Lst.nil_ok, ⟨Dat.mv ((hL.at 1 rfl).2) (fun b hb _ => ⟨hL.base 1 rfl b hb, rfl⟩) (Nat.le_refl _), Lst.nil_ok⟩⟩, hL.1⟩
      ·try rw [decide_eq_false h25]
       rw [if_neg h25] at hM
       refine wIfF rfl (wSkip (wSeq (wReg (sRun (xLoadS [.int .i64 a1.To.e0.Block, .slice r16.a r16.l.length r16.c] Try.underlying55 rfl ti55 rfl rfl ((hL.bk 0 rfl).part rfl)) (sRun (bd41_72 rfl) (sRun (bd41_73 rfl rfl) (sRun (bd41_74 rfl rfl) (sStS ti58 rfl rfl rfl (by simp [Value.oneCell', Dat.cells, GTerm.cells]) (hL.bk 4 rfl) rfl ?_))))))))
       intro w28 hB28 hC28
       replace hL : Bx w0 w28 [.box b23 55 #[.int .i64 a1.To.e0.Block, .slice r16.a r16.l.length r16.c], .dat lo18 hi18 r18, .dat lo16 hi16 r16, .dat lo14 hi14 r14, .box b3 58 #[.int .i64 (1 : Int), .int .i64 (0 : Int), .int .i64 (0 : Int), .slice none 0 0, .int .i64 a1.To.e0.Block, .slice r16.a r16.l.length r16.c, .int .i64 (-1 : Int), .slice none 0 0], .box b2 58 #[.int .i64 a1.Kind, .int .i64 s7_0, .int .i64 a1.N, .slice r14.a r14.l.length r14.c, .int .i64 a1.To.e0.Block, .slice r16.a r16.l.length r16.c, .int .i64 a1.To.e1.Block, .slice r18.a r18.l.length r18.c], .box b1 81 #[.map (some a0_constantb), .map (some a0_sameb)]] := hL.wr 4 rfl hC28 hB28
       refine sNil (wRet (resC (P := Try.prog) (fn := Try.f41) rfl Try.underlying58 rfl ti58 rfl rfl (hL.bk 4 rfl) ?_))
       exact ⟨(⟨(1 : Int), (0 : Int), (0 : Int), ⟨none, 0, []⟩, ⟨⟨a1.To.e0.Block, r16⟩, ⟨(-1 : Int), ⟨none, 0, []⟩⟩⟩⟩ : (GTerm Lst)), rfl, hM, ⟨Lst.nil_ok, ⟨Dat.mv ((hL.at 2 rfl).2) (fun b hb _ => ⟨hL.base 2 rfl b hb, rfl⟩) (Nat.le_refl _), Lst.nil_ok⟩⟩, hL.1⟩
     ·have h22n : ((mget a0_constant s7_0).isSome) = false := Bool.eq_false_iff.2 h22
      try rw [h22n]
      rw [if_neg h22] at hM
      refine sGo rfl (sRun (xNot rfl) (sRun (xPkFB rfl rfl) (sNil (wIfT rfl (wSeq (wReg (sRun (xLoadS [.int .i64 a1.Kind, .int .i64 s7_0, .int .i64 a1.N, .slice r14.a r14.l.length r14.c, .int .i64 a1.To.e0.Block, .slice r16.a r16.l.length r16.c, .int .i64 a1.To.e1.Block, .slice r18.a r18.l.length r18.c] Try.underlying58 rfl ti58 rfl rfl ((hL.bk 4 rfl).part rfl)) (sStS ti58 rfl rfl rfl (by simp [Value.oneCell', Dat.cells, GTerm.cells]) (hL.bk 3 rfl) rfl ?_))))))))
      intro w29 hB29 hC29
      replace hL : Bx w0 w29 [.dat lo18 hi18 r18, .dat lo16 hi16 r16, .dat lo14 hi14 r14, .box b3 58 #[.int .i64 a1.Kind, .int .i64 s7_0, .int .i64 a1.N, .slice r14.a r14.l.length r14.c, .int .i64 a1.To.e0.Block, .slice r16.a r16.l.length r16.c, .int .i64 a1.To.e1.Block, .slice r18.a r18.l.length r18.c], .box b2 58 #[.int .i64 a1.Kind, .int .i64 s7_0, .int .i64 a1.N, .slice r14.a r14.l.length r14.c, .int .i64 a1.To.e0.Block, .slice r16.a r16.l.length r16.c, .int .i64 a1.To.e1.Block, .slice r18.a r18.l.length r18.c], .box b1 81 #[.map (some a0_constantb), .map (some a0_sameb)]] := hL.wr 3 rfl hC29 hB29
      refine sNil (wRet (resC (P := Try.prog) (fn := Try.f41) rfl Try.underlying58 rfl ti58 rfl rfl (hL.bk 3 rfl) ?_))
      exact ⟨(⟨a1.Kind, s7_0, a1.N, r14, ⟨⟨a1.To.e0.Block, r16⟩, ⟨a1.To.e1.Block, r18⟩⟩⟩ : (GTerm Lst)), rfl, hM, ⟨Dat.mv ((hL.at 2 rfl).2) (fun b hb _ => ⟨hL.base 2 rfl b hb, rfl⟩) (Nat.le_refl _), ⟨Dat.mv ((hL.at 1 rfl).2) (fun b hb _ => ⟨hL.base 1 rfl b hb, rfl⟩) (Nat.le_refl _), Dat.mv ((hL.at 0 rfl).2) (fun b hb _ => ⟨hL.base 0 rfl b hb, rfl⟩) (Nat.le_refl _)⟩⟩, hL.1⟩

end Go.Proofs.Ytbpccmnalhdpmaa
