/- IrChecks: Gz+Gm+Go+Gn+Gq+Go1+GI. -/
import Derived.Test.YtbpccmnalhdpmaaJ12
import Derived.Test.YtbpccmnalhdpmaaJ13
import Derived.Test.YtbpccmnalhdpmaaJ14
import Derived.Test.YtbpccmnalhdpmaaJ10
import Derived.Test.YtbpccmnalhdpmaaJ44
import Derived.Test.YtbpccmnalhdpmaaJ4
import Derived.WalkKit
import Derived.ProofKit
import Derived.OpenShut
import Derived.ChangeOld
import Derived.SizedLaws
import Derived.Lib.SmallJoins
import Derived.Deep.Slices
import Derived.Deep.Fields
set_option linter.unusedVariables false
set_option linter.unusedSimpArgs false
set_option maxRecDepth 4000
namespace Go.Proofs.Ytbpccmnalhdpmaa
open Go.RowKit Go.Fw
theorem check_L0 (m : GModule List) : ∀ (l : List (GCode List)) (k : Nat), (∀ c ∈ l, Slim c) → m_ir_Check_L0 m l k = m_r06_Check_L0 m l k
 | [], k, _ => rfl
 | c :: l, k, h => by
  rw [m_ir_Check_L0, m_r06_Check_L0, checkCode_eq c (h c (List.mem_cons_self ..)), check_L0 m l (k + 1) (fun x hx => h x (List.mem_cons_of_mem _ hx))]
theorem calls_L (m : GModule List) (c : GCode List) (f : Nat) : ∀ (l : List (GBlock List)) (k : Nat), (m_ir_rightCalls_L0 m c l k = .go () ∧ m_r06_Check_L3 m c f l k = .go ()) ∨ (m_ir_rightCalls_L0 m c l k = .out false ∧ m_r06_Check_L3 m c f l k = .out 4)
 | [], k => .inl ⟨rfl, rfl⟩
 | b :: l, k => by
  have ih := calls_L m c f l (k + 1)
  rw [m_ir_rightCalls_L0, m_r06_Check_L3]
  by_cases k3 : b.Term.Kind = 3
  · rw [if_neg (fun h => h k3), if_pos k3]
    split
    · exact .inr ⟨rfl, rfl⟩
    · split
      · exact .inr ⟨rfl, rfl⟩
      · exact ih
  · rw [if_pos k3, if_neg k3]
    by_cases k6 : b.Term.Kind = 6
    · rw [if_neg (fun h => h k6), if_pos k6]
      split
      · exact .inr ⟨rfl, rfl⟩
      · split
        · exact .inr ⟨rfl, rfl⟩
        · exact ih
    · rw [if_pos k6, if_neg k6]
      exact ih
theorem ctxs_L (m : GModule List) (c : GCode List) (f : Nat) : ∀ (l : List GContext) (k : Nat), 0 < k → (m_ir_Check_L2 m c f l k = .go () ∧ m_r06_Check_L2 m c f l k = .go ()) ∨ (m_ir_Check_L2 m c f l k = .out 4 ∧ m_r06_Check_L2 m c f l k = .out 4)
 | [], k, _ => .inl ⟨rfl, rfl⟩
 | x :: l, k, hk => by
  have ih := ctxs_L m c f l (k + 1) (by omega)
  rw [m_ir_Check_L2, m_r06_Check_L2]
  by_cases h : ((m.Funcs.length : Nat) : Int) ≤ x.Func
  · rw [if_pos h, if_pos (by simp [h])]; exact .inr ⟨rfl, rfl⟩
  · have e : ((decide (((m.Funcs.length : Nat) : Int) ≤ x.Func)) || ((decide (((k : Nat) : Int) = (0 : Int))) && (decide (x.Func ≠ ((f : Nat) : Int))))) = false := by
     have h0 : ¬ ((k : Nat) : Int) = 0 := by omega
     simp [h, h0]
     omega
    rw [if_neg h, if_neg (by rw [e]; decide)]; exact ih
theorem check_L1 (m : GModule List) : ∀ (l : List (GCode List)) (k : Nat), (∀ c ∈ l, 0 < c.Contexts.length) → m_ir_Check_L1 m l k = m_r06_Check_L1 m l k
 | [], k, _ => rfl
 | c :: l, k, h => by
  rw [m_ir_Check_L1, m_r06_Check_L1, check_L1 m l (k + 1) (fun x hx => h x (List.mem_cons_of_mem _ hx))]
  have hc := h c (List.mem_cons_self ..)
  generalize m_r06_Check_L1 m l (k + 1) = R
  have hcalls := calls_L m c k c.Blocks 0
  cases hcx : c.Contexts with
  | nil => rw [hcx] at hc; cases hc
  | cons x r =>
   rw [m_r06_Check_L2, m_ir_Check_L2]
   have ih := ctxs_L m c k r 1 (by omega)
   show (if x.Func ≠ ((k : Nat) : Int) then _ else _) = _
   have e0 : ((decide (((m.Funcs.length : Nat) : Int) ≤ x.Func)) || ((decide (((0 : Nat) : Int) = (0 : Int))) && (decide (x.Func ≠ ((k : Nat) : Int))))) = (decide (((m.Funcs.length : Nat) : Int) ≤ x.Func) || decide (x.Func ≠ ((k : Nat) : Int))) := by simp
   rw [e0]
   by_cases h1 : x.Func ≠ ((k : Nat) : Int)
   · rw [if_pos h1, if_pos (by simp [h1])]; rfl
   · rw [if_neg h1]
     by_cases h2 : ((m.Funcs.length : Nat) : Int) ≤ x.Func
     · rw [if_pos h2, if_pos (show (decide (((m.Funcs.length : Nat) : Int) ≤ x.Func) || decide (x.Func ≠ ((k : Nat) : Int))) = true by simp [h2])]
       unfold m_ir_rightCalls
       split <;> rfl
     · have e1 : (decide (((m.Funcs.length : Nat) : Int) ≤ x.Func) || decide (x.Func ≠ ((k : Nat) : Int))) = false := by rw [decide_eq_false h2, decide_eq_false h1]; rfl
       rw [if_neg h2, if_neg (show ¬ (decide (((m.Funcs.length : Nat) : Int) ≤ x.Func) || decide (x.Func ≠ ((k : Nat) : Int))) = true by rw [e1]; decide)]
       unfold m_ir_rightCalls
       rcases hcalls with ⟨h3, h4⟩ | ⟨h3, h4⟩ <;> rcases ih with ⟨h5, h6⟩ | ⟨h5, h6⟩ <;> rw [h3, h4, h5, h6] <;> rfl
theorem check_eq (m : GModule List) (h : ∀ c ∈ m.Funcs, Slim c) : m_ir_Check m = m_r06_Check m := by
 unfold m_ir_Check m_r06_Check
 split
 · rfl
 · rw [check_L0 m m.Funcs 0 h]
   cases hg : m_r06_Check_L0 m m.Funcs 0 with
   | out r => rfl
   | go u =>
    have hall := ir_all m m.Funcs 0 (by rw [check_L0 m m.Funcs 0 h]; exact hg)
    rw [Lp.el_go, Lp.el_go, check_L1 m m.Funcs 0 fun c hc => ctx_pos (ir_ok (hall c hc)).2.1]
end Go.Proofs.Ytbpccmnalhdpmaa
namespace Go.Proofs.Ytbpccmnalhdpmaa
open Go.RowKit Go.Fw
def m_l06_checks_L0 (a0 : (GModule List)) : List (GCode List) → Nat → Lp (Unit) (Bool)
 | [], _ => .go ()
 | x3 :: r3, k3 =>
 if (m_ir_CheckCode x3) ≠ (m_r06_CheckCode x3) then
  .out (false)
 else
  m_l06_checks_L0 a0 r3 (k3 + 1)
def m_l06_checks (a0 : (GModule List)) : Bool :=
 (m_l06_checks_L0 a0 a0.Funcs 0).el (fun _ =>
  (decide ((m_ir_Check a0) = (m_r06_Check a0)))
   ) (fun o => o)
set_option maxHeartbeats 12800000 in
theorem sp_m_l06_checks (w0 : World) (a0 : (GModule Lst)) (h0 : Dat.ok (fun _ => True) w0 a0) : Calls Try.prog 18 #[.agg (GModule.cells a0).toArray] w0 (Ret fun v w => v = .bool (m_l06_checks (GModule.er a0)) ∧ Ext w0 w) := by
 obtain ⟨X, hM⟩ : ∃ X, m_l06_checks (GModule.er a0) = X := ⟨_, rfl⟩
 rw [hM]
 unfold m_l06_checks at hM
 try simp only [er1, er2, er3, er4, er5, er6, er7, er8, er9, er10, er11, er12, er13, er14, er15, er16, er17, List.length_map] at hM
 have hL : Bx w0 w0 [] := Bx.nil
 refine calls_of Try.func18 rfl (Nat.le_of_ble_eq_true rfl) (by kernel_rfl) ?_
 refine wCut [(0, .agg (GModule.cells a0).toArray)] ⟨rfl, trivial⟩ fun g => ?_
 refine wSeq (wReg (sTo (aNew (mBox rfl)) ?_))
 rintro _ w1 ⟨b1, rfl, hge1, hB1, he1⟩
 replace hL := hL.new hge1 hB1 he1
 refine sRun (xAsB rfl) (sNil (wSeq (wSeq (wReg (sRun (xFld0 Try.underlying35 rfl rfl ti33 (by decide) rfl) (sRun (xLoad Try.underlying33 rfl rfl ((hL.bk 0 rfl).cell (i := 0) rfl)) ?_))))))
 have hl2 : a0.Funcs.l.length * 80 ≤ 140737488355328 := Lst.bd h0
 refine sRun (xLnL (s := a0.Funcs) Try.underlying33 rfl) (sRun (xMvI rfl) (sNil ?_))
 obtain ⟨Y3, hY3⟩ : ∃ Y, m_l06_checks_L0 (GModule.er a0) (a0.Funcs.l.map GCode.er) 0 = Y := ⟨_, rfl⟩
 rw [hY3] at hM
 refine wJ (fun f w => Has f [(1, .pointer (some ⟨b1, 0, none⟩)), (6, .slice a0.Funcs.a a0.Funcs.l.length a0.Funcs.c), (7, .int .i64 ((a0.Funcs.l.length : Nat) : Int))] ∧ Bx w0 w [.box b1 35 (GModule.cells a0).toArray] ∧ Lp.go () = Y3) ?_ ?_
 ·refine wBlock (wLoopG (fun n f w => ∃ (k3 : Nat), n = a0.Funcs.l.length - k3 ∧ k3 ≤ a0.Funcs.l.length ∧ Has f [(8, .int .i64 ((k3 : Nat) : Int)), (1, .pointer (some ⟨b1, 0, none⟩)), (6, .slice a0.Funcs.a a0.Funcs.l.length a0.Funcs.c), (7, .int .i64 ((a0.Funcs.l.length : Nat) : Int))] ∧ Bx w0 w [.box b1 35 (GModule.cells a0).toArray] ∧ m_l06_checks_L0 (GModule.er a0) ((a0.Funcs.l.map GCode.er).drop k3) k3 = Y3) (a0.Funcs.l.length) ⟨0, rfl, Nat.zero_le _, ⟨rfl, rfl, rfl, rfl, trivial⟩, hL, hY3⟩ ?_)
  clear hL hY3
  rintro n f w ⟨k3, rfl, hk3, hf, hL, hY3⟩
  obtain ⟨g, rfl⟩ := has_updL _ _ hf
  clear hf
  rcases Nat.lt_or_ge k3 a0.Funcs.l.length with hk3b | hk3b
  ·obtain ⟨x3, hx3⟩ := get_ex (l := a0.Funcs.l) hk3b
   rw [drop_map hx3, m_l06_checks_L0] at hY3
   try simp only [er1, er2, er3, er4, er5, er6, er7, er8, er9, er10, er11, er12, er13, er14, er15, er16, er17, List.length_map] at hY3
   refine wSeq (wReg (sRun (xLssT rfl rfl (by omega)) (sNil (wSeq (wIfT rfl (wSkip (wSeq (wBlock (wSeq (wReg (sRun (xIdL Try.underlying33 ti26 rfl rfl rfl h0 hx3) (sRun (xLoadS (GCode.cells x3) Try.underlying26 rfl ti26 rfl rfl ((Lst.el h0 hx3).ext hL.1)) (sTo (aNew (mAlloc ti26)) ?_)))))))))))))
   rintro _ w4 ⟨b4, rfl, hge4, hB4, he4⟩
   replace hL := hL.new hge4 hB4 he4
   refine sStS ti26 rfl rfl rfl (by simp [Value.oneCell', Dat.cells, GCode.cells]) (hL.bk 0 rfl) rfl ?_
   intro w5 hB5 hC5
   replace hL : Bx w0 w5 [.box b4 26 (GCode.cells x3).toArray, .box b1 35 (GModule.cells a0).toArray] := hL.wr 0 rfl hC5 hB5
   refine sNil (wSeq ?_)
   replace hL := hL.drew
   refine wDraw (fun wS => Bx w0 wS [.box b4 26 (GCode.cells x3).toArray, .box b1 35 (GModule.cells a0).toArray]) [] (by kernel_rfl) (hTakeS 0 rfl (by kernel_rfl) (by kernel_rfl) rfl (fun wS hS => (xLoadS (GCode.cells x3) Try.underlying26 rfl ti26 rfl rfl ((hS.bk 0 rfl).part rfl))) (sl_of hL) (hTakeS 2 rfl (by kernel_rfl) (by kernel_rfl) rfl (fun wS hS => (xLoadS (GCode.cells x3) Try.underlying26 rfl ti26 rfl rfl ((hS.bk 0 rfl).part rfl))) (sl_of hL) ?_))
   refine hOne 1 (by kernel_rfl) (oCall rfl rfl (eCall cal30 rfl) (sp_m_ir_CheckCode _ x3 (Dat.all (Dat.ext (x := x3) (Lst.elok h0 hx3) hL.1))) ?_)
   rintro _ w6 ⟨rfl, he6⟩
   replace hL := hL.ext he6
   refine ⟨(sl_of hL), ?_⟩
   refine hOne 3 (by kernel_rfl) (oCall rfl rfl (eCall cal13 rfl) (sp_m_r06_CheckCode _ x3 (Dat.all (Dat.ext (x := x3) (Lst.elok h0 hx3) hL.1))) ?_)
   rintro _ w7 ⟨rfl, he7⟩
   replace hL := hL.ext he7
   refine ⟨(sl_of hL), ?_⟩
   refine hTake 4 rfl (by kernel_rfl) rfl (fun wS => (xNeqD rfl rfl)) (sl_of hL) (hDone (by kernel_rfl) ?_)
   by_cases h8 : (m_ir_CheckCode (GCode.er x3)) ≠ (m_r06_CheckCode (GCode.er x3))
   ·try rw [decide_eq_true h8]
    rw [if_pos h8] at hY3
    refine wIfT rfl (wSeq (wReg (sRun (xAsB rfl) (sNil (wRet ?_)))))
    subst hY3
    rw [Lp.el_out] at hM
    try dsimp only at hM
    subst hM
    refine res1 (P := Try.prog) (fn := Try.f18) rfl ?_
    exact ⟨rfl, hL.1⟩
   ·try rw [decide_eq_false h8]
    rw [if_neg h8] at hY3
    refine wIfF rfl (wSkip (wReg (sRun (xAdd64 rfl rfl (by omega) (by omega)) (sRun (xMvI rfl) (sNil ?_)))))
    exact ⟨a0.Funcs.l.length - (k3 + 1), by omega, k3 + 1, rfl, by omega, ⟨rfl, rfl, rfl, rfl, trivial⟩, hL.tl, hY3⟩
  ·obtain rfl : k3 = a0.Funcs.l.length := by omega
   rw [drop_endm, m_l06_checks_L0] at hY3
   refine wSeq (wReg (sRun (xLssF rfl rfl (by omega)) (sNil (wSeq (wIfF rfl (wExit ?_))))))
   exact ⟨⟨rfl, rfl, rfl, trivial⟩, hL, hY3⟩
 ·clear hL
  rintro f w ⟨hf, hL, hZ3⟩
  obtain ⟨g, rfl⟩ := has_updL _ _ hf
  clear hf
  subst hZ3
  rw [Lp.el_go] at hM
  try dsimp only at hM
  refine wSeq ?_
  replace hL := hL.drew
  refine wDraw (fun wS => Bx w0 wS [.box b1 35 (GModule.cells a0).toArray]) [] (by kernel_rfl) (hTakeS 0 rfl (by kernel_rfl) (by kernel_rfl) rfl (fun wS hS => (xLoadS (GModule.cells a0) Try.underlying35 rfl ti35 rfl rfl ((hS.bk 0 rfl).part rfl))) (sl_of hL) (hTakeS 2 rfl (by kernel_rfl) (by kernel_rfl) rfl (fun wS hS => (xLoadS (GModule.cells a0) Try.underlying35 rfl ti35 rfl rfl ((hS.bk 0 rfl).part rfl))) (sl_of hL) ?_))
  refine hOne 1 (by kernel_rfl) (oCall rfl rfl (eCall cal60 rfl) (sp_m_ir_Check _ a0 (Dat.all (Dat.ext (x := a0) h0 hL.1))) ?_)
  rintro _ w9 ⟨rfl, he9⟩
  replace hL := hL.ext he9
  refine ⟨(sl_of hL), ?_⟩
  refine hOne 3 (by kernel_rfl) (oCall rfl rfl (eCall cal26 rfl) (sp_m_r06_Check _ a0 (Dat.all (Dat.ext (x := a0) h0 hL.1))) ?_)
  rintro _ w10 ⟨rfl, he10⟩
  replace hL := hL.ext he10
  refine ⟨(sl_of hL), ?_⟩
  refine hTake 4 rfl (by kernel_rfl) rfl (fun wS => (xEqlD rfl rfl)) (sl_of hL) (hTake 5 rfl (by kernel_rfl) rfl (fun wS => (xAsB rfl)) (sl_of hL) (hDone (by kernel_rfl) (wRet ?_)))
  subst hM
  refine res1 (P := Try.prog) (fn := Try.f18) rfl ?_
  exact ⟨rfl, hL.1⟩
end Go.Proofs.Ytbpccmnalhdpmaa
namespace Go.Proofs.Ytbpccmnalhdpmaa
open Go.RowKit Go.Fw
theorem checks_L0 (m : GModule List) : ∀ (l : List (GCode List)) (k : Nat), (∀ c ∈ l, Slim c) → m_l06_checks_L0 m l k = .go ()
 | [], k, _ => rfl
 | c :: r, k, h => by
  unfold m_l06_checks_L0
  rw [if_neg (by rw [checkCode_eq c (h c (by simp))]; simp)]
  exact checks_L0 m r (k + 1) (fun d hd => h d (by simp [hd]))
theorem checks_yes (m : GModule List) (h : ∀ c ∈ m.Funcs, Slim c) : m_l06_checks m = true := by
 unfold m_l06_checks
 rw [checks_L0 m m.Funcs 0 h, Lp.el_go, check_eq m h]
 simp
end Go.Proofs.Ytbpccmnalhdpmaa
namespace Go.Proofs.Ytbpccmnalhdpmaa
open Go.RowKit Go.Fw
def m_l06_IrChecks (a0 : (GModule List)) : Bool :=
 (((!(m_kit_SmallModule a0)) || (m_l06_checks a0)) && m_l06_known)
set_option maxHeartbeats 12800000 in
theorem sp_m_l06_IrChecks (w0 : World) (a0 : (GModule Lst)) (h0 : Dat.ok (fun _ => True) w0 a0) : Calls Try.prog 5 #[.agg (GModule.cells a0).toArray] w0 (Ret fun v w => v = .bool (m_l06_IrChecks (GModule.er a0)) ∧ Ext w0 w) := by
 obtain ⟨X, hM⟩ : ∃ X, m_l06_IrChecks (GModule.er a0) = X := ⟨_, rfl⟩
 rw [hM]
 unfold m_l06_IrChecks at hM
 try simp only [er1, er2, er3, er4, er5, er6, er7, er8, er9, er10, er11, er12, er13, er14, er15, er16, er17, List.length_map] at hM
 have hL : Bx w0 w0 [] := Bx.nil
 refine calls_of Try.func5 rfl (Nat.le_of_ble_eq_true rfl) (by kernel_rfl) ?_
 refine wCut [(0, .agg (GModule.cells a0).toArray)] ⟨rfl, trivial⟩ fun g => ?_
 refine wSeq (wReg (sTo (aNew (mBox rfl)) ?_))
 rintro _ w1 ⟨b1, rfl, hge1, hB1, he1⟩
 replace hL := hL.new hge1 hB1 he1
 refine sRun (xAsB rfl) (sNil (wSeq ?_))
 obtain ⟨E2, hE2⟩ : ∃ E, (((!(m_kit_SmallModule (GModule.er a0))) || (m_l06_checks (GModule.er a0))) && m_l06_known) = E := ⟨_, rfl⟩
 refine wJ (fun f w => Has f [(2, .bool E2)] ∧ Bx w0 w [.box b1 35 (GModule.cells a0).toArray]) ?_ ?_
 ·refine wReg (sRun (xLoadS (GModule.cells a0) Try.underlying35 rfl ti35 rfl rfl ((hL.bk 0 rfl).part rfl)) (sCall (eCall cal17 rfl) (sp_m_kit_SmallModule _ a0 (Dat.all (Dat.ext (x := a0) h0 hL.1))) ?_))
  rintro _ w3 ⟨rfl, he3⟩
  replace hL := hL.ext he3
  by_cases h4 : (m_kit_SmallModule (GModule.er a0)) = true
  ·try rw [h4]
   refine sRun (xNot rfl) (sRun (xMvB rfl) (sGo rfl (sRun (xLoadS (GModule.cells a0) Try.underlying35 rfl ti35 rfl rfl ((hL.bk 0 rfl).part rfl)) (sGo rfl (sCall (eCall cal18 rfl) (sp_m_l06_checks _ a0 (Dat.all (Dat.ext (x := a0) h0 hL.1))) ?_)))))
   rintro _ w5 ⟨rfl, he5⟩
   replace hL := hL.ext he5
   refine sRun (xPkFB rfl rfl) (sRun (xMvB rfl) ?_)
   by_cases h6 : (m_l06_checks (GModule.er a0)) = true
   ·try rw [h6]
    refine sGo rfl (sCall (eCall cal19 rfl) (sp_m_l06_known _) ?_)
    rintro _ w7 ⟨rfl, he7⟩
    replace hL := hL.ext he7
    refine sRun (xPkTB rfl rfl) (sRun (xAsB rfl) (sNil ?_))
    exact ⟨⟨(congrArg Value.bool (by rw [← hE2]; first | (simp [h4, h6]; done) | (simp only [h4, h6]; done) | grind)), trivial⟩, hL⟩
   ·have h6n : (m_l06_checks (GModule.er a0)) = false := Bool.eq_false_iff.2 h6
    try rw [h6n]
    refine sNo rfl (sRun (xPkFB rfl rfl) (sRun (xAsB rfl) (sNil ?_)))
    exact ⟨⟨(congrArg Value.bool (by rw [← hE2]; first | (simp [h4, h6n]; done) | (simp only [h4, h6n]; done) | grind)), trivial⟩, hL⟩
  ·have h4n : (m_kit_SmallModule (GModule.er a0)) = false := Bool.eq_false_iff.2 h4
   try rw [h4n]
   refine sRun (xNot rfl) (sRun (xMvB rfl) (sNo rfl (sNo rfl (sRun (xPkTB rfl rfl) (sRun (xMvB rfl) (sGo rfl (sCall (eCall cal19 rfl) (sp_m_l06_known _) ?_)))))))
   rintro _ w8 ⟨rfl, he8⟩
   replace hL := hL.ext he8
   refine sRun (xPkTB rfl rfl) (sRun (xAsB rfl) (sNil ?_))
   exact ⟨⟨(congrArg Value.bool (by rw [← hE2]; first | (simp [h4n]; done) | (simp only [h4n]; done) | grind)), trivial⟩, hL⟩
 ·clear hL
  subst hE2
  rintro f w ⟨hf, hL⟩
  obtain ⟨g, rfl⟩ := has_updL _ _ hf
  clear hf
  refine wRet ?_
  subst hM
  refine res1 (P := Try.prog) (fn := Try.f5) rfl ?_
  exact ⟨rfl, hL.1⟩
end Go.Proofs.Ytbpccmnalhdpmaa
namespace Go.Proofs.Ytbpccmnalhdpmaa
open Go.ChangeShapes Go.WideShapes Go.ChangeAt Go.RowKit Go.Fw Go.Joins
theorem Try.own : ownKnob Try.prog.godebug = none := by kernel_rfl
theorem Try.laidOut : laidOutB Try.prog = true := by kernel_rfl
theorem adr_none {w : World} {a : Addr} {v : Value} (h : w.cell? a = some v) : ∃ b o, a = ⟨b, o, none⟩ ∧ b < w.heap.size := by
 have h1 := World.cell?_spot h
 obtain ⟨b, o, s⟩ := a
 simp only at h1
 subst h1
 exact ⟨b, o, rfl, World.block_lt_of_cell? w _ h⟩
/-- the form's reach, of one datum -/
def Wt {H : Type} (t : TypeId) (d : DataW H) : Prop := ∀ n ∈ d.weights Try.prog t, n ≤ reachBytes
section
variable {H : Type}
theorem wt_all {e : TypeId} {l : List (DataW H)} (h : ∀ n ∈ DataW.weightsAll Try.prog e l, n ≤ reachBytes) : ∀ d ∈ l, Wt e d := by
 induction l with
 | nil => intro d hd; cases hd
 | cons x l ih =>
  intro d hd n hn
  simp only [DataW.weightsAll] at h
  rcases List.mem_cons.1 hd with rfl | hd
  · exact h n (List.mem_append_left _ hn)
  · exact ih (fun n hn => h n (List.mem_append_right _ hn)) d hd n hn
theorem wt_slice {t e : TypeId} {elems sp : List (DataW H)} (ht : Try.prog.underlying t = some (.slice e)) (h : Wt t (.slice elems sp)) : elems.length * Try.prog.bytesOf e ≤ reachBytes ∧ ∀ d ∈ elems, Wt e d := by
 unfold Wt at h
 simp only [DataW.weights, ht] at h
 refine ⟨?_, wt_all fun n hn => h n (List.mem_cons_of_mem _ (List.mem_append_left _ hn))⟩
 have := h _ (List.mem_cons_self ..)
 exact Nat.le_trans (Nat.mul_le_mul_right _ (Nat.le_add_right _ _)) this
theorem wt_struct {t : TypeId} {fs : Array Field} {parts : List (DataW H)} (ht : Try.prog.underlying t = some (.struct fs)) (h : Wt t (.agg parts)) {j : Nat} {f : Field} {d : DataW H} (hf : (fs.toList.map (·.type))[j]? = some f.type) (hd : parts[j]? = some d) : Wt f.type d := by
 unfold Wt at h
 simp only [DataW.weights, ht] at h
 exact fun n hn => h n (DataW.weights_mem_each hf hd n hn)
theorem wt_array {t e : TypeId} {k : Nat} {parts : List (DataW H)} (ht : Try.prog.underlying t = some (.array k e)) (h : Wt t (.agg parts)) : ∀ d ∈ parts, Wt e d := by
 unfold Wt at h
 simp only [DataW.weights, ht] at h
 exact wt_all h
theorem wt_arg {ts : List TypeId} {ds : List (DataW H)} (h : (DataW.weightsEach Try.prog ts ds).all (· ≤ reachBytes) = true) {j : Nat} {t : TypeId} {d : DataW H} (ht : ts[j]? = some t) (hd : ds[j]? = some d) : Wt t d := by
 intro n hn
 have := List.all_eq_true.1 h n (DataW.weights_mem_each ht hd n hn)
 simpa using this
end
theorem list_choice {α : Type} {p : Nat → α → Prop} : ∀ (n : Nat), (∀ i, i < n → ∃ x, p i x) → ∃ l : List α, l.length = n ∧ ∀ i x, l[i]? = some x → p i x
 | 0, _ => ⟨[], rfl, fun i x h => by cases h⟩
 | n + 1, h => by
  obtain ⟨l, hl, hp⟩ := list_choice n (fun i hi => h i (by omega))
  obtain ⟨x, hx⟩ := h n (by omega)
  refine ⟨l ++ [x], by simp [hl], fun i y hi => ?_⟩
  rcases Nat.lt_or_ge i l.length with h1 | h1
  · rw [List.getElem?_append_left h1] at hi; exact hp i y hi
  · rw [List.getElem?_append_right h1] at hi
    have h0 : i - l.length = 0 := by
     rcases Nat.eq_zero_or_pos (i - l.length) with h0 | h0
     · exact h0
     · rw [List.getElem?_eq_none (by simp; omega)] at hi; cases hi
    rw [h0] at hi
    simp only [List.getElem?_cons_zero, Option.some.injEq] at hi
    subst hi
    obtain rfl : i = n := by omega
    exact hx
/-- a reading of type t is one of α's -/
structure Opens (α : Type) [Dat α] (t : TypeId) : Prop where
 pos : 0 < Dat.sz α
 sz : Try.prog.cellsOf t = Dat.sz α
 bs : Try.prog.bytesOf t = Dat.bs α
 op : ∀ {H : Type} {enc : TypeId × Value → H} {w : World} {base : Nat} {spare : Nat → Bool} {held : Bool} {fuel : Nat} {cs : List Value} {x : DataW H × List MemPlace},
  DataW.trod enc Try.prog w base spare held fuel t cs = some x → Wt t x.1 → ∃ a : α, cs = Dat.cells a ∧ Dat.ok (fun _ => True) w a
theorem open_int {t : TypeId} (ht : Try.prog.underlying t = some (.int .i64)) (hs : Try.prog.cellsOf t = 1) (hb : Try.prog.bytesOf t = 8) : Opens Int t :=
 ⟨Nat.one_pos, hs, hb, fun h _ => by
  obtain ⟨n, rfl, _, _⟩ := DataW.trod_int ht h
  exact ⟨n, rfl, trivial⟩⟩
theorem open_lst {α : Type} [Dat α] {t e : TypeId} (he : Opens α e) (ht : Try.prog.underlying t = some (.slice e)) (hs : Try.prog.cellsOf t = 1) (hb : Try.prog.bytesOf t = 24) : Opens (Lst α) t :=
 ⟨Nat.one_pos, hs, hb, fun {H enc w base spare held fuel cs x} h hwt => by
  rcases Deep.open_slice ht h with ⟨rfl, hx⟩ | ⟨a, len, cap, m, n, D, Pl, rfl, hb, hl, hm, hmm, hx, hi⟩
  · exact ⟨⟨none, 0, []⟩, rfl, Lst.nil_ok⟩
  · have hlm : len ≤ m := by rw [hmm]; split <;> omega
    rw [hx] at hwt
    have hw2 := wt_slice ht hwt
    rw [he.sz] at hi
    obtain ⟨l, hll, hls⟩ := list_choice (p := fun i (y : α) => w.cells? base (a.add (i * Dat.sz α)) (Dat.sz α) = some (Dat.cells y) ∧ Dat.ok (fun _ => True) w y) len (fun i hil => by
      obtain ⟨cs', h1, h2⟩ := hi i (by omega)
      obtain ⟨y, rfl, hy⟩ := he.op h2 (hw2.2 (D i) (List.mem_map.2 ⟨i, List.mem_range.2 hil, rfl⟩))
      exact ⟨y, h1, hy⟩)
    subst hll
    refine ⟨⟨some a, cap, l⟩, rfl, ?_, fun h0 => ?_⟩
    · have := hw2.1
      rw [he.bs, List.length_map, List.length_range] at this
      exact Nat.le_trans this (by unfold reachBytes; omega)
    · have e0 := (hls 0 l[0] (List.getElem?_eq_getElem h0)).1
      have h1 := (World.cells?_some e0).2.2 0 he.pos
      rw [Nat.zero_mul, Addr.add_zero', Addr.add_zero', List.getElem?_eq_getElem (by rw [Dat.len]; exact he.pos)] at h1
      obtain ⟨b, o, rfl, hbb⟩ := adr_none h1
      refine ⟨rfl, trivial, hbb, fun i y hy => ⟨fun j v hv => ?_, (hls i y hy).2⟩⟩
      have hj : j < Dat.sz α := by rw [← Dat.len y]; exact (List.getElem?_eq_some_iff.1 hv).1
      have h2 := (World.cells?_some (hls i y hy).1).2.2 j hj
      rw [Deep.add_add, Addr.add_lit, hv] at h2
      simpa [Lst.blk, Lst.off, Nat.add_assoc] using h2⟩
theorem open_array2 {α : Type} [Dat α] {t e : TypeId} (he : Opens α e) (ht : Try.prog.underlying t = some (.array 2 e)) {H : Type} {enc : TypeId × Value → H} {w : World} {base : Nat} {spare : Nat → Bool} {held : Bool} {fuel : Nat} {cs : List Value} {x : DataW H × List MemPlace}
   (hc : Try.prog.cellsOf t = 2 * Dat.sz α) (h : DataW.trod enc Try.prog w base spare held fuel t cs = some x) (hwt : Wt t x.1) :
   ∃ a b : α, cs = Dat.cells a ++ Dat.cells b ∧ Dat.ok (fun _ => True) w a ∧ Dat.ok (fun _ => True) w b := by
 obtain ⟨xs, m, _, rfl, hl, hxl, hi⟩ := DataW.trod_array ht h
 have hw := wt_array ht hwt
 rcases xs with _ | ⟨x0, _ | ⟨x1, _ | ⟨x2, r⟩⟩⟩
 · cases hxl
 · cases hxl
 · have g0 := hi 0 (by omega)
   have g1 := hi 1 (by omega)
   rw [he.sz] at g0 g1
   simp only [List.getElem?_cons_zero, List.getElem?_cons_succ, Nat.zero_mul, Nat.one_mul, List.drop_zero] at g0 g1
   obtain ⟨a, ha, hao⟩ := he.op g0 (hw _ (by simp))
   obtain ⟨b, hb, hbo⟩ := he.op g1 (hw _ (by simp))
   refine ⟨a, b, ?_, hao, hbo⟩
   rw [← ha, ← hb, List.take_of_length_le (l := cs.drop _) (by rw [List.length_drop, hl, hc]; omega), List.take_append_drop]
 · simp at hxl
/-- one field of a struct -/
theorem open_field {α : Type} [Dat α] {t e : TypeId} (he : Opens α e) {fs : Array Field} (ht : Try.prog.underlying t = some (.struct fs)) {H : Type} {enc : TypeId × Value → H} {w : World} {base : Nat} {spare : Nat → Bool} {held : Bool} {n : Nat} {cs : List Value} {xs : List (DataW H × List MemPlace)}
  (hwt : Wt t (.agg (xs.map (·.1)))) (hxl : xs.length = fs.size) (hf : ∀ (i : Nat) (f : Field), fs[i]? = some f → DataW.trod enc Try.prog w base spare held n f.type ((cs.drop f.offset).take (Try.prog.cellsOf f.type)) = xs[i]?) (j : Nat) {f : Field} (hj : fs[j]? = some f) (hfe : f.type = e) {o : Nat} (ho : f.offset = o) :
  ∃ a : α, cs.drop o = Dat.cells a ++ cs.drop (o + Dat.sz α) ∧ Dat.ok (fun _ => True) w a := by
 subst hfe ho
 have hjl : j < xs.length := by rw [hxl]; exact (Array.getElem?_eq_some_iff.1 hj).1
 have g := hf j f hj
 rw [List.getElem?_eq_getElem hjl, he.sz] at g
 have hw := wt_struct (j := j) (f := f) (d := (xs[j]).1) ht hwt (by rw [List.getElem?_map, Array.getElem?_toList, hj]; rfl) (by rw [List.getElem?_map, List.getElem?_eq_getElem hjl]; rfl)
 obtain ⟨a, ha, hao⟩ := he.op g hw
 refine ⟨a, ?_, hao⟩
 rw [← ha, ← List.drop_drop, List.take_append_drop]
end Go.Proofs.Ytbpccmnalhdpmaa
namespace Go.Proofs.Ytbpccmnalhdpmaa
open Go.ChangeShapes Go.WideShapes Go.ChangeAt Go.RowKit Go.Fw Go.Joins
theorem op3 : Opens Int 3 := open_int Try.underlying3 (by kernel_rfl) (by kernel_rfl)
theorem op64 : Opens GSrc 64 := ⟨by decide, by kernel_rfl, by kernel_rfl, fun {H enc w base spare held fuel cs x} h hwt => by
 obtain ⟨xs, n, _, rfl, hl, hxl, hf⟩ := DataW.trod_struct Try.underlying64 h
 rw [show Try.prog.cellsOf 64 = 3 by kernel_rfl] at hl
 obtain ⟨a0, e0, k0⟩ := open_field op3 Try.underlying64 hwt hxl hf 0 rfl rfl rfl
 replace e0 : cs.drop 0 = Dat.cells a0 ++ cs.drop 1 := e0
 obtain ⟨a1, e1, k1⟩ := open_field op3 Try.underlying64 hwt hxl hf 1 rfl rfl rfl
 replace e1 : cs.drop 1 = Dat.cells a1 ++ cs.drop 2 := e1
 obtain ⟨a2, e2, k2⟩ := open_field op3 Try.underlying64 hwt hxl hf 2 rfl rfl rfl
 replace e2 : cs.drop 2 = Dat.cells a2 ++ cs.drop 3 := e2
 have ee : cs.drop 3 = [] := List.drop_eq_nil_of_le (by omega)
 refine ⟨⟨a0, a1, a2⟩, ?_, trivial⟩
 rw [← List.drop_zero (l := cs), e0, e1, e2, ee]
 rfl⟩
theorem op66 : Opens GOp 66 := ⟨by decide, by kernel_rfl, by kernel_rfl, fun {H enc w base spare held fuel cs x} h hwt => by
 obtain ⟨xs, n, _, rfl, hl, hxl, hf⟩ := DataW.trod_struct Try.underlying66 h
 rw [show Try.prog.cellsOf 66 = 11 by kernel_rfl] at hl
 obtain ⟨a0, e0, k0⟩ := open_field op3 Try.underlying66 hwt hxl hf 0 rfl rfl rfl
 replace e0 : cs.drop 0 = Dat.cells a0 ++ cs.drop 1 := e0
 obtain ⟨a1, e1, k1⟩ := open_field op3 Try.underlying66 hwt hxl hf 1 rfl rfl rfl
 replace e1 : cs.drop 1 = Dat.cells a1 ++ cs.drop 2 := e1
 obtain ⟨a2, e2, k2⟩ := open_field op3 Try.underlying66 hwt hxl hf 2 rfl rfl rfl
 replace e2 : cs.drop 2 = Dat.cells a2 ++ cs.drop 3 := e2
 obtain ⟨a3, e3, k3⟩ := open_field op3 Try.underlying66 hwt hxl hf 3 rfl rfl rfl
 replace e3 : cs.drop 3 = Dat.cells a3 ++ cs.drop 4 := e3
 obtain ⟨a4, e4, k4⟩ := open_field op3 Try.underlying66 hwt hxl hf 4 rfl rfl rfl
 replace e4 : cs.drop 4 = Dat.cells a4 ++ cs.drop 5 := e4
 obtain ⟨a5, e5, k5⟩ := open_field op3 Try.underlying66 hwt hxl hf 5 rfl rfl rfl
 replace e5 : cs.drop 5 = Dat.cells a5 ++ cs.drop 6 := e5
 obtain ⟨a6, e6, k6⟩ := open_field op3 Try.underlying66 hwt hxl hf 6 rfl rfl rfl
 replace e6 : cs.drop 6 = Dat.cells a6 ++ cs.drop 7 := e6
 obtain ⟨a7, e7, k7⟩ := open_field op3 Try.underlying66 hwt hxl hf 7 rfl rfl rfl
 replace e7 : cs.drop 7 = Dat.cells a7 ++ cs.drop 8 := e7
 obtain ⟨a8, e8, k8⟩ := open_field op64 Try.underlying66 hwt hxl hf 8 rfl rfl rfl
 replace e8 : cs.drop 8 = Dat.cells a8 ++ cs.drop 11 := e8
 have ee : cs.drop 11 = [] := List.drop_eq_nil_of_le (by omega)
 refine ⟨⟨a0, a1, a2, a3, a4, a5, a6, a7, a8⟩, ?_, trivial⟩
 rw [← List.drop_zero (l := cs), e0, e1, e2, e3, e4, e5, e6, e7, e8, ee]
 rfl⟩
theorem op53 : Opens (Lst GOp) 53 := open_lst op66 Try.underlying53 (by kernel_rfl) (by kernel_rfl)
theorem op37 : Opens (Lst Int) 37 := open_lst op3 Try.underlying37 (by kernel_rfl) (by kernel_rfl)
theorem op55 : Opens (GEdge Lst) 55 := ⟨by decide, by kernel_rfl, by kernel_rfl, fun {H enc w base spare held fuel cs x} h hwt => by
 obtain ⟨xs, n, _, rfl, hl, hxl, hf⟩ := DataW.trod_struct Try.underlying55 h
 rw [show Try.prog.cellsOf 55 = 2 by kernel_rfl] at hl
 obtain ⟨a0, e0, k0⟩ := open_field op3 Try.underlying55 hwt hxl hf 0 rfl rfl rfl
 replace e0 : cs.drop 0 = Dat.cells a0 ++ cs.drop 1 := e0
 obtain ⟨a1, e1, k1⟩ := open_field op37 Try.underlying55 hwt hxl hf 1 rfl rfl rfl
 replace e1 : cs.drop 1 = Dat.cells a1 ++ cs.drop 2 := e1
 have ee : cs.drop 2 = [] := List.drop_eq_nil_of_le (by omega)
 refine ⟨⟨a0, a1⟩, ?_, k1⟩
 rw [← List.drop_zero (l := cs), e0, e1, ee]
 rfl⟩
theorem op56 : Opens (GArr56 Lst) 56 := ⟨by decide, by kernel_rfl, by kernel_rfl, fun h hwt => by
 obtain ⟨a, b, rfl, ha, hb⟩ := open_array2 op55 Try.underlying56 (by kernel_rfl) h hwt
 exact ⟨⟨a, b⟩, rfl, ha, hb⟩⟩
theorem op58 : Opens (GTerm Lst) 58 := ⟨by decide, by kernel_rfl, by kernel_rfl, fun {H enc w base spare held fuel cs x} h hwt => by
 obtain ⟨xs, n, _, rfl, hl, hxl, hf⟩ := DataW.trod_struct Try.underlying58 h
 rw [show Try.prog.cellsOf 58 = 8 by kernel_rfl] at hl
 obtain ⟨a0, e0, k0⟩ := open_field op3 Try.underlying58 hwt hxl hf 0 rfl rfl rfl
 replace e0 : cs.drop 0 = Dat.cells a0 ++ cs.drop 1 := e0
 obtain ⟨a1, e1, k1⟩ := open_field op3 Try.underlying58 hwt hxl hf 1 rfl rfl rfl
 replace e1 : cs.drop 1 = Dat.cells a1 ++ cs.drop 2 := e1
 obtain ⟨a2, e2, k2⟩ := open_field op3 Try.underlying58 hwt hxl hf 2 rfl rfl rfl
 replace e2 : cs.drop 2 = Dat.cells a2 ++ cs.drop 3 := e2
 obtain ⟨a3, e3, k3⟩ := open_field op37 Try.underlying58 hwt hxl hf 3 rfl rfl rfl
 replace e3 : cs.drop 3 = Dat.cells a3 ++ cs.drop 4 := e3
 obtain ⟨a4, e4, k4⟩ := open_field op56 Try.underlying58 hwt hxl hf 4 rfl rfl rfl
 replace e4 : cs.drop 4 = Dat.cells a4 ++ cs.drop 8 := e4
 have ee : cs.drop 8 = [] := List.drop_eq_nil_of_le (by omega)
 refine ⟨⟨a0, a1, a2, a3, a4⟩, ?_, ⟨k3, k4⟩⟩
 rw [← List.drop_zero (l := cs), e0, e1, e2, e3, e4, ee]
 rfl⟩
theorem op60 : Opens (GBlock Lst) 60 := ⟨by decide, by kernel_rfl, by kernel_rfl, fun {H enc w base spare held fuel cs x} h hwt => by
 obtain ⟨xs, n, _, rfl, hl, hxl, hf⟩ := DataW.trod_struct Try.underlying60 h
 rw [show Try.prog.cellsOf 60 = 10 by kernel_rfl] at hl
 obtain ⟨a0, e0, k0⟩ := open_field op3 Try.underlying60 hwt hxl hf 0 rfl rfl rfl
 replace e0 : cs.drop 0 = Dat.cells a0 ++ cs.drop 1 := e0
 obtain ⟨a1, e1, k1⟩ := open_field op53 Try.underlying60 hwt hxl hf 1 rfl rfl rfl
 replace e1 : cs.drop 1 = Dat.cells a1 ++ cs.drop 2 := e1
 obtain ⟨a2, e2, k2⟩ := open_field op58 Try.underlying60 hwt hxl hf 2 rfl rfl rfl
 replace e2 : cs.drop 2 = Dat.cells a2 ++ cs.drop 10 := e2
 have ee : cs.drop 10 = [] := List.drop_eq_nil_of_le (by omega)
 refine ⟨⟨a0, a1, a2⟩, ?_, ⟨k1, k2⟩⟩
 rw [← List.drop_zero (l := cs), e0, e1, e2, ee]
 rfl⟩
theorem op22 : Opens (Lst (GBlock Lst)) 22 := open_lst op60 Try.underlying22 (by kernel_rfl) (by kernel_rfl)
theorem op69 : Opens GContext 69 := ⟨by decide, by kernel_rfl, by kernel_rfl, fun {H enc w base spare held fuel cs x} h hwt => by
 obtain ⟨xs, n, _, rfl, hl, hxl, hf⟩ := DataW.trod_struct Try.underlying69 h
 rw [show Try.prog.cellsOf 69 = 3 by kernel_rfl] at hl
 obtain ⟨a0, e0, k0⟩ := open_field op3 Try.underlying69 hwt hxl hf 0 rfl rfl rfl
 replace e0 : cs.drop 0 = Dat.cells a0 ++ cs.drop 1 := e0
 obtain ⟨a1, e1, k1⟩ := open_field op3 Try.underlying69 hwt hxl hf 1 rfl rfl rfl
 replace e1 : cs.drop 1 = Dat.cells a1 ++ cs.drop 2 := e1
 obtain ⟨a2, e2, k2⟩ := open_field op3 Try.underlying69 hwt hxl hf 2 rfl rfl rfl
 replace e2 : cs.drop 2 = Dat.cells a2 ++ cs.drop 3 := e2
 have ee : cs.drop 3 = [] := List.drop_eq_nil_of_le (by omega)
 refine ⟨⟨a0, a1, a2⟩, ?_, trivial⟩
 rw [← List.drop_zero (l := cs), e0, e1, e2, ee]
 rfl⟩
theorem op23 : Opens (Lst GContext) 23 := open_lst op69 Try.underlying23 (by kernel_rfl) (by kernel_rfl)
theorem op72 : Opens GObject 72 := ⟨by decide, by kernel_rfl, by kernel_rfl, fun {H enc w base spare held fuel cs x} h hwt => by
 obtain ⟨xs, n, _, rfl, hl, hxl, hf⟩ := DataW.trod_struct Try.underlying72 h
 rw [show Try.prog.cellsOf 72 = 3 by kernel_rfl] at hl
 obtain ⟨a0, e0, k0⟩ := open_field op3 Try.underlying72 hwt hxl hf 0 rfl rfl rfl
 replace e0 : cs.drop 0 = Dat.cells a0 ++ cs.drop 1 := e0
 obtain ⟨a1, e1, k1⟩ := open_field op3 Try.underlying72 hwt hxl hf 1 rfl rfl rfl
 replace e1 : cs.drop 1 = Dat.cells a1 ++ cs.drop 2 := e1
 obtain ⟨a2, e2, k2⟩ := open_field op3 Try.underlying72 hwt hxl hf 2 rfl rfl rfl
 replace e2 : cs.drop 2 = Dat.cells a2 ++ cs.drop 3 := e2
 have ee : cs.drop 3 = [] := List.drop_eq_nil_of_le (by omega)
 refine ⟨⟨a0, a1, a2⟩, ?_, trivial⟩
 rw [← List.drop_zero (l := cs), e0, e1, e2, ee]
 rfl⟩
theorem op24 : Opens (Lst GObject) 24 := open_lst op72 Try.underlying24 (by kernel_rfl) (by kernel_rfl)
theorem op26 : Opens (GCode Lst) 26 := ⟨by decide, by kernel_rfl, by kernel_rfl, fun {H enc w base spare held fuel cs x} h hwt => by
 obtain ⟨xs, n, _, rfl, hl, hxl, hf⟩ := DataW.trod_struct Try.underlying26 h
 rw [show Try.prog.cellsOf 26 = 4 by kernel_rfl] at hl
 obtain ⟨a0, e0, k0⟩ := open_field op3 Try.underlying26 hwt hxl hf 0 rfl rfl rfl
 replace e0 : cs.drop 0 = Dat.cells a0 ++ cs.drop 1 := e0
 obtain ⟨a1, e1, k1⟩ := open_field op22 Try.underlying26 hwt hxl hf 1 rfl rfl rfl
 replace e1 : cs.drop 1 = Dat.cells a1 ++ cs.drop 2 := e1
 obtain ⟨a2, e2, k2⟩ := open_field op23 Try.underlying26 hwt hxl hf 2 rfl rfl rfl
 replace e2 : cs.drop 2 = Dat.cells a2 ++ cs.drop 3 := e2
 obtain ⟨a3, e3, k3⟩ := open_field op24 Try.underlying26 hwt hxl hf 3 rfl rfl rfl
 replace e3 : cs.drop 3 = Dat.cells a3 ++ cs.drop 4 := e3
 have ee : cs.drop 4 = [] := List.drop_eq_nil_of_le (by omega)
 refine ⟨⟨a0, a1, a2, a3⟩, ?_, ⟨k1, k2, k3⟩⟩
 rw [← List.drop_zero (l := cs), e0, e1, e2, e3, ee]
 rfl⟩
theorem op33 : Opens (Lst (GCode Lst)) 33 := open_lst op26 Try.underlying33 (by kernel_rfl) (by kernel_rfl)
theorem op35 : Opens (GModule Lst) 35 := ⟨by decide, by kernel_rfl, by kernel_rfl, fun {H enc w base spare held fuel cs x} h hwt => by
 obtain ⟨xs, n, _, rfl, hl, hxl, hf⟩ := DataW.trod_struct Try.underlying35 h
 rw [show Try.prog.cellsOf 35 = 1 by kernel_rfl] at hl
 obtain ⟨a0, e0, k0⟩ := open_field op33 Try.underlying35 hwt hxl hf 0 rfl rfl rfl
 replace e0 : cs.drop 0 = Dat.cells a0 ++ cs.drop 1 := e0
 have ee : cs.drop 1 = [] := List.drop_eq_nil_of_le (by omega)
 refine ⟨⟨a0⟩, ?_, k0⟩
 rw [← List.drop_zero (l := cs), e0, ee]
 rfl⟩
end Go.Proofs.Ytbpccmnalhdpmaa
namespace Go.Proofs.Ytbpccmnalhdpmaa
open Go.ChangeShapes Go.WideShapes Go.ChangeAt Go.RowKit Go.Fw Go.Joins
theorem slim_of {w : World} {m : GModule Lst} (h : Dat.ok (fun _ => True) w m) : ∀ c ∈ (GModule.er m).Funcs, Slim c := by
 have h1 : m.Funcs.ok (fun _ => True) w := h
 intro c hc b hb
 obtain ⟨c0, hc0, rfl⟩ := List.mem_map.1 (show c ∈ m.Funcs.l.map GCode.er from hc)
 obtain ⟨i, hi⟩ := List.mem_iff_getElem?.1 hc0
 have h2 : c0.Blocks.ok (fun _ => True) w := (Lst.elok (s := m.Funcs) h1 hi).1
 obtain ⟨b0, hb0, rfl⟩ := List.mem_map.1 (show b ∈ c0.Blocks.l.map GBlock.er from hb)
 obtain ⟨j, hj⟩ := List.mem_iff_getElem?.1 hb0
 have h3 : Dat.ok (fun _ => True) w b0.Term.To := (Lst.elok (s := c0.Blocks) h2 hj).2.2
 have e0 : b0.Term.To.e0.Args.l.length * 8 ≤ 140737488355328 := Lst.bd (s := b0.Term.To.e0.Args) h3.1
 have e1 : b0.Term.To.e1.Args.l.length * 8 ≤ 140737488355328 := Lst.bd (s := b0.Term.To.e1.Args) h3.2
 show b0.Term.To.e0.Args.l.length ≤ _ ∧ b0.Term.To.e1.Args.l.length ≤ _
 omega
theorem irChecks_walk (w : World) (m : GModule Lst) (h : Dat.ok (fun _ => True) w m) : Calls Try.prog 5 #[.agg (GModule.cells m).toArray] w (Ret fun v w' => v = .bool true ∧ Ext w w') := by
 have e : m_l06_IrChecks (GModule.er m) = true := by
  unfold m_l06_IrChecks m_l06_known
  rw [checks_yes _ (slim_of h)]
  simp
 have := sp_m_l06_IrChecks w m h
 rw [e] at this
 exact this
set_option maxRecDepth 100000 in
theorem irChecks_lifted (os : Os) (started : os.Started) (H : Type) (enc : TypeId × Value → H) :
  ReturnsInHanded {} Try.checked os 5 .any (Rows.irChecksSpec.pre6 enc Try.prog Try.f5 Rows.irChecksRow.domain false) (Rows.irChecksSpec.post enc Try.prog Try.f5 false true false false) := by
 refine returnsInHanded_of_change_sized (C := Try.checked) Try.own started (by kernel_rfl) Try.func5
  (ChangeSpec.witness6 (enc := enc) (C := Try.checked) false ⟨#[], #[.agg #[.slice none 0 0]], []⟩ 8 (by kernel_rfl) (by kernel_rfl) (by kernel_rfl) (by kernel_rfl)) ?_
 intro W base args ds gs before hval0 hW hcnd hsz0 _
 have hval : ∀ (j : Nat) t v, Try.f5.params[j]? = some t → args[j]? = some v → Value.okWide Try.prog W .any base t v := hval0
 have hW' := hW
 obtain ⟨p, q, hA0, hV, rfl, hfz, hnd⟩ := hW
 have hA : DataW.TrodAll enc Try.prog W 0 (fun _ => true) true Try.f5.params.toList args.toList ds p := hA0
 have hsz : (DataW.weightsEach Try.prog (Try.f5.params.toList ++ Rows.irChecksSpec.plain.varTypes Try.prog) (ds ++ gs)).all (· ≤ reachBytes) = true := hsz0
 rw [Try.params5] at hA hval hsz
 obtain ⟨v0, vs0, d0, ds0, p0, q0, hargs, rfl, rfl, h0, r0⟩ := trodAll_cons hA
 obtain ⟨rfl, rfl, rfl⟩ := trodAll_nil r0
 obtain rfl : args = #[v0] := by cases args; simp_all
 obtain ⟨rfl, rfl⟩ := trodVars_none hV
 have k0 := h0
 have lt0 : ∀ x ∈ p0, x.block < W.heap.size := by obtain ⟨m, hm⟩ := k0; exact DataW.trod_lt m _ _ _ hm
 have wt0 : Wt 35 d0 := wt_arg hsz (j := 0) rfl rfl
 obtain ⟨cs, rfl, hcz⟩ := okWide_struct Try.underlying35 (hval 0 35 v0 rfl rfl)
 obtain ⟨f0, hf0⟩ := h0
 obtain ⟨m, hm, hok⟩ := op35.op hf0 wt0
 obtain rfl : cs = (GModule.cells m).toArray := by
  have : cs.toList = GModule.cells m := hm
  rw [← this]
 clear hA0 hval0
 refine (irChecks_walk W m hok).mono fun e W' he => ?_
 obtain ⟨v, rfl, rfl, bel⟩ := he
 exact ⟨_, rfl, _, _, _, [], _, [], hW', trodAll_mk1 (shut_bool Try.underlying4 _), (trodAll_cons_mk (Below.trod Try.laidOut (by kernel_rfl) (of_decide_eq_true (by kernel_rfl)) k0 bel lt0) trodAll_mk0), rfl, Below.frame bel _, fun h => by cases h⟩
/-- the statement -/
theorem irChecks_holds : Rows.IrChecksSaid :=
 OpenClaim.holds_of_wide 5 Try.f5 rfl rfl rfl rfl rfl rfl rfl ⟨rfl, rfl, rfl, rfl, rfl⟩ rfl rfl rfl rfl rfl (by kernel_rfl) Try.func5 (by kernel_rfl)
  (of_decide_eq_true (by kernel_rfl)) (by unfold Func.isWrapper; first | (rw [if_pos (by decide +kernel)]; kernel_rfl) | (rw [if_neg (by decide +kernel)]; exact ⟨rfl, rfl⟩))
  (fun os started H enc _ => irChecks_lifted os started H enc)
end Go.Proofs.Ytbpccmnalhdpmaa
