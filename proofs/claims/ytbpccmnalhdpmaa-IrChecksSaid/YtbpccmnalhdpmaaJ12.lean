/- IrChecks: Gj. -/
import Derived.Test.YtbpccmnalhdpmaaJ11
set_option linter.unusedVariables false
set_option linter.unusedSimpArgs false
set_option maxRecDepth 4000
namespace Go.Proofs.Ytbpccmnalhdpmaa
open Go.RowKit Go.Fw
def m_r06_Check_L3 (a0 : (GModule List)) (x9 : (GCode List)) (k9 : Nat) : List (GBlock List) → Nat → Lp (Unit) (Int)
 | [], _ => .go ()
 | x22 :: r22, k22 =>
 if x22.Term.Kind = (3 : Int) then
  if ((a0.Funcs.length : Nat) : Int) ≤ x22.Term.N then
   .out ((4 : Int))
  else
   if ((x22.Term.Args.length : Nat) : Int) ≠ (a0.Funcs[(x22.Term.N).toNat]?.getD (⟨(0 : Int), [], [], []⟩ : (GCode List))).Params then
    .out ((4 : Int))
   else
    m_r06_Check_L3 a0 x9 k9 r22 (k22 + 1)
 else
  if x22.Term.Kind = (6 : Int) then
   if ((a0.Funcs.length : Nat) : Int) ≤ x22.Term.N then
    .out ((4 : Int))
   else
    if ((x22.Term.Args.length : Nat) : Int) ≠ (a0.Funcs[(x22.Term.N).toNat]?.getD (⟨(0 : Int), [], [], []⟩ : (GCode List))).Params then
     .out ((4 : Int))
    else
     m_r06_Check_L3 a0 x9 k9 r22 (k22 + 1)
  else
   m_r06_Check_L3 a0 x9 k9 r22 (k22 + 1)
def m_r06_Check_L2 (a0 : (GModule List)) (x9 : (GCode List)) (k9 : Nat) : List GContext → Nat → Lp (Unit) (Int)
 | [], _ => .go ()
 | x13 :: r13, k13 =>
 if ((decide (((a0.Funcs.length : Nat) : Int) ≤ x13.Func)) || ((decide (((k13 : Nat) : Int) = (0 : Int))) && (decide (x13.Func ≠ ((k9 : Nat) : Int))))) = true then
  .out ((4 : Int))
 else
  m_r06_Check_L2 a0 x9 k9 r13 (k13 + 1)
def m_r06_Check_L1 (a0 : (GModule List)) : List (GCode List) → Nat → Lp (Unit) (Int)
 | [], _ => .go ()
 | x9 :: r9, k9 =>
 (m_r06_Check_L2 a0 x9 k9 x9.Contexts 0).el (fun _ =>
  (m_r06_Check_L3 a0 x9 k9 x9.Blocks 0).el (fun _ =>
   m_r06_Check_L1 a0 r9 (k9 + 1)
    ) (fun o => .out o)
   ) (fun o => .out o)
def m_r06_Check_L0 (a0 : (GModule List)) : List (GCode List) → Nat → Lp (Unit) (Int)
 | [], _ => .go ()
 | x4 :: r4, k4 =>
 if (m_r06_CheckCode x4) ≠ (0 : Int) then
  .out ((m_r06_CheckCode x4))
 else
  m_r06_Check_L0 a0 r4 (k4 + 1)
def m_r06_Check (a0 : (GModule List)) : Int :=
 if (8 : Int) < ((a0.Funcs.length : Nat) : Int) then
  (5 : Int)
 else
  (m_r06_Check_L0 a0 a0.Funcs 0).el (fun _ =>
   (m_r06_Check_L1 a0 a0.Funcs 0).el (fun _ =>
    (0 : Int)
     ) (fun o => o)
    ) (fun o => o)
theorem r06_all (a0 : GModule List) : ∀ (l : List (GCode List)) (k : Nat), m_r06_Check_L0 a0 l k = .go () → ∀ x ∈ l, m_r06_CheckCode x = 0
 | [], _, _, x, hx => by cases hx
 | a :: l, k, h, x, hx => by
  rw [m_r06_Check_L0] at h
  by_cases h1 : m_r06_CheckCode a ≠ 0
  · rw [if_pos h1] at h; cases h
  · rw [if_neg h1] at h
    rcases List.mem_cons.1 hx with rfl | hx
    · exact Decidable.byContradiction h1
    · exact r06_all a0 l (k + 1) h x hx
theorem r06_mem {a0 : GModule Lst} {i : Nat} {c : GCode Lst} (h : m_r06_Check_L0 (GModule.er a0) (a0.Funcs.l.map GCode.er) 0 = .go ()) (hc : a0.Funcs.l[i]? = some c) : m_r06_CheckCode (GCode.er c) = 0 :=
 r06_all _ _ _ h _ (List.mem_map.2 ⟨c, List.mem_of_getElem? hc, rfl⟩)
theorem hook26 {a0 : GModule Lst} {i k : Nat} {c : GCode Lst} {b : GBlock Lst} (h : m_r06_Check_L0 (GModule.er a0) (a0.Funcs.l.map GCode.er) 0 = .go ()) (hb : c.Blocks.l[k]? = some b) (hc : a0.Funcs.l[i]? = some c) (hk : b.Term.Kind = 3 ∨ b.Term.Kind = 6) : 0 ≤ b.Term.N :=
 chk_r06_N (b := GBlock.er b) (r06_mem h hc) (List.mem_map.2 ⟨b, List.mem_of_getElem? hb, rfl⟩) hk
set_option maxHeartbeats 12800000 in
theorem sp_m_r06_Check (w0 : World) (a0 : (GModule Lst)) (h0 : Dat.ok (fun _ => True) w0 a0) : Calls Try.prog 26 #[.agg (GModule.cells a0).toArray] w0 (Ret fun v w => v = .int .i64 (m_r06_Check (GModule.er a0)) ∧ Ext w0 w) := by
 obtain ⟨X, hM⟩ : ∃ X, m_r06_Check (GModule.er a0) = X := ⟨_, rfl⟩
 rw [hM]
 unfold m_r06_Check at hM
 try simp only [er1, er2, er3, er4, er5, er6, er7, er8, er9, er10, er11, er12, er13, er14, er15, er16, er17, List.length_map] at hM
 have hL : Bx w0 w0 [] := Bx.nil
 refine calls_of Try.func26 rfl (Nat.le_of_ble_eq_true rfl) (by kernel_rfl) ?_
 refine wCut [(0, .agg (GModule.cells a0).toArray)] ⟨rfl, trivial⟩ fun g => ?_
 refine wSeq (wReg (sTo (aNew (mBox rfl)) ?_))
 rintro _ w1 ⟨b1, rfl, hge1, hB1, he1⟩
 replace hL := hL.new hge1 hB1 he1
 refine sRun (xAsI rfl) (sNil (wSeq (wSeq (wReg (sRun (xFld0 Try.underlying35 rfl rfl ti33 (by decide) rfl) (sRun (xLoad Try.underlying33 rfl rfl ((hL.bk 0 rfl).cell (i := 0) rfl)) ?_))))))
 have hl2 : a0.Funcs.l.length * 80 ≤ 140737488355328 := Lst.bd h0
 refine sRun (xLnL (s := a0.Funcs) Try.underlying33 rfl) (sRun (xGtr rfl rfl) (sNil ?_))
 by_cases h3 : (8 : Int) < ((a0.Funcs.l.length : Nat) : Int)
 ·try rw [decide_eq_true h3]
  rw [if_pos h3] at hM
  refine wIfT rfl (wSeq (wReg (sRun (xAsI rfl) (sNil (wRet ?_)))))
  subst hM
  refine res1 (P := Try.prog) (fn := Try.f26) rfl ?_
  exact ⟨rfl, hL.1⟩
 ·try rw [decide_eq_false h3]
  rw [if_neg h3] at hM
  refine wIfF rfl (wSkip (wSeq (wSeq (wReg (sRun (xFld0 Try.underlying35 rfl rfl ti33 (by decide) rfl) (sRun (xLoad Try.underlying33 rfl rfl ((hL.bk 0 rfl).cell (i := 0) rfl)) (sRun (xLnL (s := a0.Funcs) Try.underlying33 rfl) (sRun (xMvI rfl) (sNil ?_)))))))))
  obtain ⟨Y4, hY4⟩ : ∃ Y, m_r06_Check_L0 (GModule.er a0) (a0.Funcs.l.map GCode.er) 0 = Y := ⟨_, rfl⟩
  rw [hY4] at hM
  refine wJ (fun f w => Has f [(1, .pointer (some ⟨b1, 0, none⟩)), (18, .slice a0.Funcs.a a0.Funcs.l.length a0.Funcs.c), (19, .int .i64 ((a0.Funcs.l.length : Nat) : Int))] ∧ Bx w0 w [.box b1 35 (GModule.cells a0).toArray] ∧ Lp.go () = Y4) ?_ ?_
  ·refine wBlock (wLoopG (fun n f w => ∃ (k4 : Nat), n = a0.Funcs.l.length - k4 ∧ k4 ≤ a0.Funcs.l.length ∧ Has f [(20, .int .i64 ((k4 : Nat) : Int)), (1, .pointer (some ⟨b1, 0, none⟩)), (18, .slice a0.Funcs.a a0.Funcs.l.length a0.Funcs.c), (19, .int .i64 ((a0.Funcs.l.length : Nat) : Int))] ∧ Bx w0 w [.box b1 35 (GModule.cells a0).toArray] ∧ m_r06_Check_L0 (GModule.er a0) ((a0.Funcs.l.map GCode.er).drop k4) k4 = Y4) (a0.Funcs.l.length) ⟨0, rfl, Nat.zero_le _, ⟨rfl, rfl, rfl, rfl, trivial⟩, hL, hY4⟩ ?_)
   clear hL hY4
   rintro n f w ⟨k4, rfl, hk4, hf, hL, hY4⟩
   obtain ⟨g, rfl⟩ := has_updL _ _ hf
   clear hf
   rcases Nat.lt_or_ge k4 a0.Funcs.l.length with hk4b | hk4b
   ·obtain ⟨x4, hx4⟩ := get_ex (l := a0.Funcs.l) hk4b
    rw [drop_map hx4, m_r06_Check_L0] at hY4
    try simp only [er1, er2, er3, er4, er5, er6, er7, er8, er9, er10, er11, er12, er13, er14, er15, er16, er17, List.length_map] at hY4
    refine wSeq (wReg (sRun (xLssT rfl rfl (by omega)) (sNil (wSeq (wIfT rfl (wSkip (wSeq (wBlock (wSeq (wReg (sRun (xIdL Try.underlying33 ti26 rfl rfl rfl h0 hx4) (sRun (xLoadS (GCode.cells x4) Try.underlying26 rfl ti26 rfl rfl ((Lst.el h0 hx4).ext hL.1)) (sTo (aNew (mAlloc ti26)) ?_)))))))))))))
    rintro _ w5 ⟨b5, rfl, hge5, hB5, he5⟩
    replace hL := hL.new hge5 hB5 he5
    refine sStS ti26 rfl rfl rfl (by simp [Value.oneCell', Dat.cells, GCode.cells]) (hL.bk 0 rfl) rfl ?_
    intro w6 hB6 hC6
    replace hL : Bx w0 w6 [.box b5 26 (GCode.cells x4).toArray, .box b1 35 (GModule.cells a0).toArray] := hL.wr 0 rfl hC6 hB6
    refine sNil (wSeq (wReg (sRun (xLoadS (GCode.cells x4) Try.underlying26 rfl ti26 rfl rfl ((hL.bk 0 rfl).part rfl)) (sCall (eCall cal13 rfl) (sp_m_r06_CheckCode _ x4 (Dat.all (Dat.ext (x := x4) (Lst.elok h0 hx4) hL.1))) ?_))))
    rintro _ w7 ⟨rfl, he7⟩
    replace hL := hL.ext he7
    refine sRun (xAsI rfl) (sNil (wSeq (wReg (sRun (xMvI rfl) (sRun (xNeqD rfl rfl) (sNil ?_))))))
    by_cases h8 : (m_r06_CheckCode (GCode.er x4)) ≠ (0 : Int)
    ·try rw [decide_eq_true h8]
     rw [if_pos h8] at hY4
     refine wIfT rfl (wSeq (wReg (sRun (xMvI rfl) (sRun (xAsI rfl) (sNil (wRet ?_))))))
     subst hY4
     rw [Lp.el_out] at hM
     try dsimp only at hM
     subst hM
     refine res1 (P := Try.prog) (fn := Try.f26) rfl ?_
     exact ⟨rfl, hL.1⟩
    ·try rw [decide_eq_false h8]
     rw [if_neg h8] at hY4
     refine wIfF rfl (wSkip (wReg (sRun (xAdd64 rfl rfl (by omega) (by omega)) (sRun (xMvI rfl) (sNil ?_)))))
     exact ⟨a0.Funcs.l.length - (k4 + 1), by omega, k4 + 1, rfl, by omega, ⟨rfl, rfl, rfl, rfl, trivial⟩, hL.tl, hY4⟩
   ·obtain rfl : k4 = a0.Funcs.l.length := by omega
    rw [drop_endm, m_r06_Check_L0] at hY4
    refine wSeq (wReg (sRun (xLssF rfl rfl (by omega)) (sNil (wSeq (wIfF rfl (wExit ?_))))))
    exact ⟨⟨rfl, rfl, rfl, trivial⟩, hL, hY4⟩
  ·clear hL
   rintro f w ⟨hf, hL, hZ4⟩
   obtain ⟨g, rfl⟩ := has_updL _ _ hf
   clear hf
   subst hZ4
   rw [Lp.el_go] at hM
   try dsimp only at hM
   refine wSeq (wSeq (wReg (sRun (xFld0 Try.underlying35 rfl rfl ti33 (by decide) rfl) (sRun (xLoad Try.underlying33 rfl rfl ((hL.bk 0 rfl).cell (i := 0) rfl)) (sRun (xLnL (s := a0.Funcs) Try.underlying33 rfl) (sRun (xMvI rfl) (sNil ?_)))))))
   obtain ⟨Y9, hY9⟩ : ∃ Y, m_r06_Check_L1 (GModule.er a0) (a0.Funcs.l.map GCode.er) 0 = Y := ⟨_, rfl⟩
   rw [hY9] at hM
   refine wJ (fun f w => Has f [(1, .pointer (some ⟨b1, 0, none⟩)), (31, .slice a0.Funcs.a a0.Funcs.l.length a0.Funcs.c), (32, .int .i64 ((a0.Funcs.l.length : Nat) : Int))] ∧ Bx w0 w [.box b1 35 (GModule.cells a0).toArray] ∧ Lp.go () = Y9) ?_ ?_
   ·refine wBlock (wLoopG (fun n f w => ∃ (k9 : Nat), n = a0.Funcs.l.length - k9 ∧ k9 ≤ a0.Funcs.l.length ∧ Has f [(33, .int .i64 ((k9 : Nat) : Int)), (1, .pointer (some ⟨b1, 0, none⟩)), (31, .slice a0.Funcs.a a0.Funcs.l.length a0.Funcs.c), (32, .int .i64 ((a0.Funcs.l.length : Nat) : Int))] ∧ Bx w0 w [.box b1 35 (GModule.cells a0).toArray] ∧ m_r06_Check_L1 (GModule.er a0) ((a0.Funcs.l.map GCode.er).drop k9) k9 = Y9) (a0.Funcs.l.length) ⟨0, rfl, Nat.zero_le _, ⟨rfl, rfl, rfl, rfl, trivial⟩, hL, hY9⟩ ?_)
    clear hL hY9
    rintro n f w ⟨k9, rfl, hk9, hf, hL, hY9⟩
    obtain ⟨g, rfl⟩ := has_updL _ _ hf
    clear hf
    rcases Nat.lt_or_ge k9 a0.Funcs.l.length with hk9b | hk9b
    ·obtain ⟨x9, hx9⟩ := get_ex (l := a0.Funcs.l) hk9b
     rw [drop_map hx9, m_r06_Check_L1] at hY9
     try simp only [er1, er2, er3, er4, er5, er6, er7, er8, er9, er10, er11, er12, er13, er14, er15, er16, er17, List.length_map] at hY9
     refine wSeq (wReg (sRun (xLssT rfl rfl (by omega)) (sNil (wSeq (wIfT rfl (wSkip (wSeq (wBlock (wSeq (wReg (sRun (xMvI rfl) (sRun (xIdL Try.underlying33 ti26 rfl rfl rfl h0 hx9) (sRun (xLoadS (GCode.cells x9) Try.underlying26 rfl ti26 rfl rfl ((Lst.el h0 hx9).ext hL.1)) ?_)))))))))))))
     refine sTo (aNew (mAlloc ti26)) ?_
     rintro _ w10 ⟨b10, rfl, hge10, hB10, he10⟩
     replace hL := hL.new hge10 hB10 he10
     refine sRun (xAsI rfl) (sStS ti26 rfl rfl rfl (by simp [Value.oneCell', Dat.cells, GCode.cells]) (hL.bk 0 rfl) rfl ?_)
     intro w11 hB11 hC11
     replace hL : Bx w0 w11 [.box b10 26 (GCode.cells x9).toArray, .box b1 35 (GModule.cells a0).toArray] := hL.wr 0 rfl hC11 hB11
     refine sNil (wSeq (wSeq (wReg (sRun (xFld (k := 2) Try.underlying26 rfl rfl ti23 (by decide) rfl) (sRun (xLoad Try.underlying23 rfl rfl ((hL.bk 0 rfl).cell (i := 2) rfl)) ?_)))))
     have hl12 : x9.Contexts.l.length * 24 ≤ 140737488355328 := Lst.bd ((Lst.elok h0 hx9).2.1)
     refine sRun (xLnL (s := x9.Contexts) Try.underlying23 rfl) (sRun (xMvI rfl) (sNil ?_))
     obtain ⟨Y13, hY13⟩ : ∃ Y, m_r06_Check_L2 (GModule.er a0) (GCode.er x9) k9 x9.Contexts.l 0 = Y := ⟨_, rfl⟩
     rw [hY13] at hY9
     refine wJ (fun f w => Has f [(1, .pointer (some ⟨b1, 0, none⟩)), (6, .int .i64 ((k9 : Nat) : Int)), (7, .pointer (some ⟨b10, 0, none⟩)), (31, .slice a0.Funcs.a a0.Funcs.l.length a0.Funcs.c), (32, .int .i64 ((a0.Funcs.l.length : Nat) : Int)), (33, .int .i64 ((k9 : Nat) : Int)), (39, .slice x9.Contexts.a x9.Contexts.l.length x9.Contexts.c), (40, .int .i64 ((x9.Contexts.l.length : Nat) : Int))] ∧ Bx w0 w [.box b10 26 (GCode.cells x9).toArray, .box b1 35 (GModule.cells a0).toArray] ∧ Lp.go () = Y13) ?_ ?_
     ·refine wBlock (wLoopG (fun n f w => ∃ (k13 : Nat), n = x9.Contexts.l.length - k13 ∧ k13 ≤ x9.Contexts.l.length ∧ Has f [(41, .int .i64 ((k13 : Nat) : Int)), (1, .pointer (some ⟨b1, 0, none⟩)), (6, .int .i64 ((k9 : Nat) : Int)), (7, .pointer (some ⟨b10, 0, none⟩)), (31, .slice a0.Funcs.a a0.Funcs.l.length a0.Funcs.c), (32, .int .i64 ((a0.Funcs.l.length : Nat) : Int)), (33, .int .i64 ((k9 : Nat) : Int)), (39, .slice x9.Contexts.a x9.Contexts.l.length x9.Contexts.c), (40, .int .i64 ((x9.Contexts.l.length : Nat) : Int))] ∧ Bx w0 w [.box b10 26 (GCode.cells x9).toArray, .box b1 35 (GModule.cells a0).toArray] ∧ m_r06_Check_L2 (GModule.er a0) (GCode.er x9) k9 (x9.Contexts.l.drop k13) k13 = Y13) (x9.Contexts.l.length) ⟨0, rfl, Nat.zero_le _, ⟨rfl, rfl, rfl, rfl, rfl, rfl, rfl, rfl, rfl, trivial⟩, hL, hY13⟩ ?_)
      clear hL hY13
      rintro n f w ⟨k13, rfl, hk13, hf, hL, hY13⟩
      obtain ⟨g, rfl⟩ := has_updL _ _ hf
      clear hf
      rcases Nat.lt_or_ge k13 x9.Contexts.l.length with hk13b | hk13b
      ·obtain ⟨x13, hx13⟩ := get_ex (l := x9.Contexts.l) hk13b
       rw [drop_id hx13, m_r06_Check_L2] at hY13
       try simp only [er1, er2, er3, er4, er5, er6, er7, er8, er9, er10, er11, er12, er13, er14, er15, er16, er17, List.length_map] at hY13
       refine wSeq (wReg (sRun (xLssT rfl rfl (by omega)) (sNil (wSeq (wIfT rfl (wSkip (wSeq (wBlock (wSeq (wReg (sRun (xMvI rfl) (sRun (xIdL Try.underlying23 ti69 rfl rfl rfl ((Lst.elok h0 hx9).2.1) hx13) (sRun (xLoadS (GContext.cells x13) Try.underlying69 rfl ti69 rfl rfl ((Lst.el ((Lst.elok h0 hx9).2.1) hx13).ext hL.1)) ?_)))))))))))))
       refine sTo (aNew (mAlloc ti69)) ?_
       rintro _ w14 ⟨b14, rfl, hge14, hB14, he14⟩
       replace hL := hL.new hge14 hB14 he14
       refine sRun (xAsI rfl) (sStS ti69 rfl rfl rfl (by simp [Value.oneCell', Dat.cells, GContext.cells]) (hL.bk 0 rfl) rfl ?_)
       intro w15 hB15 hC15
       replace hL : Bx w0 w15 [.box b14 69 (GContext.cells x13).toArray, .box b10 26 (GCode.cells x9).toArray, .box b1 35 (GModule.cells a0).toArray] := hL.wr 0 rfl hC15 hB15
       refine sNil (wSeq ?_)
       obtain ⟨E16, hE16⟩ : ∃ E, ((decide (((a0.Funcs.l.length : Nat) : Int) ≤ x13.Func)) || ((decide (((k13 : Nat) : Int) = (0 : Int))) && (decide (x13.Func ≠ ((k9 : Nat) : Int))))) = E := ⟨_, rfl⟩
       refine wJ (fun f w => Has f [(1, .pointer (some ⟨b1, 0, none⟩)), (6, .int .i64 ((k9 : Nat) : Int)), (7, .pointer (some ⟨b10, 0, none⟩)), (31, .slice a0.Funcs.a a0.Funcs.l.length a0.Funcs.c), (32, .int .i64 ((a0.Funcs.l.length : Nat) : Int)), (33, .int .i64 ((k9 : Nat) : Int)), (39, .slice x9.Contexts.a x9.Contexts.l.length x9.Contexts.c), (40, .int .i64 ((x9.Contexts.l.length : Nat) : Int)), (41, .int .i64 ((k13 : Nat) : Int)), (61, .bool E16)] ∧ Bx w0 w [.box b14 69 (GContext.cells x13).toArray, .box b10 26 (GCode.cells x9).toArray, .box b1 35 (GModule.cells a0).toArray]) ?_ ?_
       ·refine wReg (sRun (xFld (k := 2) Try.underlying69 rfl rfl ti3 (by decide) rfl) (sRun (xLoad Try.underlying3 rfl rfl ((hL.bk 0 rfl).cell (i := 2) rfl)) (sRun (xFld0 Try.underlying35 rfl rfl ti33 (by decide) rfl) (sRun (xLoad Try.underlying33 rfl rfl ((hL.bk 2 rfl).cell (i := 0) rfl)) (sRun (xLnL (s := a0.Funcs) Try.underlying33 rfl) (sRun (xGeq rfl rfl) (sRun (xMvB rfl) ?_)))))))
        by_cases h17 : ((a0.Funcs.l.length : Nat) : Int) ≤ x13.Func
        ·try rw [decide_eq_true h17]
         refine sNo rfl (sNo rfl (sNo rfl (sNo rfl (sNo rfl (sNo rfl (sNo rfl (sNo rfl (sRun (xPkTB rfl rfl) (sNil ?_)))))))))
         exact ⟨⟨rfl, rfl, rfl, rfl, rfl, rfl, rfl, rfl, rfl, (congrArg Value.bool (by rw [← hE16]; first | (simp [h17]; done) | (simp only [decide_eq_true h17]; done) | grind)), trivial⟩, hL⟩
        ·try rw [decide_eq_false h17]
         refine sGo rfl (sRun (xMvI rfl) (sGo rfl (sRun (xEqlD rfl rfl) (sGo rfl (sRun (xMvB rfl) ?_)))))
         by_cases h18 : ((k13 : Nat) : Int) = (0 : Int)
         ·try rw [decide_eq_true h18]
          refine sGo rfl (sRun (xFld (k := 2) Try.underlying69 rfl rfl ti3 (by decide) rfl) (sGo rfl (sRun (xLoad Try.underlying3 rfl rfl ((hL.bk 0 rfl).cell (i := 2) rfl)) (sGo rfl (sRun (xMvI rfl) (sGo rfl (sRun (xNeqD rfl rfl) (sGo rfl (sRun (xPkTB rfl rfl) (sRun (xPkFB rfl rfl) (sNil ?_)))))))))))
          exact ⟨⟨rfl, rfl, rfl, rfl, rfl, rfl, rfl, rfl, rfl, (congrArg Value.bool (by rw [← hE16]; first | (simp [h17, h18]; done) | (simp only [decide_eq_false h17, decide_eq_true h18]; done) | grind)), trivial⟩, hL⟩
         ·try rw [decide_eq_false h18]
          refine sNo rfl (sNo rfl (sNo rfl (sNo rfl (sGo rfl (sRun (xPkFB rfl rfl) (sRun (xPkFB rfl rfl) (sNil ?_)))))))
          exact ⟨⟨rfl, rfl, rfl, rfl, rfl, rfl, rfl, rfl, rfl, (congrArg Value.bool (by rw [← hE16]; first | (simp [h17, h18]; done) | (simp only [decide_eq_false h17, decide_eq_false h18]; done) | grind)), trivial⟩, hL⟩
       ·clear hL
        subst hE16
        rintro f w ⟨hf, hL⟩
        obtain ⟨g, rfl⟩ := has_updL _ _ hf
        clear hf
        by_cases h19 : ((decide (((a0.Funcs.l.length : Nat) : Int) ≤ x13.Func)) || ((decide (((k13 : Nat) : Int) = (0 : Int))) && (decide (x13.Func ≠ ((k9 : Nat) : Int))))) = true
        ·try rw [h19]
         rw [if_pos h19] at hY13
         refine wIfT rfl (wSeq (wReg (sRun (xAsI rfl) (sNil (wRet ?_)))))
         subst hY13
         rw [Lp.el_out] at hY9
         try dsimp only at hY9
         subst hY9
         rw [Lp.el_out] at hM
         try dsimp only at hM
         subst hM
         refine res1 (P := Try.prog) (fn := Try.f26) rfl ?_
         exact ⟨rfl, hL.1⟩
        ·have h19n : ((decide (((a0.Funcs.l.length : Nat) : Int) ≤ x13.Func)) || ((decide (((k13 : Nat) : Int) = (0 : Int))) && (decide (x13.Func ≠ ((k9 : Nat) : Int))))) = false := Bool.eq_false_iff.2 h19
         try rw [h19n]
         rw [if_neg h19] at hY13
         have h20 : ¬ (((a0.Funcs.l.length : Nat) : Int) ≤ x13.Func) := fun hq => by rw [decide_eq_true hq] at h19; simp at h19
         refine wIfF rfl (wSkip (wReg (sRun (xAdd64 rfl rfl (by omega) (by omega)) (sRun (xMvI rfl) (sNil ?_)))))
         exact ⟨x9.Contexts.l.length - (k13 + 1), by omega, k13 + 1, rfl, by omega, ⟨rfl, rfl, rfl, rfl, rfl, rfl, rfl, rfl, rfl, trivial⟩, hL.tl, hY13⟩
      ·obtain rfl : k13 = x9.Contexts.l.length := by omega
       rw [drop_end, m_r06_Check_L2] at hY13
       refine wSeq (wReg (sRun (xLssF rfl rfl (by omega)) (sNil (wSeq (wIfF rfl (wExit ?_))))))
       exact ⟨⟨rfl, rfl, rfl, rfl, rfl, rfl, rfl, rfl, trivial⟩, hL, hY13⟩
     ·clear hL
      rintro f w ⟨hf, hL, hZ13⟩
      obtain ⟨g, rfl⟩ := has_updL _ _ hf
      clear hf
      subst hZ13
      rw [Lp.el_go] at hY9
      try dsimp only at hY9
      refine wSeq (wReg (sRun (xFld (k := 1) Try.underlying26 rfl rfl ti22 (by decide) rfl) (sRun (xLoad Try.underlying22 rfl rfl ((hL.bk 0 rfl).cell (i := 1) rfl)) ?_)))
      have hl21 : x9.Blocks.l.length * 144 ≤ 140737488355328 := Lst.bd ((Lst.elok h0 hx9).1)
      refine sRun (xLnL (s := x9.Blocks) Try.underlying22 rfl) (sRun (xMvI rfl) (sNil ?_))
      obtain ⟨Y22, hY22⟩ : ∃ Y, m_r06_Check_L3 (GModule.er a0) (GCode.er x9) k9 (x9.Blocks.l.map GBlock.er) 0 = Y := ⟨_, rfl⟩
      rw [hY22] at hY9
      refine wJ (fun f w => Has f [(1, .pointer (some ⟨b1, 0, none⟩)), (31, .slice a0.Funcs.a a0.Funcs.l.length a0.Funcs.c), (32, .int .i64 ((a0.Funcs.l.length : Nat) : Int)), (33, .int .i64 ((k9 : Nat) : Int)), (64, .slice x9.Blocks.a x9.Blocks.l.length x9.Blocks.c), (65, .int .i64 ((x9.Blocks.l.length : Nat) : Int))] ∧ Bx w0 w [.box b10 26 (GCode.cells x9).toArray, .box b1 35 (GModule.cells a0).toArray] ∧ Lp.go () = Y22) ?_ ?_
      ·refine wBlock (wLoopG (fun n f w => ∃ (k22 : Nat), n = x9.Blocks.l.length - k22 ∧ k22 ≤ x9.Blocks.l.length ∧ Has f [(66, .int .i64 ((k22 : Nat) : Int)), (1, .pointer (some ⟨b1, 0, none⟩)), (31, .slice a0.Funcs.a a0.Funcs.l.length a0.Funcs.c), (32, .int .i64 ((a0.Funcs.l.length : Nat) : Int)), (33, .int .i64 ((k9 : Nat) : Int)), (64, .slice x9.Blocks.a x9.Blocks.l.length x9.Blocks.c), (65, .int .i64 ((x9.Blocks.l.length : Nat) : Int))] ∧ Bx w0 w [.box b10 26 (GCode.cells x9).toArray, .box b1 35 (GModule.cells a0).toArray] ∧ m_r06_Check_L3 (GModule.er a0) (GCode.er x9) k9 ((x9.Blocks.l.map GBlock.er).drop k22) k22 = Y22) (x9.Blocks.l.length) ⟨0, rfl, Nat.zero_le _, ⟨rfl, rfl, rfl, rfl, rfl, rfl, rfl, trivial⟩, hL, hY22⟩ ?_)
       clear hL hY22
       rintro n f w ⟨k22, rfl, hk22, hf, hL, hY22⟩
       obtain ⟨g, rfl⟩ := has_updL _ _ hf
       clear hf
       rcases Nat.lt_or_ge k22 x9.Blocks.l.length with hk22b | hk22b
       ·obtain ⟨x22, hx22⟩ := get_ex (l := x9.Blocks.l) hk22b
        rw [drop_map hx22, m_r06_Check_L3] at hY22
        try simp only [er1, er2, er3, er4, er5, er6, er7, er8, er9, er10, er11, er12, er13, er14, er15, er16, er17, List.length_map] at hY22
        refine wSeq (wReg (sRun (xLssT rfl rfl (by omega)) (sNil (wSeq (wIfT rfl (wSkip (wSeq (wBlock (wSeq (wReg (sRun (xIdL Try.underlying22 ti60 rfl rfl rfl ((Lst.elok h0 hx9).1) hx22) (sRun (xLoadS (GBlock.cells x22) Try.underlying60 rfl ti60 rfl rfl ((Lst.el ((Lst.elok h0 hx9).1) hx22).ext hL.1)) (sTo (aNew (mAlloc ti60)) ?_)))))))))))))
        rintro _ w23 ⟨b23, rfl, hge23, hB23, he23⟩
        replace hL := hL.new hge23 hB23 he23
        refine sStS ti60 rfl rfl rfl (by simp [Value.oneCell', Dat.cells, GBlock.cells]) (hL.bk 0 rfl) rfl ?_
        intro w24 hB24 hC24
        replace hL : Bx w0 w24 [.box b23 60 (GBlock.cells x22).toArray, .box b10 26 (GCode.cells x9).toArray, .box b1 35 (GModule.cells a0).toArray] := hL.wr 0 rfl hC24 hB24
        refine sNil (wSeq (wReg (sRun (xFld (k := 2) Try.underlying60 rfl rfl ti58 (by decide) rfl) (sRun (xLoadS (GTerm.cells x22.Term) Try.underlying58 rfl ti58 rfl rfl ((hL.bk 0 rfl).part rfl)) (sTo (aNew (mAlloc ti58)) ?_)))))
        rintro _ w25 ⟨b25, rfl, hge25, hB25, he25⟩
        replace hL := hL.new hge25 hB25 he25
        refine sStS ti58 rfl rfl rfl (by simp [Value.oneCell', Dat.cells, GTerm.cells]) (hL.bk 0 rfl) rfl ?_
        intro w26 hB26 hC26
        replace hL : Bx w0 w26 [.box b25 58 (GTerm.cells x22.Term).toArray, .box b23 60 (GBlock.cells x22).toArray, .box b10 26 (GCode.cells x9).toArray, .box b1 35 (GModule.cells a0).toArray] := hL.wr 0 rfl hC26 hB26
        refine sNil (wSeq ?_)
        replace hL := hL.drew
        refine wDraw (fun wS => Bx w0 wS [.box b25 58 (GTerm.cells x22.Term).toArray, .box b23 60 (GBlock.cells x22).toArray, .box b10 26 (GCode.cells x9).toArray, .box b1 35 (GModule.cells a0).toArray]) [] (by kernel_rfl) (hTake 0 rfl (by kernel_rfl) rfl (fun wS => (xFld0 Try.underlying58 rfl rfl ti3 (by decide) rfl)) (sl_of hL) (hTakeS 1 rfl (by kernel_rfl) (by kernel_rfl) rfl (fun wS hS => (xLoad Try.underlying3 rfl rfl ((hS.bk 0 rfl).cell (i := 0) rfl))) (sl_of hL) (hTake 2 rfl (by kernel_rfl) rfl (fun wS => (xEqlD rfl rfl)) (sl_of hL) (hTake 3 rfl (by kernel_rfl) rfl (fun wS => (xMvB rfl)) (sl_of hL) ?_))))
        by_cases h27 : x22.Term.Kind = (3 : Int)
        ·try rw [decide_eq_true h27]
         rw [if_pos h27] at hY22
         refine hSkip 4 rfl (by kernel_rfl) rfl (sl_of hL) (hSkip 5 rfl (by kernel_rfl) rfl (sl_of hL) (hSkip 6 rfl (by kernel_rfl) rfl (sl_of hL) (hTake 7 rfl (by kernel_rfl) rfl (fun wS => (xPkTB rfl rfl)) (sl_of hL) (hTake 8 rfl (by kernel_rfl) rfl (fun wS => (xMvB rfl)) (sl_of hL) (hTake 9 rfl (by kernel_rfl) rfl (fun wS => (xFld (k := 2) Try.underlying58 rfl rfl ti3 (by decide) rfl)) (sl_of hL) (hTakeS 10 rfl (by kernel_rfl) (by kernel_rfl) rfl (fun wS hS => (xLoad Try.underlying3 rfl rfl ((hS.bk 0 rfl).cell (i := 2) rfl))) (sl_of hL) (hTake 11 rfl (by kernel_rfl) rfl (fun wS => (xFld0 Try.underlying35 rfl rfl ti33 (by decide) rfl)) (sl_of hL) (hTakeS 12 rfl (by kernel_rfl) (by kernel_rfl) rfl (fun wS hS => (xLoad Try.underlying33 rfl rfl ((hS.bk 3 rfl).cell (i := 0) rfl))) (sl_of hL) (hTake 13 rfl (by kernel_rfl) rfl (fun wS => (xLnL (s := a0.Funcs) Try.underlying33 rfl)) (sl_of hL) (hTake 14 rfl (by kernel_rfl) rfl (fun wS => (xGeq rfl rfl)) (sl_of hL) (hTake 15 rfl (by kernel_rfl) rfl (fun wS => (xMvB rfl)) (sl_of hL) ?_)))))))))))
         by_cases h28 : ((a0.Funcs.l.length : Nat) : Int) ≤ x22.Term.N
         ·try rw [decide_eq_true h28]
          rw [if_pos h28] at hY22
          refine hSkip 16 rfl (by kernel_rfl) rfl (sl_of hL) (hSkip 17 rfl (by kernel_rfl) rfl (sl_of hL) (hSkip 18 rfl (by kernel_rfl) rfl (sl_of hL) (hSkip 19 rfl (by kernel_rfl) rfl (sl_of hL) (hSkip 20 rfl (by kernel_rfl) rfl (sl_of hL) (hSkip 21 rfl (by kernel_rfl) rfl (sl_of hL) (hSkip 22 rfl (by kernel_rfl) rfl (sl_of hL) (hSkip 23 rfl (by kernel_rfl) rfl (sl_of hL) (hSkip 24 rfl (by kernel_rfl) rfl (sl_of hL) (hSkip 25 rfl (by kernel_rfl) rfl (sl_of hL) (hSkip 26 rfl (by kernel_rfl) rfl (sl_of hL) (hTake 27 rfl (by kernel_rfl) rfl (fun wS => (xPkTB rfl rfl)) (sl_of hL) (hTake 28 rfl (by kernel_rfl) rfl (fun wS => (xPkTB rfl rfl)) (sl_of hL) (hDone (by kernel_rfl) ?_)))))))))))))
          refine wIfT rfl (wSeq (wReg (sRun (xAsI rfl) (sNil (wRet ?_)))))
          subst hY22
          rw [Lp.el_out] at hY9
          try dsimp only at hY9
          subst hY9
          rw [Lp.el_out] at hM
          try dsimp only at hM
          subst hM
          refine res1 (P := Try.prog) (fn := Try.f26) rfl ?_
          exact ⟨rfl, hL.1⟩
         ·try rw [decide_eq_false h28]
          rw [if_neg h28] at hY22
          refine hTake 16 rfl (by kernel_rfl) rfl (fun wS => (xFld (k := 3) Try.underlying58 rfl rfl ti37 (by decide) rfl)) (sl_of hL) (hTakeS 17 rfl (by kernel_rfl) (by kernel_rfl) rfl (fun wS hS => (xLoad Try.underlying37 rfl rfl ((hS.bk 0 rfl).cell (i := 3) rfl))) (sl_of hL) ?_)
          have hl29 : x22.Term.Args.l.length * 8 ≤ 140737488355328 := Lst.bd ((Lst.elok ((Lst.elok h0 hx9).1) hx22).2.1)
          refine hTake 18 rfl (by kernel_rfl) rfl (fun wS => (xLnL (s := x22.Term.Args) Try.underlying37 rfl)) (sl_of hL) (hTake 19 rfl (by kernel_rfl) rfl (fun wS => (xFld0 Try.underlying35 rfl rfl ti33 (by decide) rfl)) (sl_of hL) (hTakeS 20 rfl (by kernel_rfl) (by kernel_rfl) rfl (fun wS hS => (xLoad Try.underlying33 rfl rfl ((hS.bk 3 rfl).cell (i := 0) rfl))) (sl_of hL) (hTake 21 rfl (by kernel_rfl) rfl (fun wS => (xFld (k := 2) Try.underlying58 rfl rfl ti3 (by decide) rfl)) (sl_of hL) (hTakeS 22 rfl (by kernel_rfl) (by kernel_rfl) rfl (fun wS hS => (xLoad Try.underlying3 rfl rfl ((hS.bk 0 rfl).cell (i := 2) rfl))) (sl_of hL) ?_))))
          have hpos30 : 0 ≤ x22.Term.N := hook26 (by assumption) (by assumption) (by assumption) (by omega)
          obtain ⟨x30, hx30⟩ := get_ex (l := a0.Funcs.l) (k := (x22.Term.N).toNat) (by omega)
          try rw [show (a0.Funcs.l.map GCode.er)[(x22.Term.N).toNat]?.getD (⟨(0 : Int), [], [], []⟩ : (GCode List)) = GCode.er x30 from getD_map hx30] at hY22
          try simp only [er1, er2, er3, er4, er5, er6, er7, er8, er9, er10, er11, er12, er13, er14, er15, er16, er17, List.length_map] at hY22
          refine hTake 23 rfl (by kernel_rfl) rfl (fun wS => (xIdL Try.underlying33 ti26 rfl rfl (by omega) h0 hx30)) (sl_of hL) (hTake 24 rfl (by kernel_rfl) rfl (fun wS => (xFld0 Try.underlying26 rfl rfl ti3 (by decide) rfl)) (sl_of hL) (hTakeS 25 rfl (by kernel_rfl) (by kernel_rfl) rfl (fun wS hS => (xLoad Try.underlying3 rfl rfl (((Lst.el h0 hx30).ext hS.1) 0 _ rfl))) (sl_of hL) (hTake 26 rfl (by kernel_rfl) rfl (fun wS => (xNeqD rfl rfl)) (sl_of hL) (hTake 27 rfl (by kernel_rfl) rfl (fun wS => (xPkFB rfl rfl)) (sl_of hL) (hTake 28 rfl (by kernel_rfl) rfl (fun wS => (xPkTB rfl rfl)) (sl_of hL) (hDone (by kernel_rfl) ?_))))))
          by_cases h31 : ((x22.Term.Args.l.length : Nat) : Int) ≠ x30.Params
          ·try rw [decide_eq_true h31]
           rw [if_pos h31] at hY22
           refine wIfT rfl (wSeq (wReg (sRun (xAsI rfl) (sNil (wRet ?_)))))
           subst hY22
           rw [Lp.el_out] at hY9
           try dsimp only at hY9
           subst hY9
           rw [Lp.el_out] at hM
           try dsimp only at hM
           subst hM
           refine res1 (P := Try.prog) (fn := Try.f26) rfl ?_
           exact ⟨rfl, hL.1⟩
          ·try rw [decide_eq_false h31]
           rw [if_neg h31] at hY22
           refine wIfF rfl (wSkip (wReg (sRun (xAdd64 rfl rfl (by omega) (by omega)) (sRun (xMvI rfl) (sNil ?_)))))
           exact ⟨x9.Blocks.l.length - (k22 + 1), by omega, k22 + 1, rfl, by omega, ⟨rfl, rfl, rfl, rfl, rfl, rfl, rfl, trivial⟩, hL.tl.tl, hY22⟩
        ·try rw [decide_eq_false h27]
         rw [if_neg h27] at hY22
         refine hTake 4 rfl (by kernel_rfl) rfl (fun wS => (xFld0 Try.underlying58 rfl rfl ti3 (by decide) rfl)) (sl_of hL) (hTakeS 5 rfl (by kernel_rfl) (by kernel_rfl) rfl (fun wS hS => (xLoad Try.underlying3 rfl rfl ((hS.bk 0 rfl).cell (i := 0) rfl))) (sl_of hL) (hTake 6 rfl (by kernel_rfl) rfl (fun wS => (xEqlD rfl rfl)) (sl_of hL) (hTake 7 rfl (by kernel_rfl) rfl (fun wS => (xPkFB rfl rfl)) (sl_of hL) (hTake 8 rfl (by kernel_rfl) rfl (fun wS => (xMvB rfl)) (sl_of hL) ?_))))
         by_cases h32 : x22.Term.Kind = (6 : Int)
         ·try rw [decide_eq_true h32]
          rw [if_pos h32] at hY22
          refine hTake 9 rfl (by kernel_rfl) rfl (fun wS => (xFld (k := 2) Try.underlying58 rfl rfl ti3 (by decide) rfl)) (sl_of hL) (hTakeS 10 rfl (by kernel_rfl) (by kernel_rfl) rfl (fun wS hS => (xLoad Try.underlying3 rfl rfl ((hS.bk 0 rfl).cell (i := 2) rfl))) (sl_of hL) (hTake 11 rfl (by kernel_rfl) rfl (fun wS => (xFld0 Try.underlying35 rfl rfl ti33 (by decide) rfl)) (sl_of hL) (hTakeS 12 rfl (by kernel_rfl) (by kernel_rfl) rfl (fun wS hS => (xLoad Try.underlying33 rfl rfl ((hS.bk 3 rfl).cell (i := 0) rfl))) (sl_of hL) (hTake 13 rfl (by kernel_rfl) rfl (fun wS => (xLnL (s := a0.Funcs) Try.underlying33 rfl)) (sl_of hL) (hTake 14 rfl (by kernel_rfl) rfl (fun wS => (xGeq rfl rfl)) (sl_of hL) (hTake 15 rfl (by kernel_rfl) rfl (fun wS => (xMvB rfl)) (sl_of hL) ?_))))))
          by_cases h33 : ((a0.Funcs.l.length : Nat) : Int) ≤ x22.Term.N
          ·try rw [decide_eq_true h33]
           rw [if_pos h33] at hY22
           refine hSkip 16 rfl (by kernel_rfl) rfl (sl_of hL) (hSkip 17 rfl (by kernel_rfl) rfl (sl_of hL) (hSkip 18 rfl (by kernel_rfl) rfl (sl_of hL) (hSkip 19 rfl (by kernel_rfl) rfl (sl_of hL) (hSkip 20 rfl (by kernel_rfl) rfl (sl_of hL) (hSkip 21 rfl (by kernel_rfl) rfl (sl_of hL) (hSkip 22 rfl (by kernel_rfl) rfl (sl_of hL) (hSkip 23 rfl (by kernel_rfl) rfl (sl_of hL) (hSkip 24 rfl (by kernel_rfl) rfl (sl_of hL) (hSkip 25 rfl (by kernel_rfl) rfl (sl_of hL) (hSkip 26 rfl (by kernel_rfl) rfl (sl_of hL) (hTake 27 rfl (by kernel_rfl) rfl (fun wS => (xPkTB rfl rfl)) (sl_of hL) (hTake 28 rfl (by kernel_rfl) rfl (fun wS => (xPkTB rfl rfl)) (sl_of hL) (hDone (by kernel_rfl) ?_)))))))))))))
           refine wIfT rfl (wSeq (wReg (sRun (xAsI rfl) (sNil (wRet ?_)))))
           subst hY22
           rw [Lp.el_out] at hY9
           try dsimp only at hY9
           subst hY9
           rw [Lp.el_out] at hM
           try dsimp only at hM
           subst hM
           refine res1 (P := Try.prog) (fn := Try.f26) rfl ?_
           exact ⟨rfl, hL.1⟩
          ·try rw [decide_eq_false h33]
           rw [if_neg h33] at hY22
           refine hTake 16 rfl (by kernel_rfl) rfl (fun wS => (xFld (k := 3) Try.underlying58 rfl rfl ti37 (by decide) rfl)) (sl_of hL) (hTakeS 17 rfl (by kernel_rfl) (by kernel_rfl) rfl (fun wS hS => (xLoad Try.underlying37 rfl rfl ((hS.bk 0 rfl).cell (i := 3) rfl))) (sl_of hL) ?_)
           have hl34 : x22.Term.Args.l.length * 8 ≤ 140737488355328 := Lst.bd ((Lst.elok ((Lst.elok h0 hx9).1) hx22).2.1)
           refine hTake 18 rfl (by kernel_rfl) rfl (fun wS => (xLnL (s := x22.Term.Args) Try.underlying37 rfl)) (sl_of hL) (hTake 19 rfl (by kernel_rfl) rfl (fun wS => (xFld0 Try.underlying35 rfl rfl ti33 (by decide) rfl)) (sl_of hL) (hTakeS 20 rfl (by kernel_rfl) (by kernel_rfl) rfl (fun wS hS => (xLoad Try.underlying33 rfl rfl ((hS.bk 3 rfl).cell (i := 0) rfl))) (sl_of hL) (hTake 21 rfl (by kernel_rfl) rfl (fun wS => (xFld (k := 2) Try.underlying58 rfl rfl ti3 (by decide) rfl)) (sl_of hL) (hTakeS 22 rfl (by kernel_rfl) (by kernel_rfl) rfl (fun wS hS => (xLoad Try.underlying3 rfl rfl ((hS.bk 0 rfl).cell (i := 2) rfl))) (sl_of hL) ?_))))
           have hpos35 : 0 ≤ x22.Term.N := hook26 (by assumption) (by assumption) (by assumption) (by omega)
           obtain ⟨x35, hx35⟩ := get_ex (l := a0.Funcs.l) (k := (x22.Term.N).toNat) (by omega)
           try rw [show (a0.Funcs.l.map GCode.er)[(x22.Term.N).toNat]?.getD (⟨(0 : Int), [], [], []⟩ : (GCode List)) = GCode.er x35 from getD_map hx35] at hY22
           try simp only [er1, er2, er3, er4, er5, er6, er7, er8, er9, er10, er11, er12, er13, er14, er15, er16, er17, List.length_map] at hY22
           refine hTake 23 rfl (by kernel_rfl) rfl (fun wS => (xIdL Try.underlying33 ti26 rfl rfl (by omega) h0 hx35)) (sl_of hL) (hTake 24 rfl (by kernel_rfl) rfl (fun wS => (xFld0 Try.underlying26 rfl rfl ti3 (by decide) rfl)) (sl_of hL) (hTakeS 25 rfl (by kernel_rfl) (by kernel_rfl) rfl (fun wS hS => (xLoad Try.underlying3 rfl rfl (((Lst.el h0 hx35).ext hS.1) 0 _ rfl))) (sl_of hL) (hTake 26 rfl (by kernel_rfl) rfl (fun wS => (xNeqD rfl rfl)) (sl_of hL) (hTake 27 rfl (by kernel_rfl) rfl (fun wS => (xPkFB rfl rfl)) (sl_of hL) (hTake 28 rfl (by kernel_rfl) rfl (fun wS => (xPkTB rfl rfl)) (sl_of hL) (hDone (by kernel_rfl) ?_))))))
           by_cases h36 : ((x22.Term.Args.l.length : Nat) : Int) ≠ x35.Params
           ·try rw [decide_eq_true h36]
            rw [if_pos h36] at hY22
            refine wIfT rfl (wSeq (wReg (sRun (xAsI rfl) (sNil (wRet ?_)))))
            subst hY22
            rw [Lp.el_out] at hY9
            try dsimp only at hY9
            subst hY9
            rw [Lp.el_out] at hM
            try dsimp only at hM
            subst hM
            refine res1 (P := Try.prog) (fn := Try.f26) rfl ?_
            exact ⟨rfl, hL.1⟩
           ·try rw [decide_eq_false h36]
            rw [if_neg h36] at hY22
            refine wIfF rfl (wSkip (wReg (sRun (xAdd64 rfl rfl (by omega) (by omega)) (sRun (xMvI rfl) (sNil ?_)))))
            exact ⟨x9.Blocks.l.length - (k22 + 1), by omega, k22 + 1, rfl, by omega, ⟨rfl, rfl, rfl, rfl, rfl, rfl, rfl, trivial⟩, hL.tl.tl, hY22⟩
         ·try rw [decide_eq_false h32]
          rw [if_neg h32] at hY22
          refine hSkip 9 rfl (by kernel_rfl) rfl (sl_of hL) (hSkip 10 rfl (by kernel_rfl) rfl (sl_of hL) (hSkip 11 rfl (by kernel_rfl) rfl (sl_of hL) (hSkip 12 rfl (by kernel_rfl) rfl (sl_of hL) (hSkip 13 rfl (by kernel_rfl) rfl (sl_of hL) (hSkip 14 rfl (by kernel_rfl) rfl (sl_of hL) (hSkip 15 rfl (by kernel_rfl) rfl (sl_of hL) (hSkip 16 rfl (by kernel_rfl) rfl (sl_of hL) (hSkip 17 rfl (by kernel_rfl) rfl (sl_of hL) (hSkip 18 rfl (by kernel_rfl) rfl (sl_of hL) (hSkip 19 rfl (by kernel_rfl) rfl (sl_of hL) (hSkip 20 rfl (by kernel_rfl) rfl (sl_of hL) (hSkip 21 rfl (by kernel_rfl) rfl (sl_of hL) (hSkip 22 rfl (by kernel_rfl) rfl (sl_of hL) ?_)))))))))))))
          refine hSkip 23 rfl (by kernel_rfl) rfl (sl_of hL) (hSkip 24 rfl (by kernel_rfl) rfl (sl_of hL) (hSkip 25 rfl (by kernel_rfl) rfl (sl_of hL) (hSkip 26 rfl (by kernel_rfl) rfl (sl_of hL) (hSkip 27 rfl (by kernel_rfl) rfl (sl_of hL) (hTake 28 rfl (by kernel_rfl) rfl (fun wS => (xPkFB rfl rfl)) (sl_of hL) (hDone (by kernel_rfl) (wIfF rfl (wSkip (wReg (sRun (xAdd64 rfl rfl (by omega) (by omega)) (sRun (xMvI rfl) (sNil ?_))))))))))))
          exact ⟨x9.Blocks.l.length - (k22 + 1), by omega, k22 + 1, rfl, by omega, ⟨rfl, rfl, rfl, rfl, rfl, rfl, rfl, trivial⟩, hL.tl.tl, hY22⟩
       ·obtain rfl : k22 = x9.Blocks.l.length := by omega
        rw [drop_endm, m_r06_Check_L3] at hY22
        refine wSeq (wReg (sRun (xLssF rfl rfl (by omega)) (sNil (wSeq (wIfF rfl (wExit ?_))))))
        exact ⟨⟨rfl, rfl, rfl, rfl, rfl, rfl, trivial⟩, hL, hY22⟩
      ·clear hL
       rintro f w ⟨hf, hL, hZ22⟩
       obtain ⟨g, rfl⟩ := has_updL _ _ hf
       clear hf
       subst hZ22
       rw [Lp.el_go] at hY9
       try dsimp only at hY9
       refine wReg (sRun (xAdd64 rfl rfl (by omega) (by omega)) (sRun (xMvI rfl) (sNil ?_)))
       exact ⟨a0.Funcs.l.length - (k9 + 1), by omega, k9 + 1, rfl, by omega, ⟨rfl, rfl, rfl, rfl, trivial⟩, hL.tl, hY9⟩
    ·obtain rfl : k9 = a0.Funcs.l.length := by omega
     rw [drop_endm, m_r06_Check_L1] at hY9
     refine wSeq (wReg (sRun (xLssF rfl rfl (by omega)) (sNil (wSeq (wIfF rfl (wExit ?_))))))
     exact ⟨⟨rfl, rfl, rfl, trivial⟩, hL, hY9⟩
   ·clear hL
    rintro f w ⟨hf, hL, hZ9⟩
    obtain ⟨g, rfl⟩ := has_updL _ _ hf
    clear hf
    subst hZ9
    rw [Lp.el_go] at hM
    try dsimp only at hM
    refine wSeq (wReg (sRun (xAsI rfl) (sNil (wRet ?_))))
    subst hM
    refine res1 (P := Try.prog) (fn := Try.f26) rfl ?_
    exact ⟨rfl, hL.1⟩
end Go.Proofs.Ytbpccmnalhdpmaa
