/- The contract of link.Arrive. -/
import Derived.Test.YtnppmdhgelfloaaArr
set_option linter.unusedVariables false
namespace Go.Proofs.Ytnppmdhgelfloaa
open Go.RowKit Go.Fw

theorem cal24 : Callable Try.prog 24 := ⟨_, Try.func24, by kernel_rfl, by kernel_rfl⟩
theorem bs17_29 {ρ : Operand → Value} {w : World} {d : Option Nat} {ty : TypeId} {pos : String} {af : Array Edge} {g : Option (Nat × Bool)} {x00_ : Int} {x01_A : Option Addr} {x01_n x01_c : Nat} {o0 : Operand} (h0 : ρ o0 = .agg #[.int .i64 x00_, .slice x01_A x01_n x01_c]) :
    (execOp ρ ⟨d, .buildSlice 22 1 #[(0, o0)], ty, pos, af, g⟩).run Try.prog w = .ok (.value (.slice (some ⟨w.heap.size, 0, none⟩) 1 1)) (w.alloc (.cells #[.int .i64 x00_, .slice x01_A x01_n x01_c] 37)) := by
  have e : (Instr.buildSlice 22 1 #[(0, .agg #[.int .i64 x00_, .slice x01_A x01_n x01_c])]).run Try.prog w = .ok (.slice (some ⟨w.heap.size, 0, none⟩) 1 1) (w.alloc (.cells #[.int .i64 x00_, .slice x01_A x01_n x01_c] 37)) := by kernel_rfl
  simp [execOp, h0, e]
theorem bs17_33 {ρ : Operand → Value} {w : World} {d : Option Nat} {ty : TypeId} {pos : String} {af : Array Edge} {g : Option (Nat × Bool)} {x00_ : Int} {x01_A : Option Addr} {x01_n x01_c : Nat} {o0 : Operand} (h0 : ρ o0 = .agg #[.int .i64 x00_, .slice x01_A x01_n x01_c]) :
    (execOp ρ ⟨d, .buildSlice 22 1 #[(0, o0)], ty, pos, af, g⟩).run Try.prog w = .ok (.value (.slice (some ⟨w.heap.size, 0, none⟩) 1 1)) (w.alloc (.cells #[.int .i64 x00_, .slice x01_A x01_n x01_c] 37)) := by
  have e : (Instr.buildSlice 22 1 #[(0, .agg #[.int .i64 x00_, .slice x01_A x01_n x01_c])]).run Try.prog w = .ok (.slice (some ⟨w.heap.size, 0, none⟩) 1 1) (w.alloc (.cells #[.int .i64 x00_, .slice x01_A x01_n x01_c] 37)) := by kernel_rfl
  simp [execOp, h0, e]
theorem bs17_47 {ρ : Operand → Value} {w : World} {d : Option Nat} {ty : TypeId} {pos : String} {af : Array Edge} {g : Option (Nat × Bool)} {x0A : Option Addr} {x0n x0c : Nat} {o0 : Operand} (h0 : ρ o0 = .slice x0A x0n x0c) :
    (execOp ρ ⟨d, .buildSlice 39 1 #[(0, o0)], ty, pos, af, g⟩).run Try.prog w = .ok (.value (.slice (some ⟨w.heap.size, 0, none⟩) 1 1)) (w.alloc (.cells #[.slice x0A x0n x0c] 27)) := by
  have e : (Instr.buildSlice 39 1 #[(0, .slice x0A x0n x0c)]).run Try.prog w = .ok (.slice (some ⟨w.heap.size, 0, none⟩) 1 1) (w.alloc (.cells #[.slice x0A x0n x0c] 27)) := by kernel_rfl
  simp [execOp, h0, e]
theorem arrive_spec (M : Nat) (hsort : SortC M) (A : Option Addr) (c : Nat) (fs : List Flight) (now : Int) (w0 : World) (hf : FlR w0 w0.heap.size A fs.length fs) (hM : fs.length ≤ M) (hfs : fs.length ≤ 1000000) (hbod : ∀ (i : Nat) (d : Int) (b : List Int), fs[i]? = some (d, b) → b.length ≤ 1000000) :
    Calls Try.prog 17 #[.slice A fs.length c, .int .i64 now] w0 (Ret fun v w' => ∃ Ab nb cb Ar nr cr, v = .tuple #[.slice Ab nb cb, .slice Ar nr cr] ∧ BsR w' w'.heap.size Ab nb ((arrF fs now).map (·.2)) ∧ FlR w' w'.heap.size Ar nr (stayF fs now) ∧ Ext w0 w') := by
  refine calls_of Try.func17 rfl (Nat.le_of_ble_eq_true rfl) (by kernel_rfl) ?_
  refine wCut [(0, .slice A fs.length c), (1, .int .i64 now)] ⟨rfl, rfl, trivial⟩ fun g => ?_
  refine wSeq ?_
  refine wReg ?_
  refine sRun (xAsS rfl) ?_
  refine sRun (xAsS rfl) ?_
  refine sNil ?_
  refine wSeq ?_
  refine wReg ?_
  refine sRun (xAsS rfl) ?_
  refine sRun (xAsS rfl) ?_
  refine sNil ?_
  refine wSeq ?_
  refine wSeq ?_
  refine wReg ?_
  refine sRun (xMvS rfl) ?_
  refine sRun (xLen Try.underlying22 rfl) ?_
  refine sRun (xMvI rfl) ?_
  refine sNil ?_
  refine wBlock ?_
  refine wLoopG (fun n f w => ∃ k gs rs Ah ch Ar cr, n = fs.length - k ∧ k ≤ fs.length ∧ Has f [(13, .slice A fs.length c), (14, .int .i64 fs.length), (15, .int .i64 (k : Nat)), (6, .slice Ah gs.length ch), (7, .slice Ar rs.length cr), (1, .int .i64 now)] ∧ Ext w0 w ∧
      Own w w0.heap.size 37 2 Ah gs.length ch (fl gs) ∧ Own w w0.heap.size 37 2 Ar rs.length cr (fl rs) ∧ Bod w w0.heap.size gs ∧ Bod w w0.heap.size rs ∧ (∀ i, rowOf Ah = some i → rowOf Ar ≠ some i) ∧ gs.length + rs.length = k ∧
      gs.map toF = (fs.take k).filter (fun f => decide (f.1 ≤ now)) ∧ rs.map toF = (fs.take k).filter (fun f => !decide (f.1 ≤ now))) (fs.length) ⟨0, [], [], none, 0, none, 0, rfl, Nat.zero_le _, ⟨rfl, rfl, rfl, rfl, rfl, rfl, trivial⟩, Ext.refl _, Own.nil _ _ _ _, Own.nil _ _ _ _, Bod.nil _ _, Bod.nil _ _, (fun i h => by cases h), rfl, rfl, rfl⟩ ?_
  rintro n f w ⟨k, gs, rs, Ah, ch, Ar, cr, rfl, hk, hf0, hx, hoh, hor, hbg, hbr, hap, hgr, hmg, hmr⟩
  obtain ⟨g, rfl⟩ := has_updL _ _ hf0
  clear hf0
  refine wSeq ?_
  refine wReg ?_
  refine sSplit (xLss rfl rfl) (fun h16 => ?_) (fun h16 => ?_)
  · obtain ⟨b, o, d, bd, A1, c1, rfl, hb, hfk, hc0, hc1, hsl⟩ := (hf.ext hx).at (k := k) (by omega)
    have hbl : bd.length ≤ 1000000 := hbod k d bd hfk
    refine sNil ?_
    refine wSeq ?_
    refine wIfT rfl ?_
    refine wSkip ?_
    refine wSeq ?_
    refine wBlock ?_
    refine wSeq ?_
    refine wReg ?_
    refine sRun (xIdx k Try.underlying22 ti37 rfl rfl (by omega) (by omega)) ?_
    refine sRun (xLoadS [.int .i64 d, .slice A1 bd.length c1] Try.underlying37 rfl ti37 rfl rfl (cells2 hc0 hc1)) ?_
    refine sTo (aNew (mAlloc ti37)) ?_
    rintro _ w9 ⟨b9, rfl, hge9, hB9, he9⟩
    refine sStS ti37 rfl rfl rfl (by simp [Value.oneCell']) hB9 rfl ?_
    intro wx hBx hCx
    have hex : Ext w wx := Chg.ext he9 hCx hge9
    refine sNil ?_
    refine wSeq ?_
    refine wReg ?_
    refine sRun (xFld (k := 1) Try.underlying37 rfl rfl ti27 (by decide) rfl) ?_
    refine sRun (xLoad Try.underlying27 rfl rfl (hBx.cell (i := 0 + 1) rfl)) ?_
    refine sCall (eCall cal20 rfl) (clone5 A1 bd.length c1 (bys bd) wx ((hsl.ext hex).up (by have := hx.le; have := hex.le; omega)) (bys_one _) (by omega)) ?_
    rintro _ w21 ⟨A21, c21, rfl, ho21, he21⟩
    refine sRun (xFld (k := 1) Try.underlying37 rfl rfl ti27 (by decide) rfl) ?_
    refine sSt1 ti27 rfl rfl rfl (hBx.ext he21) (Nat.le_of_ble_eq_true rfl) ?_
    intro wz hBz0 hCz
    have hBz : Blk wz b9 37 #[.int .i64 d, .slice A21 bd.length c21] := hBz0
    have hez : Ext w wz := Chg.ext (hex.trans he21) hCz hge9
    have hoz : Own wz w0.heap.size 5 1 A21 bd.length c21 (bys bd) := (ho21.keptB hCz (ho21.apartB (hBx.ext he21) (by decide))).mono (hx.trans hex).le
    refine sNil ?_
    refine wSeq ?_
    refine wReg ?_
    refine sRun (xFld0 Try.underlying37 rfl rfl ti3 (by decide) rfl) ?_
    refine sRun (xLoad Try.underlying3 rfl rfl (hBz.cell (i := 0) rfl)) ?_
    refine sRun (xMvI rfl) ?_
    refine sSplit (xLeq rfl rfl) (fun h26 => ?_) (fun h26 => ?_)
    · refine sNil ?_
      refine wIfT rfl ?_
      refine wReg ?_
      refine sRun (xMvS rfl) ?_
      refine sRun (xLoadS [.int .i64 d, .slice A21 bd.length c21] Try.underlying37 rfl ti37 rfl rfl hBz.cells) ?_
      refine sTo (aRow (bs17_29 rfl)) ?_
      rintro _ w29 ⟨b29, rfl, hge29, hB29, he29⟩
      refine sTo (aAppend (w0.heap.size) (gs.length + 1) Try.underlying22 ti37 rfl (by decide) rfl rfl (hoh.ext (hez.trans he29)) (hB29.sl (n := 1) (size := 2) rfl) (by simp [Value.oneCell']) (by have := ((hx.trans hez).trans he29).le; omega) (by omega) (by omega) (by omega)) ?_
      rintro _ w30 ⟨A30, c30, rfl, ho30, hg30, hr30⟩
      refine sRun (xAsS rfl) ?_
      refine sNil ?_
      refine wReg ?_
      refine sRun (xAdd64 rfl rfl (by omega) (by omega)) ?_
      refine sRun (xMvI rfl) ?_
      refine sNil ?_
      refine ⟨fs.length - (k + 1), by omega, k + 1, gs ++ [(d, .slice A21 bd.length c21, bd)], rs, A30, c30, Ar, cr, rfl, by omega, ⟨rfl, rfl, rfl, by rw [List.length_append]; rfl, rfl, rfl, trivial⟩, ?_, (by rw [List.length_append, fl_append]; exact ho30), ((hor.ext (hez.trans he29)).kept hg30 (by cases hr : rowOf Ar with | none => exact .inl rfl | some i => exact .inr (fun e => hap i e.symm hr))), (Bod.snoc ((hbg.ext (hez.trans he29)).grown (hoh.ext (hez.trans he29)) (by decide) hg30) ((hoz.ext he29).kept hg30 ((hoz.ext he29).apart (hoh.ext (hez.trans he29)) (by decide)))), ((hbr.ext (hez.trans he29)).grown (hoh.ext (hez.trans he29)) (by decide) hg30), ?_, by simp; omega, ?_, ?_⟩
      · exact grown_ext (hx.trans (hez.trans he29)) hg30 (fun i hi => (hoh.row i hi).1)
      · intro i hi he
        rcases hr30 with h | h
        · rw [h] at hi; exact hap i hi he
        · rw [h] at hi; have h2 := hor.row i he; have h3 := (hez.trans he29).le; simp at hi; omega
      · rw [List.map_append, hmg, take_snoc hfk, List.filter_append, List.filter_cons_of_pos (by simpa using h26)]; rfl
      · rw [hmr, take_snoc hfk, List.filter_append, List.filter_cons_of_neg (by simpa using h26)]; simp
    · refine sNil ?_
      refine wIfF rfl ?_
      refine wReg ?_
      refine sRun (xMvS rfl) ?_
      refine sRun (xLoadS [.int .i64 d, .slice A21 bd.length c21] Try.underlying37 rfl ti37 rfl rfl hBz.cells) ?_
      refine sTo (aRow (bs17_33 rfl)) ?_
      rintro _ w33 ⟨b33, rfl, hge33, hB33, he33⟩
      refine sTo (aAppend (w0.heap.size) (rs.length + 1) Try.underlying22 ti37 rfl (by decide) rfl rfl (hor.ext (hez.trans he33)) (hB33.sl (n := 1) (size := 2) rfl) (by simp [Value.oneCell']) (by have := ((hx.trans hez).trans he33).le; omega) (by omega) (by omega) (by omega)) ?_
      rintro _ w34 ⟨A34, c34, rfl, ho34, hg34, hr34⟩
      refine sRun (xAsS rfl) ?_
      refine sNil ?_
      refine wReg ?_
      refine sRun (xAdd64 rfl rfl (by omega) (by omega)) ?_
      refine sRun (xMvI rfl) ?_
      refine sNil ?_
      refine ⟨fs.length - (k + 1), by omega, k + 1, gs, rs ++ [(d, .slice A21 bd.length c21, bd)], Ah, ch, A34, c34, rfl, by omega, ⟨rfl, rfl, rfl, rfl, by rw [List.length_append]; rfl, rfl, trivial⟩, ?_, ((hoh.ext (hez.trans he33)).kept hg34 (by cases hr : rowOf Ah with | none => exact .inl rfl | some i => exact .inr (fun e => hap i hr e.symm))), (by rw [List.length_append, fl_append]; exact ho34), ((hbg.ext (hez.trans he33)).grown (hor.ext (hez.trans he33)) (by decide) hg34), (Bod.snoc ((hbr.ext (hez.trans he33)).grown (hor.ext (hez.trans he33)) (by decide) hg34) ((hoz.ext he33).kept hg34 ((hoz.ext he33).apart (hor.ext (hez.trans he33)) (by decide)))), ?_, by simp; omega, ?_, ?_⟩
      · exact grown_ext (hx.trans (hez.trans he33)) hg34 (fun i hi => (hor.row i hi).1)
      · intro i hi he
        rcases hr34 with h | h
        · rw [h] at he; exact hap i hi he
        · rw [h] at he; have h2 := hoh.row i hi; have h3 := (hez.trans he33).le; simp at he; omega
      · rw [hmg, take_snoc hfk, List.filter_append, List.filter_cons_of_neg (by simpa using h26)]; simp
      · rw [List.map_append, hmr, take_snoc hfk, List.filter_append, List.filter_cons_of_pos (by simpa using h26)]; rfl
  · refine sNil ?_
    refine wSeq ?_
    refine wIfF rfl ?_
    refine wExit ?_
    refine wSeq ?_
    refine wReg ?_
    refine sRun (xMvS rfl) ?_
    refine sCall (eCall cal24 rfl) (hsort Ah ch w0.heap.size gs w (by omega) hbg.one hoh) ?_
    rintro _ w37 ⟨ho37, hg37⟩
    have hx37 : Ext w0 w37 := grown_ext hx hg37 (fun i hi => (hoh.row i hi).1)
    have hor37 : Own w37 w0.heap.size 37 2 Ar rs.length cr (fl rs) := hor.kept hg37 (by
      cases hr : rowOf Ar with
      | none => exact .inl rfl
      | some i => exact .inr (fun e => hap i e.symm hr))
    have hbs37 : Bod w37 w0.heap.size (isort gs) := (hbg.grown hoh (by decide) hg37).perm
    have hbr37 : Bod w37 w0.heap.size rs := hbr.grown hoh (by decide) hg37
    have hsl := isort_len gs
    rw [← hsl] at ho37 ⊢
    refine sNil ?_
    refine wSeq ?_
    refine wReg ?_
    refine sRun (xAsS rfl) ?_
    refine sNil ?_
    refine wSeq ?_
    refine wSeq ?_
    refine wReg ?_
    refine sRun (xMvS rfl) ?_
    refine sRun (xLen Try.underlying22 rfl) ?_
    refine sRun (xMvI rfl) ?_
    refine sNil ?_
    refine wBlock ?_
    obtain rfl : k = fs.length := by omega
    rw [List.take_length] at hmg hmr
    have hmg2 : (isort gs).map toF = arrF fs now := by rw [isort_map, hmg]; rfl
    have hgl : gs.length ≤ 1000000 := by omega
    rw [← hsl] at hgl
    generalize isort gs = ss at *
    refine wLoopG (fun n f w => ∃ k Ab cb, n = ss.length - k ∧ k ≤ ss.length ∧ Has f [(38, .slice Ah ss.length ch), (39, .int .i64 ss.length), (40, .int .i64 (k : Nat)), (10, .slice Ab k cb), (7, .slice Ar rs.length cr)] ∧ Ext w0 w ∧
        Own w w0.heap.size 37 2 Ah ss.length ch (fl ss) ∧ Own w w0.heap.size 37 2 Ar rs.length cr (fl rs) ∧ Bod w w0.heap.size ss ∧ Bod w w0.heap.size rs ∧ Own w w0.heap.size 27 1 Ab k cb ((ss.take k).map (·.2.1))) (ss.length) ⟨0, none, 0, rfl, Nat.zero_le _, ⟨rfl, rfl, rfl, rfl, rfl, trivial⟩, hx37, ho37, hor37, hbs37, hbr37, by simpa using Own.nil _ _ _ _⟩ ?_
    clear hx hoh hor hbg hbr hg37 hx37 ho37 hor37 hbs37 hbr37
    rintro n f w ⟨k, Ab, cb, rfl, hk, hf0, hx, ho, hor, hbs, hbr, hob⟩
    obtain ⟨g, rfl⟩ := has_updL _ _ hf0
    clear hf0
    refine wSeq ?_
    refine wReg ?_
    refine sSplit (xLss rfl rfl) (fun h41 => ?_) (fun h41 => ?_)
    · obtain ⟨q, rfl⟩ := ho.adr (by omega)
      obtain ⟨x, hxk⟩ : ∃ x, ss[k]? = some x := ⟨ss[k], List.getElem?_eq_getElem (by omega)⟩
      obtain ⟨Ax, cx, hxv, hxo⟩ := hbs x (List.mem_of_getElem? hxk)
      refine sNil ?_
      refine wSeq ?_
      refine wIfT rfl ?_
      refine wSkip ?_
      refine wSeq ?_
      refine wBlock ?_
      refine wSeq ?_
      refine wReg ?_
      refine sRun (xIdx k Try.underlying22 ti37 rfl rfl (by omega) (by omega)) ?_
      refine sRun (xLoadS [.int .i64 x.1, x.2.1] Try.underlying37 rfl ti37 rfl rfl (el_cells ho hxk)) ?_
      refine sTo (aNew (mAlloc ti37)) ?_
      rintro _ w12 ⟨b12, rfl, hge12, hB12, he12⟩
      refine sStS ti37 rfl rfl rfl (by rw [hxv]; simp [Value.oneCell']) hB12 rfl ?_
      intro wx hBx hCx
      rw [hxv] at hBx
      have hex : Ext w wx := Chg.ext he12 hCx hge12
      refine sNil ?_
      refine wReg ?_
      refine sRun (xMvS rfl) ?_
      refine sRun (xFld (k := 1) Try.underlying37 rfl rfl ti27 (by decide) rfl) ?_
      refine sRun (xLoad Try.underlying27 rfl rfl (hBx.cell (i := 0 + 1) rfl)) ?_
      refine sTo (aRow (bs17_47 rfl)) ?_
      rintro _ w47 ⟨b47, rfl, hge47, hB47, he47⟩
      refine sTo (aAppend (w0.heap.size) (k + 1) Try.underlying39 ti27 rfl (by decide) rfl rfl (hob.ext (hex.trans he47)) (hB47.sl (n := 1) (size := 1) rfl) (by simp [Value.oneCell']) (by have := ((hx.trans hex).trans he47).le; omega) (by omega) (by omega) (by omega)) ?_
      rintro _ w48 ⟨A48, c48, rfl, ho48, hg48, hr48⟩
      refine sRun (xAsS rfl) ?_
      refine sNil ?_
      refine wReg ?_
      refine sRun (xAdd64 rfl rfl (by omega) (by omega)) ?_
      refine sRun (xMvI rfl) ?_
      refine sNil ?_
      refine ⟨ss.length - (k + 1), by omega, k + 1, A48, c48, rfl, by omega, ⟨rfl, rfl, rfl, rfl, rfl, trivial⟩, ?_, ?_, ?_, ?_, ?_, ?_⟩
      · exact grown_ext (hx.trans (hex.trans he47)) hg48 (fun i hi => (hob.row i hi).1)
      · exact (ho.ext (hex.trans he47)).kept hg48 ((ho.ext (hex.trans he47)).apart (hob.ext (hex.trans he47)) (by decide))
      · exact (hor.ext (hex.trans he47)).kept hg48 ((hor.ext (hex.trans he47)).apart (hob.ext (hex.trans he47)) (by decide))
      · exact (hbs.ext (hex.trans he47)).grown (hob.ext (hex.trans he47)) (by decide) hg48
      · exact (hbr.ext (hex.trans he47)).grown (hob.ext (hex.trans he47)) (by decide) hg48
      · rw [take_snoc hxk, List.map_append]
        simpa [hxv] using ho48
    · refine sNil ?_
      refine wSeq ?_
      refine wIfF rfl ?_
      refine wExit ?_
      refine wSeq ?_
      refine wReg ?_
      refine sRun (xMvS rfl) ?_
      refine sRun (xMvS rfl) ?_
      refine sRun (xAsS rfl) ?_
      refine sRun (xAsS rfl) ?_
      refine sNil ?_
      refine wRet ?_
      refine res2 (P := Try.prog) (fn := Try.f17) rfl ?_
      obtain rfl : k = ss.length := by omega
      rw [List.take_length] at hob
      refine ⟨Ab, ss.length, cb, Ar, rs.length, cr, rfl, ?_, ?_, hx⟩
      · have h1 := BsR.of hob hbs
        have h2 : (arrF fs now).map (·.2) = ss.map (·.2.2) := by rw [← hmg2, List.map_map]; rfl
        rw [h2]; exact h1
      · have h1 := fl_flr hor hbr
        rw [hmr] at h1; exact h1
end Go.Proofs.Ytnppmdhgelfloaa
