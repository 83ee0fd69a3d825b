/- The contracts of the reference Arrive and of Bodies. -/
import Derived.Test.YtnppmdhgelfloaaRA
set_option linter.unusedVariables false
namespace Go.Proofs.Ytnppmdhgelfloaa
open Go.RowKit Go.Fw


theorem bs18_31 {ρ : Operand → Value} {w : World} {d : Option Nat} {ty : TypeId} {pos : String} {af : Array Edge} {g : Option (Nat × Bool)} {x00_ : Int} {x01_A : Option Addr} {x01_n x01_c : Nat} {o0 : Operand} (h0 : ρ o0 = .agg #[.int .i64 x00_, .slice x01_A x01_n x01_c]) :
    (execOp ρ ⟨d, .buildSlice 22 1 #[(0, o0)], ty, pos, af, g⟩).run Try.prog w = .ok (.value (.slice (some ⟨w.heap.size, 0, none⟩) 1 1)) (w.alloc (.cells #[.int .i64 x00_, .slice x01_A x01_n x01_c] 37)) := by
  have e : (Instr.buildSlice 22 1 #[(0, .agg #[.int .i64 x00_, .slice x01_A x01_n x01_c])]).run Try.prog w = .ok (.slice (some ⟨w.heap.size, 0, none⟩) 1 1) (w.alloc (.cells #[.int .i64 x00_, .slice x01_A x01_n x01_c] 37)) := by kernel_rfl
  simp [execOp, h0, e]
theorem bs18_53 {ρ : Operand → Value} {w : World} {d : Option Nat} {ty : TypeId} {pos : String} {af : Array Edge} {g : Option (Nat × Bool)}    :
    (execOp ρ ⟨d, .buildSlice 22 0 #[], ty, pos, af, g⟩).run Try.prog w = .ok (.value (.slice (some ⟨w.heap.size, 0, none⟩) 0 0)) (w.alloc (.cells #[] 37)) := by
  have e : (Instr.buildSlice 22 0 #[]).run Try.prog w = .ok (.slice (some ⟨w.heap.size, 0, none⟩) 0 0) (w.alloc (.cells #[] 37)) := by kernel_rfl
  simp [execOp, e]
theorem bs18_63 {ρ : Operand → Value} {w : World} {d : Option Nat} {ty : TypeId} {pos : String} {af : Array Edge} {g : Option (Nat × Bool)} {x00_ : Int} {x01_A : Option Addr} {x01_n x01_c : Nat} {o0 : Operand} (h0 : ρ o0 = .agg #[.int .i64 x00_, .slice x01_A x01_n x01_c]) :
    (execOp ρ ⟨d, .buildSlice 22 1 #[(0, o0)], ty, pos, af, g⟩).run Try.prog w = .ok (.value (.slice (some ⟨w.heap.size, 0, none⟩) 1 1)) (w.alloc (.cells #[.int .i64 x00_, .slice x01_A x01_n x01_c] 37)) := by
  have e : (Instr.buildSlice 22 1 #[(0, .agg #[.int .i64 x00_, .slice x01_A x01_n x01_c])]).run Try.prog w = .ok (.slice (some ⟨w.heap.size, 0, none⟩) 1 1) (w.alloc (.cells #[.int .i64 x00_, .slice x01_A x01_n x01_c] 37)) := by kernel_rfl
  simp [execOp, h0, e]
theorem bs18_77 {ρ : Operand → Value} {w : World} {d : Option Nat} {ty : TypeId} {pos : String} {af : Array Edge} {g : Option (Nat × Bool)}    :
    (execOp ρ ⟨d, .buildSlice 27 0 #[], ty, pos, af, g⟩).run Try.prog w = .ok (.value (.slice (some ⟨w.heap.size, 0, none⟩) 0 0)) (w.alloc (.cells #[] 5)) := by
  have e : (Instr.buildSlice 27 0 #[]).run Try.prog w = .ok (.slice (some ⟨w.heap.size, 0, none⟩) 0 0) (w.alloc (.cells #[] 5)) := by kernel_rfl
  simp [execOp, e]
theorem bs18_84 {ρ : Operand → Value} {w : World} {d : Option Nat} {ty : TypeId} {pos : String} {af : Array Edge} {g : Option (Nat × Bool)} {x0A : Option Addr} {x0n x0c : Nat} {o0 : Operand} (h0 : ρ o0 = .slice x0A x0n x0c) :
    (execOp ρ ⟨d, .buildSlice 39 1 #[(0, o0)], ty, pos, af, g⟩).run Try.prog w = .ok (.value (.slice (some ⟨w.heap.size, 0, none⟩) 1 1)) (w.alloc (.cells #[.slice x0A x0n x0c] 27)) := by
  have e : (Instr.buildSlice 39 1 #[(0, .slice x0A x0n x0c)]).run Try.prog w = .ok (.slice (some ⟨w.heap.size, 0, none⟩) 1 1) (w.alloc (.cells #[.slice x0A x0n x0c] 27)) := by kernel_rfl
  simp [execOp, h0, e]
set_option maxHeartbeats 2000000 in
theorem refArrive_spec (A : Option Addr) (c : Nat) (fs : List Flight) (now : Int) (w0 : World) (hf : FlR w0 w0.heap.size A fs.length fs) (hfs : fs.length ≤ 1000000) (hbod : ∀ (i : Nat) (d : Int) (b : List Int), fs[i]? = some (d, b) → b.length ≤ 1000000) :
    Calls Try.prog 18 #[.slice A fs.length c, .int .i64 now] w0 (Ret fun v w' => ∃ Ab nb cb Ar nr cr, v = .tuple #[.slice Ab nb cb, .slice Ar nr cr] ∧ BsR w' w'.heap.size Ab nb ((arrF fs now).map (·.2)) ∧ FlR w' w'.heap.size Ar nr (stayF fs now) ∧ Ext w0 w') := by
  refine calls_of Try.func18 rfl (Nat.le_of_ble_eq_true rfl) (by kernel_rfl) ?_
  refine wCut [(0, .slice A fs.length c), (1, .int .i64 now)] ⟨rfl, rfl, trivial⟩ fun g => ?_
  refine wSeq ?_
  refine wReg ?_
  refine sRun (xAsS rfl) ?_
  refine sRun (xAsS rfl) ?_
  refine sNil ?_
  refine wSeq ?_
  refine wReg ?_
  refine sRun (xAsS rfl) ?_
  refine sRun (xAsS rfl) ?_
  refine sNil ?_
  refine wSeq ?_
  refine wSeq ?_
  refine wReg ?_
  refine sRun (xAsI rfl) ?_
  refine sNil ?_
  refine wBlock ?_
  refine wLoopG (fun n f w => ∃ k gs rs Ah ch Ar cr, n = fs.length - k ∧ k ≤ fs.length ∧ Has f [(0, .slice A fs.length c), (1, .int .i64 now), (8, .int .i64 (k : Nat)), (6, .slice Ah gs.length ch), (7, .slice Ar rs.length cr)] ∧ Ext w0 w ∧
      Own w w0.heap.size 37 2 Ah gs.length ch (fl gs) ∧ Own w w0.heap.size 37 2 Ar rs.length cr (fl rs) ∧ BodS w0 gs ∧ BodS w0 rs ∧ (∀ i, rowOf Ah = some i → rowOf Ar ≠ some i) ∧ gs.length + rs.length = k ∧ Srt gs ∧
      gs.map toF = isortF ((fs.take k).filter (fun f => decide (f.1 ≤ now))) ∧ rs.map toF = (fs.take k).filter (fun f => !decide (f.1 ≤ now))) (fs.length) ⟨0, [], [], none, 0, none, 0, rfl, Nat.zero_le _, ⟨rfl, rfl, rfl, rfl, rfl, trivial⟩, Ext.refl _, Own.nil _ _ _ _, Own.nil _ _ _ _, BodS.nil _, BodS.nil _, (fun i h => by cases h), rfl, trivial, rfl, rfl⟩ ?_
  rintro n f w ⟨k, gs, rs, Ah, ch, Ar, cr, rfl, hk, hf0, hx, hoh, hor, hbg, hbr, hap, hgr, hsr, hmg, hmr⟩
  obtain ⟨g, rfl⟩ := has_updL _ _ hf0
  clear hf0
  refine wSeq ?_
  refine wSeq ?_
  refine wReg ?_
  refine sRun (xMvI rfl) ?_
  refine sRun (xMvS rfl) ?_
  refine sRun (xLen Try.underlying22 rfl) ?_
  refine sSplit (xLss rfl rfl) (fun h16 => ?_) (fun h16 => ?_)
  · obtain ⟨b, o, d, bd, A1, c1, rfl, hb, hfk, hc0, hc1, hsl⟩ := (hf.ext hx).at (k := k) (by omega)
    have hbl : bd.length ≤ 1000000 := hbod k d bd hfk
    obtain ⟨_, _, _, _, A1', c1', hA1, _, hfk1, hc01, hc11, hsl1⟩ := hf.at (k := k) (by omega)
    injection hA1 with hA1
    injection hA1 with hA1b hA1o
    subst hA1b hA1o
    rw [hfk] at hfk1
    injection hfk1 with hfk1
    injection hfk1 with hq1 hq2
    subst hq1 hq2
    have hce := hx.cellS hc11
    rw [hc1] at hce
    injection hce with hce
    injection hce with hce1 hce2 hce3
    subst hce1 hce3
    clear hc01 hc11 hsl
    refine sNil ?_
    refine wIfT rfl ?_
    refine wSkip ?_
    refine wSeq ?_
    refine wBlock ?_
    refine wSeq ?_
    refine wSeq ?_
    refine wReg ?_
    refine sRun (xMvS rfl) ?_
    refine sRun (xMvI rfl) ?_
    refine sRun (xIdx k Try.underlying22 ti37 rfl rfl (by omega) (by omega)) ?_
    refine sRun (xFld0 Try.underlying37 rfl rfl ti3 (by decide) rfl) ?_
    refine sRun (xLoad Try.underlying3 rfl rfl hc0) ?_
    refine sRun (xMvI rfl) ?_
    refine sSplit (xGtr rfl rfl) (fun h25 => ?_) (fun h25 => ?_)
    · refine sNil ?_
      refine wIfT rfl ?_
      refine wSeq ?_
      refine wReg ?_
      refine sRun (xMvS rfl) ?_
      refine sRun (xMvS rfl) ?_
      refine sRun (xMvI rfl) ?_
      refine sRun (xIdx k Try.underlying22 ti37 rfl rfl (by omega) (by omega)) ?_
      refine sRun (xLoadS [.int .i64 d, .slice A1 bd.length c1] Try.underlying37 rfl ti37 rfl rfl (cells2 hc0 hc1)) ?_
      refine sTo (aRow (bs18_31 rfl)) ?_
      rintro _ w31 ⟨b31, rfl, hge31, hB31, he31⟩
      refine sTo (aAppend (w0.heap.size) (rs.length + 1) Try.underlying22 ti37 rfl (by decide) rfl rfl (hor.ext he31) (hB31.sl (n := 1) (size := 2) rfl) (by simp [Value.oneCell']) (by have := (hx.trans he31).le; omega) (by omega) (by omega) (by omega)) ?_
      rintro _ w32 ⟨A32, c32, rfl, ho32, hg32, hr32⟩
      refine sRun (xAsS rfl) ?_
      refine sNil ?_
      refine wExit ?_
      refine wReg ?_
      refine sRun (xMvI rfl) ?_
      refine sRun (xAdd64 rfl rfl (by omega) (by omega)) ?_
      refine sRun (xAsI rfl) ?_
      refine sNil ?_
      refine ⟨fs.length - (k + 1), by omega, k + 1, gs, rs ++ [(d, .slice A1 bd.length c1, bd)], Ah, ch, A32, c32, rfl, by omega, ⟨rfl, rfl, rfl, rfl, by rw [List.length_append]; rfl, trivial⟩, ?_, ?_, by rw [List.length_append, fl_append]; exact ho32, hbg, hbr.snoc hsl1 hbl, ?_, by simp; omega, hsr, ?_, ?_⟩
      · exact grown_ext (hx.trans he31) hg32 (fun i hi => (hor.row i hi).1)
      · exact (hoh.ext he31).kept hg32 (by cases hr : rowOf Ah with | none => exact .inl rfl | some i => exact .inr (fun e => hap i hr e.symm))
      · intro i hi he
        rcases hr32 with h | h
        · rw [h] at he; exact hap i hi he
        · rw [h] at he; have h2 := hoh.row i hi; have h3 := he31.le; simp at he; omega
      · rw [hmg, take_snoc hfk, List.filter_append, List.filter_cons_of_neg (by simp; omega)]; simp
      · rw [List.map_append, hmr, take_snoc hfk, List.filter_append, List.filter_cons_of_pos (by simp; omega)]; rfl
    · refine sNil ?_
      refine wIfF rfl ?_
      refine wSkip ?_
      refine wSeq ?_
      refine wReg ?_
      refine sRun (xMvS rfl) ?_
      refine sRun (xLen Try.underlying22 rfl) ?_
      refine sRun (xAsI rfl) ?_
      refine sNil ?_
      refine wSeq ?_
      refine wBlock ?_
      refine wLoopG (fun n f w2 => ∃ p, n = p ∧ p ≤ gs.length ∧ Has f [(0, .slice (some ⟨b, o, none⟩) fs.length c), (1, .int .i64 now), (8, .int .i64 (k : Nat)), (6, .slice Ah gs.length ch), (7, .slice Ar rs.length cr), (9, .int .i64 (p : Nat))] ∧ Ext w w2 ∧ (∀ y ∈ gs.drop p, d < y.1)) (gs.length) ⟨gs.length, rfl, Nat.le_refl _, ⟨rfl, rfl, rfl, rfl, rfl, rfl, trivial⟩, Ext.refl _, by simp⟩ ?_
      rintro p f w2 ⟨_, rfl, hp, hf0, hx2, hdr⟩
      obtain ⟨g, rfl⟩ := has_updL _ _ hf0
      clear hf0
      have hoh2 := hoh.ext hx2
      refine wSeq ?_
      refine wSeq ?_
      refine wDraw (fun wS => Ext w2 wS) [] (by kernel_rfl) ?_
      refine hTake 0 rfl (by kernel_rfl) rfl (fun wS => (xMvI rfl)) (sl_of (Ext.refl w2).drew) ?_
      refine hSplit 1 rfl (by kernel_rfl) rfl (fun wS => (xGtr rfl rfl)) (sl_of (Ext.refl w2).drew) (fun h36 => ?_) (fun h36 => ?_)
      · obtain ⟨q, rfl⟩ := hoh2.adr (by omega)
        obtain ⟨x, hxp⟩ : ∃ x, gs[p - 1]? = some x := ⟨gs[p - 1], List.getElem?_eq_getElem (by omega)⟩
        refine hTake 2 rfl (by kernel_rfl) rfl (fun wS => (xMvB rfl)) (sl_of (Ext.refl w2).drew) ?_
        refine hTake 3 rfl (by kernel_rfl) rfl (fun wS => (xMvS rfl)) (sl_of (Ext.refl w2).drew) ?_
        refine hTake 4 rfl (by kernel_rfl) rfl (fun wS => (xMvI rfl)) (sl_of (Ext.refl w2).drew) ?_
        refine hTake 5 rfl (by kernel_rfl) rfl (fun wS => (xSub64 rfl rfl (by omega) (by omega))) (sl_of (Ext.refl w2).drew) ?_
        refine hTake 6 rfl (by kernel_rfl) rfl (fun wS => (xIdx (p - 1) Try.underlying22 ti37 rfl rfl (by omega) (by omega))) (sl_of (Ext.refl w2).drew) ?_
        refine hTake 7 rfl (by kernel_rfl) rfl (fun wS => (xFld0 Try.underlying37 rfl rfl ti3 (by decide) rfl)) (sl_of (Ext.refl w2).drew) ?_
        refine hTakeS 8 rfl (by kernel_rfl) (by kernel_rfl) rfl (fun wS hS => (xLoad Try.underlying3 rfl rfl (hS.cellS (by rw [Nat.zero_add]; exact hoh2.cell (fl_at hxp).1)))) (sl_of (Ext.refl w2).drew) ?_
        refine hTake 9 rfl (by kernel_rfl) rfl (fun wS => (xMvS rfl)) (sl_of (Ext.refl w2).drew) ?_
        refine hTake 10 rfl (by kernel_rfl) rfl (fun wS => (xMvI rfl)) (sl_of (Ext.refl w2).drew) ?_
        refine hTake 11 rfl (by kernel_rfl) rfl (fun wS => (xIdx k Try.underlying22 ti37 rfl rfl (by omega) (by omega))) (sl_of (Ext.refl w2).drew) ?_
        refine hTake 12 rfl (by kernel_rfl) rfl (fun wS => (xFld0 Try.underlying37 rfl rfl ti3 (by decide) rfl)) (sl_of (Ext.refl w2).drew) ?_
        refine hTakeS 13 rfl (by kernel_rfl) (by kernel_rfl) rfl (fun wS hS => (xLoad Try.underlying3 rfl rfl (hS.cellS (hx2.cellS hc0)))) (sl_of (Ext.refl w2).drew) ?_
        refine hSplit 14 rfl (by kernel_rfl) rfl (fun wS => (xGtr rfl rfl)) (sl_of (Ext.refl w2).drew) (fun h49 => ?_) (fun h49 => ?_)
        · refine hTake 15 rfl (by kernel_rfl) rfl (fun wS => (xPkTB rfl rfl)) (sl_of (Ext.refl w2).drew) ?_
          refine hDone (by kernel_rfl) ?_
          refine wIfT rfl ?_
          refine wSkip ?_
          refine wBlock ?_
          refine wReg ?_
          refine sRun (xMvI rfl) ?_
          refine sRun (xSub64 rfl rfl (by omega) (by omega)) ?_
          rw [show ((p : Int) - 1) = ((p - 1 : Nat) : Int) by omega]
          refine sRun (xAsI rfl) ?_
          refine sNil ?_
          exact ⟨p - 1, by omega, p - 1, rfl, by omega, ⟨rfl, rfl, rfl, rfl, rfl, rfl, trivial⟩, hx2.drew, drop_step (by omega) hxp (by omega) hdr⟩
        · have hpx : p = 0 ∨ ∃ x : G, gs[p - 1]? = some x ∧ ¬ d < x.1 := .inr ⟨x, hxp, by omega⟩
          refine hTake 15 rfl (by kernel_rfl) rfl (fun wS => (xPkTB rfl rfl)) (sl_of (Ext.refl w2).drew) ?_
          refine hDone (by kernel_rfl) ?_
          refine wIfF rfl ?_
          refine wExit ?_
          refine wSeq ?_
          have hx3 : Ext w w2.drew := hx2.drew
          clear hoh2
          generalize w2.drew = w3 at *
          have hoh3 := hoh.ext hx3
          refine wReg ?_
          refine sTo (aRow (bs18_53)) ?_
          rintro _ w53 ⟨b53, rfl, hge53, hB53, he53⟩
          refine sRun (xMvS rfl) ?_
          refine sRun (xMvI rfl) ?_
          refine sRun (xSlcH p Try.underlying22 ti37 rfl rfl rfl (by have := hoh3.cap; omega)) ?_
          refine sTo (aAppend (w.heap.size) (p) Try.underlying22 ti37 rfl (by decide) rfl rfl (hB53.own (n := 0) (size := 2) (by have := hx3.le; omega) (Nat.zero_le _) rfl) ((hoh3.ext he53).sl.take (j := p) hp) (fun u hu => fl_one hbg.one u (List.mem_of_mem_take hu)) (by have := (hx3.trans he53).le; omega) (by omega) (by omega) (by omega)) ?_
          rintro _ w57 ⟨A57, c57, rfl, ho57, hg57, hr57⟩
          have he57 : Ext w w57 := grown_ext (hx3.trans he53) hg57 (fun i hi => by simp [rowOf] at hi; have := hx3.le; omega)
          simp only [List.nil_append] at ho57
          refine sRun (xAsS rfl) ?_
          refine sNil ?_
          refine wSeq ?_
          refine wReg ?_
          refine sRun (xMvS rfl) ?_
          refine sRun (xMvS rfl) ?_
          refine sRun (xMvI rfl) ?_
          refine sRun (xIdx k Try.underlying22 ti37 rfl rfl (by omega) (by omega)) ?_
          refine sRun (xLoadS [.int .i64 d, .slice A1 bd.length c1] Try.underlying37 rfl ti37 rfl rfl ((cells2 hc0 hc1).ext he57)) ?_
          refine sTo (aRow (bs18_63 rfl)) ?_
          rintro _ w63 ⟨b63, rfl, hge63, hB63, he63⟩
          refine sTo (aAppend (w.heap.size) (p + 1) Try.underlying22 ti37 rfl (by decide) rfl rfl (ho57.ext he63) (hB63.sl (n := 1) (size := 2) rfl) (by simp [Value.oneCell']) (by have := (he57.trans he63).le; omega) (by omega) (by omega) (by omega)) ?_
          rintro _ w64 ⟨A64, c64, rfl, ho64, hg64, hr64⟩
          have he64 : Ext w w64 := grown_ext (he57.trans he63) hg64 (fun i hi => (ho57.row i hi).1)
          have hoh64 := hoh.ext he64
          refine sRun (xAsS rfl) ?_
          refine sNil ?_
          refine wReg ?_
          refine sRun (xMvS rfl) ?_
          refine sRun (xMvS rfl) ?_
          refine sRun (xMvI rfl) ?_
          refine sRun (xSlcL p Try.underlying22 ti37 rfl rfl rfl (by omega)) ?_
          refine sTo (aAppend (w.heap.size) (gs.length + 1) Try.underlying22 ti37 rfl (by decide) rfl rfl ho64 (hoh64.sl.drop (j := p) hoh.cap.1 (by omega)) (fun u hu => fl_one hbg.one u (List.mem_of_mem_drop hu)) (by have := he64.le; omega) (by omega) (by omega) (by omega)) ?_
          rintro _ w69 ⟨A69, c69, rfl, ho69, hg69, hr69⟩
          have he69 : Ext w w69 := grown_ext he64 hg69 (fun i hi => (ho64.row i hi).1)
          have hins : insE (d, .slice A1 bd.length c1, bd) gs = gs.take p ++ (d, .slice A1 bd.length c1, bd) :: gs.drop p := ins_here hsr hdr hpx
          have hnew : Own w69 w.heap.size 37 2 A69 (gs.length + 1) c69 (fl (insE (d, .slice A1 bd.length c1, bd) gs)) := by
            rw [hins, fl_append]
            rw [fl_take, fl_drop] at ho69
            simpa [fl] using ho69
          refine sRun (xAsS rfl) ?_
          refine sNil ?_
          refine wReg ?_
          refine sRun (xMvI rfl) ?_
          refine sRun (xAdd64 rfl rfl (by omega) (by omega)) ?_
          refine sRun (xAsI rfl) ?_
          refine sNil ?_
          refine ⟨fs.length - (k + 1), by omega, k + 1, insE (d, .slice A1 bd.length c1, bd) gs, rs, A69, c69, Ar, cr, rfl, by omega, ⟨rfl, rfl, rfl, by rw [insE_len]; rfl, rfl, trivial⟩, hx.trans he69, ?_, hor.ext he69, hbg.ins (BodS.snoc (BodS.nil w0) hsl1 hbl), hbr, ?_, by rw [insE_len]; omega, insE_srt hsr, ?_, ?_⟩
          · rw [insE_len]; exact hnew.mono hx.le
          · intro i hi he
            have h1 := hnew.row i hi
            have h2 := hor.row i he
            omega
          · rw [insE_map, hmg, take_snoc hfk, List.filter_append, List.filter_cons_of_pos (by simp; omega)]
            rw [List.filter_nil, isortF_snoc]; rfl
          · rw [hmr, take_snoc hfk, List.filter_append, List.filter_cons_of_neg (by simp; omega)]; simp
      · have hpx : p = 0 ∨ ∃ x : G, gs[p - 1]? = some x ∧ ¬ d < x.1 := .inl (by omega)
        refine hTake 2 rfl (by kernel_rfl) rfl (fun wS => (xMvB rfl)) (sl_of (Ext.refl w2).drew) ?_
        refine hSkip 3 rfl (by kernel_rfl) rfl (sl_of (Ext.refl w2).drew) ?_
        refine hSkip 4 rfl (by kernel_rfl) rfl (sl_of (Ext.refl w2).drew) ?_
        refine hSkip 5 rfl (by kernel_rfl) rfl (sl_of (Ext.refl w2).drew) ?_
        refine hSkip 6 rfl (by kernel_rfl) rfl (sl_of (Ext.refl w2).drew) ?_
        refine hSkip 7 rfl (by kernel_rfl) rfl (sl_of (Ext.refl w2).drew) ?_
        refine hSkip 8 rfl (by kernel_rfl) rfl (sl_of (Ext.refl w2).drew) ?_
        refine hSkip 9 rfl (by kernel_rfl) rfl (sl_of (Ext.refl w2).drew) ?_
        refine hSkip 10 rfl (by kernel_rfl) rfl (sl_of (Ext.refl w2).drew) ?_
        refine hSkip 11 rfl (by kernel_rfl) rfl (sl_of (Ext.refl w2).drew) ?_
        refine hSkip 12 rfl (by kernel_rfl) rfl (sl_of (Ext.refl w2).drew) ?_
        refine hSkip 13 rfl (by kernel_rfl) rfl (sl_of (Ext.refl w2).drew) ?_
        refine hSkip 14 rfl (by kernel_rfl) rfl (sl_of (Ext.refl w2).drew) ?_
        refine hTake 15 rfl (by kernel_rfl) rfl (fun wS => (xPkFB rfl rfl)) (sl_of (Ext.refl w2).drew) ?_
        refine hDone (by kernel_rfl) ?_
        refine wIfF rfl ?_
        refine wExit ?_
        refine wSeq ?_
        have hx3 : Ext w w2.drew := hx2.drew
        clear hoh2
        generalize w2.drew = w3 at *
        have hoh3 := hoh.ext hx3
        refine wReg ?_
        refine sTo (aRow (bs18_53)) ?_
        rintro _ w53 ⟨b53, rfl, hge53, hB53, he53⟩
        refine sRun (xMvS rfl) ?_
        refine sRun (xMvI rfl) ?_
        refine sRun (xSlcH p Try.underlying22 ti37 rfl rfl rfl (by have := hoh3.cap; omega)) ?_
        refine sTo (aAppend (w.heap.size) (p) Try.underlying22 ti37 rfl (by decide) rfl rfl (hB53.own (n := 0) (size := 2) (by have := hx3.le; omega) (Nat.zero_le _) rfl) ((hoh3.ext he53).sl.take (j := p) hp) (fun u hu => fl_one hbg.one u (List.mem_of_mem_take hu)) (by have := (hx3.trans he53).le; omega) (by omega) (by omega) (by omega)) ?_
        rintro _ w57 ⟨A57, c57, rfl, ho57, hg57, hr57⟩
        have he57 : Ext w w57 := grown_ext (hx3.trans he53) hg57 (fun i hi => by simp [rowOf] at hi; have := hx3.le; omega)
        simp only [List.nil_append] at ho57
        refine sRun (xAsS rfl) ?_
        refine sNil ?_
        refine wSeq ?_
        refine wReg ?_
        refine sRun (xMvS rfl) ?_
        refine sRun (xMvS rfl) ?_
        refine sRun (xMvI rfl) ?_
        refine sRun (xIdx k Try.underlying22 ti37 rfl rfl (by omega) (by omega)) ?_
        refine sRun (xLoadS [.int .i64 d, .slice A1 bd.length c1] Try.underlying37 rfl ti37 rfl rfl ((cells2 hc0 hc1).ext he57)) ?_
        refine sTo (aRow (bs18_63 rfl)) ?_
        rintro _ w63 ⟨b63, rfl, hge63, hB63, he63⟩
        refine sTo (aAppend (w.heap.size) (p + 1) Try.underlying22 ti37 rfl (by decide) rfl rfl (ho57.ext he63) (hB63.sl (n := 1) (size := 2) rfl) (by simp [Value.oneCell']) (by have := (he57.trans he63).le; omega) (by omega) (by omega) (by omega)) ?_
        rintro _ w64 ⟨A64, c64, rfl, ho64, hg64, hr64⟩
        have he64 : Ext w w64 := grown_ext (he57.trans he63) hg64 (fun i hi => (ho57.row i hi).1)
        have hoh64 := hoh.ext he64
        refine sRun (xAsS rfl) ?_
        refine sNil ?_
        refine wReg ?_
        refine sRun (xMvS rfl) ?_
        refine sRun (xMvS rfl) ?_
        refine sRun (xMvI rfl) ?_
        refine sRun (xSlcL p Try.underlying22 ti37 rfl rfl rfl (by omega)) ?_
        refine sTo (aAppend (w.heap.size) (gs.length + 1) Try.underlying22 ti37 rfl (by decide) rfl rfl ho64 (hoh64.sl.drop (j := p) hoh.cap.1 (by omega)) (fun u hu => fl_one hbg.one u (List.mem_of_mem_drop hu)) (by have := he64.le; omega) (by omega) (by omega) (by omega)) ?_
        rintro _ w69 ⟨A69, c69, rfl, ho69, hg69, hr69⟩
        have he69 : Ext w w69 := grown_ext he64 hg69 (fun i hi => (ho64.row i hi).1)
        have hins : insE (d, .slice A1 bd.length c1, bd) gs = gs.take p ++ (d, .slice A1 bd.length c1, bd) :: gs.drop p := ins_here hsr hdr hpx
        have hnew : Own w69 w.heap.size 37 2 A69 (gs.length + 1) c69 (fl (insE (d, .slice A1 bd.length c1, bd) gs)) := by
          rw [hins, fl_append]
          rw [fl_take, fl_drop] at ho69
          simpa [fl] using ho69
        refine sRun (xAsS rfl) ?_
        refine sNil ?_
        refine wReg ?_
        refine sRun (xMvI rfl) ?_
        refine sRun (xAdd64 rfl rfl (by omega) (by omega)) ?_
        refine sRun (xAsI rfl) ?_
        refine sNil ?_
        refine ⟨fs.length - (k + 1), by omega, k + 1, insE (d, .slice A1 bd.length c1, bd) gs, rs, A69, c69, Ar, cr, rfl, by omega, ⟨rfl, rfl, rfl, by rw [insE_len]; rfl, rfl, trivial⟩, hx.trans he69, ?_, hor.ext he69, hbg.ins (BodS.snoc (BodS.nil w0) hsl1 hbl), hbr, ?_, by rw [insE_len]; omega, insE_srt hsr, ?_, ?_⟩
        · rw [insE_len]; exact hnew.mono hx.le
        · intro i hi he
          have h1 := hnew.row i hi
          have h2 := hor.row i he
          omega
        · rw [insE_map, hmg, take_snoc hfk, List.filter_append, List.filter_cons_of_pos (by simp; omega)]
          rw [List.filter_nil, isortF_snoc]; rfl
        · rw [hmr, take_snoc hfk, List.filter_append, List.filter_cons_of_neg (by simp; omega)]; simp
  · refine sNil ?_
    refine wIfF rfl ?_
    refine wExit ?_
    refine wSeq ?_
    refine wReg ?_
    refine sRun (xAsS rfl) ?_
    refine sNil ?_
    refine wSeq ?_
    refine wSeq ?_
    refine wReg ?_
    refine sRun (xAsI rfl) ?_
    refine sNil ?_
    refine wBlock ?_
    obtain rfl : k = fs.length := by omega
    rw [List.take_length] at hmg hmr
    have hgl : gs.length ≤ 1000000 := by omega
    refine wLoopG (fun n f w => ∃ k hs Ab cb, n = gs.length - k ∧ k ≤ gs.length ∧ Has f [(12, .int .i64 (k : Nat)), (6, .slice Ah gs.length ch), (11, .slice Ab k cb), (7, .slice Ar rs.length cr)] ∧ Ext w0 w ∧
        Own w w0.heap.size 37 2 Ah gs.length ch (fl gs) ∧ Own w w0.heap.size 37 2 Ar rs.length cr (fl rs) ∧ Own w w0.heap.size 27 1 Ab k cb (hs.map (fun g : G => g.2.1)) ∧ Bod w w0.heap.size hs ∧ hs.map (fun g : G => g.2.2) = (gs.take k).map (·.2.2)) (gs.length) ⟨0, [], none, 0, rfl, Nat.zero_le _, ⟨rfl, rfl, rfl, rfl, trivial⟩, hx, hoh, hor, by simpa using Own.nil _ _ _ _, Bod.nil _ _, rfl⟩ ?_
    clear hx hoh hor
    rintro n f w ⟨k, hs, Ab, cb, rfl, hk, hf0, hx, ho, hor, hob, hbs, hmp⟩
    obtain ⟨g, rfl⟩ := has_updL _ _ hf0
    clear hf0
    refine wSeq ?_
    refine wSeq ?_
    refine wReg ?_
    refine sRun (xMvI rfl) ?_
    refine sRun (xMvS rfl) ?_
    refine sRun (xLen Try.underlying22 rfl) ?_
    refine sSplit (xLss rfl rfl) (fun h73 => ?_) (fun h73 => ?_)
    · obtain ⟨q, rfl⟩ := ho.adr (by omega)
      obtain ⟨x, hxk⟩ : ∃ x, gs[k]? = some x := ⟨gs[k], List.getElem?_eq_getElem (by omega)⟩
      obtain ⟨Ax, cx, hxv, hxo, hxl⟩ := hbg x (List.mem_of_getElem? hxk)
      refine sNil ?_
      refine wIfT rfl ?_
      refine wSkip ?_
      refine wSeq ?_
      refine wBlock ?_
      refine wReg ?_
      refine sRun (xMvS rfl) ?_
      refine sTo (aRow (bs18_77)) ?_
      rintro _ w77 ⟨b77, rfl, hge77, hB77, he77⟩
      refine sRun (xMvS rfl) ?_
      refine sRun (xMvI rfl) ?_
      refine sRun (xIdx k Try.underlying22 ti37 rfl rfl (by omega) (by omega)) ?_
      refine sRun (xFld (k := 1) Try.underlying37 rfl rfl ti27 (by decide) rfl) ?_
      refine sRun (xLoad Try.underlying27 rfl rfl (show w77.cell? ⟨q, 0 + k * 2 + 1, none⟩ = some (.slice Ax x.2.2.length cx) from by rw [← hxv, Nat.zero_add]; exact (ho.ext he77).cell (fl_at hxk).2)) ?_
      refine sTo (aAppend (w0.heap.size) (x.2.2.length) Try.underlying27 ti5 rfl (by decide) rfl rfl (hB77.own (n := 0) (size := 1) (by have := hx.le; omega) (Nat.zero_le _) rfl) ((hxo.ext (hx.trans he77))) (bys_one _) (by have := (hx.trans he77).le; omega) (by omega) (by omega) (by omega)) ?_
      rintro _ w83 ⟨A83, c83, rfl, ho83, hg83, hr83⟩
      have he83 : Ext w w83 := grown_ext he77 hg83 (fun i hi => by simp [rowOf] at hi; omega)
      simp only [List.nil_append] at ho83
      refine sTo (aRow (bs18_84 rfl)) ?_
      rintro _ w84 ⟨b84, rfl, hge84, hB84, he84⟩
      refine sTo (aAppend (w0.heap.size) (k + 1) Try.underlying39 ti27 rfl (by decide) rfl rfl (hob.ext (he83.trans he84)) (hB84.sl (n := 1) (size := 1) rfl) (by simp [Value.oneCell']) (by have := (hx.trans (he83.trans he84)).le; omega) (by omega) (by omega) (by omega)) ?_
      rintro _ w85 ⟨A85, c85, rfl, ho85, hg85, hr85⟩
      refine sRun (xAsS rfl) ?_
      refine sNil ?_
      refine wReg ?_
      refine sRun (xMvI rfl) ?_
      refine sRun (xAdd64 rfl rfl (by omega) (by omega)) ?_
      refine sRun (xAsI rfl) ?_
      refine sNil ?_
      have hE := he83.trans he84
      have hob' := hob.ext hE
      have ho83' := ho83.ext he84
      refine ⟨gs.length - (k + 1), by omega, k + 1, hs ++ [(x.1, .slice A83 x.2.2.length c83, x.2.2)], A85, c85, rfl, by omega, ⟨rfl, rfl, rfl, rfl, trivial⟩, ?_, ?_, ?_, ?_, ?_, ?_⟩
      · exact grown_ext (hx.trans hE) hg85 (fun i hi => (hob.row i hi).1)
      · exact (ho.ext hE).kept hg85 ((ho.ext hE).apart hob' (by decide))
      · exact (hor.ext hE).kept hg85 ((hor.ext hE).apart hob' (by decide))
      · rw [List.map_append]; exact ho85
      · exact Bod.snoc ((hbs.ext hE).grown hob' (by decide) hg85) (ho83'.kept hg85 (ho83'.apart hob' (by decide)))
      · rw [List.map_append, hmp, take_snoc hxk, List.map_append]; rfl
    · refine sNil ?_
      refine wIfF rfl ?_
      refine wExit ?_
      refine wSeq ?_
      refine wReg ?_
      refine sRun (xMvS rfl) ?_
      refine sRun (xMvS rfl) ?_
      refine sRun (xAsS rfl) ?_
      refine sRun (xAsS rfl) ?_
      refine sNil ?_
      refine wRet ?_
      refine res2 (P := Try.prog) (fn := Try.f18) rfl ?_
      obtain rfl : k = gs.length := by omega
      rw [List.take_length] at hmp
      refine ⟨Ab, gs.length, cb, Ar, rs.length, cr, rfl, ?_, ?_, hx⟩
      · have h1 := BsR.of hob hbs
        have h2 : (arrF fs now).map (·.2) = gs.map (·.2.2) := by unfold arrF; rw [← hmg, List.map_map]; rfl
        rw [h2, ← hmp]; exact h1
      · refine ⟨?_, fl rs, hor.sl, ?_⟩
        · rw [show stayF fs now = rs.map toF from hmr.symm]; simp
        · rw [show stayF fs now = rs.map toF from hmr.symm]
          refine ⟨by rw [fl_len]; simp, fun i d bs hi => ?_⟩
          rw [List.getElem?_map] at hi
          cases hg : rs[i]? with
          | none => rw [hg] at hi; cases hi
          | some g =>
            rw [hg] at hi
            simp only [Option.map_some, toF, Option.some.injEq, Prod.mk.injEq] at hi
            obtain ⟨rfl, rfl⟩ := hi
            obtain ⟨A, c, h1, h2, _⟩ := hbr g (List.mem_of_getElem? hg)
            have h3 := fl_at hg
            rw [h1, Nat.mul_comm] at h3
            exact ⟨A, c, h3.1, h3.2, (h2.ext hx).up hx.le⟩

theorem bodies_spec (A A' : Option Addr) (c c' : Nat) (bss : List (List Int)) (w0 : World) (hf : BsR w0 w0.heap.size A bss.length bss) (hf2 : BsR w0 w0.heap.size A' bss.length bss) (hfs : bss.length ≤ 4611686018427387904) :
    Calls Try.prog 19 #[.slice A bss.length c, .slice A' bss.length c'] w0 (Ret fun v w' => v = .bool true ∧ Ext w0 w') := by
  refine calls_of Try.func19 rfl (Nat.le_of_ble_eq_true rfl) (by kernel_rfl) ?_
  refine wCut [(0, .slice A bss.length c), (1, .slice A' bss.length c')] ⟨rfl, rfl, trivial⟩ fun g => ?_
  refine wSeq ?_
  refine wReg ?_
  refine sRun (xAsB rfl) ?_
  refine sNil ?_
  refine wSeq ?_
  refine wSeq ?_
  refine wReg ?_
  refine sRun (xMvS rfl) ?_
  refine sRun (xLen Try.underlying39 rfl) ?_
  refine sRun (xMvS rfl) ?_
  refine sRun (xLen Try.underlying39 rfl) ?_
  refine sRun (xNeqF rfl rfl (by omega)) ?_
  refine sNil ?_
  refine wIfF rfl ?_
  refine wSkip ?_
  refine wSeq ?_
  refine wSeq ?_
  refine wReg ?_
  refine sRun (xAsI rfl) ?_
  refine sNil ?_
  refine wBlock ?_
  refine wLoopG (fun n f w => ∃ k, n = bss.length - k ∧ k ≤ bss.length ∧ Has f [(0, .slice A bss.length c), (1, .slice A' bss.length c'), (5, .int .i64 (k : Nat))] ∧ Ext w0 w) (bss.length) ⟨0, rfl, Nat.zero_le _, ⟨rfl, rfl, rfl, trivial⟩, Ext.refl _⟩ ?_
  rintro n f w ⟨k, rfl, hk, hf0, hx⟩
  obtain ⟨g, rfl⟩ := has_updL _ _ hf0
  clear hf0
  refine wSeq ?_
  refine wSeq ?_
  refine wReg ?_
  refine sRun (xMvI rfl) ?_
  refine sRun (xMvS rfl) ?_
  refine sRun (xLen Try.underlying39 rfl) ?_
  refine sSplit (xLss rfl rfl) (fun h14 => ?_) (fun h14 => ?_)
  · obtain ⟨b, o, bd, A1, c1, rfl, hb, hfk, hc1, hsl⟩ := (hf.ext hx).at (k := k) (by omega)
    obtain ⟨b2, o2, bd2, A2, c2, rfl, hb2, hfk2, hd1, hsl2⟩ := (hf2.ext hx).at (k := k) (by omega)
    obtain rfl : bd = bd2 := by rw [hfk] at hfk2; simpa using hfk2
    refine sNil ?_
    refine wIfT rfl ?_
    refine wSkip ?_
    refine wSeq ?_
    refine wBlock ?_
    refine wSeq ?_
    refine wDraw (fun wS => Ext w wS) [] (by kernel_rfl) ?_
    refine hTake 0 rfl (by kernel_rfl) rfl (fun wS => (xMvS rfl)) (sl_of (Ext.refl w).drew) ?_
    refine hTake 1 rfl (by kernel_rfl) rfl (fun wS => (xMvI rfl)) (sl_of (Ext.refl w).drew) ?_
    refine hTake 2 rfl (by kernel_rfl) rfl (fun wS => (xIdx1 k Try.underlying39 ti27 rfl rfl (by omega) (by omega))) (sl_of (Ext.refl w).drew) ?_
    refine hTakeS 3 rfl (by kernel_rfl) (by kernel_rfl) rfl (fun wS hS => (xLoad Try.underlying27 rfl rfl (hS.cellS hc1))) (sl_of (Ext.refl w).drew) ?_
    refine hTakeS 4 rfl (by kernel_rfl) (by kernel_rfl) rfl (fun wS hS => (xStr Try.underlying27 Try.underlying5 Try.underlying9 rfl (hsl.ext hS))) (sl_of (Ext.refl w).drew) ?_
    refine hTake 5 rfl (by kernel_rfl) rfl (fun wS => (xMvS rfl)) (sl_of (Ext.refl w).drew) ?_
    refine hTake 6 rfl (by kernel_rfl) rfl (fun wS => (xMvI rfl)) (sl_of (Ext.refl w).drew) ?_
    refine hTake 7 rfl (by kernel_rfl) rfl (fun wS => (xIdx1 k Try.underlying39 ti27 rfl rfl (by omega) (by omega))) (sl_of (Ext.refl w).drew) ?_
    refine hTakeS 8 rfl (by kernel_rfl) (by kernel_rfl) rfl (fun wS hS => (xLoad Try.underlying27 rfl rfl (hS.cellS hd1))) (sl_of (Ext.refl w).drew) ?_
    refine hTakeS 9 rfl (by kernel_rfl) (by kernel_rfl) rfl (fun wS hS => (xStr Try.underlying27 Try.underlying5 Try.underlying9 rfl (hsl2.ext hS))) (sl_of (Ext.refl w).drew) ?_
    refine hTake 10 rfl (by kernel_rfl) rfl (fun wS => (xNeqSF rfl rfl)) (sl_of (Ext.refl w).drew) ?_
    refine hDone (by kernel_rfl) ?_
    refine wIfF rfl ?_
    refine wSkip ?_
    refine wReg ?_
    refine sRun (xMvI rfl) ?_
    refine sRun (xAdd64 rfl rfl (by omega) (by omega)) ?_
    refine sRun (xAsI rfl) ?_
    refine sNil ?_
    refine ⟨bss.length - (k + 1), by omega, k + 1, rfl, by omega, ⟨rfl, rfl, rfl, trivial⟩, hx.drew⟩
  · refine sNil ?_
    refine wIfF rfl ?_
    refine wExit ?_
    refine wSeq ?_
    refine wReg ?_
    refine sRun (xAsB rfl) ?_
    refine sNil ?_
    refine wRet ?_
    refine res1 (P := Try.prog) (fn := Try.f19) rfl ?_
    exact ⟨rfl, hx⟩
end Go.Proofs.Ytnppmdhgelfloaa
