/- The contracts of large, Same, fates and of the reference FateOf. -/
import Derived.Test.YtnppmdhgelfloaaL6
set_option linter.unusedVariables false
namespace Go.Proofs.Ytnppmdhgelfloaa
open Go.RowKit Go.Fw


def lg (fs : List Flight) : Bool := (fs.take 30).any (fun f => decide (300 < f.2.length)) || decide (30 < fs.length)
theorem lg_false {fs : List Flight} (h : lg fs = false) : fs.length ≤ 30 ∧ ∀ (i : Nat) (d : Int) (b : List Int), fs[i]? = some (d, b) → b.length ≤ 300 := by
  unfold lg at h
  simp only [Bool.or_eq_false_iff, decide_eq_false_iff_not, Nat.not_lt] at h
  refine ⟨h.2, fun i d b hi => ?_⟩
  rw [List.take_of_length_le h.2] at h
  have := List.any_eq_false.1 h.1 (d, b) (List.mem_of_getElem? hi)
  simpa using this


theorem large_spec (A : Option Addr) (c : Nat) (fs : List Flight) (w0 : World) (hf : FlR w0 w0.heap.size A fs.length fs) (hfs : fs.length ≤ 4611686018427387904) :
    Calls Try.prog 8 #[.slice A fs.length c] w0 (Ret fun v w' => v = .bool (lg fs) ∧ w' = w0) := by
  refine calls_of Try.func8 rfl (Nat.le_of_ble_eq_true rfl) (by kernel_rfl) ?_
  refine wCut [(0, .slice A fs.length c)] ⟨rfl, trivial⟩ fun g => ?_
  refine wSeq ?_
  refine wReg ?_
  refine sRun (xAsB rfl) ?_
  refine sNil ?_
  refine wSeq ?_
  refine wSeq ?_
  refine wReg ?_
  refine sRun (xAsI rfl) ?_
  refine sNil ?_
  refine wBlock ?_
  refine wLoopG (fun n f w => ∃ k, n = fs.length - k ∧ k ≤ fs.length ∧ k ≤ 30 ∧ Has f [(0, .slice A fs.length c), (3, .int .i64 (k : Nat))] ∧ w = w0 ∧ (fs.take k).any (fun f => decide (300 < f.2.length)) = false) (fs.length) ⟨0, rfl, Nat.zero_le _, Nat.zero_le _, ⟨rfl, rfl, trivial⟩, rfl, rfl⟩ ?_
  rintro n f w ⟨k, rfl, hk, hk30, hf0, rfl, hno⟩
  obtain ⟨g, rfl⟩ := has_updL _ _ hf0
  clear hf0
  refine wSeq ?_
  refine wSeq ?_
  refine wReg ?_
  refine sRun (xMvI rfl) ?_
  refine sRun (xMvS rfl) ?_
  refine sRun (xLen Try.underlying22 rfl) ?_
  refine sSplit (xLss rfl rfl) (fun h7 => ?_) (fun h7 => ?_)
  · refine sRun (xMvB rfl) ?_
    refine sGo rfl ?_
    refine sRun (xMvI rfl) ?_
    refine sGo rfl ?_
    refine sSplit (xLss rfl rfl) (fun h10 => ?_) (fun h10 => ?_)
    · obtain ⟨b, o, d, bd, A1, c1, rfl, hb, hfk, hc0, hc1, hsl⟩ := hf.at (k := k) (by omega)
      refine sRun (xPkTB rfl rfl) ?_
      refine sNil ?_
      refine wIfT rfl ?_
      refine wSkip ?_
      refine wSeq ?_
      refine wBlock ?_
      refine wSeq ?_
      refine wReg ?_
      refine sRun (xMvS rfl) ?_
      refine sRun (xMvI rfl) ?_
      refine sRun (xIdx k Try.underlying22 ti37 rfl rfl (by omega) (by omega)) ?_
      refine sRun (xFld (k := 1) Try.underlying37 rfl rfl ti27 (by decide) rfl) ?_
      refine sRun (xLoad Try.underlying27 rfl rfl hc1) ?_
      refine sRun (xLen Try.underlying27 rfl) ?_
      refine sSplit (xGtr rfl rfl) (fun h20 => ?_) (fun h20 => ?_)
      · refine sNil ?_
        refine wIfT rfl ?_
        refine wSeq ?_
        refine wReg ?_
        refine sRun (xAsB rfl) ?_
        refine sNil ?_
        refine wRet ?_
        refine res1 (P := Try.prog) (fn := Try.f8) rfl ?_
        refine ⟨congrArg Value.bool ?_, rfl⟩
        symm
        unfold lg
        rw [List.any_eq_true.2 ⟨(d, bd), ?_, by simp; omega⟩, Bool.true_or]
        exact List.mem_of_getElem? (i := k) (by rw [List.getElem?_take, if_pos (by omega)]; exact hfk)
      · refine sNil ?_
        refine wIfF rfl ?_
        refine wSkip ?_
        refine wReg ?_
        refine sRun (xMvI rfl) ?_
        refine sRun (xAdd64 rfl rfl (by omega) (by omega)) ?_
        refine sRun (xAsI rfl) ?_
        refine sNil ?_
        refine ⟨fs.length - (k + 1), by omega, k + 1, rfl, by omega, by omega, ⟨rfl, rfl, trivial⟩, rfl, ?_⟩
        rw [take_snoc hfk, List.any_append, hno]
        simp
        omega
    · refine sRun (xPkTB rfl rfl) ?_
      refine sNil ?_
      refine wIfF rfl ?_
      refine wExit ?_
      refine wSeq ?_
      refine wReg ?_
      refine sRun (xMvS rfl) ?_
      refine sRun (xLen Try.underlying22 rfl) ?_
      refine sRun (xGtr rfl rfl) ?_
      refine sRun (xAsB rfl) ?_
      refine sNil ?_
      refine wRet ?_
      refine res1 (P := Try.prog) (fn := Try.f8) rfl ?_
      refine ⟨congrArg Value.bool ?_, rfl⟩
      unfold lg
      have hno2 : (fs.take 30).any (fun f => decide (300 < f.2.length)) = false := by
        rw [← hno]
        congr 1
        rw [show k = 30 by omega]
      rw [hno2, Bool.false_or]
      exact decide_eq_decide.2 (by omega)
  · refine sRun (xMvB rfl) ?_
    refine sNo rfl ?_
    refine sNo rfl ?_
    refine sRun (xPkFB rfl rfl) ?_
    refine sNil ?_
    refine wIfF rfl ?_
    refine wExit ?_
    refine wSeq ?_
    refine wReg ?_
    refine sRun (xMvS rfl) ?_
    refine sRun (xLen Try.underlying22 rfl) ?_
    refine sRun (xGtr rfl rfl) ?_
    refine sRun (xAsB rfl) ?_
    refine sNil ?_
    refine wRet ?_
    refine res1 (P := Try.prog) (fn := Try.f8) rfl ?_
    refine ⟨congrArg Value.bool ?_, rfl⟩
    unfold lg
    have hno2 : (fs.take 30).any (fun f => decide (300 < f.2.length)) = false := by
      rw [← hno]
      congr 1
      rw [List.take_of_length_le (by omega), List.take_of_length_le (by omega)]
    rw [hno2, Bool.false_or]
    exact decide_eq_decide.2 (by omega)


theorem same_spec (A A' : Option Addr) (c c' : Nat) (fs : List Flight) (w0 : World) (hf : FlR w0 w0.heap.size A fs.length fs) (hf2 : FlR w0 w0.heap.size A' fs.length fs) (hfs : fs.length ≤ 4611686018427387904) :
    Calls Try.prog 11 #[.slice A fs.length c, .slice A' fs.length c'] w0 (Ret fun v w' => v = .bool true ∧ Ext w0 w') := by
  refine calls_of Try.func11 rfl (Nat.le_of_ble_eq_true rfl) (by kernel_rfl) ?_
  refine wCut [(0, .slice A fs.length c), (1, .slice A' fs.length c')] ⟨rfl, rfl, trivial⟩ fun g => ?_
  refine wSeq ?_
  refine wReg ?_
  refine sRun (xAsB rfl) ?_
  refine sNil ?_
  refine wSeq ?_
  refine wSeq ?_
  refine wReg ?_
  refine sRun (xMvS rfl) ?_
  refine sRun (xLen Try.underlying22 rfl) ?_
  refine sRun (xMvS rfl) ?_
  refine sRun (xLen Try.underlying22 rfl) ?_
  refine sRun (xNeqF rfl rfl (by omega)) ?_
  refine sNil ?_
  refine wIfF rfl ?_
  refine wSkip ?_
  refine wSeq ?_
  refine wSeq ?_
  refine wReg ?_
  refine sRun (xAsI rfl) ?_
  refine sNil ?_
  refine wBlock ?_
  refine wLoopG (fun n f w => ∃ k, n = fs.length - k ∧ k ≤ fs.length ∧ Has f [(0, .slice A fs.length c), (1, .slice A' fs.length c'), (5, .int .i64 (k : Nat))] ∧ Ext w0 w) (fs.length) ⟨0, rfl, Nat.zero_le _, ⟨rfl, rfl, rfl, trivial⟩, Ext.refl _⟩ ?_
  rintro n f w ⟨k, rfl, hk, hf0, hx⟩
  obtain ⟨g, rfl⟩ := has_updL _ _ hf0
  clear hf0
  refine wSeq ?_
  refine wSeq ?_
  refine wReg ?_
  refine sRun (xMvI rfl) ?_
  refine sRun (xMvS rfl) ?_
  refine sRun (xLen Try.underlying22 rfl) ?_
  refine sSplit (xLss rfl rfl) (fun h14 => ?_) (fun h14 => ?_)
  · obtain ⟨b, o, d, bd, A1, c1, rfl, hb, hfk, hc0, hc1, hsl⟩ := (hf.ext hx).at (k := k) (by omega)
    obtain ⟨b2, o2, d2, bd2, A2, c2, rfl, hb2, hfk2, hd0, hd1, hsl2⟩ := (hf2.ext hx).at (k := k) (by omega)
    obtain ⟨rfl, rfl⟩ : d = d2 ∧ bd = bd2 := by rw [hfk] at hfk2; simpa using hfk2
    refine sNil ?_
    refine wIfT rfl ?_
    refine wSkip ?_
    refine wSeq ?_
    refine wBlock ?_
    refine wSeq ?_
    refine wDraw (fun wS => Ext w wS) [] (by kernel_rfl) ?_
    refine hTake 0 rfl (by kernel_rfl) rfl (fun wS => (xMvS rfl)) (sl_of (Ext.refl w).drew) ?_
    refine hTake 1 rfl (by kernel_rfl) rfl (fun wS => (xMvI rfl)) (sl_of (Ext.refl w).drew) ?_
    refine hTake 2 rfl (by kernel_rfl) rfl (fun wS => (xIdx k Try.underlying22 ti37 rfl rfl (by omega) (by omega))) (sl_of (Ext.refl w).drew) ?_
    refine hTake 3 rfl (by kernel_rfl) rfl (fun wS => (xFld0 Try.underlying37 rfl rfl ti3 (by decide) rfl)) (sl_of (Ext.refl w).drew) ?_
    refine hTakeS 4 rfl (by kernel_rfl) (by kernel_rfl) rfl (fun wS hS => (xLoad Try.underlying3 rfl rfl (hS.cellS hc0))) (sl_of (Ext.refl w).drew) ?_
    refine hTake 5 rfl (by kernel_rfl) rfl (fun wS => (xMvS rfl)) (sl_of (Ext.refl w).drew) ?_
    refine hTake 6 rfl (by kernel_rfl) rfl (fun wS => (xMvI rfl)) (sl_of (Ext.refl w).drew) ?_
    refine hTake 7 rfl (by kernel_rfl) rfl (fun wS => (xIdx k Try.underlying22 ti37 rfl rfl (by omega) (by omega))) (sl_of (Ext.refl w).drew) ?_
    refine hTake 8 rfl (by kernel_rfl) rfl (fun wS => (xFld0 Try.underlying37 rfl rfl ti3 (by decide) rfl)) (sl_of (Ext.refl w).drew) ?_
    refine hTakeS 9 rfl (by kernel_rfl) (by kernel_rfl) rfl (fun wS hS => (xLoad Try.underlying3 rfl rfl (hS.cellS hd0))) (sl_of (Ext.refl w).drew) ?_
    refine hTake 10 rfl (by kernel_rfl) rfl (fun wS => (xNeqF rfl rfl (by omega))) (sl_of (Ext.refl w).drew) ?_
    refine hTake 11 rfl (by kernel_rfl) rfl (fun wS => (xMvB rfl)) (sl_of (Ext.refl w).drew) ?_
    refine hTake 12 rfl (by kernel_rfl) rfl (fun wS => (xMvS rfl)) (sl_of (Ext.refl w).drew) ?_
    refine hTake 13 rfl (by kernel_rfl) rfl (fun wS => (xMvI rfl)) (sl_of (Ext.refl w).drew) ?_
    refine hTake 14 rfl (by kernel_rfl) rfl (fun wS => (xIdx k Try.underlying22 ti37 rfl rfl (by omega) (by omega))) (sl_of (Ext.refl w).drew) ?_
    refine hTake 15 rfl (by kernel_rfl) rfl (fun wS => (xFld (k := 1) Try.underlying37 rfl rfl ti27 (by decide) rfl)) (sl_of (Ext.refl w).drew) ?_
    refine hTakeS 16 rfl (by kernel_rfl) (by kernel_rfl) rfl (fun wS hS => (xLoad Try.underlying27 rfl rfl (hS.cellS hc1))) (sl_of (Ext.refl w).drew) ?_
    refine hTakeS 17 rfl (by kernel_rfl) (by kernel_rfl) rfl (fun wS hS => (xStr Try.underlying27 Try.underlying5 Try.underlying9 rfl (hsl.ext hS))) (sl_of (Ext.refl w).drew) ?_
    refine hTake 18 rfl (by kernel_rfl) rfl (fun wS => (xMvS rfl)) (sl_of (Ext.refl w).drew) ?_
    refine hTake 19 rfl (by kernel_rfl) rfl (fun wS => (xMvI rfl)) (sl_of (Ext.refl w).drew) ?_
    refine hTake 20 rfl (by kernel_rfl) rfl (fun wS => (xIdx k Try.underlying22 ti37 rfl rfl (by omega) (by omega))) (sl_of (Ext.refl w).drew) ?_
    refine hTake 21 rfl (by kernel_rfl) rfl (fun wS => (xFld (k := 1) Try.underlying37 rfl rfl ti27 (by decide) rfl)) (sl_of (Ext.refl w).drew) ?_
    refine hTakeS 22 rfl (by kernel_rfl) (by kernel_rfl) rfl (fun wS hS => (xLoad Try.underlying27 rfl rfl (hS.cellS hd1))) (sl_of (Ext.refl w).drew) ?_
    refine hTakeS 23 rfl (by kernel_rfl) (by kernel_rfl) rfl (fun wS hS => (xStr Try.underlying27 Try.underlying5 Try.underlying9 rfl (hsl2.ext hS))) (sl_of (Ext.refl w).drew) ?_
    refine hTake 24 rfl (by kernel_rfl) rfl (fun wS => (xNeqSF rfl rfl)) (sl_of (Ext.refl w).drew) ?_
    refine hTake 25 rfl (by kernel_rfl) rfl (fun wS => (xPkFB rfl rfl)) (sl_of (Ext.refl w).drew) ?_
    refine hDone (by kernel_rfl) ?_
    refine wIfF rfl ?_
    refine wSkip ?_
    refine wReg ?_
    refine sRun (xMvI rfl) ?_
    refine sRun (xAdd64 rfl rfl (by omega) (by omega)) ?_
    refine sRun (xAsI rfl) ?_
    refine sNil ?_
    refine ⟨fs.length - (k + 1), by omega, k + 1, rfl, by omega, ⟨rfl, rfl, rfl, trivial⟩, hx.drew⟩
  · refine sNil ?_
    refine wIfF rfl ?_
    refine wExit ?_
    refine wSeq ?_
    refine wReg ?_
    refine sRun (xAsB rfl) ?_
    refine sNil ?_
    refine wRet ?_
    refine res1 (P := Try.prog) (fn := Try.f11) rfl ?_
    exact ⟨rfl, hx⟩


theorem fates_spec (Ad Ad2 : Option Addr) (cd cd2 : Nat) (ds : List Int) (at_ mask : Int) (w0 : World) (hd : Sl w0 w0.heap.size 1 Ad ds.length (ins ds)) (hd2 : Sl w0 w0.heap.size 1 Ad2 ds.length (ins ds)) (hds : ds.length ≤ 4611686018427387904) :
    Calls Try.prog 14 #[.agg #[.slice Ad ds.length cd, .int .i64 at_, .int .i64 mask], .agg #[.slice Ad2 ds.length cd2, .int .i64 at_, .int .i64 mask]] w0 (Ret fun v w' => v = .bool true ∧ Ext w0 w') := by
  refine calls_of Try.func14 rfl (Nat.le_of_ble_eq_true rfl) (by kernel_rfl) ?_
  refine wCut [(0, .agg #[.slice Ad ds.length cd, .int .i64 at_, .int .i64 mask]), (1, .agg #[.slice Ad2 ds.length cd2, .int .i64 at_, .int .i64 mask])] ⟨rfl, rfl, trivial⟩ fun g => ?_
  refine wSeq ?_
  refine wReg ?_
  refine sTo (aNew (mBox rfl)) ?_
  rintro _ w2 ⟨b2, rfl, hge2, hB2, he2⟩
  refine sTo (aNew (mBox rfl)) ?_
  rintro _ w3 ⟨b3, rfl, hge3, hB3, he3⟩
  refine sRun (xAsB rfl) ?_
  refine sNil ?_
  refine wSeq ?_
  refine wSeq ?_
  refine wReg ?_
  refine sRun (xFld (k := 1) Try.underlying25 rfl rfl ti3 (by decide) rfl) ?_
  refine sRun (xLoad Try.underlying3 rfl rfl ((hB2.ext he3).cell (i := 0 + 1) rfl)) ?_
  refine sRun (xFld (k := 1) Try.underlying25 rfl rfl ti3 (by decide) rfl) ?_
  refine sRun (xLoad Try.underlying3 rfl rfl (hB3.cell (i := 0 + 1) rfl)) ?_
  refine sRun (xNeqF rfl rfl rfl) ?_
  refine sRun (xMvB rfl) ?_
  refine sGo rfl ?_
  refine sRun (xFld (k := 2) Try.underlying25 rfl rfl ti3 (by decide) rfl) ?_
  refine sGo rfl ?_
  refine sRun (xLoad Try.underlying3 rfl rfl ((hB2.ext he3).cell (i := 0 + 2) rfl)) ?_
  refine sGo rfl ?_
  refine sRun (xFld (k := 2) Try.underlying25 rfl rfl ti3 (by decide) rfl) ?_
  refine sGo rfl ?_
  refine sRun (xLoad Try.underlying3 rfl rfl (hB3.cell (i := 0 + 2) rfl)) ?_
  refine sGo rfl ?_
  refine sRun (xNeqF rfl rfl rfl) ?_
  refine sRun (xPkFB rfl rfl) ?_
  refine sRun (xMvB rfl) ?_
  refine sGo rfl ?_
  refine sRun (xFld0 Try.underlying25 rfl rfl ti23 (by decide) rfl) ?_
  refine sGo rfl ?_
  refine sRun (xLoad Try.underlying23 rfl rfl ((hB2.ext he3).cell (i := 0) rfl)) ?_
  refine sGo rfl ?_
  refine sRun (xLen Try.underlying23 rfl) ?_
  refine sGo rfl ?_
  refine sRun (xFld0 Try.underlying25 rfl rfl ti23 (by decide) rfl) ?_
  refine sGo rfl ?_
  refine sRun (xLoad Try.underlying23 rfl rfl (hB3.cell (i := 0) rfl)) ?_
  refine sGo rfl ?_
  refine sRun (xLen Try.underlying23 rfl) ?_
  refine sGo rfl ?_
  refine sRun (xNeqF rfl rfl rfl) ?_
  refine sRun (xPkFB rfl rfl) ?_
  refine sNil ?_
  refine wIfF rfl ?_
  refine wSkip ?_
  refine wSeq ?_
  refine wSeq ?_
  refine wReg ?_
  refine sRun (xAsI rfl) ?_
  refine sNil ?_
  refine wBlock ?_
  refine wLoopG (fun n f w => ∃ k, n = ds.length - k ∧ k ≤ ds.length ∧ Has f [(2, .pointer (some ⟨b2, 0, none⟩)), (3, .pointer (some ⟨b3, 0, none⟩)), (5, .int .i64 (k : Nat))] ∧ Ext w3 w) (ds.length) ⟨0, rfl, Nat.zero_le _, ⟨rfl, rfl, rfl, trivial⟩, Ext.refl _⟩ ?_
  rintro n f w ⟨k, rfl, hk, hf0, hx⟩
  obtain ⟨g, rfl⟩ := has_updL _ _ hf0
  clear hf0
  refine wSeq ?_
  refine wSeq ?_
  refine wReg ?_
  refine sRun (xMvI rfl) ?_
  refine sRun (xFld0 Try.underlying25 rfl rfl ti23 (by decide) rfl) ?_
  refine sRun (xLoad Try.underlying23 rfl rfl ((hB2.ext (he3.trans hx)).cell (i := 0) rfl)) ?_
  refine sRun (xLen Try.underlying23 rfl) ?_
  refine sSplit (xLss rfl rfl) (fun h31 => ?_) (fun h31 => ?_)
  · obtain ⟨b, o, v, rfl, hb, hv, hc⟩ := Sl.at1 (hd.ext ((he2.trans he3).trans hx)) (k := k) (by omega)
    obtain ⟨d, hdk, rfl⟩ := ins_at hv
    obtain ⟨b2, o2, v2, rfl, hb2, hv2, hc2⟩ := Sl.at1 (hd2.ext ((he2.trans he3).trans hx)) (k := k) (by omega)
    obtain ⟨d2, hdk2, rfl⟩ := ins_at hv2
    obtain rfl : d = d2 := by rw [hdk] at hdk2; injection hdk2
    refine sNil ?_
    refine wIfT rfl ?_
    refine wSkip ?_
    refine wSeq ?_
    refine wBlock ?_
    refine wSeq ?_
    refine wDraw (fun wS => Ext w wS) [] (by kernel_rfl) ?_
    refine hTake 0 rfl (by kernel_rfl) rfl (fun wS => (xFld0 Try.underlying25 rfl rfl ti23 (by decide) rfl)) (sl_of (Ext.refl w).drew) ?_
    refine hTakeS 1 rfl (by kernel_rfl) (by kernel_rfl) rfl (fun wS hS => (xLoad Try.underlying23 rfl rfl ((hB2.ext ((he3.trans hx).trans hS)).cell (i := 0) rfl))) (sl_of (Ext.refl w).drew) ?_
    refine hTake 2 rfl (by kernel_rfl) rfl (fun wS => (xMvI rfl)) (sl_of (Ext.refl w).drew) ?_
    refine hTake 3 rfl (by kernel_rfl) rfl (fun wS => (xIdx1 k Try.underlying23 ti3 rfl rfl (by omega) (by omega))) (sl_of (Ext.refl w).drew) ?_
    refine hTakeS 4 rfl (by kernel_rfl) (by kernel_rfl) rfl (fun wS hS => (xLoad Try.underlying3 rfl rfl (hS.cellS hc))) (sl_of (Ext.refl w).drew) ?_
    refine hTake 5 rfl (by kernel_rfl) rfl (fun wS => (xFld0 Try.underlying25 rfl rfl ti23 (by decide) rfl)) (sl_of (Ext.refl w).drew) ?_
    refine hTakeS 6 rfl (by kernel_rfl) (by kernel_rfl) rfl (fun wS hS => (xLoad Try.underlying23 rfl rfl ((hB3.ext (hx.trans hS)).cell (i := 0) rfl))) (sl_of (Ext.refl w).drew) ?_
    refine hTake 7 rfl (by kernel_rfl) rfl (fun wS => (xMvI rfl)) (sl_of (Ext.refl w).drew) ?_
    refine hTake 8 rfl (by kernel_rfl) rfl (fun wS => (xIdx1 k Try.underlying23 ti3 rfl rfl (by omega) (by omega))) (sl_of (Ext.refl w).drew) ?_
    refine hTakeS 9 rfl (by kernel_rfl) (by kernel_rfl) rfl (fun wS hS => (xLoad Try.underlying3 rfl rfl (hS.cellS hc2))) (sl_of (Ext.refl w).drew) ?_
    refine hTake 10 rfl (by kernel_rfl) rfl (fun wS => (xNeqF rfl rfl rfl)) (sl_of (Ext.refl w).drew) ?_
    refine hDone (by kernel_rfl) ?_
    refine wIfF rfl ?_
    refine wSkip ?_
    refine wReg ?_
    refine sRun (xMvI rfl) ?_
    refine sRun (xAdd64 rfl rfl (by omega) (by omega)) ?_
    refine sRun (xAsI rfl) ?_
    refine sNil ?_
    refine ⟨ds.length - (k + 1), by omega, k + 1, rfl, by omega, ⟨rfl, rfl, rfl, trivial⟩, hx.drew⟩
  · refine sNil ?_
    refine wIfF rfl ?_
    refine wExit ?_
    refine wSeq ?_
    refine wReg ?_
    refine sRun (xAsB rfl) ?_
    refine sNil ?_
    refine wRet ?_
    refine res1 (P := Try.prog) (fn := Try.f14) rfl ?_
    exact ⟨rfl, (he2.trans he3).trans hx⟩

theorem bs16_13 {ρ : Operand → Value} {w : World} {d : Option Nat} {ty : TypeId} {pos : String} {af : Array Edge} {g : Option (Nat × Bool)}    :
    (execOp ρ ⟨d, .buildSlice 23 0 #[], ty, pos, af, g⟩).run Try.prog w = .ok (.value (.slice (some ⟨w.heap.size, 0, none⟩) 0 0)) (w.alloc (.cells #[] 3)) := by
  have e : (Instr.buildSlice 23 0 #[]).run Try.prog w = .ok (.slice (some ⟨w.heap.size, 0, none⟩) 0 0) (w.alloc (.cells #[] 3)) := by kernel_rfl
  simp [execOp, e]
theorem bd16_30 {ρ : Operand → Value} {w : World} {d : Option Nat} {ty : TypeId} {pos : String} {af : Array Edge} {g : Option (Nat × Bool)} {x0A : Option Addr} {x0n x0c : Nat} {x1 : Int} {x2 : Int} {o0 : Operand} {o1 : Operand} {o2 : Operand} (h0 : ρ o0 = .slice x0A x0n x0c) (h1 : ρ o1 = .int .i64 x1) (h2 : ρ o2 = .int .i64 x2) : Yl Try.prog ρ (.build 25 #[(0, o0), (1, o1), (2, o2)]) d ty pos af g w (.agg #[.slice x0A x0n x0c, .int .i64 x1, .int .i64 x2]) := by
  have e : (Instr.build 25 #[(0, .slice x0A x0n x0c), (1, .int .i64 x1), (2, .int .i64 x2)]).run Try.prog w = .ok (.agg #[.slice x0A x0n x0c, .int .i64 x1, .int .i64 x2]) w := by kernel_rfl
  simp [Yl, execOp, h0, h1, h2, e]
theorem bs16_31 {ρ : Operand → Value} {w : World} {d : Option Nat} {ty : TypeId} {pos : String} {af : Array Edge} {g : Option (Nat × Bool)} {x0 : Int} {o0 : Operand} (h0 : ρ o0 = .int .i64 x0) :
    (execOp ρ ⟨d, .buildSlice 23 1 #[(0, o0)], ty, pos, af, g⟩).run Try.prog w = .ok (.value (.slice (some ⟨w.heap.size, 0, none⟩) 1 1)) (w.alloc (.cells #[.int .i64 x0] 3)) := by
  have e : (Instr.buildSlice 23 1 #[(0, .int .i64 x0)]).run Try.prog w = .ok (.slice (some ⟨w.heap.size, 0, none⟩) 1 1) (w.alloc (.cells #[.int .i64 x0] 3)) := by kernel_rfl
  simp [execOp, h0, e]
theorem bd16_32 {ρ : Operand → Value} {w : World} {d : Option Nat} {ty : TypeId} {pos : String} {af : Array Edge} {g : Option (Nat × Bool)} {x0A : Option Addr} {x0n x0c : Nat} {o0 : Operand} (h0 : ρ o0 = .slice x0A x0n x0c) : Yl Try.prog ρ (.build 25 #[(0, o0)]) d ty pos af g w (.agg #[.slice x0A x0n x0c, .int .i64 0, .int .i64 0]) := by
  have e : (Instr.build 25 #[(0, .slice x0A x0n x0c)]).run Try.prog w = .ok (.agg #[.slice x0A x0n x0c, .int .i64 0, .int .i64 0]) w := by kernel_rfl
  simp [Yl, execOp, h0, e]
theorem refFateOf_spec (A : Option Addr) (c : Nat) (fas : List Fate) (n : Int) (w : World) (ha : FaR w w.heap.size A fas.length fas) (hl : fas.length ≤ 1000000000) (hdel : ∀ (k : Nat) (fa : Fate), fas[k]? = some fa → fa.1.length ≤ 17592186044416) :
    Calls Try.prog 16 #[.slice A fas.length c, .int .i64 n] w (Ret fun v w' => ∃ Ad cd, v = .agg #[.slice Ad (fateF fas n).1.length cd, .int .i64 (fateF fas n).2.1, .int .i64 (fateF fas n).2.2] ∧ Sl w' w'.heap.size 1 Ad (fateF fas n).1.length (ins (fateF fas n).1) ∧ Ext w w') := by
  refine calls_of Try.func16 rfl (Nat.le_of_ble_eq_true rfl) (by kernel_rfl) ?_
  refine wCut [(0, .slice A fas.length c), (1, .int .i64 n)] ⟨rfl, rfl, trivial⟩ fun g => ?_
  refine wSeq ?_
  refine wReg ?_
  refine sTo (aNew (mAlloc ti25)) ?_
  rintro _ w4 ⟨b4, rfl, hge4, hB4, he4⟩
  refine sNil ?_
  refine wSeq ?_
  refine wSeq ?_
  refine wReg ?_
  refine sRun (xMvI rfl) ?_
  refine sSplit (xGeq rfl rfl) (fun h6 => ?_) (fun h6 => ?_)
  · refine sRun (xMvB rfl) ?_
    refine sGo rfl ?_
    refine sRun (xMvI rfl) ?_
    refine sGo rfl ?_
    refine sRun (xMvS rfl) ?_
    refine sGo rfl ?_
    refine sRun (xLen Try.underlying26 rfl) ?_
    refine sGo rfl ?_
    refine sSplit (xLss rfl rfl) (fun h11 => ?_) (fun h11 => ?_)
    · obtain ⟨fa, hfa⟩ : ∃ fa, fas[n.toNat]? = some fa := ⟨fas[n.toNat]'(by omega), List.getElem?_eq_getElem (by omega)⟩
      obtain ⟨b, o, Ad, cd, rfl, hb, hc0, hc1, hc2, hsl⟩ := ha.2 n.toNat fa hfa
      have hdl : fa.1.length ≤ 17592186044416 := hdel n.toNat fa hfa
      refine sRun (xPkTB rfl rfl) ?_
      refine sNil ?_
      refine wIfT rfl ?_
      refine wSeq ?_
      refine wDraw (fun wS => Ext w4 wS) [18] (by kernel_rfl) ?_
      refine hTake 1 rfl (by kernel_rfl) rfl (fun wS => (xMvS rfl)) (sl_of (Ext.refl w4).drew) ?_
      refine hTake 2 rfl (by kernel_rfl) rfl (fun wS => (xMvI rfl)) (sl_of (Ext.refl w4).drew) ?_
      refine hTake 3 rfl (by kernel_rfl) rfl (fun wS => (xIdx n.toNat Try.underlying26 ti25 rfl rfl (by omega) (by omega))) (sl_of (Ext.refl w4).drew) ?_
      refine hTake 4 rfl (by kernel_rfl) rfl (fun wS => (xFld0 Try.underlying25 rfl rfl ti23 (by decide) rfl)) (sl_of (Ext.refl w4).drew) ?_
      refine hTakeS 5 rfl (by kernel_rfl) (by kernel_rfl) rfl (fun wS hS => (xLoad Try.underlying23 rfl rfl ((he4.trans hS).cellS hc0))) (sl_of (Ext.refl w4).drew) ?_
      refine hTake 7 rfl (by kernel_rfl) rfl (fun wS => (xMvS rfl)) (sl_of (Ext.refl w4).drew) ?_
      refine hTake 8 rfl (by kernel_rfl) rfl (fun wS => (xMvI rfl)) (sl_of (Ext.refl w4).drew) ?_
      refine hTake 9 rfl (by kernel_rfl) rfl (fun wS => (xIdx n.toNat Try.underlying26 ti25 rfl rfl (by omega) (by omega))) (sl_of (Ext.refl w4).drew) ?_
      refine hTake 10 rfl (by kernel_rfl) rfl (fun wS => (xFld (k := 1) Try.underlying25 rfl rfl ti3 (by decide) rfl)) (sl_of (Ext.refl w4).drew) ?_
      refine hTakeS 11 rfl (by kernel_rfl) (by kernel_rfl) rfl (fun wS hS => (xLoad Try.underlying3 rfl rfl ((he4.trans hS).cellS hc1))) (sl_of (Ext.refl w4).drew) ?_
      refine hTake 12 rfl (by kernel_rfl) rfl (fun wS => (xMvS rfl)) (sl_of (Ext.refl w4).drew) ?_
      refine hTake 13 rfl (by kernel_rfl) rfl (fun wS => (xMvI rfl)) (sl_of (Ext.refl w4).drew) ?_
      refine hTake 14 rfl (by kernel_rfl) rfl (fun wS => (xIdx n.toNat Try.underlying26 ti25 rfl rfl (by omega) (by omega))) (sl_of (Ext.refl w4).drew) ?_
      refine hTake 15 rfl (by kernel_rfl) rfl (fun wS => (xFld (k := 2) Try.underlying25 rfl rfl ti3 (by decide) rfl)) (sl_of (Ext.refl w4).drew) ?_
      refine hTakeS 16 rfl (by kernel_rfl) (by kernel_rfl) rfl (fun wS hS => (xLoad Try.underlying3 rfl rfl ((he4.trans hS).cellS hc2))) (sl_of (Ext.refl w4).drew) ?_
      refine hOne 0 (by kernel_rfl) (oTo rfl rfl (aRow (bs16_13)) ?_)
      rintro _ w13 ⟨b13, rfl, hge13, hB13, he13⟩
      refine ⟨(sl_of ((Ext.refl w4).drew.trans he13)), ?_⟩
      have hx13 : Ext w4 w13 := (Ext.refl w4).drew.trans he13
      refine hOne 6 (by kernel_rfl) (oTo rfl rfl (aAppend (w4.heap.size) (fa.1.length) Try.underlying23 ti3 rfl (by decide) rfl rfl (hB13.own (n := 0) (size := 1) (by have := (Ext.refl w4).drew.le; omega) (by decide) rfl) (hsl.ext (he4.trans hx13)) (ins_one _) (by have := hx13.le; omega) (by omega) (by omega) (by omega)) ?_)
      rintro _ w19 ⟨A19, c19, rfl, ho19, hg19, hr19⟩
      refine ⟨(sl_of (grown_ext hx13 hg19 (fun i hi => by simp [rowOf] at hi; have := (Ext.refl w4).drew.le; omega))), ?_⟩
      have hx19 : Ext w4 w19 := (grown_ext hx13 hg19 (fun i hi => by simp [rowOf] at hi; have := (Ext.refl w4).drew.le; omega))
      have ho19 : Own w19 w4.heap.size 3 1 A19 fa.1.length c19 (ins fa.1) := by simpa using ho19
      refine hTake 17 rfl (by kernel_rfl) rfl (fun wS => (bd16_30 rfl rfl rfl)) (sl_of (grown_ext hx13 hg19 (fun i hi => by simp [rowOf] at hi; have := (Ext.refl w4).drew.le; omega))) ?_
      refine hOne 18 (by kernel_rfl) (oStS rfl rfl ti25 rfl rfl rfl (by simp [Value.oneCell']) (hB4.ext hx19) rfl ?_)
      intro wz hBz hCz
      have hez : Ext w wz := Chg.ext (he4.trans hx19) hCz hge4
      have hoz := ho19.keptB hCz (ho19.apartB (hB4.ext hx19) (by decide))
      refine ⟨(sl_late 18 (by kernel_rfl)), ?_⟩
      refine hDone (by kernel_rfl) ?_
      refine wRet ?_
      refine resC (P := Try.prog) (fn := Try.f16) rfl Try.underlying25 rfl ti25 rfl rfl hBz ?_
      refine ⟨A19, c19, ?_, ?_, hez⟩
      · unfold fateF; rw [if_pos ⟨by omega, by omega⟩, List.getD_eq_getElem?_getD, hfa]; rfl
      · unfold fateF; rw [if_pos ⟨by omega, by omega⟩, List.getD_eq_getElem?_getD, hfa]; exact hoz.sl
    · refine sRun (xPkTB rfl rfl) ?_
      refine sNil ?_
      refine wIfF rfl ?_
      refine wSkip ?_
      refine wSeq ?_
      refine wReg ?_
      refine sTo (aRow (bs16_31 rfl)) ?_
      rintro _ w31 ⟨b31, rfl, hge31, hB31, he31⟩
      refine sRun (bd16_32 rfl) ?_
      refine sStS ti25 rfl rfl rfl (by simp [Value.oneCell']) (hB4.ext he31) rfl ?_
      intro wz hBz hCz
      have hez : Ext w wz := Chg.ext (he4.trans he31) hCz hge4
      have hB14z := hB31.chg hCz (hB31.ne (hB4.ext he31) (by decide))
      refine sNil ?_
      refine wRet ?_
      refine resC (P := Try.prog) (fn := Try.f16) rfl Try.underlying25 rfl ti25 rfl rfl hBz ?_
      refine ⟨some ⟨b31, 0, none⟩, 1, ?_, ?_, hez⟩
      · unfold fateF; rw [if_neg (by omega)]; rfl
      · unfold fateF; rw [if_neg (by omega)]; exact hB14z.sl (n := 1) (size := 1) rfl
  · refine sRun (xMvB rfl) ?_
    refine sNo rfl ?_
    refine sNo rfl ?_
    refine sNo rfl ?_
    refine sNo rfl ?_
    refine sRun (xPkFB rfl rfl) ?_
    refine sNil ?_
    refine wIfF rfl ?_
    refine wSkip ?_
    refine wSeq ?_
    refine wReg ?_
    refine sTo (aRow (bs16_31 rfl)) ?_
    rintro _ w31 ⟨b31, rfl, hge31, hB31, he31⟩
    refine sRun (bd16_32 rfl) ?_
    refine sStS ti25 rfl rfl rfl (by simp [Value.oneCell']) (hB4.ext he31) rfl ?_
    intro wz hBz hCz
    have hez : Ext w wz := Chg.ext (he4.trans he31) hCz hge4
    have hB14z := hB31.chg hCz (hB31.ne (hB4.ext he31) (by decide))
    refine sNil ?_
    refine wRet ?_
    refine resC (P := Try.prog) (fn := Try.f16) rfl Try.underlying25 rfl ti25 rfl rfl hBz ?_
    refine ⟨some ⟨b31, 0, none⟩, 1, ?_, ?_, hez⟩
    · unfold fateF; rw [if_neg (by omega)]; rfl
    · unfold fateF; rw [if_neg (by omega)]; exact hB14z.sl (n := 1) (size := 1) rfl

end Go.Proofs.Ytnppmdhgelfloaa
