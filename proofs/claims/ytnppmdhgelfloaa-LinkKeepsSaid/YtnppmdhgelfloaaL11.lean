/- The contract of symMerge. -/
import Derived.Test.YtnppmdhgelfloaaL10
set_option linter.unusedVariables false
namespace Go.Proofs.Ytnppmdhgelfloaa
open Go.RowKit Go.Fw

theorem cal30 : Callable Try.prog 30 := ⟨_, Try.func30, by kernel_rfl, by kernel_rfl⟩
theorem cal31 : Callable Try.prog 31 := ⟨_, Try.func31, by kernel_rfl, by kernel_rfl⟩
theorem seg_get1 {pre X Y post : List G} {i : Nat} (h : pre.length ≤ i) (h2 : i < pre.length + X.length) : (pre ++ X ++ Y ++ post)[i]? = X[i - pre.length]? := by
  rw [List.append_assoc, List.append_assoc, List.getElem?_append_right h, List.getElem?_append_left (by omega)]
theorem seg_get2 {pre X Y post : List G} {i : Nat} (h : pre.length + X.length ≤ i) (h2 : i < pre.length + X.length + Y.length) : (pre ++ X ++ Y ++ post)[i]? = Y[i - (pre.length + X.length)]? := by
  rw [List.append_assoc (pre ++ X), List.getElem?_append_right (by simp; omega), List.getElem?_append_left (by simp; omega)]
  simp
theorem nth {l : List G} {i : Nat} (h : i < l.length) : ∃ x, l[i]? = some x := ⟨l[i], List.getElem?_eq_getElem h⟩
theorem mem_take_get {l : List G} {k : Nat} {x : G} (h : x ∈ l.take k) : ∃ i, i < k ∧ l[i]? = some x := by
  obtain ⟨i, hi⟩ := List.mem_iff_getElem?.1 h
  rw [List.getElem?_take] at hi
  split at hi
  · exact ⟨i, ‹_›, hi⟩
  · cases hi
theorem mem_drop_get {l : List G} {k : Nat} {x : G} (h : x ∈ l.drop k) : ∃ i, k ≤ i ∧ l[i]? = some x := by
  obtain ⟨i, hi⟩ := List.mem_iff_getElem?.1 h
  rw [List.getElem?_drop] at hi
  exact ⟨k + i, by omega, hi⟩


set_option maxHeartbeats 8000000 in
set_option maxRecDepth 8000 in
theorem sym_spec (q mm c base : Nat) (hm : mm ≤ 4611686018427387904) : ∀ (N a m b : Nat) (pre X Y post : List G) (w0 : World), X.length + Y.length ≤ N → a = pre.length → m = a + X.length → b = m + Y.length → X ≠ [] → Y ≠ [] → Srt X → Srt Y →
    OneC (pre ++ X ++ Y ++ post) → Own w0 base 37 2 (some ⟨q, 0, none⟩) mm c (fl (pre ++ X ++ Y ++ post)) →
    Calls Try.prog 30 #[.slice (some ⟨q, 0, none⟩) mm c, .int .i64 (a : Nat), .int .i64 (m : Nat), .int .i64 (b : Nat), .func (.func 25) #[] #[]] w0 (Ret fun _ w' => Own w' base 37 2 (some ⟨q, 0, none⟩) mm c (fl (pre ++ isort (X ++ Y) ++ post)) ∧ Chg q w0 w') := by
  intro N
  induction N with
  | zero =>
    intro a m b pre X Y post w0 hN ha hm0 hb0 hX
    exact absurd (List.eq_nil_of_length_eq_zero (by omega)) hX
  | succ N ih =>
    intro a m b pre X Y post w0 hN ha hm0 hb0 hX hY sX sY h1 ho
    have hlen0 := el_len ho
    simp only [List.length_append] at hlen0
    have hXp : 0 < X.length := List.length_pos_iff.2 hX
    have hYp : 0 < Y.length := List.length_pos_iff.2 hY
    obtain ⟨L, hL⟩ : ∃ L, pre ++ X ++ Y ++ post = L := ⟨_, rfl⟩
    rw [hL] at ho h1
    have hLl : L.length = mm := el_len ho
    have sx : ∀ (i j : Nat) (x y : G), a ≤ i → i ≤ j → j < m → L[i]? = some x → L[j]? = some y → x.1 ≤ y.1 := by
      intro i j x y h1 h2 h3 hx hy
      rw [← hL, seg_get1 (by omega) (by omega)] at hx hy
      exact srt_get sX (by omega) hx hy
    have sy : ∀ (i j : Nat) (x y : G), m ≤ i → i ≤ j → j < b → L[i]? = some x → L[j]? = some y → x.1 ≤ y.1 := by
      intro i j x y h1 h2 h3 hx hy
      rw [← hL, seg_get2 (by omega) (by omega)] at hx hy
      exact srt_get sY (by omega) hx hy
    refine calls_of Try.func30 rfl (Nat.le_of_ble_eq_true rfl) (by kernel_rfl) ?_
    refine wCut [(0, .slice (some ⟨q, 0, none⟩) mm c), (1, .int .i64 (a : Nat)), (2, .int .i64 (m : Nat)), (3, .int .i64 (b : Nat)), (4, .func (.func 25) #[] #[])] ⟨rfl, rfl, rfl, rfl, rfl, trivial⟩ fun g => ?_
    refine wSeq ?_
    refine wSeq ?_
    refine wReg ?_
    refine sRun (xMvI rfl) ?_
    refine sRun (xMvI rfl) ?_
    refine sRun (xSub64 rfl rfl (by omega) (by omega)) ?_
    refine sSplit (xEqlD rfl rfl) (fun h28 => ?_) (fun h28 => ?_)
    · obtain ⟨x, rfl⟩ : ∃ x, X = [x] := by
        cases X with
        | nil => exact absurd rfl hX
        | cons x X => cases X with
          | nil => exact ⟨x, rfl⟩
          | cons y X => simp at hm0; omega
      simp only [List.length_cons, List.length_nil] at hm0 hlen0
      have hLa : L[a]? = some x := by rw [← hL, seg_get1 (by omega) (by simp; omega)]; simp [ha]
      refine sNil ?_
      refine wIfT rfl ?_
      refine wSeq ?_
      refine wReg ?_
      refine sRun (xMvI rfl) ?_
      refine sRun (xAsI rfl) ?_
      refine sNil ?_
      refine wSeq ?_
      refine wReg ?_
      refine sRun (xMvI rfl) ?_
      refine sRun (xAsI rfl) ?_
      refine sNil ?_
      refine wSeq ?_
      refine wBlock ?_
      refine wLoopG (fun n f w => ∃ i j, n = j - i ∧ m ≤ i ∧ i ≤ j ∧ j ≤ b ∧ Has f [(0, .slice (some ⟨q, 0, none⟩) mm c), (1, .int .i64 (a : Nat)), (2, .int .i64 (m : Nat)), (3, .int .i64 (b : Nat)), (4, .func (.func 25) #[] #[]), (10, .int .i64 (i : Nat)), (11, .int .i64 (j : Nat))] ∧ (∀ k y, m ≤ k → k < i → L[k]? = some y → y.1 < x.1) ∧ (∀ k y, j ≤ k → k < b → L[k]? = some y → ¬ y.1 < x.1) ∧ Own w base 37 2 (some ⟨q, 0, none⟩) mm c (fl (L)) ∧ Chg q w0 w) (b - m) ⟨m, b, rfl, Nat.le_refl _, by omega, Nat.le_refl _, ⟨rfl, rfl, rfl, rfl, rfl, rfl, rfl, trivial⟩, (fun k y h1 h2 => by omega), (fun k y h1 h2 => by omega), ho, Chg.refl _ _⟩ ?_
      rintro n f w ⟨i, j, rfl, hi1, hij, hj2, hf0, hlo, hhi, ho, hg⟩
      obtain ⟨g, rfl⟩ := has_updL _ _ hf0
      clear hf0
      refine wSeq ?_
      refine wSeq ?_
      refine wReg ?_
      refine sRun (xMvI rfl) ?_
      refine sRun (xMvI rfl) ?_
      refine sSplit (xLss rfl rfl) (fun h33 => ?_) (fun h33 => ?_)
      · obtain ⟨y, hy⟩ := nth (l := L) (i := (i + j) / 2) (by omega)
        refine sNil ?_
        refine wIfT rfl ?_
        refine wSkip ?_
        refine wBlock ?_
        refine wSeq ?_
        refine wReg ?_
        refine sRun (xMvI rfl) ?_
        refine sRun (xMvI rfl) ?_
        refine sRun (xAdd64 rfl rfl (by omega) (by omega)) ?_
        refine sRun (xConv _ ⟨_, Try.underlying3⟩ Try.underlying52 rfl) ?_
        refine sRun (xShr rfl rfl (by omega)) ?_
        refine sRun (xConv _ ⟨_, Try.underlying52⟩ Try.underlying3 rfl) ?_
        refine sRun (xAsI rfl) ?_
        rw [mid64 (i := i) (j := j) (by omega)]
        refine sNil ?_
        refine wSeq ?_
        refine wDraw (fun wS => Own wS base 37 2 (some ⟨q, 0, none⟩) mm c (fl L)) [] (by kernel_rfl) ?_
        refine hTake 0 rfl (by kernel_rfl) rfl (fun wS => (xMvF rfl)) (sl_of ho) ?_
        refine hTake 1 rfl (by kernel_rfl) rfl (fun wS => (xMvS rfl)) (sl_of ho) ?_
        refine hTake 2 rfl (by kernel_rfl) rfl (fun wS => (xMvI rfl)) (sl_of ho) ?_
        refine hTake 3 rfl (by kernel_rfl) rfl (fun wS => (xIdx ((i + j) / 2) Try.underlying22 ti37 rfl rfl (by omega) (by omega))) (sl_of ho) ?_
        refine hTakeS 4 rfl (by kernel_rfl) (by kernel_rfl) rfl (fun wS hS => (xLoadS [.int .i64 y.1, y.2.1] Try.underlying37 rfl ti37 rfl rfl (el_cells hS hy))) (sl_of ho) ?_
        refine hTake 5 rfl (by kernel_rfl) rfl (fun wS => (xMvS rfl)) (sl_of ho) ?_
        refine hTake 6 rfl (by kernel_rfl) rfl (fun wS => (xMvI rfl)) (sl_of ho) ?_
        refine hTake 7 rfl (by kernel_rfl) rfl (fun wS => (xIdx a Try.underlying22 ti37 rfl rfl (by omega) (by omega))) (sl_of ho) ?_
        refine hTakeS 8 rfl (by kernel_rfl) (by kernel_rfl) rfl (fun wS hS => (xLoadS [.int .i64 x.1, x.2.1] Try.underlying37 rfl ti37 rfl rfl (el_cells hS hLa))) (sl_of ho) ?_
        refine hOne 9 (by kernel_rfl) (oCall rfl rfl (eClos cal25 rfl) (less_spec _ _ _ _ _) ?_)
        rintro _ w49 ⟨rfl, he49⟩
        have hx49 : Ext w w49 := ((Ext.refl w).drew).trans he49
        have ho49 := ho.ext hx49
        have hg49 : Chg q w0 w49 := Chg.trans hg hx49.chg
        refine ⟨(sl_of ho49), ?_⟩
        refine hSplit 10 rfl (by kernel_rfl) rfl (fun wS => (xLss rfl rfl)) (sl_of ho49) (fun h50 => ?_) (fun h50 => ?_)
        · have hlt := cmpI_neg.1 h50
          refine hDone (by kernel_rfl) ?_
          refine wIfT rfl ?_
          refine wReg ?_
          refine sRun (xMvI rfl) ?_
          refine sRun (xAdd64 rfl rfl (by omega) (by omega)) ?_
          refine sRun (xAsI rfl) ?_
          refine sNil ?_
          refine ⟨j - ((i + j) / 2 + 1), by omega, (i + j) / 2 + 1, j, rfl, by omega, by omega, by omega, ⟨rfl, rfl, rfl, rfl, rfl, rfl, rfl, trivial⟩, ?_, hhi, ho49, hg49⟩
          intro k y' hk1 hk2 hky
          have := sy k ((i + j) / 2) y' y (by omega) (by omega) (by omega) hky hy
          omega
        · have hlt : ¬ y.1 < x.1 := fun h => h50 (cmpI_neg.2 h)
          refine hDone (by kernel_rfl) ?_
          refine wIfF rfl ?_
          refine wReg ?_
          refine sRun (xMvI rfl) ?_
          refine sRun (xAsI rfl) ?_
          refine sNil ?_
          refine ⟨(i + j) / 2 - i, by omega, i, (i + j) / 2, rfl, by omega, by omega, by omega, ⟨rfl, rfl, rfl, rfl, rfl, rfl, rfl, trivial⟩, hlo, ?_, ho49, hg49⟩
          intro k y' hk1 hk2 hky
          have := sy ((i + j) / 2) k y y' (by omega) (by omega) (by omega) hy hky
          omega
      · refine sNil ?_
        refine wIfF rfl ?_
        refine wExit ?_
        refine wSeq ?_
        refine wSeq ?_
        refine wReg ?_
        refine sRun (xMvI rfl) ?_
        refine sRun (xAsI rfl) ?_
        refine sNil ?_
        refine wBlock ?_
        obtain rfl : i = j := by omega
        obtain ⟨Y1, Y2, hY12, hY1l⟩ := cut_at (l := Y) (k := i - m) (by omega)
        have hYl := congrArg List.length hY12
        simp only [List.length_append] at hYl
        have hy1 : ∀ y ∈ Y1, y.1 < x.1 := by
          intro y hy
          obtain ⟨k, hk⟩ := List.mem_iff_getElem?.1 hy
          have hkl : k < Y1.length := (List.getElem?_eq_some_iff.1 hk).1
          exact hlo (m + k) y (by omega) (by omega) (by rw [← hL, hY12, seg_get2 (by simp; omega) (by simp; omega), show m + k - (pre.length + [x].length) = k by simp; omega, List.getElem?_append_left hkl]; exact hk)
        have hy2 : ∀ y ∈ Y2, ¬ y.1 < x.1 := by
          intro y hy
          obtain ⟨k, hk⟩ := List.mem_iff_getElem?.1 hy
          have hkl : k < Y2.length := (List.getElem?_eq_some_iff.1 hk).1
          exact hhi (i + k) y (by omega) (by omega) (by rw [← hL, hY12, seg_get2 (by simp; omega) (by simp; omega), show i + k - (pre.length + [x].length) = Y1.length + k by simp; omega, List.getElem?_append_right (by omega), Nat.add_sub_cancel_left]; exact hk)
        rw [hY12] at sY
        have hone := one_left sY hy1 hy2
        refine wLoopG (fun n f w => ∃ k A B gl, n = B.length ∧ Y1 = A ++ B ∧ A.length + a = k ∧ gl = pre ++ A ++ x :: (B ++ Y2 ++ post) ∧ Has f [(0, .slice (some ⟨q, 0, none⟩) mm c), (10, .int .i64 (i : Nat)), (13, .int .i64 (k : Nat))] ∧ Own w base 37 2 (some ⟨q, 0, none⟩) mm c (fl (gl)) ∧ Chg q w0 w) (Y1.length) ⟨a, [], Y1, L, rfl, rfl, by simp, by rw [← hL, hY12]; simp, ⟨rfl, rfl, rfl, trivial⟩, ho, hg⟩ ?_
        clear hlo hhi
        rintro n f w ⟨k, A, B, gl, rfl, hY1, hk, hgl, hf0, ho, hg⟩
        obtain ⟨g, rfl⟩ := has_updL _ _ hf0
        clear hf0
        have hAB := congrArg List.length hY1
        simp only [List.length_append] at hAB
        refine wSeq ?_
        refine wSeq ?_
        refine wReg ?_
        refine sRun (xMvI rfl) ?_
        refine sRun (xMvI rfl) ?_
        refine sRun (xSub64 rfl rfl (by omega) (by omega)) ?_
        refine sSplit (xLss rfl rfl) (fun h58 => ?_) (fun h58 => ?_)
        · obtain ⟨y, B, rfl⟩ := uncons (l := B) (by omega)
          have hgl2 : gl = (pre ++ A) ++ x :: ([] ++ y :: (B ++ Y2 ++ post)) := by rw [hgl]; simp
          have hgll := congrArg List.length hgl2
          simp only [List.length_append, List.length_cons, List.length_nil] at hgll hAB
          have hlen := el_len ho
          have hgx : gl[k]? = some x := by rw [hgl2]; exact get_two1 _ _ _ _ _ (by simp; omega)
          have hgy : gl[k + 1]? = some y := by rw [hgl2]; exact get_two2 _ _ _ _ _ (by simp; omega)
          have hmy : y ∈ L := by rw [← hL, hY12, hY1]; simp
          have hmx : x ∈ L := by rw [← hL]; simp
          refine sNil ?_
          refine wIfT rfl ?_
          refine wSkip ?_
          refine wSeq ?_
          refine wBlock ?_
          refine wDraw (fun wS => Own wS base 37 2 (some ⟨q, 0, none⟩) mm c (fl gl)) [15, 17] (by kernel_rfl) ?_
          refine hTake 0 rfl (by kernel_rfl) rfl (fun wS => (xMvS rfl)) (sl_of ho) ?_
          refine hTake 1 rfl (by kernel_rfl) rfl (fun wS => (xMvI rfl)) (sl_of ho) ?_
          refine hTake 2 rfl (by kernel_rfl) rfl (fun wS => (xMvS rfl)) (sl_of ho) ?_
          refine hTake 3 rfl (by kernel_rfl) rfl (fun wS => (xMvI rfl)) (sl_of ho) ?_
          refine hTake 4 rfl (by kernel_rfl) rfl (fun wS => (xAdd64 rfl rfl (by omega) (by omega))) (sl_of ho) ?_
          refine hTake 5 rfl (by kernel_rfl) rfl (fun wS => (xMvS rfl)) (sl_of ho) ?_
          refine hTake 6 rfl (by kernel_rfl) rfl (fun wS => (xMvI rfl)) (sl_of ho) ?_
          refine hTake 7 rfl (by kernel_rfl) rfl (fun wS => (xAdd64 rfl rfl (by omega) (by omega))) (sl_of ho) ?_
          refine hTake 8 rfl (by kernel_rfl) rfl (fun wS => (xIdx (k + 1) Try.underlying22 ti37 rfl rfl (by omega) (by omega))) (sl_of ho) ?_
          refine hTakeS 9 rfl (by kernel_rfl) (by kernel_rfl) rfl (fun wS hS => (xLoadS [.int .i64 y.1, y.2.1] Try.underlying37 rfl ti37 rfl rfl (el_cells hS hgy))) (sl_of ho) ?_
          refine hTake 10 rfl (by kernel_rfl) rfl (fun wS => (xMvS rfl)) (sl_of ho) ?_
          refine hTake 11 rfl (by kernel_rfl) rfl (fun wS => (xMvI rfl)) (sl_of ho) ?_
          refine hTake 12 rfl (by kernel_rfl) rfl (fun wS => (xIdx k Try.underlying22 ti37 rfl rfl (by omega) (by omega))) (sl_of ho) ?_
          refine hTakeS 13 rfl (by kernel_rfl) (by kernel_rfl) rfl (fun wS hS => (xLoadS [.int .i64 x.1, x.2.1] Try.underlying37 rfl ti37 rfl rfl (el_cells hS hgx))) (sl_of ho) ?_
          refine hTake 14 rfl (by kernel_rfl) rfl (fun wS => (xIdx k Try.underlying22 ti37 rfl rfl (by omega) (by omega))) (sl_of ho) ?_
          refine hOne 15 (by kernel_rfl) (oEl y rfl rfl ti37 rfl rfl (h1 y hmy) (ho.ext (Ext.refl _).drew) (by omega) ?_)
          intro wa hoa hca
          refine ⟨(sl_late 15 (by kernel_rfl)), ?_⟩
          refine hTake 16 rfl (by kernel_rfl) rfl (fun wS => (xIdx (k + 1) Try.underlying22 ti37 rfl rfl (by omega) (by omega))) (sl_late 15 (by kernel_rfl)) ?_
          refine hOne 17 (by kernel_rfl) (oEl x rfl rfl ti37 rfl rfl (h1 x hmx) hoa (by rw [List.length_set]; omega) ?_)
          intro wb hob hcb
          refine ⟨(sl_late 17 (by kernel_rfl)), ?_⟩
          refine hDone (by kernel_rfl) ?_
          refine wReg ?_
          refine sRun (xMvI rfl) ?_
          refine sRun (xAdd64 rfl rfl (by omega) (by omega)) ?_
          refine sRun (xAsI rfl) ?_
          refine sNil ?_
          refine ⟨B.length, by simp, k + 1, A ++ [y], B, (gl.set k y).set (k + 1) x, rfl, by rw [hY1]; simp, by simp; omega, ?_, ⟨rfl, rfl, rfl, trivial⟩, hob, (hg.trans (Ext.refl w).drew.chg).trans (hca.trans hcb)⟩
          rw [hgl2, swap_two _ _ _ _ _ (by simp; omega) (by simp; omega)]
          simp
        · refine sNil ?_
          refine wIfF rfl ?_
          refine wExit ?_
          refine wRet ?_
          refine res0 (P := Try.prog) (fn := Try.f30) rfl ?_
          obtain rfl : B = [] := List.eq_nil_of_length_eq_zero (by omega)
          simp only [List.append_nil] at hY1
          subst hY1
          refine ⟨?_, hg⟩
          rw [hY12, ← hone]
          rw [hgl] at ho
          simpa using ho
    · refine sNil ?_
      refine wIfF rfl ?_
      refine wSkip ?_
      refine wSeq ?_
      refine wSeq ?_
      refine wReg ?_
      refine sRun (xMvI rfl) ?_
      refine sRun (xMvI rfl) ?_
      refine sRun (xSub64 rfl rfl (by omega) (by omega)) ?_
      refine sSplit (xEqlD rfl rfl) (fun h80 => ?_) (fun h80 => ?_)
      · obtain ⟨y, rfl⟩ : ∃ y, Y = [y] := by
          cases Y with
          | nil => exact absurd rfl hY
          | cons y Y => cases Y with
            | nil => exact ⟨y, rfl⟩
            | cons z Y => simp at hb0; omega
        simp only [List.length_cons, List.length_nil] at hb0 hlen0
        have hLm : L[m]? = some y := by rw [← hL, seg_get2 (by omega) (by simp; omega)]; simp [hm0, ha]
        refine sNil ?_
        refine wIfT rfl ?_
        refine wSeq ?_
        refine wReg ?_
        refine sRun (xMvI rfl) ?_
        refine sRun (xAsI rfl) ?_
        refine sNil ?_
        refine wSeq ?_
        refine wReg ?_
        refine sRun (xMvI rfl) ?_
        refine sRun (xAsI rfl) ?_
        refine sNil ?_
        refine wSeq ?_
        refine wBlock ?_
        refine wLoopG (fun n f w => ∃ i j, n = j - i ∧ a ≤ i ∧ i ≤ j ∧ j ≤ m ∧ Has f [(0, .slice (some ⟨q, 0, none⟩) mm c), (1, .int .i64 (a : Nat)), (2, .int .i64 (m : Nat)), (3, .int .i64 (b : Nat)), (4, .func (.func 25) #[] #[]), (14, .int .i64 (i : Nat)), (15, .int .i64 (j : Nat))] ∧ (∀ k x, a ≤ k → k < i → L[k]? = some x → ¬ y.1 < x.1) ∧ (∀ k x, j ≤ k → k < m → L[k]? = some x → y.1 < x.1) ∧ Own w base 37 2 (some ⟨q, 0, none⟩) mm c (fl (L)) ∧ Chg q w0 w) (m - a) ⟨a, m, rfl, Nat.le_refl _, by omega, Nat.le_refl _, ⟨rfl, rfl, rfl, rfl, rfl, rfl, rfl, trivial⟩, (fun k y h1 h2 => by omega), (fun k y h1 h2 => by omega), ho, Chg.refl _ _⟩ ?_
        rintro n f w ⟨i, j, rfl, hi1, hij, hj2, hf0, hlo, hhi, ho, hg⟩
        obtain ⟨g, rfl⟩ := has_updL _ _ hf0
        clear hf0
        refine wSeq ?_
        refine wSeq ?_
        refine wReg ?_
        refine sRun (xMvI rfl) ?_
        refine sRun (xMvI rfl) ?_
        refine sSplit (xLss rfl rfl) (fun h85 => ?_) (fun h85 => ?_)
        · obtain ⟨x, hx⟩ := nth (l := L) (i := (i + j) / 2) (by omega)
          refine sNil ?_
          refine wIfT rfl ?_
          refine wSkip ?_
          refine wBlock ?_
          refine wSeq ?_
          refine wReg ?_
          refine sRun (xMvI rfl) ?_
          refine sRun (xMvI rfl) ?_
          refine sRun (xAdd64 rfl rfl (by omega) (by omega)) ?_
          refine sRun (xConv _ ⟨_, Try.underlying3⟩ Try.underlying52 rfl) ?_
          refine sRun (xShr rfl rfl (by omega)) ?_
          refine sRun (xConv _ ⟨_, Try.underlying52⟩ Try.underlying3 rfl) ?_
          refine sRun (xAsI rfl) ?_
          rw [mid64 (i := i) (j := j) (by omega)]
          refine sNil ?_
          refine wSeq ?_
          refine wDraw (fun wS => Own wS base 37 2 (some ⟨q, 0, none⟩) mm c (fl L)) [] (by kernel_rfl) ?_
          refine hTake 0 rfl (by kernel_rfl) rfl (fun wS => (xMvF rfl)) (sl_of ho) ?_
          refine hTake 1 rfl (by kernel_rfl) rfl (fun wS => (xMvS rfl)) (sl_of ho) ?_
          refine hTake 2 rfl (by kernel_rfl) rfl (fun wS => (xMvI rfl)) (sl_of ho) ?_
          refine hTake 3 rfl (by kernel_rfl) rfl (fun wS => (xIdx m Try.underlying22 ti37 rfl rfl (by omega) (by omega))) (sl_of ho) ?_
          refine hTakeS 4 rfl (by kernel_rfl) (by kernel_rfl) rfl (fun wS hS => (xLoadS [.int .i64 y.1, y.2.1] Try.underlying37 rfl ti37 rfl rfl (el_cells hS hLm))) (sl_of ho) ?_
          refine hTake 5 rfl (by kernel_rfl) rfl (fun wS => (xMvS rfl)) (sl_of ho) ?_
          refine hTake 6 rfl (by kernel_rfl) rfl (fun wS => (xMvI rfl)) (sl_of ho) ?_
          refine hTake 7 rfl (by kernel_rfl) rfl (fun wS => (xIdx ((i + j) / 2) Try.underlying22 ti37 rfl rfl (by omega) (by omega))) (sl_of ho) ?_
          refine hTakeS 8 rfl (by kernel_rfl) (by kernel_rfl) rfl (fun wS hS => (xLoadS [.int .i64 x.1, x.2.1] Try.underlying37 rfl ti37 rfl rfl (el_cells hS hx))) (sl_of ho) ?_
          refine hOne 9 (by kernel_rfl) (oCall rfl rfl (eClos cal25 rfl) (less_spec _ _ _ _ _) ?_)
          rintro _ w101 ⟨rfl, he101⟩
          have hx101 : Ext w w101 := ((Ext.refl w).drew).trans he101
          have ho101 := ho.ext hx101
          have hg101 : Chg q w0 w101 := Chg.trans hg hx101.chg
          refine ⟨(sl_of ho101), ?_⟩
          refine hSplit 10 rfl (by kernel_rfl) rfl (fun wS => (xLss rfl rfl)) (sl_of ho101) (fun h102 => ?_) (fun h102 => ?_)
          · have hlt := cmpI_neg.1 h102
            refine hTake 11 rfl (by kernel_rfl) rfl (fun wS => (xNot rfl)) (sl_of ho101) ?_
            refine hDone (by kernel_rfl) ?_
            refine wIfF rfl ?_
            refine wReg ?_
            refine sRun (xMvI rfl) ?_
            refine sRun (xAsI rfl) ?_
            refine sNil ?_
            refine ⟨(i + j) / 2 - i, by omega, i, (i + j) / 2, rfl, by omega, by omega, by omega, ⟨rfl, rfl, rfl, rfl, rfl, rfl, rfl, trivial⟩, hlo, ?_, ho101, hg101⟩
            intro k x' hk1 hk2 hkx
            have := sx ((i + j) / 2) k x x' (by omega) (by omega) (by omega) hx hkx
            omega
          · have hlt : ¬ y.1 < x.1 := fun h => h102 (cmpI_neg.2 h)
            refine hTake 11 rfl (by kernel_rfl) rfl (fun wS => (xNot rfl)) (sl_of ho101) ?_
            refine hDone (by kernel_rfl) ?_
            refine wIfT rfl ?_
            refine wReg ?_
            refine sRun (xMvI rfl) ?_
            refine sRun (xAdd64 rfl rfl (by omega) (by omega)) ?_
            refine sRun (xAsI rfl) ?_
            refine sNil ?_
            refine ⟨j - ((i + j) / 2 + 1), by omega, (i + j) / 2 + 1, j, rfl, by omega, by omega, by omega, ⟨rfl, rfl, rfl, rfl, rfl, rfl, rfl, trivial⟩, ?_, hhi, ho101, hg101⟩
            intro k x' hk1 hk2 hkx
            have := sx k ((i + j) / 2) x' x (by omega) (by omega) (by omega) hkx hx
            omega
        · refine sNil ?_
          refine wIfF rfl ?_
          refine wExit ?_
          refine wSeq ?_
          refine wSeq ?_
          refine wReg ?_
          refine sRun (xMvI rfl) ?_
          refine sRun (xAsI rfl) ?_
          refine sNil ?_
          refine wBlock ?_
          obtain rfl : i = j := by omega
          obtain ⟨X1, X2, hX12, hX1l⟩ := cut_at (l := X) (k := i - a) (by omega)
          have hXl := congrArg List.length hX12
          simp only [List.length_append] at hXl
          have hx1 : ∀ x ∈ X1, ¬ y.1 < x.1 := by
            intro x hx
            obtain ⟨k, hk⟩ := List.mem_iff_getElem?.1 hx
            have hkl : k < X1.length := (List.getElem?_eq_some_iff.1 hk).1
            exact hlo (a + k) x (by omega) (by omega) (by rw [← hL, hX12, seg_get1 (by omega) (by simp; omega), show a + k - pre.length = k by omega, List.getElem?_append_left hkl]; exact hk)
          have hx2 : ∀ x ∈ X2, y.1 < x.1 := by
            intro x hx
            obtain ⟨k, hk⟩ := List.mem_iff_getElem?.1 hx
            have hkl : k < X2.length := (List.getElem?_eq_some_iff.1 hk).1
            exact hhi (i + k) x (by omega) (by omega) (by rw [← hL, hX12, seg_get1 (by omega) (by simp; omega), show i + k - pre.length = X1.length + k by omega, List.getElem?_append_right (by omega), Nat.add_sub_cancel_left]; exact hk)
          rw [hX12] at sX
          have hone := one_right sX hx1 hx2
          refine wLoopG (fun n f w => ∃ k A B gl, n = A.length ∧ X2 = A ++ B ∧ A.length + i = k ∧ gl = pre ++ X1 ++ A ++ y :: (B ++ post) ∧ Has f [(0, .slice (some ⟨q, 0, none⟩) mm c), (14, .int .i64 (i : Nat)), (17, .int .i64 (k : Nat))] ∧ Own w base 37 2 (some ⟨q, 0, none⟩) mm c (fl (gl)) ∧ Chg q w0 w) (X2.length) ⟨m, X2, [], L, rfl, by simp, by omega, by rw [← hL, hX12]; simp, ⟨rfl, rfl, rfl, trivial⟩, ho, hg⟩ ?_
          clear hlo hhi
          rintro n f w ⟨k, A, B, gl, rfl, hX2, hk, hgl, hf0, ho, hg⟩
          obtain ⟨g, rfl⟩ := has_updL _ _ hf0
          clear hf0
          have hAB := congrArg List.length hX2
          simp only [List.length_append] at hAB
          refine wSeq ?_
          refine wSeq ?_
          refine wReg ?_
          refine sRun (xMvI rfl) ?_
          refine sRun (xMvI rfl) ?_
          refine sSplit (xGtr rfl rfl) (fun h110 => ?_) (fun h110 => ?_)
          · obtain ⟨A, z, rfl⟩ : ∃ A' z, A = A' ++ [z] := by
              rcases List.eq_nil_or_concat A with h | ⟨A', z, h⟩
              · exfalso; subst h; simp at hk; omega
              · exact ⟨A', z, by simpa using h⟩
            simp only [List.length_append, List.length_cons, List.length_nil] at hk
            have hgl2 : gl = (pre ++ X1) ++ ((A ++ [z]) ++ y :: B) ++ post := by rw [hgl]; simp
            have hgll := congrArg List.length hgl2
            simp only [List.length_append, List.length_cons, List.length_nil] at hgll
            have hlen := el_len ho
            have hgz : gl[k - 1]? = some z := by rw [hgl2]; exact at_mid' (by simp; omega)
            have hgy : gl[k]? = some y := by rw [hgl2]; exact at_mid (by simp; omega)
            have hmz : z ∈ L := by rw [← hL, hX12, hX2]; simp
            have hmy : y ∈ L := by rw [← hL]; simp
            refine sNil ?_
            refine wIfT rfl ?_
            refine wSkip ?_
            refine wSeq ?_
            refine wBlock ?_
            refine wDraw (fun wS => Own wS base 37 2 (some ⟨q, 0, none⟩) mm c (fl gl)) [15, 17] (by kernel_rfl) ?_
            refine hTake 0 rfl (by kernel_rfl) rfl (fun wS => (xMvS rfl)) (sl_of ho) ?_
            refine hTake 1 rfl (by kernel_rfl) rfl (fun wS => (xMvI rfl)) (sl_of ho) ?_
            refine hTake 2 rfl (by kernel_rfl) rfl (fun wS => (xMvS rfl)) (sl_of ho) ?_
            refine hTake 3 rfl (by kernel_rfl) rfl (fun wS => (xMvI rfl)) (sl_of ho) ?_
            refine hTake 4 rfl (by kernel_rfl) rfl (fun wS => (xSub64 rfl rfl (by omega) (by omega))) (sl_of ho) ?_
            refine hTake 5 rfl (by kernel_rfl) rfl (fun wS => (xMvS rfl)) (sl_of ho) ?_
            refine hTake 6 rfl (by kernel_rfl) rfl (fun wS => (xMvI rfl)) (sl_of ho) ?_
            refine hTake 7 rfl (by kernel_rfl) rfl (fun wS => (xSub64 rfl rfl (by omega) (by omega))) (sl_of ho) ?_
            refine hTake 8 rfl (by kernel_rfl) rfl (fun wS => (xIdx (k - 1) Try.underlying22 ti37 rfl rfl (by omega) (by omega))) (sl_of ho) ?_
            refine hTakeS 9 rfl (by kernel_rfl) (by kernel_rfl) rfl (fun wS hS => (xLoadS [.int .i64 z.1, z.2.1] Try.underlying37 rfl ti37 rfl rfl (el_cells hS hgz))) (sl_of ho) ?_
            refine hTake 10 rfl (by kernel_rfl) rfl (fun wS => (xMvS rfl)) (sl_of ho) ?_
            refine hTake 11 rfl (by kernel_rfl) rfl (fun wS => (xMvI rfl)) (sl_of ho) ?_
            refine hTake 12 rfl (by kernel_rfl) rfl (fun wS => (xIdx k Try.underlying22 ti37 rfl rfl (by omega) (by omega))) (sl_of ho) ?_
            refine hTakeS 13 rfl (by kernel_rfl) (by kernel_rfl) rfl (fun wS hS => (xLoadS [.int .i64 y.1, y.2.1] Try.underlying37 rfl ti37 rfl rfl (el_cells hS hgy))) (sl_of ho) ?_
            refine hTake 14 rfl (by kernel_rfl) rfl (fun wS => (xIdx k Try.underlying22 ti37 rfl rfl (by omega) (by omega))) (sl_of ho) ?_
            refine hOne 15 (by kernel_rfl) (oEl z rfl rfl ti37 rfl rfl (h1 z hmz) (ho.ext (Ext.refl _).drew) (by omega) ?_)
            intro wa hoa hca
            refine ⟨(sl_late 15 (by kernel_rfl)), ?_⟩
            refine hTake 16 rfl (by kernel_rfl) rfl (fun wS => (xIdx (k - 1) Try.underlying22 ti37 rfl rfl (by omega) (by omega))) (sl_late 15 (by kernel_rfl)) ?_
            refine hOne 17 (by kernel_rfl) (oEl y rfl rfl ti37 rfl rfl (h1 y hmy) hoa (by rw [List.length_set]; omega) ?_)
            intro wb hob hcb
            refine ⟨(sl_late 17 (by kernel_rfl)), ?_⟩
            refine hDone (by kernel_rfl) ?_
            refine wReg ?_
            refine sRun (xMvI rfl) ?_
            refine sRun (xSub64 rfl rfl (by omega) (by omega)) ?_
            refine sRun (xAsI rfl) ?_
            refine sNil ?_
            refine ⟨A.length, by simp, k - 1, A, z :: B, (gl.set k z).set (k - 1) y, rfl, by rw [hX2]; simp, by omega, ?_, ⟨rfl, rfl, ?_, trivial⟩, hob, (hg.trans (Ext.refl w).drew.chg).trans (hca.trans hcb)⟩
            · rw [hgl2, show k = (k - 1) + 1 by omega, Nat.add_sub_cancel, swap_mid (by simp; omega)]
              simp
            · exact congrArg (Value.int .i64) (by omega)
          · refine sNil ?_
            refine wIfF rfl ?_
            refine wExit ?_
            refine wRet ?_
            refine res0 (P := Try.prog) (fn := Try.f30) rfl ?_
            obtain rfl : A = [] := List.eq_nil_of_length_eq_zero (by omega)
            simp only [List.nil_append] at hX2
            subst hX2
            refine ⟨?_, hg⟩
            rw [hX12, ← hone]
            rw [hgl] at ho
            simpa using ho
      · refine sNil ?_
        refine wIfF rfl ?_
        refine wSkip ?_
        refine wSeq ?_
        refine wReg ?_
        refine sRun (xMvI rfl) ?_
        refine sRun (xMvI rfl) ?_
        refine sRun (xAdd64 rfl rfl (by omega) (by omega)) ?_
        refine sRun (xConv _ ⟨_, Try.underlying3⟩ Try.underlying52 rfl) ?_
        refine sRun (xShr rfl rfl (by omega)) ?_
        refine sRun (xConv _ ⟨_, Try.underlying52⟩ Try.underlying3 rfl) ?_
        refine sRun (xAsI rfl) ?_
        rw [mid64 (i := a) (j := b) (by omega)]
        obtain ⟨md, hmd⟩ : ∃ md, (a + b) / 2 = md := ⟨_, rfl⟩
        rw [hmd]
        refine sNil ?_
        refine wSeq ?_
        refine wReg ?_
        refine sRun (xMvI rfl) ?_
        refine sRun (xMvI rfl) ?_
        refine sRun (xAdd64 rfl rfl (by omega) (by omega)) ?_
        refine sRun (xAsI rfl) ?_
        rw [show ((md : Int) + (m : Int)) = ((md + m : Nat) : Int) by omega]
        obtain ⟨nn, hnn⟩ : ∃ nn, md + m = nn := ⟨_, rfl⟩
        rw [hnn]
        refine sNil ?_
        refine wSeq ?_
        refine wReg ?_
        refine sRun (xAsI rfl) ?_
        refine sRun (xAsI rfl) ?_
        refine sNil ?_
        refine wSeqJ (fun f w => ∃ s0 r0, Has f [(0, .slice (some ⟨q, 0, none⟩) mm c), (1, .int .i64 (a : Nat)), (2, .int .i64 (m : Nat)), (3, .int .i64 (b : Nat)), (4, .func (.func 25) #[] #[]), (18, .int .i64 (md : Nat)), (19, .int .i64 (nn : Nat)), (20, .int .i64 (s0 : Nat)), (21, .int .i64 (r0 : Nat))] ∧ ((md < m ∧ s0 = nn - b ∧ r0 = md) ∨ (m ≤ md ∧ s0 = a ∧ r0 = m)) ∧ Own w base 37 2 (some ⟨q, 0, none⟩) mm c (fl (L)) ∧ Chg q w0 w) ?_ ?_
        · refine wSeq ?_
          refine wReg ?_
          refine sRun (xMvI rfl) ?_
          refine sRun (xMvI rfl) ?_
          refine sSplit (xGtr rfl rfl) (fun h140 => ?_) (fun h140 => ?_)
          · refine sNil ?_
            refine wIfT rfl ?_
            refine wSeq ?_
            refine wReg ?_
            refine sRun (xMvI rfl) ?_
            refine sRun (xMvI rfl) ?_
            refine sRun (xSub64 rfl rfl (by omega) (by omega)) ?_
            rw [show ((nn : Int) - (b : Int)) = ((nn - b : Nat) : Int) by omega]
            refine sRun (xAsI rfl) ?_
            refine sNil ?_
            refine wReg ?_
            refine sRun (xMvI rfl) ?_
            refine sRun (xAsI rfl) ?_
            refine sNil ?_
            exact ⟨nn - b, md, ⟨rfl, rfl, rfl, rfl, rfl, rfl, rfl, rfl, rfl, trivial⟩, .inl ⟨by omega, rfl, rfl⟩, ho, Chg.refl _ _⟩
          · refine sNil ?_
            refine wIfF rfl ?_
            refine wSeq ?_
            refine wReg ?_
            refine sRun (xMvI rfl) ?_
            refine sRun (xAsI rfl) ?_
            refine sNil ?_
            refine wReg ?_
            refine sRun (xMvI rfl) ?_
            refine sRun (xAsI rfl) ?_
            refine sNil ?_
            exact ⟨a, m, ⟨rfl, rfl, rfl, rfl, rfl, rfl, rfl, rfl, rfl, trivial⟩, .inr ⟨by omega, rfl, rfl⟩, ho, Chg.refl _ _⟩
        rintro f w ⟨s0, r0, hf0, hsr0, ho, hg⟩
        obtain ⟨g, rfl⟩ := has_updL _ _ hf0
        clear hf0
        refine wSeq ?_
        refine wReg ?_
        refine sRun (xMvI rfl) ?_
        refine sRun (xSub64 rfl rfl (by omega) (by omega)) ?_
        refine sRun (xAsI rfl) ?_
        rw [show ((nn : Int) - 1) = ((nn - 1 : Nat) : Int) by omega]
        obtain ⟨p, hp⟩ : ∃ p, nn - 1 = p := ⟨_, rfl⟩
        rw [hp]
        refine sNil ?_
        refine wSeq ?_
        refine wBlock ?_
        refine wLoopG (fun n f w => ∃ s r, n = r - s ∧ s0 ≤ s ∧ s ≤ r ∧ r ≤ r0 ∧ Has f [(0, .slice (some ⟨q, 0, none⟩) mm c), (1, .int .i64 (a : Nat)), (2, .int .i64 (m : Nat)), (3, .int .i64 (b : Nat)), (4, .func (.func 25) #[] #[]), (18, .int .i64 (md : Nat)), (19, .int .i64 (nn : Nat)), (20, .int .i64 (s : Nat)), (21, .int .i64 (r : Nat)), (22, .int .i64 (p : Nat))] ∧ (∀ k x y, s0 ≤ k → k < s → L[k]? = some x → L[p - k]? = some y → x.1 ≤ y.1) ∧ (∀ k x y, r ≤ k → k < r0 → L[k]? = some x → L[p - k]? = some y → y.1 < x.1) ∧ Own w base 37 2 (some ⟨q, 0, none⟩) mm c (fl (L)) ∧ Chg q w0 w) (r0 - s0) ⟨s0, r0, rfl, Nat.le_refl _, by omega, Nat.le_refl _, ⟨rfl, rfl, rfl, rfl, rfl, rfl, rfl, rfl, rfl, rfl, trivial⟩, (fun k x y h1 h2 => by omega), (fun k x y h1 h2 => by omega), ho, hg⟩ ?_
        rintro n f w ⟨s, r, rfl, hs0, hsr, hr0, hf0, hle, hge, ho, hg⟩
        obtain ⟨g, rfl⟩ := has_updL _ _ hf0
        clear hf0
        refine wSeq ?_
        refine wSeq ?_
        refine wReg ?_
        refine sRun (xMvI rfl) ?_
        refine sRun (xMvI rfl) ?_
        refine sSplit (xLss rfl rfl) (fun h151 => ?_) (fun h151 => ?_)
        · obtain ⟨cc, hcc⟩ : ∃ cc, (s + r) / 2 = cc := ⟨_, rfl⟩
          obtain ⟨u, hu⟩ := nth (l := L) (i := cc) (by omega)
          obtain ⟨v, hv⟩ := nth (l := L) (i := p - cc) (by omega)
          refine sNil ?_
          refine wIfT rfl ?_
          refine wSkip ?_
          refine wBlock ?_
          refine wSeq ?_
          refine wReg ?_
          refine sRun (xMvI rfl) ?_
          refine sRun (xMvI rfl) ?_
          refine sRun (xAdd64 rfl rfl (by omega) (by omega)) ?_
          refine sRun (xConv _ ⟨_, Try.underlying3⟩ Try.underlying52 rfl) ?_
          refine sRun (xShr rfl rfl (by omega)) ?_
          refine sRun (xConv _ ⟨_, Try.underlying52⟩ Try.underlying3 rfl) ?_
          refine sRun (xAsI rfl) ?_
          rw [mid64 (i := s) (j := r) (by omega), hcc]
          refine sNil ?_
          refine wSeq ?_
          refine wDraw (fun wS => Own wS base 37 2 (some ⟨q, 0, none⟩) mm c (fl L)) [] (by kernel_rfl) ?_
          refine hTake 0 rfl (by kernel_rfl) rfl (fun wS => (xMvF rfl)) (sl_of ho) ?_
          refine hTake 1 rfl (by kernel_rfl) rfl (fun wS => (xMvS rfl)) (sl_of ho) ?_
          refine hTake 2 rfl (by kernel_rfl) rfl (fun wS => (xMvI rfl)) (sl_of ho) ?_
          refine hTake 3 rfl (by kernel_rfl) rfl (fun wS => (xMvI rfl)) (sl_of ho) ?_
          refine hTake 4 rfl (by kernel_rfl) rfl (fun wS => (xSub64 rfl rfl (by omega) (by omega))) (sl_of ho) ?_
          refine hTake 5 rfl (by kernel_rfl) rfl (fun wS => (xIdx (p - cc) Try.underlying22 ti37 rfl rfl (by omega) (by omega))) (sl_of ho) ?_
          refine hTakeS 6 rfl (by kernel_rfl) (by kernel_rfl) rfl (fun wS hS => (xLoadS [.int .i64 v.1, v.2.1] Try.underlying37 rfl ti37 rfl rfl (el_cells hS hv))) (sl_of ho) ?_
          refine hTake 7 rfl (by kernel_rfl) rfl (fun wS => (xMvS rfl)) (sl_of ho) ?_
          refine hTake 8 rfl (by kernel_rfl) rfl (fun wS => (xMvI rfl)) (sl_of ho) ?_
          refine hTake 9 rfl (by kernel_rfl) rfl (fun wS => (xIdx cc Try.underlying22 ti37 rfl rfl (by omega) (by omega))) (sl_of ho) ?_
          refine hTakeS 10 rfl (by kernel_rfl) (by kernel_rfl) rfl (fun wS hS => (xLoadS [.int .i64 u.1, u.2.1] Try.underlying37 rfl ti37 rfl rfl (el_cells hS hu))) (sl_of ho) ?_
          refine hOne 11 (by kernel_rfl) (oCall rfl rfl (eClos cal25 rfl) (less_spec _ _ _ _ _) ?_)
          rintro _ w169 ⟨rfl, he169⟩
          have hx169 : Ext w w169 := ((Ext.refl w).drew).trans he169
          have ho169 := ho.ext hx169
          have hg169 : Chg q w0 w169 := Chg.trans hg hx169.chg
          refine ⟨(sl_of ho169), ?_⟩
          refine hSplit 12 rfl (by kernel_rfl) rfl (fun wS => (xLss rfl rfl)) (sl_of ho169) (fun h170 => ?_) (fun h170 => ?_)
          · have hlt := cmpI_neg.1 h170
            refine hTake 13 rfl (by kernel_rfl) rfl (fun wS => (xNot rfl)) (sl_of ho169) ?_
            refine hDone (by kernel_rfl) ?_
            refine wIfF rfl ?_
            refine wReg ?_
            refine sRun (xMvI rfl) ?_
            refine sRun (xAsI rfl) ?_
            refine sNil ?_
            refine ⟨cc - s, by omega, s, cc, rfl, by omega, by omega, by omega, ⟨rfl, rfl, rfl, rfl, rfl, rfl, rfl, rfl, rfl, rfl, trivial⟩, hle, ?_, ho169, hg169⟩
            intro k x' y' hk1 hk2 hkx hky
            have c1 := sx cc k u x' (by omega) (by omega) (by omega) hu hkx
            have c2 := sy (p - k) (p - cc) y' v (by omega) (by omega) (by omega) hky hv
            omega
          · have hlt : ¬ v.1 < u.1 := fun h => h170 (cmpI_neg.2 h)
            refine hTake 13 rfl (by kernel_rfl) rfl (fun wS => (xNot rfl)) (sl_of ho169) ?_
            refine hDone (by kernel_rfl) ?_
            refine wIfT rfl ?_
            refine wReg ?_
            refine sRun (xMvI rfl) ?_
            refine sRun (xAdd64 rfl rfl (by omega) (by omega)) ?_
            refine sRun (xAsI rfl) ?_
            refine sNil ?_
            refine ⟨r - (cc + 1), by omega, cc + 1, r, rfl, by omega, by omega, by omega, ⟨rfl, rfl, rfl, rfl, rfl, rfl, rfl, rfl, rfl, rfl, trivial⟩, ?_, hge, ho169, hg169⟩
            intro k x' y' hk1 hk2 hkx hky
            have c1 := sx k cc x' u (by omega) (by omega) (by omega) hkx hu
            have c2 := sy (p - cc) (p - k) v y' (by omega) (by omega) (by omega) hv hky
            omega
        · refine sNil ?_
          refine wIfF rfl ?_
          refine wExit ?_
          refine wSeq ?_
          refine wReg ?_
          refine sRun (xMvI rfl) ?_
          refine sRun (xMvI rfl) ?_
          refine sRun (xSub64 rfl rfl (by omega) (by omega)) ?_
          refine sRun (xAsI rfl) ?_
          rw [show ((nn : Int) - (s : Int)) = ((nn - s : Nat) : Int) by omega]
          obtain ⟨e, he⟩ : ∃ e, nn - s = e := ⟨_, rfl⟩
          rw [he]
          obtain rfl : s = r := by omega
          obtain ⟨X1, U, rfl, hX1⟩ := cut_at (l := X) (k := s - a) (by omega)
          obtain ⟨V, Y2, rfl, hV⟩ := cut_at (l := Y) (k := e - m) (by omega)
          simp only [List.length_append] at hm0 hb0 hlen0 hN
          have hVU : ∀ v ∈ V, ∀ u ∈ U, v.1 < u.1 := by
            intro v hv u hu
            have hV0 : 0 < V.length := List.length_pos_of_mem hv
            have hU0 : 0 < U.length := List.length_pos_of_mem hu
            obtain ⟨iv, hiv⟩ := List.mem_iff_getElem?.1 hv
            obtain ⟨iu, hiu⟩ := List.mem_iff_getElem?.1 hu
            have hivl : iv < V.length := (List.getElem?_eq_some_iff.1 hiv).1
            have hiul : iu < U.length := (List.getElem?_eq_some_iff.1 hiu).1
            have gv : L[m + iv]? = some v := by rw [← hL, seg_get2 (by simp; omega) (by simp; omega), show m + iv - (pre.length + (X1 ++ U).length) = iv by simp; omega, List.getElem?_append_left hivl]; exact hiv
            have gu : L[s + iu]? = some u := by rw [← hL, seg_get1 (by omega) (by simp; omega), show s + iu - pre.length = X1.length + iu by omega, List.getElem?_append_right (by omega), Nat.add_sub_cancel_left]; exact hiu
            obtain ⟨v', gv'⟩ := nth (l := L) (i := p - s) (by omega)
            obtain ⟨u', gu'⟩ := nth (l := L) (i := s) (by omega)
            have c1 := sy (m + iv) (p - s) v v' (by omega) (by omega) (by omega) gv gv'
            have c2 := hge s u' v' (by omega) (by omega) gu' gv'
            have c3 := sx s (s + iu) u' u (by omega) (by omega) (by omega) gu' gu
            omega
          have hXY : ∀ x ∈ X1, ∀ y ∈ Y2, x.1 ≤ y.1 := by
            intro x hx y hy
            have hX0 : 0 < X1.length := List.length_pos_of_mem hx
            have hY0 : 0 < Y2.length := List.length_pos_of_mem hy
            obtain ⟨ix, hix⟩ := List.mem_iff_getElem?.1 hx
            obtain ⟨iy, hiy⟩ := List.mem_iff_getElem?.1 hy
            have hixl : ix < X1.length := (List.getElem?_eq_some_iff.1 hix).1
            have hiyl : iy < Y2.length := (List.getElem?_eq_some_iff.1 hiy).1
            have gx : L[a + ix]? = some x := by rw [← hL, seg_get1 (by omega) (by simp; omega), show a + ix - pre.length = ix by omega, List.getElem?_append_left hixl]; exact hix
            have gy : L[e + iy]? = some y := by rw [← hL, seg_get2 (by simp; omega) (by simp; omega), show e + iy - (pre.length + (X1 ++ U).length) = V.length + iy by simp; omega, List.getElem?_append_right (by omega), Nat.add_sub_cancel_left]; exact hiy
            obtain ⟨x', gx'⟩ := nth (l := L) (i := s - 1) (by omega)
            obtain ⟨y', gy'⟩ := nth (l := L) (i := p - (s - 1)) (by omega)
            have c1 := sx (a + ix) (s - 1) x x' (by omega) (by omega) (by omega) gx gx'
            have c2 := hle (s - 1) x' y' (by omega) (by omega) gx' gy'
            have c3 := sy (p - (s - 1)) (e + iy) y' y (by omega) (by omega) (by omega) gy' gy
            omega
          have hsX := srt_append.1 sX
          have hsY := srt_append.1 sY
          have hfin := two_parts sX sY hVU hXY
          refine sNil ?_
          refine wSeqJ (fun f w => Has f [(0, .slice (some ⟨q, 0, none⟩) mm c), (1, .int .i64 (a : Nat)), (2, .int .i64 (m : Nat)), (3, .int .i64 (b : Nat)), (4, .func (.func 25) #[] #[]), (18, .int .i64 (md : Nat)), (20, .int .i64 (s : Nat)), (24, .int .i64 (e : Nat))] ∧ Own w base 37 2 (some ⟨q, 0, none⟩) mm c (fl (pre ++ X1 ++ V ++ U ++ Y2 ++ post)) ∧ Chg q w0 w) ?_ ?_
          · refine wSeq ?_
            refine wReg ?_
            refine sRun (xMvI rfl) ?_
            refine sRun (xMvI rfl) ?_
            refine sSplit (xLss rfl rfl) (fun h180 => ?_) (fun h180 => ?_)
            · refine sRun (xMvB rfl) ?_
              refine sGo rfl ?_
              refine sRun (xMvI rfl) ?_
              refine sGo rfl ?_
              refine sRun (xMvI rfl) ?_
              refine sGo rfl ?_
              refine sSplit (xLss rfl rfl) (fun h184 => ?_) (fun h184 => ?_)
              · refine sRun (xPkTB rfl rfl) ?_
                refine sNil ?_
                refine wIfT rfl ?_
                refine wReg ?_
                refine sRun (xMvS rfl) ?_
                refine sRun (xMvI rfl) ?_
                refine sRun (xMvI rfl) ?_
                refine sRun (xMvI rfl) ?_
                refine sRun (xMvF rfl) ?_
                refine sCall (eCall cal31 rfl) (rotate_spec q mm c base s m e (pre ++ X1) U V (Y2 ++ post) w (by simp; omega) (by omega) (by omega) (by omega) (by omega) (by rw [← hL] at h1; simpa using h1) (by rw [← hL] at ho; simpa using ho) hm) ?_
                rintro _ w191 ⟨ho191, hc191⟩
                refine sNil ?_
                exact ⟨⟨rfl, rfl, rfl, rfl, rfl, rfl, rfl, rfl, trivial⟩, by simpa using ho191, hg.trans hc191⟩
              · refine sRun (xPkTB rfl rfl) ?_
                refine sNil ?_
                refine wIfF rfl ?_
                refine wSkip ?_
                have hz : U = [] ∨ V = [] := by
                  have : U.length = 0 ∨ V.length = 0 := by omega
                  exact this.imp List.eq_nil_of_length_eq_zero List.eq_nil_of_length_eq_zero
                refine ⟨⟨rfl, rfl, rfl, rfl, rfl, rfl, rfl, rfl, trivial⟩, ?_, hg⟩
                rw [← hL] at ho
                rcases hz with h | h <;> subst h <;> simpa using ho
            · refine sRun (xMvB rfl) ?_
              refine sNo rfl ?_
              refine sNo rfl ?_
              refine sNo rfl ?_
              refine sRun (xPkFB rfl rfl) ?_
              refine sNil ?_
              refine wIfF rfl ?_
              refine wSkip ?_
              have hz : U = [] ∨ V = [] := by
                have : U.length = 0 ∨ V.length = 0 := by omega
                exact this.imp List.eq_nil_of_length_eq_zero List.eq_nil_of_length_eq_zero
              refine ⟨⟨rfl, rfl, rfl, rfl, rfl, rfl, rfl, rfl, trivial⟩, ?_, hg⟩
              rw [← hL] at ho
              rcases hz with h | h <;> subst h <;> simpa using ho
          clear ho hg
          rintro f w ⟨hf0, ho, hg⟩
          obtain ⟨g, rfl⟩ := has_updL _ _ hf0
          clear hf0
          refine wSeqJ (fun f w => Has f [(0, .slice (some ⟨q, 0, none⟩) mm c), (1, .int .i64 (a : Nat)), (2, .int .i64 (m : Nat)), (3, .int .i64 (b : Nat)), (4, .func (.func 25) #[] #[]), (18, .int .i64 (md : Nat)), (20, .int .i64 (s : Nat)), (24, .int .i64 (e : Nat))] ∧ Own w base 37 2 (some ⟨q, 0, none⟩) mm c (fl (pre ++ isort (X1 ++ V) ++ (U ++ Y2) ++ post)) ∧ Chg q w0 w) ?_ ?_
          · refine wSeq ?_
            refine wReg ?_
            refine sRun (xMvI rfl) ?_
            refine sRun (xMvI rfl) ?_
            refine sSplit (xLss rfl rfl) (fun h194 => ?_) (fun h194 => ?_)
            · refine sRun (xMvB rfl) ?_
              refine sGo rfl ?_
              refine sRun (xMvI rfl) ?_
              refine sGo rfl ?_
              refine sRun (xMvI rfl) ?_
              refine sGo rfl ?_
              refine sSplit (xLss rfl rfl) (fun h198 => ?_) (fun h198 => ?_)
              · refine sRun (xPkTB rfl rfl) ?_
                refine sNil ?_
                refine wIfT rfl ?_
                refine wReg ?_
                refine sRun (xMvS rfl) ?_
                refine sRun (xMvI rfl) ?_
                refine sRun (xMvI rfl) ?_
                refine sRun (xMvI rfl) ?_
                refine sRun (xMvF rfl) ?_
                refine sCall (eCall cal30 rfl) (ih a s md pre X1 V (U ++ Y2 ++ post) w (by omega) (by omega) (by omega) (by omega) (fun h => by have h0 : X1.length = 0 := (by rw [h]; rfl); omega) (fun h => by have h0 : V.length = 0 := (by rw [h]; rfl); omega) hsX.1 hsY.1 (onec_of h1 (fun x hx => by rw [← hL]; simp only [List.mem_append] at hx ⊢; rcases hx with ((h | h) | h) | (h | h) | h <;> simp [h])) (by simpa using ho)) ?_
                rintro _ w205 ⟨ho205, hc205⟩
                refine sNil ?_
                exact ⟨⟨rfl, rfl, rfl, rfl, rfl, rfl, rfl, rfl, trivial⟩, by simpa using ho205, hg.trans hc205⟩
              · refine sRun (xPkTB rfl rfl) ?_
                refine sNil ?_
                refine wIfF rfl ?_
                refine wSkip ?_
                have hz : X1 = [] ∨ V = [] := by
                  have : X1.length = 0 ∨ V.length = 0 := by omega
                  exact this.imp List.eq_nil_of_length_eq_zero List.eq_nil_of_length_eq_zero
                refine ⟨⟨rfl, rfl, rfl, rfl, rfl, rfl, rfl, rfl, trivial⟩, ?_, hg⟩
                have hi : isort (X1 ++ V) = X1 ++ V := by rcases hz with h | h <;> subst h <;> simp <;> exact isort_self (by first | exact hsY.1 | exact hsX.1)
                rw [hi]; simpa using ho
            · refine sRun (xMvB rfl) ?_
              refine sNo rfl ?_
              refine sNo rfl ?_
              refine sNo rfl ?_
              refine sRun (xPkFB rfl rfl) ?_
              refine sNil ?_
              refine wIfF rfl ?_
              refine wSkip ?_
              have hz : X1 = [] ∨ V = [] := by
                have : X1.length = 0 ∨ V.length = 0 := by omega
                exact this.imp List.eq_nil_of_length_eq_zero List.eq_nil_of_length_eq_zero
              refine ⟨⟨rfl, rfl, rfl, rfl, rfl, rfl, rfl, rfl, trivial⟩, ?_, hg⟩
              have hi : isort (X1 ++ V) = X1 ++ V := by rcases hz with h | h <;> subst h <;> simp <;> exact isort_self (by first | exact hsY.1 | exact hsX.1)
              rw [hi]; simpa using ho
          clear ho hg
          rintro f w ⟨hf0, ho, hg⟩
          obtain ⟨g, rfl⟩ := has_updL _ _ hf0
          clear hf0
          refine wSeq ?_
          refine wReg ?_
          refine sRun (xMvI rfl) ?_
          refine sRun (xMvI rfl) ?_
          refine sSplit (xLss rfl rfl) (fun h208 => ?_) (fun h208 => ?_)
          · refine sRun (xMvB rfl) ?_
            refine sGo rfl ?_
            refine sRun (xMvI rfl) ?_
            refine sGo rfl ?_
            refine sRun (xMvI rfl) ?_
            refine sGo rfl ?_
            refine sSplit (xLss rfl rfl) (fun h212 => ?_) (fun h212 => ?_)
            · refine sRun (xPkTB rfl rfl) ?_
              refine sNil ?_
              refine wIfT rfl ?_
              refine wReg ?_
              refine sRun (xMvS rfl) ?_
              refine sRun (xMvI rfl) ?_
              refine sRun (xMvI rfl) ?_
              refine sRun (xMvI rfl) ?_
              refine sRun (xMvF rfl) ?_
              refine sCall (eCall cal30 rfl) (ih md e b (pre ++ isort (X1 ++ V)) U Y2 post w (by omega) (by simp [isort_len]; omega) (by omega) (by omega) (fun h => by have h0 : U.length = 0 := (by rw [h]; rfl); omega) (fun h => by have h0 : Y2.length = 0 := (by rw [h]; rfl); omega) hsX.2.1 hsY.2.1 (onec_of h1 (fun x hx => by rw [← hL]; simp only [List.mem_append, mem_isort] at hx ⊢; rcases hx with (((h | (h | h)) | h) | h) | h <;> simp [h])) (by simpa using ho)) ?_
              rintro _ w219 ⟨ho219, hc219⟩
              refine sNil ?_
              refine res0 (P := Try.prog) (fn := Try.f30) rfl ?_
              refine ⟨?_, hg.trans hc219⟩
              rw [← hfin]
              simpa using ho219
            · refine sRun (xPkTB rfl rfl) ?_
              refine sNil ?_
              refine wIfF rfl ?_
              refine wSkip ?_
              refine res0 (P := Try.prog) (fn := Try.f30) rfl ?_
              refine ⟨?_, hg⟩
              have hz : U = [] ∨ Y2 = [] := by
                have : U.length = 0 ∨ Y2.length = 0 := by omega
                exact this.imp List.eq_nil_of_length_eq_zero List.eq_nil_of_length_eq_zero
              have hi : isort (U ++ Y2) = U ++ Y2 := by rcases hz with h | h <;> subst h <;> simp <;> exact isort_self (by first | exact hsY.2.1 | exact hsX.2.1)
              rw [← hfin, hi]
              simpa using ho
          · refine sRun (xMvB rfl) ?_
            refine sNo rfl ?_
            refine sNo rfl ?_
            refine sNo rfl ?_
            refine sRun (xPkFB rfl rfl) ?_
            refine sNil ?_
            refine wIfF rfl ?_
            refine wSkip ?_
            refine res0 (P := Try.prog) (fn := Try.f30) rfl ?_
            refine ⟨?_, hg⟩
            have hz : U = [] ∨ Y2 = [] := by
              have : U.length = 0 ∨ Y2.length = 0 := by omega
              exact this.imp List.eq_nil_of_length_eq_zero List.eq_nil_of_length_eq_zero
            have hi : isort (U ++ Y2) = U ++ Y2 := by rcases hz with h | h <;> subst h <;> simp <;> exact isort_self (by first | exact hsY.2.1 | exact hsX.2.1)
            rw [← hfin, hi]
            simpa using ho

end Go.Proofs.Ytnppmdhgelfloaa
