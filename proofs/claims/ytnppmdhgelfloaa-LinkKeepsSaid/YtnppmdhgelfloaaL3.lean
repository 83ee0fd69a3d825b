/- The contract of the insertion sort. -/
import Derived.Test.YtnppmdhgelfloaaSort
set_option linter.unusedVariables false
namespace Go.Proofs.Ytnppmdhgelfloaa
open Go.RowKit Go.Fw

theorem cal25 : Callable Try.prog 25 := ⟨_, Try.func25, by kernel_rfl, by kernel_rfl⟩
theorem at_mid {pre P1 P2 : List G} {e : G} {rest : List G} {k : Nat} (h : k = pre.length + P1.length) : (pre ++ (P1 ++ e :: P2) ++ rest)[k]? = some e := by
  subst h
  rw [List.append_assoc, List.getElem?_append_right (by omega), Nat.add_sub_cancel_left, List.append_assoc, List.getElem?_append_right (by omega), Nat.sub_self]; rfl
theorem at_mid' {pre P1 P2 : List G} {x e : G} {rest : List G} {k : Nat} (h : k = pre.length + P1.length) : (pre ++ ((P1 ++ [x]) ++ e :: P2) ++ rest)[k]? = some x := by
  rw [List.append_assoc P1 [x]]
  exact at_mid (P2 := e :: P2) h
theorem swap_mid {pre P1 P2 : List G} {x e : G} {rest : List G} {k : Nat} (h : k = pre.length + P1.length) :
    ((pre ++ ((P1 ++ [x]) ++ e :: P2) ++ rest).set (k + 1) x).set k e = pre ++ (P1 ++ e :: (x :: P2)) ++ rest := by
  subst h
  have e1 : pre ++ ((P1 ++ [x]) ++ e :: P2) ++ rest = (pre ++ P1) ++ (x :: e :: (P2 ++ rest)) := by simp
  have e2 : pre ++ (P1 ++ e :: (x :: P2)) ++ rest = (pre ++ P1) ++ (e :: x :: (P2 ++ rest)) := by simp
  have e3 : pre.length + P1.length = (pre ++ P1).length := by simp
  rw [e1, e2, e3, List.set_append_right _ _ (by omega), List.set_append_right _ _ (by omega), Nat.sub_self, Nat.add_sub_cancel_left]
  rfl


theorem insertion_ne (q m c base a b : Nat) (pre S post : List G) (w0 : World) (ha : a = pre.length) (hb : b = a + S.length) (hS : S ≠ []) (h1 : OneC (pre ++ S ++ post)) (ho : Own w0 base 37 2 (some ⟨q, 0, none⟩) m c (fl (pre ++ S ++ post))) (hm : m ≤ 4611686018427387904) :
    Calls Try.prog 29 #[.slice (some ⟨q, 0, none⟩) m c, .int .i64 (a : Nat), .int .i64 (b : Nat), .func (.func 25) #[] #[]] w0 (Ret fun _ w' => Own w' base 37 2 (some ⟨q, 0, none⟩) m c (fl (pre ++ isort S ++ post)) ∧ Chg q w0 w') := by
  obtain ⟨s, S', hs⟩ : ∃ s S', S = s :: S' := by cases S with | nil => exact absurd rfl hS | cons s S' => exact ⟨s, S', rfl⟩
  have hm0 := el_len ho
  have hbm : b ≤ m := by rw [← hm0]; simp; omega
  refine calls_of Try.func29 rfl (Nat.le_of_ble_eq_true rfl) (by kernel_rfl) ?_
  refine wCut [(0, .slice (some ⟨q, 0, none⟩) m c), (1, .int .i64 (a : Nat)), (2, .int .i64 (b : Nat)), (3, .func (.func 25) #[] #[])] ⟨rfl, rfl, rfl, rfl, trivial⟩ fun g => ?_
  refine wSeq ?_
  refine wReg ?_
  refine sRun (xMvI rfl) ?_
  refine sRun (xAdd64 rfl rfl (by omega) (by omega)) ?_
  refine sRun (xAsI rfl) ?_
  refine sNil ?_
  refine wBlock ?_
  refine wLoopG (fun n f w => ∃ S1 S2 gl i, n = S.length - S1.length ∧ S = S1 ++ S2 ∧ 1 ≤ S1.length ∧ gl = pre ++ isort S1 ++ (S2 ++ post) ∧ i = a + S1.length ∧ Has f [(0, .slice (some ⟨q, 0, none⟩) m c), (1, .int .i64 (a : Nat)), (2, .int .i64 (b : Nat)), (3, .func (.func 25) #[] #[]), (8, .int .i64 (i : Nat))] ∧ Own w base 37 2 (some ⟨q, 0, none⟩) m c (fl gl) ∧ Chg q w0 w) (S.length - 1) ⟨[s], S', pre ++ S ++ post, a + 1, rfl, hs, Nat.le_refl _, by rw [hs]; simp [isort, insE], rfl, ⟨rfl, rfl, rfl, rfl, rfl, trivial⟩, ho, Chg.refl _ _⟩ ?_
  rintro n f w ⟨S1, S2, gl, i, rfl, hS12, hS1, hgl, hi, hf0, ho, hg⟩
  obtain ⟨g, rfl⟩ := has_updL _ _ hf0
  clear hf0
  refine wSeq ?_
  refine wSeq ?_
  refine wReg ?_
  refine sRun (xMvI rfl) ?_
  refine sRun (xMvI rfl) ?_
  refine sSplit (xLss rfl rfl) (fun h14 => ?_) (fun h14 => ?_)
  · obtain ⟨e, S2, rfl⟩ : ∃ e S2', S2 = e :: S2' := by
      cases S2 with
      | nil => exfalso; rw [hS12] at hb; simp at hb; omega
      | cons e S2' => exact ⟨e, S2', rfl⟩
    have hS1 := isort_len S1
    have hm1 := el_len ho
    have hm2 : gl.length = a + S1.length + (S2.length + 1) + post.length := by rw [hgl]; simp [isort_len]; omega
    refine sNil ?_
    refine wIfT rfl ?_
    refine wSkip ?_
    refine wSeq ?_
    refine wBlock ?_
    refine wSeq ?_
    refine wReg ?_
    refine sRun (xMvI rfl) ?_
    refine sRun (xAsI rfl) ?_
    refine sNil ?_
    refine wBlock ?_
    refine wLoopG (fun n f w => ∃ P1 P2 gl j, n = P1.length ∧ isort S1 = P1 ++ P2 ∧ (∀ x ∈ P2, e.1 < x.1) ∧ gl = pre ++ (P1 ++ e :: P2) ++ (S2 ++ post) ∧ j = a + P1.length ∧ Has f [(0, .slice (some ⟨q, 0, none⟩) m c), (1, .int .i64 (a : Nat)), (2, .int .i64 (b : Nat)), (3, .func (.func 25) #[] #[]), (8, .int .i64 (i : Nat)), (9, .int .i64 (j : Nat))] ∧ Own w base 37 2 (some ⟨q, 0, none⟩) m c (fl gl) ∧ Chg q w0 w) ((isort S1).length) ⟨isort S1, [], gl, i, rfl, by simp, by simp, by rw [hgl]; simp, by omega, ⟨rfl, rfl, rfl, rfl, rfl, rfl, trivial⟩, ho, hg⟩ ?_
    have hmem0 : ∀ y, y ∈ isort S1 → y ∈ S := fun y hy => by rw [hS12]; exact List.mem_append_left _ (mem_of_atKey (isort_atKey S1) hy)
    clear ho hg hgl hm1 hm2
    clear gl
    rintro n f w ⟨P1, P2, gl, j, rfl, hP12, hP2, hgl, hj, hf0, ho, hg⟩
    obtain ⟨g, rfl⟩ := has_updL _ _ hf0
    clear hf0
    have hmem : ∀ {y}, y ∈ pre ++ (P1 ++ e :: P2) ++ (S2 ++ post) → y ∈ pre ++ S ++ post := by
      intro y hy
      have h0 : y ∈ P1 ∨ y ∈ P2 → y ∈ S := fun h => hmem0 y (by rw [hP12]; simpa using h)
      simp only [List.mem_append, List.mem_cons] at hy ⊢
      rcases hy with (hy | hy | hy | hy) | hy | hy
      · exact .inl (.inl hy)
      · exact .inl (.inr (h0 (.inl hy)))
      · subst hy; rw [hS12]; simp
      · exact .inl (.inr (h0 (.inr hy)))
      · rw [hS12]; simp [hy]
      · exact .inr hy
    refine wSeq ?_
    refine wSeq ?_
    refine wDraw (fun wS => Own wS base 37 2 (some ⟨q, 0, none⟩) m c (fl gl)) [] (by kernel_rfl) ?_
    refine hTake 0 rfl (by kernel_rfl) rfl (fun wS => (xMvI rfl)) (sl_of ho) ?_
    refine hTake 1 rfl (by kernel_rfl) rfl (fun wS => (xMvI rfl)) (sl_of ho) ?_
    refine hSplit 2 rfl (by kernel_rfl) rfl (fun wS => (xGtr rfl rfl)) (sl_of ho) (fun h20 => ?_) (fun h20 => ?_)
    · obtain ⟨P1, x, rfl⟩ : ∃ P1' x, P1 = P1' ++ [x] := by
        rcases List.eq_nil_or_concat P1 with h | ⟨P1', x, h⟩
        · exfalso; subst h; simp at hj; omega
        · exact ⟨P1', x, by simpa using h⟩
      simp only [List.length_append, List.length_cons, List.length_nil] at hj
      have hP : P1.length + 1 + P2.length = S1.length := by rw [← hS1, hP12]; simp; omega
      have hge : gl[j]? = some e := by rw [hgl]; exact at_mid (by simp; omega)
      have hgx : gl[j - 1]? = some x := by rw [hgl]; exact at_mid' (by omega)
      have hm3 : gl.length = a + S1.length + (S2.length + 1) + post.length := by rw [hgl]; simp; omega
      have hm4 := el_len ho
      refine hTake 3 rfl (by kernel_rfl) rfl (fun wS => (xMvB rfl)) (sl_of ho) ?_
      refine hTake 4 rfl (by kernel_rfl) rfl (fun wS => (xMvF rfl)) (sl_of ho) ?_
      refine hTake 5 rfl (by kernel_rfl) rfl (fun wS => (xMvS rfl)) (sl_of ho) ?_
      refine hTake 6 rfl (by kernel_rfl) rfl (fun wS => (xMvI rfl)) (sl_of ho) ?_
      refine hTake 7 rfl (by kernel_rfl) rfl (fun wS => (xIdx j Try.underlying22 ti37 rfl rfl (by omega) (by omega))) (sl_of ho) ?_
      refine hTakeS 8 rfl (by kernel_rfl) (by kernel_rfl) rfl (fun wS hS => (xLoadS [.int .i64 e.1, e.2.1] Try.underlying37 rfl ti37 rfl rfl (el_cells hS hge))) (sl_of ho) ?_
      refine hTake 9 rfl (by kernel_rfl) rfl (fun wS => (xMvS rfl)) (sl_of ho) ?_
      refine hTake 10 rfl (by kernel_rfl) rfl (fun wS => (xMvI rfl)) (sl_of ho) ?_
      refine hTake 11 rfl (by kernel_rfl) rfl (fun wS => (xSub64 rfl rfl (by omega) (by omega))) (sl_of ho) ?_
      refine hTake 12 rfl (by kernel_rfl) rfl (fun wS => (xIdx (j - 1) Try.underlying22 ti37 rfl rfl (by omega) (by omega))) (sl_of ho) ?_
      refine hTakeS 13 rfl (by kernel_rfl) (by kernel_rfl) rfl (fun wS hS => (xLoadS [.int .i64 x.1, x.2.1] Try.underlying37 rfl ti37 rfl rfl (el_cells hS hgx))) (sl_of ho) ?_
      refine hOne 14 (by kernel_rfl) (oCall rfl rfl (eClos cal25 rfl) (less_spec _ _ _ _ _) ?_)
      rintro _ w32 ⟨rfl, he32⟩
      have hx32 : Ext w w32 := ((Ext.refl w).drew).trans he32
      have ho32 := ho.ext hx32
      have hg32 : Chg q w0 w32 := Chg.trans hg hx32.chg
      refine ⟨(sl_of ho32), ?_⟩
      refine hSplit 15 rfl (by kernel_rfl) rfl (fun wS => (xLss rfl rfl)) (sl_of ho32) (fun h33 => ?_) (fun h33 => ?_)
      · have hlt := cmpI_neg.1 h33
        refine hTake 16 rfl (by kernel_rfl) rfl (fun wS => (xPkTB rfl rfl)) (sl_of ho32) ?_
        refine hDone (by kernel_rfl) ?_
        refine wIfT rfl ?_
        refine wSkip ?_
        refine wSeq ?_
        refine wBlock ?_
        refine wDraw (fun wS => Own wS base 37 2 (some ⟨q, 0, none⟩) m c (fl gl)) [15, 17] (by kernel_rfl) ?_
        refine hTake 0 rfl (by kernel_rfl) rfl (fun wS => (xMvS rfl)) (sl_of ho32) ?_
        refine hTake 1 rfl (by kernel_rfl) rfl (fun wS => (xMvI rfl)) (sl_of ho32) ?_
        refine hTake 2 rfl (by kernel_rfl) rfl (fun wS => (xMvS rfl)) (sl_of ho32) ?_
        refine hTake 3 rfl (by kernel_rfl) rfl (fun wS => (xMvI rfl)) (sl_of ho32) ?_
        refine hTake 4 rfl (by kernel_rfl) rfl (fun wS => (xSub64 rfl rfl (by omega) (by omega))) (sl_of ho32) ?_
        refine hTake 5 rfl (by kernel_rfl) rfl (fun wS => (xMvS rfl)) (sl_of ho32) ?_
        refine hTake 6 rfl (by kernel_rfl) rfl (fun wS => (xMvI rfl)) (sl_of ho32) ?_
        refine hTake 7 rfl (by kernel_rfl) rfl (fun wS => (xSub64 rfl rfl (by omega) (by omega))) (sl_of ho32) ?_
        refine hTake 8 rfl (by kernel_rfl) rfl (fun wS => (xIdx (j - 1) Try.underlying22 ti37 rfl rfl (by omega) (by omega))) (sl_of ho32) ?_
        refine hTakeS 9 rfl (by kernel_rfl) (by kernel_rfl) rfl (fun wS hS => (xLoadS [.int .i64 x.1, x.2.1] Try.underlying37 rfl ti37 rfl rfl (el_cells hS hgx))) (sl_of ho32) ?_
        refine hTake 10 rfl (by kernel_rfl) rfl (fun wS => (xMvS rfl)) (sl_of ho32) ?_
        refine hTake 11 rfl (by kernel_rfl) rfl (fun wS => (xMvI rfl)) (sl_of ho32) ?_
        refine hTake 12 rfl (by kernel_rfl) rfl (fun wS => (xIdx j Try.underlying22 ti37 rfl rfl (by omega) (by omega))) (sl_of ho32) ?_
        refine hTakeS 13 rfl (by kernel_rfl) (by kernel_rfl) rfl (fun wS hS => (xLoadS [.int .i64 e.1, e.2.1] Try.underlying37 rfl ti37 rfl rfl (el_cells hS hge))) (sl_of ho32) ?_
        refine hTake 14 rfl (by kernel_rfl) rfl (fun wS => (xIdx j Try.underlying22 ti37 rfl rfl (by omega) (by omega))) (sl_of ho32) ?_
        refine hOne 15 (by kernel_rfl) (oEl x rfl rfl ti37 rfl rfl (h1 x (List.mem_of_getElem? (hgl ▸ hgx) |> hmem)) (ho32.ext (Ext.refl _).drew) (by omega) ?_)
        intro wa hoa hca
        refine ⟨(sl_late 15 (by kernel_rfl)), ?_⟩
        refine hTake 16 rfl (by kernel_rfl) rfl (fun wS => (xIdx (j - 1) Try.underlying22 ti37 rfl rfl (by omega) (by omega))) (sl_late 15 (by kernel_rfl)) ?_
        refine hOne 17 (by kernel_rfl) (oEl e rfl rfl ti37 rfl rfl (h1 e (List.mem_of_getElem? (hgl ▸ hge) |> hmem)) hoa (by rw [List.length_set]; omega) ?_)
        intro wb hob hcb
        refine ⟨(sl_late 17 (by kernel_rfl)), ?_⟩
        refine hDone (by kernel_rfl) ?_
        refine wReg ?_
        refine sRun (xMvI rfl) ?_
        refine sRun (xSub64 rfl rfl (by omega) (by omega)) ?_
        refine sRun (xAsI rfl) ?_
        refine sNil ?_
        refine ⟨P1.length, by simp, P1, x :: P2, (gl.set j x).set (j - 1) e, j - 1, rfl, by rw [hP12]; simp, ?_, ?_, by omega, ⟨rfl, rfl, rfl, rfl, rfl, ?_, trivial⟩, hob, (hg32.trans (Ext.refl w32).drew.chg).trans (hca.trans hcb)⟩
        · intro y hy
          rcases List.mem_cons.1 hy with rfl | hy
          · exact hlt
          · exact hP2 y hy
        · rw [hgl, show j = (j - 1) + 1 by omega, Nat.add_sub_cancel]
          exact swap_mid (by omega)
        · exact congrArg (Value.int .i64) (by omega)
      · have hlt : ¬ e.1 < x.1 := fun h => h33 (cmpI_neg.2 h)
        refine hTake 16 rfl (by kernel_rfl) rfl (fun wS => (xPkTB rfl rfl)) (sl_of ho32) ?_
        refine hDone (by kernel_rfl) ?_
        refine wIfF rfl ?_
        refine wExit ?_
        refine wReg ?_
        refine sRun (xMvI rfl) ?_
        refine sRun (xAdd64 rfl rfl (by omega) (by omega)) ?_
        refine sRun (xAsI rfl) ?_
        refine sNil ?_
        refine ⟨S.length - (S1.length + 1), by rw [hS12]; simp; omega, S1 ++ [e], S2, pre ++ isort (S1 ++ [e]) ++ (S2 ++ post), i + 1, by simp, by rw [hS12]; simp, by simp, rfl, by simp; omega, ⟨rfl, rfl, rfl, rfl, rfl, trivial⟩, ?_, hg32⟩
        have hins : insE e (isort S1) = (P1 ++ [x]) ++ e :: P2 := by
          rw [hP12]
          refine insE_at (by rw [← hP12]; exact isort_srt S1) hP2 ?_
          intro y hy
          have hsr : Srt (P1 ++ [x]) := (srt_append.1 (by rw [← hP12]; exact isort_srt S1)).1
          rcases List.mem_append.1 hy with hy | hy
          · have := (srt_append.1 hsr).2.2 y hy x (by simp); omega
          · simp at hy; subst hy; omega
        rw [isort_snoc, hins]
        rw [hgl] at ho32
        exact ho32
    · refine hTake 3 rfl (by kernel_rfl) rfl (fun wS => (xMvB rfl)) (sl_of ho) ?_
      refine hSkip 4 rfl (by kernel_rfl) rfl (sl_of ho) ?_
      refine hSkip 5 rfl (by kernel_rfl) rfl (sl_of ho) ?_
      refine hSkip 6 rfl (by kernel_rfl) rfl (sl_of ho) ?_
      refine hSkip 7 rfl (by kernel_rfl) rfl (sl_of ho) ?_
      refine hSkip 8 rfl (by kernel_rfl) rfl (sl_of ho) ?_
      refine hSkip 9 rfl (by kernel_rfl) rfl (sl_of ho) ?_
      refine hSkip 10 rfl (by kernel_rfl) rfl (sl_of ho) ?_
      refine hSkip 11 rfl (by kernel_rfl) rfl (sl_of ho) ?_
      refine hSkip 12 rfl (by kernel_rfl) rfl (sl_of ho) ?_
      refine hSkip 13 rfl (by kernel_rfl) rfl (sl_of ho) ?_
      refine hSkip 14 rfl (by kernel_rfl) rfl (sl_of ho) ?_
      refine hSkip 15 rfl (by kernel_rfl) rfl (sl_of ho) ?_
      refine hTake 16 rfl (by kernel_rfl) rfl (fun wS => (xPkFB rfl rfl)) (sl_of ho) ?_
      refine hDone (by kernel_rfl) ?_
      refine wIfF rfl ?_
      refine wExit ?_
      refine wReg ?_
      refine sRun (xMvI rfl) ?_
      refine sRun (xAdd64 rfl rfl (by omega) (by omega)) ?_
      refine sRun (xAsI rfl) ?_
      refine sNil ?_
      refine ⟨S.length - (S1.length + 1), by rw [hS12]; simp; omega, S1 ++ [e], S2, pre ++ isort (S1 ++ [e]) ++ (S2 ++ post), i + 1, by simp, by rw [hS12]; simp, by simp, rfl, by simp; omega, ⟨rfl, rfl, rfl, rfl, rfl, trivial⟩, ?_, hg.trans (Ext.refl w).drew.chg⟩
      have hins : insE e (isort S1) = P1 ++ e :: P2 := by
        rw [hP12]
        refine insE_at (by rw [← hP12]; exact isort_srt S1) hP2 ?_
        have hp1 : P1 = [] := List.eq_nil_of_length_eq_zero (by omega)
        subst hp1
        simp
      rw [isort_snoc, hins]
      rw [hgl] at ho
      exact ho
  · refine sNil ?_
    refine wIfF rfl ?_
    refine wExit ?_
    refine res0 (P := Try.prog) (fn := Try.f29) rfl ?_
    obtain rfl : S2 = [] := List.eq_nil_of_length_eq_zero (by have := congrArg List.length hS12; simp at this; omega)
    simp only [List.append_nil] at hS12
    subst hS12
    rw [hgl] at ho
    exact ⟨by simpa using ho, hg⟩

end Go.Proofs.Ytnppmdhgelfloaa
