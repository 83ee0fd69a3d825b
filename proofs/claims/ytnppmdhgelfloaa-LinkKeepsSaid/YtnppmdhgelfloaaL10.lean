/- The contracts of swapRange and rotate. -/
import Derived.Test.YtnppmdhgelfloaaSym
set_option linter.unusedVariables false
namespace Go.Proofs.Ytnppmdhgelfloaa
open Go.RowKit Go.Fw

theorem cal32 : Callable Try.prog 32 := ⟨_, Try.func32, by kernel_rfl, by kernel_rfl⟩

set_option maxRecDepth 4000 in
theorem swapRange_spec (q mm c base a b nn : Nat) (P X M Y Q : List G) (w0 : World) (ha : a = P.length) (hb : b = P.length + X.length + M.length) (hn : nn = X.length) (hn2 : Y.length = nn) (h1 : OneC (P ++ X ++ M ++ Y ++ Q)) (ho : Own w0 base 37 2 (some ⟨q, 0, none⟩) mm c (fl (P ++ X ++ M ++ Y ++ Q))) (hm : mm ≤ 4611686018427387904) :
    Calls Try.prog 32 #[.slice (some ⟨q, 0, none⟩) mm c, .int .i64 (a : Nat), .int .i64 (b : Nat), .int .i64 (nn : Nat), .func (.func 25) #[] #[]] w0 (Ret fun _ w' => Own w' base 37 2 (some ⟨q, 0, none⟩) mm c (fl (P ++ Y ++ M ++ X ++ Q)) ∧ Chg q w0 w') := by
  have hlen0 := el_len ho
  simp only [List.length_append] at hlen0
  refine calls_of Try.func32 rfl (Nat.le_of_ble_eq_true rfl) (by kernel_rfl) ?_
  refine wCut [(0, .slice (some ⟨q, 0, none⟩) mm c), (1, .int .i64 (a : Nat)), (2, .int .i64 (b : Nat)), (3, .int .i64 (nn : Nat)), (4, .func (.func 25) #[] #[])] ⟨rfl, rfl, rfl, rfl, rfl, trivial⟩ fun g => ?_
  refine wSeq ?_
  refine wReg ?_
  refine sRun (xAsI rfl) ?_
  refine sNil ?_
  refine wBlock ?_
  refine wLoopG (fun n f w => ∃ X1 X2 Y1 Y2 gl i, n = X2.length ∧ X = X1 ++ X2 ∧ Y = Y1 ++ Y2 ∧ X1.length = i ∧ Y1.length = i ∧ gl = P ++ Y1 ++ X2 ++ M ++ X1 ++ Y2 ++ Q ∧ Has f [(0, .slice (some ⟨q, 0, none⟩) mm c), (1, .int .i64 (a : Nat)), (2, .int .i64 (b : Nat)), (3, .int .i64 (nn : Nat)), (10, .int .i64 (i : Nat))] ∧ Own w base 37 2 (some ⟨q, 0, none⟩) mm c (fl gl) ∧ Chg q w0 w) (X.length) ⟨[], X, [], Y, P ++ X ++ M ++ Y ++ Q, 0, rfl, rfl, rfl, rfl, rfl, by simp, ⟨rfl, rfl, rfl, rfl, rfl, trivial⟩, ho, Chg.refl _ _⟩ ?_
  rintro n f w ⟨X1, X2, Y1, Y2, gl, i, rfl, hX, hY, hX1, hY1, hgl, hf0, ho, hg⟩
  obtain ⟨g, rfl⟩ := has_updL _ _ hf0
  clear hf0
  refine wSeq ?_
  refine wSeq ?_
  refine wReg ?_
  refine sRun (xMvI rfl) ?_
  refine sRun (xMvI rfl) ?_
  refine sSplit (xLss rfl rfl) (fun h13 => ?_) (fun h13 => ?_)
  · have hXl := congrArg List.length hX
    have hYl := congrArg List.length hY
    simp only [List.length_append] at hXl hYl
    obtain ⟨x, X2, rfl⟩ := uncons (l := X2) (by omega)
    obtain ⟨y, Y2, rfl⟩ := uncons (l := Y2) (by omega)
    have hgl2 : gl = (P ++ Y1) ++ x :: ((X2 ++ M ++ X1) ++ y :: (Y2 ++ Q)) := by rw [hgl]; simp
    have hlen := el_len ho
    have hgll := congrArg List.length hgl2
    simp only [List.length_append, List.length_cons] at hgll hXl hYl
    have hgx : gl[a + i]? = some x := by rw [hgl2]; exact get_two1 _ _ _ _ _ (by simp; omega)
    have hgy : gl[b + i]? = some y := by rw [hgl2]; exact get_two2 _ _ _ _ _ (by simp; omega)
    have hmx : x ∈ P ++ X ++ M ++ Y ++ Q := by rw [hX]; simp
    have hmy : y ∈ P ++ X ++ M ++ Y ++ Q := by rw [hY]; simp
    refine sNil ?_
    refine wIfT rfl ?_
    refine wSkip ?_
    refine wSeq ?_
    refine wBlock ?_
    refine wDraw (fun wS => Own wS base 37 2 (some ⟨q, 0, none⟩) mm c (fl gl)) [21, 23] (by kernel_rfl) ?_
    refine hTake 0 rfl (by kernel_rfl) rfl (fun wS => (xMvS rfl)) (sl_of ho) ?_
    refine hTake 1 rfl (by kernel_rfl) rfl (fun wS => (xMvI rfl)) (sl_of ho) ?_
    refine hTake 2 rfl (by kernel_rfl) rfl (fun wS => (xMvI rfl)) (sl_of ho) ?_
    refine hTake 3 rfl (by kernel_rfl) rfl (fun wS => (xAdd64 rfl rfl (by omega) (by omega))) (sl_of ho) ?_
    refine hTake 4 rfl (by kernel_rfl) rfl (fun wS => (xMvS rfl)) (sl_of ho) ?_
    refine hTake 5 rfl (by kernel_rfl) rfl (fun wS => (xMvI rfl)) (sl_of ho) ?_
    refine hTake 6 rfl (by kernel_rfl) rfl (fun wS => (xMvI rfl)) (sl_of ho) ?_
    refine hTake 7 rfl (by kernel_rfl) rfl (fun wS => (xAdd64 rfl rfl (by omega) (by omega))) (sl_of ho) ?_
    refine hTake 8 rfl (by kernel_rfl) rfl (fun wS => (xMvS rfl)) (sl_of ho) ?_
    refine hTake 9 rfl (by kernel_rfl) rfl (fun wS => (xMvI rfl)) (sl_of ho) ?_
    refine hTake 10 rfl (by kernel_rfl) rfl (fun wS => (xMvI rfl)) (sl_of ho) ?_
    refine hTake 11 rfl (by kernel_rfl) rfl (fun wS => (xAdd64 rfl rfl (by omega) (by omega))) (sl_of ho) ?_
    refine hTake 12 rfl (by kernel_rfl) rfl (fun wS => (xIdx (b + i) Try.underlying22 ti37 rfl rfl (by omega) (by omega))) (sl_of ho) ?_
    refine hTakeS 13 rfl (by kernel_rfl) (by kernel_rfl) rfl (fun wS hS => (xLoadS [.int .i64 y.1, y.2.1] Try.underlying37 rfl ti37 rfl rfl (el_cells hS hgy))) (sl_of ho) ?_
    refine hTake 14 rfl (by kernel_rfl) rfl (fun wS => (xMvS rfl)) (sl_of ho) ?_
    refine hTake 15 rfl (by kernel_rfl) rfl (fun wS => (xMvI rfl)) (sl_of ho) ?_
    refine hTake 16 rfl (by kernel_rfl) rfl (fun wS => (xMvI rfl)) (sl_of ho) ?_
    refine hTake 17 rfl (by kernel_rfl) rfl (fun wS => (xAdd64 rfl rfl (by omega) (by omega))) (sl_of ho) ?_
    refine hTake 18 rfl (by kernel_rfl) rfl (fun wS => (xIdx (a + i) Try.underlying22 ti37 rfl rfl (by omega) (by omega))) (sl_of ho) ?_
    refine hTakeS 19 rfl (by kernel_rfl) (by kernel_rfl) rfl (fun wS hS => (xLoadS [.int .i64 x.1, x.2.1] Try.underlying37 rfl ti37 rfl rfl (el_cells hS hgx))) (sl_of ho) ?_
    refine hTake 20 rfl (by kernel_rfl) rfl (fun wS => (xIdx (a + i) Try.underlying22 ti37 rfl rfl (by omega) (by omega))) (sl_of ho) ?_
    refine hOne 21 (by kernel_rfl) (oEl y rfl rfl ti37 rfl rfl (h1 y hmy) (ho.ext (Ext.refl _).drew) (by omega) ?_)
    intro wa hoa hca
    refine ⟨(sl_late 21 (by kernel_rfl)), ?_⟩
    refine hTake 22 rfl (by kernel_rfl) rfl (fun wS => (xIdx (b + i) Try.underlying22 ti37 rfl rfl (by omega) (by omega))) (sl_late 21 (by kernel_rfl)) ?_
    refine hOne 23 (by kernel_rfl) (oEl x rfl rfl ti37 rfl rfl (h1 x hmx) hoa (by rw [List.length_set]; omega) ?_)
    intro wb hob hcb
    refine ⟨(sl_late 23 (by kernel_rfl)), ?_⟩
    refine hDone (by kernel_rfl) ?_
    refine wReg ?_
    refine sRun (xMvI rfl) ?_
    refine sRun (xAdd64 rfl rfl (by omega) (by omega)) ?_
    refine sRun (xAsI rfl) ?_
    refine sNil ?_
    refine ⟨X2.length, by simp, X1 ++ [x], X2, Y1 ++ [y], Y2, (gl.set (a + i) y).set (b + i) x, i + 1, rfl, by rw [hX]; simp, by rw [hY]; simp, by simp [hX1], by simp [hY1], ?_, ⟨rfl, rfl, rfl, rfl, rfl, trivial⟩, hob, (hg.trans (Ext.refl w).drew.chg).trans (hca.trans hcb)⟩
    rw [hgl2, swap_two _ _ _ _ _ (by simp; omega) (by simp; omega)]
    simp
  · refine sNil ?_
    refine wIfF rfl ?_
    refine wExit ?_
    refine res0 (P := Try.prog) (fn := Try.f32) rfl ?_
    have hXl := congrArg List.length hX
    have hYl := congrArg List.length hY
    simp only [List.length_append] at hXl hYl
    obtain rfl : X2 = [] := List.eq_nil_of_length_eq_zero (by omega)
    obtain rfl : Y2 = [] := List.eq_nil_of_length_eq_zero (by omega)
    simp only [List.append_nil] at hX hY hgl
    rw [hX, hY]
    rw [hgl] at ho
    exact ⟨ho, hg⟩


set_option maxRecDepth 4000 in
theorem rotate_spec (q mm c base a m b : Nat) (pre U V post : List G) (w0 : World) (ha : a = pre.length) (hm0 : m = a + U.length) (hb : b = m + V.length) (hU : 0 < U.length) (hV : 0 < V.length) (h10 : OneC (pre ++ U ++ V ++ post)) (ho : Own w0 base 37 2 (some ⟨q, 0, none⟩) mm c (fl (pre ++ U ++ V ++ post))) (hm : mm ≤ 4611686018427387904) :
    Calls Try.prog 31 #[.slice (some ⟨q, 0, none⟩) mm c, .int .i64 (a : Nat), .int .i64 (m : Nat), .int .i64 (b : Nat), .func (.func 25) #[] #[]] w0 (Ret fun _ w' => Own w' base 37 2 (some ⟨q, 0, none⟩) mm c (fl (pre ++ V ++ U ++ post)) ∧ Chg q w0 w') := by
  have hlen0 := el_len ho
  simp only [List.length_append] at hlen0
  obtain ⟨F, hF⟩ : ∃ F, pre ++ V ++ U ++ post = F := ⟨_, rfl⟩
  rw [hF]
  have h1 : OneC F := onec_of h10 (fun x hx => by rw [← hF] at hx; simp only [List.mem_append] at hx ⊢; rcases hx with ((h | h) | h) | h <;> simp [h])
  refine calls_of Try.func31 rfl (Nat.le_of_ble_eq_true rfl) (by kernel_rfl) ?_
  refine wCut [(0, .slice (some ⟨q, 0, none⟩) mm c), (1, .int .i64 (a : Nat)), (2, .int .i64 (m : Nat)), (3, .int .i64 (b : Nat)), (4, .func (.func 25) #[] #[])] ⟨rfl, rfl, rfl, rfl, rfl, trivial⟩ fun g => ?_
  refine wSeq ?_
  refine wReg ?_
  refine sRun (xMvI rfl) ?_
  refine sRun (xMvI rfl) ?_
  refine sRun (xSub64 rfl rfl (by omega) (by omega)) ?_
  refine sRun (xAsI rfl) ?_
  refine sNil ?_
  refine wSeq ?_
  refine wReg ?_
  refine sRun (xMvI rfl) ?_
  refine sRun (xMvI rfl) ?_
  refine sRun (xSub64 rfl rfl (by omega) (by omega)) ?_
  refine sRun (xAsI rfl) ?_
  refine sNil ?_
  refine wSeq ?_
  refine wBlock ?_
  rw [show ((m : Int) - (a : Int)) = ((U.length : Nat) : Int) by omega, show ((b : Int) - (m : Int)) = ((V.length : Nat) : Int) by omega]
  refine wLoopG (fun n f w => ∃ Pre U V Post gl i j, n = i + j ∧ 0 < i ∧ 0 < j ∧ U.length = i ∧ V.length = j ∧ Pre.length + i = m ∧ gl = Pre ++ U ++ V ++ Post ∧ Pre ++ V ++ U ++ Post = F ∧ Has f [(0, .slice (some ⟨q, 0, none⟩) mm c), (2, .int .i64 (m : Nat)), (4, .func (.func 25) #[] #[]), (10, .int .i64 (i : Nat)), (11, .int .i64 (j : Nat))] ∧ Own w base 37 2 (some ⟨q, 0, none⟩) mm c (fl gl) ∧ Chg q w0 w) (U.length + V.length) ⟨pre, U, V, post, _, U.length, V.length, rfl, hU, hV, rfl, rfl, by omega, rfl, hF, ⟨rfl, rfl, rfl, rfl, rfl, trivial⟩, ho, Chg.refl _ _⟩ ?_
  rintro n f w ⟨Pre, U, V, Post, gl, i, j, rfl, hi, hj, hU, hV, hPm, hgl, hF, hf0, ho, hg⟩
  obtain ⟨g, rfl⟩ := has_updL _ _ hf0
  clear hf0
  refine wSeq ?_
  refine wSeq ?_
  refine wReg ?_
  refine sRun (xMvI rfl) ?_
  refine sRun (xMvI rfl) ?_
  refine sSplit (xNeqD rfl rfl) (fun h20 => ?_) (fun h20 => ?_)
  · have hlen := el_len ho
    have hgll := congrArg List.length hgl
    simp only [List.length_append] at hgll
    have hoc : OneC gl := onec_of h1 (fun x hx => by rw [hgl] at hx; rw [← hF]; simp only [List.mem_append] at hx ⊢; rcases hx with ((h | h) | h) | h <;> simp [h])
    refine sNil ?_
    refine wIfT rfl ?_
    refine wSkip ?_
    refine wBlock ?_
    refine wSeq ?_
    refine wReg ?_
    refine sRun (xMvI rfl) ?_
    refine sRun (xMvI rfl) ?_
    refine sSplit (xGtr rfl rfl) (fun h23 => ?_) (fun h23 => ?_)
    · obtain ⟨U1, U2, rfl, hU1⟩ := cut_at (l := U) (k := j) (by omega)
      simp only [List.length_append] at hU hgll
      refine sNil ?_
      refine wIfT rfl ?_
      refine wSeq ?_
      refine wReg ?_
      refine sRun (xMvS rfl) ?_
      refine sRun (xMvI rfl) ?_
      refine sRun (xMvI rfl) ?_
      refine sRun (xSub64 rfl rfl (by omega) (by omega)) ?_
      rw [show ((m : Int) - (i : Int)) = ((m - i : Nat) : Int) by omega]
      refine sRun (xMvI rfl) ?_
      refine sRun (xMvI rfl) ?_
      refine sRun (xMvF rfl) ?_
      refine sCall (eCall cal32 rfl) (swapRange_spec q mm c base (m - i) m j Pre U1 U2 V Post w (by omega) (by omega) (by omega) (by omega) (by rw [hgl] at hoc; simpa using hoc) (by rw [hgl] at ho; simpa using ho) hm) ?_
      rintro _ w31 ⟨ho31, hc31⟩
      refine sNil ?_
      refine wReg ?_
      refine sRun (xMvI rfl) ?_
      refine sRun (xMvI rfl) ?_
      refine sRun (xSub64 rfl rfl (by omega) (by omega)) ?_
      rw [show ((i : Int) - (j : Int)) = ((i - j : Nat) : Int) by omega]
      refine sRun (xAsI rfl) ?_
      refine sNil ?_
      refine ⟨i - j + j, by omega, Pre ++ V, U2, U1, Post, Pre ++ V ++ U2 ++ U1 ++ Post, i - j, j, rfl, by omega, by omega, by omega, by omega, by simp; omega, by simp, by rw [← hF]; simp, ⟨rfl, rfl, rfl, rfl, rfl, trivial⟩, ho31, hg.trans hc31⟩
    · obtain ⟨V1, V2, rfl, hV1⟩ := cut_at (l := V) (k := j - i) (by omega)
      simp only [List.length_append] at hV hgll
      refine sNil ?_
      refine wIfF rfl ?_
      refine wSeq ?_
      refine wReg ?_
      refine sRun (xMvS rfl) ?_
      refine sRun (xMvI rfl) ?_
      refine sRun (xMvI rfl) ?_
      refine sRun (xSub64 rfl rfl (by omega) (by omega)) ?_
      rw [show ((m : Int) - (i : Int)) = ((m - i : Nat) : Int) by omega]
      refine sRun (xMvI rfl) ?_
      refine sRun (xMvI rfl) ?_
      refine sRun (xAdd64 rfl rfl (by omega) (by omega)) ?_
      refine sRun (xMvI rfl) ?_
      refine sRun (xSub64 rfl rfl (by omega) (by omega)) ?_
      rw [show ((m : Int) + (j : Int) - (i : Int)) = ((m + j - i : Nat) : Int) by omega]
      refine sRun (xMvI rfl) ?_
      refine sRun (xMvF rfl) ?_
      refine sCall (eCall cal32 rfl) (swapRange_spec q mm c base (m - i) (m + j - i) i Pre U V1 V2 Post w (by omega) (by omega) (by omega) (by omega) (by rw [hgl] at hoc; simpa using hoc) (by rw [hgl] at ho; simpa using ho) hm) ?_
      rintro _ w46 ⟨ho46, hc46⟩
      refine sNil ?_
      refine wReg ?_
      refine sRun (xMvI rfl) ?_
      refine sRun (xMvI rfl) ?_
      refine sRun (xSub64 rfl rfl (by omega) (by omega)) ?_
      rw [show ((j : Int) - (i : Int)) = ((j - i : Nat) : Int) by omega]
      refine sRun (xAsI rfl) ?_
      refine sNil ?_
      refine ⟨i + (j - i), by omega, Pre, V2, V1, U ++ Post, Pre ++ V2 ++ V1 ++ U ++ Post, i, j - i, rfl, by omega, by omega, by omega, by omega, by omega, by simp, by rw [← hF]; simp, ⟨rfl, rfl, rfl, rfl, rfl, trivial⟩, ho46, hg.trans hc46⟩
  · have hlen := el_len ho
    have hgll := congrArg List.length hgl
    simp only [List.length_append] at hgll
    have hoc : OneC gl := onec_of h1 (fun x hx => by rw [hgl] at hx; rw [← hF]; simp only [List.mem_append] at hx ⊢; rcases hx with ((h | h) | h) | h <;> simp [h])
    obtain rfl : i = j := by omega
    refine sNil ?_
    refine wIfF rfl ?_
    refine wExit ?_
    refine wReg ?_
    refine sRun (xMvS rfl) ?_
    refine sRun (xMvI rfl) ?_
    refine sRun (xMvI rfl) ?_
    refine sRun (xSub64 rfl rfl (by omega) (by omega)) ?_
    rw [show ((m : Int) - (i : Int)) = ((m - i : Nat) : Int) by omega]
    refine sRun (xMvI rfl) ?_
    refine sRun (xMvI rfl) ?_
    refine sRun (xMvF rfl) ?_
    refine sCall (eCall cal32 rfl) (swapRange_spec q mm c base (m - i) m i Pre U [] V Post w (by omega) (by simp; omega) (by omega) (by omega) (by rw [hgl] at hoc; simpa using hoc) (by rw [hgl] at ho; simpa using ho) hm) ?_
    rintro _ w57 ⟨ho57, hc57⟩
    refine sNil ?_
    refine res0 (P := Try.prog) (fn := Try.f31) rfl ?_
    simp only [List.append_nil] at ho57
    rw [hF] at ho57
    exact ⟨ho57, hg.trans hc57⟩

end Go.Proofs.Ytnppmdhgelfloaa
