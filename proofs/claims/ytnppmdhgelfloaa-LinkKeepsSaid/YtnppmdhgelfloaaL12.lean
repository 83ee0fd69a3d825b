/- The stable sort of any number of flights. -/
import Derived.Test.YtnppmdhgelfloaaL11
import Derived.Test.YtnppmdhgelfloaaBs
set_option linter.unusedVariables false
namespace Go.Proofs.Ytnppmdhgelfloaa
open Go.RowKit Go.Fw


set_option maxHeartbeats 2000000 in
theorem stableN (A : Option Addr) (c base : Nat) (gs : List G) (w0 : World) (hn : gs.length ≤ 1000000) (h1 : OneC gs) (ho : Own w0 base 37 2 A gs.length c (fl gs)) :
    Calls Try.prog 27 #[.slice A gs.length c, .int .i64 gs.length, .func (.func 25) #[] #[]] w0 (Ret fun _ w' => Own w' base 37 2 A gs.length c (fl (isort gs)) ∧ w0.grownBy w' (rowOf A)) := by
  refine calls_of Try.func27 rfl (Nat.le_of_ble_eq_true rfl) (by kernel_rfl) ?_
  refine wCut [(0, .slice A gs.length c), (1, .int .i64 gs.length), (2, .func (.func 25) #[] #[])] ⟨rfl, rfl, rfl, trivial⟩ fun g => ?_
  refine wSeq ?_
  refine wReg ?_
  refine sRun (xAsI rfl) ?_
  refine sNil ?_
  refine wSeq ?_
  refine wReg ?_
  refine sRun (xMvI rfl) ?_
  refine sRun (xAsI rfl) ?_
  refine sRun (xAsI rfl) ?_
  refine sNil ?_
  refine wSeq ?_
  refine wBlock ?_
  refine wLoopG (fun n f w => ∃ P R, n = R.length ∧ 20 ∣ P.length ∧ BS 20 P ∧ Has f [(0, .slice A gs.length c), (1, .int .i64 gs.length), (2, .func (.func 25) #[] #[]), (6, .int .i64 20), (7, .int .i64 (P.length : Nat)), (8, .int .i64 (P.length + 20 : Nat))] ∧ Own w base 37 2 A gs.length c (fl (P ++ R)) ∧ SameK (P ++ R) gs ∧ w0.grownBy w (rowOf A)) (gs.length) ⟨[], gs, rfl, Nat.dvd_zero _, bs_nil _, ⟨rfl, rfl, rfl, rfl, rfl, rfl, trivial⟩, ho, SameK.refl gs, ⟨rfl, rfl, rfl, Nat.le_refl _, fun _ _ _ => rfl⟩⟩ ?_
  rintro n f w ⟨P, R, rfl, hd, hb, hf0, ho, hq, hg⟩
  obtain ⟨g, rfl⟩ := has_updL _ _ hf0
  clear hf0
  have hlen := hq.1
  simp only [List.length_append] at hlen
  refine wSeq ?_
  refine wSeq ?_
  refine wReg ?_
  refine sRun (xMvI rfl) ?_
  refine sRun (xMvI rfl) ?_
  refine sSplit (xLeq rfl rfl) (fun h13 => ?_) (fun h13 => ?_)
  · obtain ⟨X, R, rfl, hX⟩ := cut_at (l := R) (k := 20) (by omega)
    rw [← List.append_assoc] at ho hq
    have h1g := hq.one h1
    refine sNil ?_
    refine wIfT rfl ?_
    refine wSkip ?_
    refine wBlock ?_
    refine wSeq ?_
    refine wReg ?_
    refine sRun (xMvS rfl) ?_
    refine sRun (xMvI rfl) ?_
    refine sRun (xMvI rfl) ?_
    refine sRun (xMvF rfl) ?_
    refine sCall (eCall cal29 rfl) (insertion_spec A _ c base _ _ P X R w rfl (by omega) h1g ho (by omega)) ?_
    rintro _ w18 ⟨ho18, hg18⟩
    refine sNil ?_
    refine wSeq ?_
    refine wReg ?_
    refine sRun (xMvI rfl) ?_
    refine sRun (xAsI rfl) ?_
    refine sNil ?_
    refine wReg ?_
    refine sRun (xMvI rfl) ?_
    refine sRun (xMvI rfl) ?_
    refine sRun (xAdd64 rfl rfl (by omega) (by omega)) ?_
    rw [show (((P.length + 20 : Nat) : Int) + 20) = ((P.length + 20 + 20 : Nat) : Int) by omega]
    refine sRun (xAsI rfl) ?_
    refine sNil ?_
    have hl2 : (P ++ isort X).length = P.length + 20 := by simp [isort_len, hX]
    refine ⟨R.length, by simp [hX], P ++ isort X, R, rfl, by rw [hl2]; exact Nat.dvd_add hd (Nat.dvd_refl _), bs_snoc (by omega) hb hd (isort_srt X), ⟨rfl, rfl, rfl, rfl, by rw [hl2]; rfl, by rw [hl2]; rfl, trivial⟩, ho18, hq.mid, grownBy.trans hg hg18⟩
  · have h1g := hq.one h1
    refine sNil ?_
    refine wIfF rfl ?_
    refine wExit ?_
    refine wSeq ?_
    refine wReg ?_
    refine sRun (xMvS rfl) ?_
    refine sRun (xMvI rfl) ?_
    refine sRun (xMvI rfl) ?_
    refine sRun (xMvF rfl) ?_
    refine sCall (eCall cal29 rfl) (insertion_spec A _ c base _ _ P R [] w rfl (by omega) (by simpa using h1g) (by simpa using ho) (by omega)) ?_
    rintro _ w27 ⟨ho27, hg27⟩
    have hq27 := SameK.mid (P := P) (S := R) (R := []) (by simpa using hq)
    simp only [List.append_nil] at ho27 hq27
    have hb27 := bs_snoc (by omega) hb hd (isort_srt R)
    refine sNil ?_
    refine wBlock ?_
    refine wLoopG (fun n f w => ∃ k gl, n = gs.length - k ∧ 20 ≤ k ∧ BS k gl ∧ Has f [(0, .slice A gs.length c), (1, .int .i64 gs.length), (2, .func (.func 25) #[] #[]), (6, .int .i64 (k : Nat))] ∧ Own w base 37 2 A gs.length c (fl (gl)) ∧ SameK (gl) gs ∧ w0.grownBy w (rowOf A)) (gs.length - 20) ⟨20, _, rfl, Nat.le_refl _, hb27, ⟨rfl, rfl, rfl, rfl, trivial⟩, ho27, hq27, grownBy.trans hg hg27⟩ ?_
    rintro n f w ⟨k, gl, rfl, hk20, hb, hf0, ho, hq, hg⟩
    obtain ⟨g, rfl⟩ := has_updL _ _ hf0
    clear hf0
    have hlen := hq.1
    have hk : 0 < k := by omega
    refine wSeq ?_
    refine wSeq ?_
    refine wReg ?_
    refine sRun (xMvI rfl) ?_
    refine sRun (xMvI rfl) ?_
    refine sSplit (xLss rfl rfl) (fun h30 => ?_) (fun h30 => ?_)
    · obtain ⟨q, rfl⟩ := ho.adr (by omega)
      refine sNil ?_
      refine wIfT rfl ?_
      refine wSkip ?_
      refine wBlock ?_
      refine wSeq ?_
      refine wReg ?_
      refine sRun (xMvI rfl) ?_
      refine sRun (xMul64 rfl rfl (by omega) (by omega)) ?_
      rw [show (2 * (k : Int)) = ((2 * k : Nat) : Int) by omega]
      refine sRun (xAsI rfl) ?_
      refine sRun (xAsI rfl) ?_
      refine sNil ?_
      refine wSeq ?_
      refine wBlock ?_
      
      refine wLoopG (fun n f w => ∃ P R, n = R.length ∧ 2 * k ∣ P.length ∧ BS (2 * k) P ∧ BS k R ∧ Has f [(0, .slice (some ⟨q, 0, none⟩) gs.length c), (1, .int .i64 gs.length), (2, .func (.func 25) #[] #[]), (6, .int .i64 (k : Nat)), (7, .int .i64 (P.length : Nat)), (8, .int .i64 (P.length + 2 * k : Nat))] ∧ Own w base 37 2 (some ⟨q, 0, none⟩) gs.length c (fl (P ++ R)) ∧ SameK (P ++ R) gs ∧ w0.grownBy w (rowOf (some ⟨q, 0, none⟩))) (gs.length) ⟨[], gl, hlen.symm, Nat.dvd_zero _, bs_nil _, hb, ⟨rfl, rfl, rfl, rfl, rfl, by simp; rfl, trivial⟩, ho, hq, hg⟩ ?_
      clear ho hq hg hlen hb
      rintro n f w ⟨P, R, rfl, hd, hbP, hbR, hf0, ho, hq, hg⟩
      obtain ⟨g, rfl⟩ := has_updL _ _ hf0
      clear hf0
      have hlen := hq.1
      simp only [List.length_append] at hlen
      refine wSeq ?_
      refine wSeq ?_
      refine wReg ?_
      refine sRun (xMvI rfl) ?_
      refine sRun (xMvI rfl) ?_
      refine sSplit (xLeq rfl rfl) (fun h35 => ?_) (fun h35 => ?_)
      · obtain ⟨X, R, rfl, hX⟩ := cut_at (l := R) (k := k) (by omega)
        simp only [List.length_append] at hlen
        obtain ⟨Y, R, rfl, hY⟩ := cut_at (l := R) (k := k) (by omega)
        simp only [List.length_append] at hlen
        have hrY := bs_rest hk hbR (by rw [hX]; exact Nat.dvd_refl k)
        have hrR := bs_rest hk hrY (by rw [hY]; exact Nat.dvd_refl k)
        have hsX := bs_head hbR (by omega)
        have hsY := bs_head hrY (by omega)
        have e4 : P ++ (X ++ (Y ++ R)) = P ++ X ++ Y ++ R := by simp
        rw [e4] at ho hq
        have h1g := hq.one h1
        refine sNil ?_
        refine wIfT rfl ?_
        refine wSkip ?_
        refine wBlock ?_
        refine wSeq ?_
        refine wReg ?_
        refine sRun (xMvS rfl) ?_
        refine sRun (xMvI rfl) ?_
        refine sRun (xMvI rfl) ?_
        refine sRun (xMvI rfl) ?_
        refine sRun (xAdd64 rfl rfl (by omega) (by omega)) ?_
        rw [show ((P.length : Int) + (k : Int)) = ((P.length + k : Nat) : Int) by omega]
        refine sRun (xMvI rfl) ?_
        refine sRun (xMvF rfl) ?_
        refine sCall (eCall cal30 rfl) (sym_spec q _ c base (by omega) _ _ _ _ P X Y R w (Nat.le_refl _) rfl (by omega) (by omega) (fun h => by rw [h] at hX; simp at hX; omega) (fun h => by rw [h] at hY; simp at hY; omega) hsX hsY h1g ho) ?_
        rintro _ w43 ⟨ho43, hg43⟩
        have hq43 := SameK.mid (P := P) (S := X ++ Y) (R := R) (by simpa using hq)
        refine sNil ?_
        refine wSeq ?_
        refine wReg ?_
        refine sRun (xMvI rfl) ?_
        refine sRun (xAsI rfl) ?_
        refine sNil ?_
        refine wReg ?_
        refine sRun (xMvI rfl) ?_
        refine sRun (xMvI rfl) ?_
        refine sRun (xMul64 rfl rfl (by omega) (by omega)) ?_
        rw [show (2 * (k : Int)) = ((2 * k : Nat) : Int) by omega]
        refine sRun (xAdd64 rfl rfl (by omega) (by omega)) ?_
        rw [show (((P.length + 2 * k : Nat) : Int) + ((2 * k : Nat) : Int)) = ((P.length + 2 * k + 2 * k : Nat) : Int) by omega]
        refine sRun (xAsI rfl) ?_
        refine sNil ?_
        have hl2 : (P ++ isort (X ++ Y)).length = P.length + 2 * k := by simp [isort_len, hX, hY]; omega
        refine ⟨R.length, by simp; omega, P ++ isort (X ++ Y), R, rfl, by rw [hl2]; exact Nat.dvd_add hd (Nat.dvd_refl _), bs_snoc (by omega) hbP hd (isort_srt _), hrR, ⟨rfl, rfl, rfl, rfl, by rw [hl2]; rfl, by rw [hl2]; rfl, trivial⟩, ho43, hq43, grownBy.trans hg hg43⟩
      · refine sNil ?_
        refine wIfF rfl ?_
        refine wExit ?_
        refine wSeq ?_
        refine wSeq ?_
        refine wReg ?_
        refine sRun (xMvI rfl) ?_
        refine sRun (xMvI rfl) ?_
        refine sRun (xAdd64 rfl rfl (by omega) (by omega)) ?_
        rw [show ((P.length : Int) + (k : Int)) = ((P.length + k : Nat) : Int) by omega]
        refine sRun (xAsI rfl) ?_
        refine sNil ?_
        refine wSeq ?_
        refine wReg ?_
        refine sRun (xMvI rfl) ?_
        refine sRun (xMvI rfl) ?_
        refine sSplit (xLss rfl rfl) (fun h54 => ?_) (fun h54 => ?_)
        · obtain ⟨X, Y, rfl, hX⟩ := cut_at (l := R) (k := k) (by omega)
          simp only [List.length_append] at hlen
          have hrY := bs_rest hk hbR (by rw [hX]; exact Nat.dvd_refl k)
          have hsX := bs_head hbR (by omega)
          have hsY := bs_head (R := []) (by simpa using hrY) (by omega)
          have e4 : P ++ (X ++ Y) = P ++ X ++ Y ++ [] := by simp
          rw [e4] at ho hq
          have h1g := hq.one h1
          refine sNil ?_
          refine wIfT rfl ?_
          refine wReg ?_
          refine sRun (xMvS rfl) ?_
          refine sRun (xMvI rfl) ?_
          refine sRun (xMvI rfl) ?_
          refine sRun (xMvI rfl) ?_
          refine sRun (xMvF rfl) ?_
          refine sCall (eCall cal30 rfl) (sym_spec q _ c base (by omega) _ _ _ _ P X Y [] w (Nat.le_refl _) rfl (by omega) (by omega) (fun h => by rw [h] at hX; simp at hX; omega) (fun h => by rw [h] at hlen; simp at hlen; omega) hsX hsY h1g ho) ?_
          rintro _ w60 ⟨ho60, hg60⟩
          have hq60 := SameK.mid (P := P) (S := X ++ Y) (R := []) (by simpa using hq)
          simp only [List.append_nil] at ho60 hq60
          refine sNil ?_
          refine wReg ?_
          refine sRun (xMvI rfl) ?_
          refine sRun (xMul64 rfl rfl (by omega) (by omega)) ?_
          rw [show ((k : Int) * 2) = ((2 * k : Nat) : Int) by omega]
          refine sRun (xAsI rfl) ?_
          refine sNil ?_
          refine ⟨gs.length - 2 * k, by omega, 2 * k, P ++ isort (X ++ Y), rfl, by omega, bs_snoc (by omega) hbP hd (isort_srt _), ⟨rfl, rfl, rfl, rfl, trivial⟩, ho60, hq60, grownBy.trans hg hg60⟩
        · refine sNil ?_
          refine wIfF rfl ?_
          refine wSkip ?_
          refine wReg ?_
          refine sRun (xMvI rfl) ?_
          refine sRun (xMul64 rfl rfl (by omega) (by omega)) ?_
          rw [show ((k : Int) * 2) = ((2 * k : Nat) : Int) by omega]
          refine sRun (xAsI rfl) ?_
          refine sNil ?_
          refine ⟨gs.length - 2 * k, by omega, 2 * k, P ++ R, rfl, by omega, bs_snoc (by omega) hbP hd (bs_head (R := []) (by simpa using hbR) (by omega)), ⟨rfl, rfl, rfl, rfl, trivial⟩, ho, hq, hg⟩
    · refine sNil ?_
      refine wIfF rfl ?_
      refine wExit ?_
      refine res0 (P := Try.prog) (fn := Try.f27) rfl ?_
      rw [← hq.eq (bs_head (R := []) (by simpa using hb) (by omega))]
      exact ⟨ho, hg⟩

theorem sortN : SortC 1000000 := by
  intro A c base gs w0 hn h1 ho
  refine calls_of Try.func24 rfl (Nat.le_of_ble_eq_true rfl) (by kernel_rfl) ?_
  refine wCut [(0, .slice A gs.length c), (1, .func (.func 25) #[] #[])] ⟨rfl, rfl, trivial⟩ fun g => ?_
  refine wReg ?_
  refine sRun (xMvS rfl) ?_
  refine sRun (xMvS rfl) ?_
  refine sRun (xLen Try.underlying22 rfl) ?_
  refine sRun (xMvF rfl) ?_
  refine sCall (eCall cal27 rfl) (stableN A c base gs w0 hn h1 ho) ?_
  rintro _ w8 ⟨ho8, hg8⟩
  refine sNil ?_
  refine res0 (P := Try.prog) (fn := Try.f24) rfl ?_
  exact ⟨ho8, hg8⟩

end Go.Proofs.Ytnppmdhgelfloaa
