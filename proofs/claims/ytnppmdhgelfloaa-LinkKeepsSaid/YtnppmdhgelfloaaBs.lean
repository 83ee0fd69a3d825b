/- A row that is sorted block by block. -/
import Derived.Test.YtnppmdhgelfloaaSym
set_option linter.unusedVariables false
namespace Go.Proofs.Ytnppmdhgelfloaa
open Go.RowKit Go.Fw

def BS (k : Nat) (l : List G) : Prop := ∀ (i j : Nat) (x y : G), i ≤ j → i / k = j / k → l[i]? = some x → l[j]? = some y → x.1 ≤ y.1
theorem lt_of_get {l : List G} {i : Nat} {x : G} (h : l[i]? = some x) : i < l.length := (List.getElem?_eq_some_iff.1 h).1
theorem srt_of_get : ∀ {l : List G}, (∀ (i j : Nat) (x y : G), i ≤ j → l[i]? = some x → l[j]? = some y → x.1 ≤ y.1) → Srt l
  | [], _ => trivial
  | a :: l, h => ⟨fun y hy => by
      obtain ⟨k, hk⟩ := List.mem_iff_getElem?.1 hy
      exact h 0 (k + 1) a y (by omega) rfl (by simpa using hk), srt_of_get fun i j x y hij hx hy => h (i + 1) (j + 1) x y (by omega) (by simpa using hx) (by simpa using hy)⟩
theorem bs_nil (k : Nat) : BS k [] := fun i j x y _ _ h _ => by simp at h
theorem bs_snoc {k : Nat} {P S : List G} (hk : 0 < k) (hP : BS k P) (hd : k ∣ P.length) (hS : Srt S) : BS k (P ++ S) := by
  intro i j x y hij hd2 hx hy
  obtain ⟨c, hc⟩ := hd
  by_cases hj : j < P.length
  · rw [List.getElem?_append_left (by omega)] at hx hy
    exact hP i j x y hij hd2 hx hy
  · rw [List.getElem?_append_right (by omega)] at hy
    by_cases hi : i < P.length
    · exfalso
      have h1 : i / k < c := Nat.div_lt_of_lt_mul (by omega)
      have h2 : c ≤ j / k := (Nat.le_div_iff_mul_le hk).2 (by rw [Nat.mul_comm]; omega)
      omega
    · rw [List.getElem?_append_right (by omega)] at hx
      exact srt_get hS (by omega) hx hy
theorem bs_rest {k : Nat} {P R : List G} (hk : 0 < k) (h : BS k (P ++ R)) (hd : k ∣ P.length) : BS k R := by
  intro i j x y hij hd2 hx hy
  obtain ⟨c, hc⟩ := hd
  refine h (k * c + i) (k * c + j) x y (by omega) (by rw [Nat.mul_add_div hk, Nat.mul_add_div hk, hd2]) ?_ ?_
  · rw [List.getElem?_append_right (by omega), show k * c + i - P.length = i by omega]; exact hx
  · rw [List.getElem?_append_right (by omega), show k * c + j - P.length = j by omega]; exact hy
theorem bs_head {k : Nat} {X R : List G} (h : BS k (X ++ R)) (hl : X.length ≤ k) : Srt X := by
  refine srt_of_get fun i j x y hij hx hy => ?_
  have h1 := lt_of_get hx
  have h2 := lt_of_get hy
  exact h i j x y hij (by rw [Nat.div_eq_of_lt (by omega), Nat.div_eq_of_lt (by omega)]) (by rw [List.getElem?_append_left h1]; exact hx) (by rw [List.getElem?_append_left h2]; exact hy)
def SameK (gl gs : List G) : Prop := gl.length = gs.length ∧ ∀ d, atKey d gl = atKey d gs
theorem SameK.refl (gs : List G) : SameK gs gs := ⟨rfl, fun _ => rfl⟩
theorem SameK.mid {P S R gs : List G} (h : SameK (P ++ S ++ R) gs) : SameK (P ++ isort S ++ R) gs := by
  refine ⟨?_, fun d => ?_⟩
  · rw [← h.1]; simp [isort_len]
  · rw [← h.2 d]; simp only [atKey_append, isort_atKey]
theorem SameK.one {gl gs : List G} (h : SameK gl gs) (h1 : OneC gs) : OneC gl := fun g hg => h1 g (mem_of_atKey h.2 hg)
theorem SameK.eq {gl gs : List G} (h : SameK gl gs) (hs : Srt gl) : gl = isort gs := srt_uniq hs (isort_srt _) (fun d => by rw [h.2, isort_atKey])
end Go.Proofs.Ytnppmdhgelfloaa
