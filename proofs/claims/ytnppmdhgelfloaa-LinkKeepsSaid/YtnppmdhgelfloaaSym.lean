/- The merge of two sorted stretches: plain lists. -/
import Derived.Test.YtnppmdhgelfloaaL4
set_option linter.unusedVariables false
namespace Go.Proofs.Ytnppmdhgelfloaa
open Go.RowKit Go.Fw

theorem swap_two (A B C : List G) (x y : G) {i j : Nat} (hi : i = A.length) (hj : j = A.length + 1 + B.length) : ((A ++ x :: (B ++ y :: C)).set i y).set j x = A ++ y :: (B ++ x :: C) := by
  subst hi hj
  rw [List.set_append_right _ _ (by omega), Nat.sub_self, List.set_cons_zero, List.set_append_right _ _ (by omega), show A.length + 1 + B.length - A.length = B.length + 1 by omega, List.set_cons_succ, List.set_append_right _ _ (by omega), Nat.sub_self, List.set_cons_zero]
theorem get_two1 (A B C : List G) (x y : G) {i : Nat} (hi : i = A.length) : (A ++ x :: (B ++ y :: C))[i]? = some x := by
  subst hi; rw [List.getElem?_append_right (by omega), Nat.sub_self]; rfl
theorem get_two2 (A B C : List G) (x y : G) {j : Nat} (hj : j = A.length + 1 + B.length) : (A ++ x :: (B ++ y :: C))[j]? = some y := by
  subst hj
  rw [List.getElem?_append_right (by omega), show A.length + 1 + B.length - A.length = B.length + 1 by omega, List.getElem?_cons_succ, List.getElem?_append_right (by omega), Nat.sub_self]; rfl
theorem uncons {l : List G} (h : 0 < l.length) : ∃ x r, l = x :: r := by
  cases l with
  | nil => simp at h
  | cons x r => exact ⟨x, r, rfl⟩
theorem cut_at {l : List G} {k : Nat} (h : k ≤ l.length) : ∃ a b, l = a ++ b ∧ a.length = k := ⟨l.take k, l.drop k, (List.take_append_drop k l).symm, by simp; omega⟩
theorem srt_get {l : List G} (h : Srt l) {i j : Nat} {x y : G} (hij : i ≤ j) (hx : l[i]? = some x) (hy : l[j]? = some y) : x.1 ≤ y.1 := by
  induction l generalizing i j with
  | nil => cases hx
  | cons a l ih =>
    cases j with
    | zero =>
      obtain rfl : i = 0 := by omega
      rw [hx] at hy; injection hy with hy; subst hy; exact Int.le_refl _
    | succ j =>
      cases i with
      | zero =>
        simp only [List.getElem?_cons_zero, Option.some.injEq] at hx
        subst hx
        exact h.1 y (List.mem_of_getElem? (by simpa using hy))
      | succ i => exact ih h.2 (i := i) (j := j) (by omega) (by simpa using hx) (by simpa using hy)
theorem isort_self {l : List G} (h : Srt l) : isort l = l := srt_uniq (isort_srt l) h (isort_atKey l)
theorem atKey_nil_lt {d : Int} {l : List G} (h : ∀ y ∈ l, y.1 ≠ d) : atKey d l = [] := by
  unfold atKey
  rw [List.filter_eq_nil_iff]
  intro a ha hd
  exact h a ha (by simpa using hd)
/-- strictly smaller ahead of greater: the two may change places -/
theorem atKey_comm {V U : List G} (h : ∀ v ∈ V, ∀ u ∈ U, v.1 < u.1) (d : Int) : atKey d (U ++ V) = atKey d (V ++ U) := by
  rw [atKey_append, atKey_append]
  by_cases hv : ∃ v ∈ V, v.1 = d
  · obtain ⟨v, hv, hd⟩ := hv
    have : atKey d U = [] := atKey_nil_lt (fun u hu => by have := h v hv u hu; omega)
    rw [this]; simp
  · have : atKey d V = [] := atKey_nil_lt (fun v hv' e => hv ⟨v, hv', e⟩)
    rw [this]; simp
theorem merge_eq {X Y Z : List G} (hs : Srt Z) (hk : ∀ d, atKey d Z = atKey d (X ++ Y)) : Z = isort (X ++ Y) :=
  srt_uniq hs (isort_srt _) (fun d => by rw [hk, isort_atKey])
theorem one_left {x : G} {Y1 Y2 : List G} (hY : Srt (Y1 ++ Y2)) (h1 : ∀ y ∈ Y1, y.1 < x.1) (h2 : ∀ y ∈ Y2, ¬ y.1 < x.1) : Y1 ++ x :: Y2 = isort ([x] ++ (Y1 ++ Y2)) := by
  have hh := srt_append.1 hY
  refine merge_eq ?_ ?_
  · refine srt_append.2 ⟨hh.1, ⟨fun y hy => by have := h2 y hy; omega, hh.2.1⟩, fun a ha b hb => ?_⟩
    rcases List.mem_cons.1 hb with rfl | hb
    · have := h1 a ha; omega
    · exact hh.2.2 a ha b hb
  · intro d
    have := atKey_comm (V := Y1) (U := [x]) (fun v hv u hu => by simp at hu; subst hu; exact h1 v hv) d
    rw [show Y1 ++ x :: Y2 = (Y1 ++ [x]) ++ Y2 by simp, show [x] ++ (Y1 ++ Y2) = ([x] ++ Y1) ++ Y2 by simp, atKey_append _ _ Y2, atKey_append _ _ Y2, this]
theorem one_right {y : G} {X1 X2 : List G} (hX : Srt (X1 ++ X2)) (h1 : ∀ x ∈ X1, ¬ y.1 < x.1) (h2 : ∀ x ∈ X2, y.1 < x.1) : X1 ++ y :: X2 = isort ((X1 ++ X2) ++ [y]) := by
  have hh := srt_append.1 hX
  refine merge_eq ?_ ?_
  · refine srt_append.2 ⟨hh.1, ⟨fun x hx => by have := h2 x hx; omega, hh.2.1⟩, fun a ha b hb => ?_⟩
    rcases List.mem_cons.1 hb with rfl | hb
    · have := h1 a ha; omega
    · exact hh.2.2 a ha b hb
  · intro d
    have := atKey_comm (V := [y]) (U := X2) (fun v hv u hu => by simp at hv; subst hv; exact h2 u hu) d
    rw [show X1 ++ y :: X2 = X1 ++ ([y] ++ X2) by simp, show (X1 ++ X2) ++ [y] = X1 ++ (X2 ++ [y]) by simp, atKey_append _ X1, atKey_append _ X1, this]
theorem mem_isort {l : List G} {x : G} : x ∈ isort l ↔ x ∈ l := ⟨fun h => mem_of_atKey (isort_atKey l) h, fun h => mem_of_atKey (fun d => (isort_atKey l d).symm) h⟩
theorem two_parts {X1 U V Y2 : List G} (sX : Srt (X1 ++ U)) (sY : Srt (V ++ Y2)) (h1 : ∀ v ∈ V, ∀ u ∈ U, v.1 < u.1) (h2 : ∀ x ∈ X1, ∀ y ∈ Y2, x.1 ≤ y.1) :
    isort (X1 ++ V) ++ isort (U ++ Y2) = isort ((X1 ++ U) ++ (V ++ Y2)) := by
  have hx := srt_append.1 sX
  have hy := srt_append.1 sY
  refine merge_eq ?_ ?_
  · refine srt_append.2 ⟨isort_srt _, isort_srt _, fun a ha b hb => ?_⟩
    rw [mem_isort] at ha hb
    rcases List.mem_append.1 ha with ha | ha <;> rcases List.mem_append.1 hb with hb | hb
    · exact hx.2.2 a ha b hb
    · exact h2 a ha b hb
    · have := h1 a ha b hb; omega
    · exact hy.2.2 a ha b hb
  · intro d
    have := atKey_comm h1 d
    rw [atKey_append, isort_atKey, isort_atKey, ← atKey_append, show (X1 ++ V) ++ (U ++ Y2) = X1 ++ ((V ++ U) ++ Y2) by simp, show (X1 ++ U) ++ (V ++ Y2) = X1 ++ ((U ++ V) ++ Y2) by simp, atKey_append _ X1, atKey_append _ X1, atKey_append _ _ Y2, atKey_append _ _ Y2, this]
/-- the middle, as the text reckons it -/
theorem mid64 {i j : Nat} (h : i + j ≤ 9223372036854775807) : IntKind.i64.wrap ((IntKind.u64.wrap ((i : Int) + (j : Int))).fdiv (2 ^ (min (1 : Int).toNat IntKind.u64.bits))) = (((i + j) / 2 : Nat) : Int) := by
  have e : (2 : Int) ^ (min (1 : Int).toNat IntKind.u64.bits) = 2 := by decide
  have e2 : IntKind.u64.wrap ((i : Int) + (j : Int)) = (i : Int) + (j : Int) := by
    have : IntKind.u64.wrap ((i : Int) + (j : Int)) = ((i : Int) + (j : Int)) % 18446744073709551616 := rfl
    rw [this]; omega
  rw [e, e2, Int.fdiv_eq_ediv_of_nonneg _ (by omega), w64 (by omega) (by omega)]
  omega
theorem onec_of {l r : List G} (h : OneC l) (hm : ∀ x, x ∈ r → x ∈ l) : OneC r := fun g hg => h g (hm g hg)
end Go.Proofs.Ytnppmdhgelfloaa
