/- Words for the walk of LinkArrives. -/
import Derived.Test.YtnppmdhgelfloaaL12
import Derived.Test.YtnppmdhgelfloaaL13
import Derived.Test.YtnppmdhgelfloaaAny
set_option linter.unusedVariables false
namespace Go.Proofs.Ytnppmdhgelfloaa
open Go.RowKit Go.Fw

/-- the cells of flights, flight by flight -/
theorem FlX.gs {w : World} {B : Nat} : ∀ {fs : List Flight} {xs : List Value}, FlX w B xs fs → ∃ gs : List G, xs = fl gs ∧ gs.map toF = fs ∧ ∀ g ∈ gs, ∃ A c, g.2.1 = .slice A g.2.2.length c ∧ Sl w B 1 A g.2.2.length (bys g.2.2)
  | [], xs, h => ⟨[], List.eq_nil_of_length_eq_zero (by have := h.1; simpa using this), rfl, fun g hg => by cases hg⟩
  | (d, bs) :: fs, xs, h => by
    obtain ⟨A, c, h1, h2, h3⟩ := h.2 0 d bs rfl
    match xs, h1, h2, h with
    | x :: y :: xs, h1, h2, h =>
      simp only [Nat.mul_zero, List.getElem?_cons_zero, Option.some.injEq, Nat.zero_add, List.getElem?_cons_succ] at h1 h2
      subst h1 h2
      have hr : FlX w B xs fs := ⟨by have := h.1; simp at this; omega, fun i d' bs' hi => by
        obtain ⟨A', c', g1, g2, g3⟩ := h.2 (i + 1) d' bs' (by simpa using hi)
        rw [show 2 * (i + 1) = 2 * i + 1 + 1 by omega] at g1 g2
        exact ⟨A', c', by simpa using g1, by simpa using g2, g3⟩⟩
      obtain ⟨gs, e1, e2, e3⟩ := FlX.gs hr
      refine ⟨(d, .slice A bs.length c, bs) :: gs, by rw [e1]; rfl, by rw [List.map_cons, e2]; rfl, fun g hg => ?_⟩
      rcases List.mem_cons.1 hg with rfl | hg
      · exact ⟨A, c, rfl, h3⟩
      · exact e3 g hg
def md6 (g : G) : G := (g.1 % 6, g.2)
def half (gs : List G) (k : Nat) : List G := (gs.take k).map md6 ++ gs.drop k
theorem half_len (gs : List G) (k : Nat) : (half gs k).length = gs.length := by simp [half]; omega
theorem half_at {gs : List G} {k : Nat} {x : G} (h : gs[k]? = some x) : (half gs k)[k]? = some x := by
  have hl := lt_of_get h
  unfold half
  rw [List.getElem?_append_right (by simp; omega)]
  simp only [List.length_map, List.length_take]
  rw [show k - min k gs.length = 0 by omega, List.getElem?_drop, Nat.add_zero]; exact h
theorem half_set {gs : List G} {k : Nat} {x : G} (h : gs[k]? = some x) : (half gs k).set k (md6 x) = half gs (k + 1) := by
  have hl := lt_of_get h
  unfold half
  rw [List.set_append_right _ _ (by simp; omega), List.drop_eq_getElem_cons hl]
  simp only [List.length_map, List.length_take]
  rw [show k - min k gs.length = 0 by omega, List.set_cons_zero, take_snoc h, List.map_append]
  simp
theorem fl_set1 {l : List G} {i : Nat} {g : G} (h : l[i]? = some g) (d : Int) : (fl l).set (i * 2) (.int .i64 d) = fl (l.set i (d, g.2)) := by
  have h2 := (fl_at h).2
  rw [← fl_set]
  symm
  apply List.ext_getElem?
  intro j
  by_cases hj : j = i * 2 + 1
  · subst hj
    rw [List.getElem?_set_self (by rw [List.length_set]; exact (List.getElem?_eq_some_iff.1 h2).1), List.getElem?_set_ne (by omega), h2]
  · rw [List.getElem?_set_ne (by omega)]
/-- flights in a row of one's own, the bodies in old memory -/
theorem flr_old {w0 w : World} {base n c : Nat} {A : Option Addr} {gs : List G} (ho : Own w base 37 2 A n c (fl gs)) (hx : Ext w0 w) (h : ∀ g ∈ gs, ∃ A c, g.2.1 = .slice A g.2.2.length c ∧ Sl w0 w0.heap.size 1 A g.2.2.length (bys g.2.2)) : FlR w w.heap.size A n (gs.map toF) := by
  refine ⟨by have := ho.len; rw [fl_len] at this; simp; omega, fl gs, ho.sl, by rw [fl_len]; simp, fun i d bs hi => ?_⟩
  rw [List.getElem?_map] at hi
  cases hg : gs[i]? with
  | none => rw [hg] at hi; cases hi
  | some g =>
    rw [hg] at hi
    simp only [Option.map_some, toF, Option.some.injEq, Prod.mk.injEq] at hi
    obtain ⟨rfl, rfl⟩ := hi
    obtain ⟨A', c', h1, h2⟩ := h g (List.mem_of_getElem? hg)
    have h3 := fl_at hg
    rw [h1, Nat.mul_comm] at h3
    exact ⟨A', c', h3.1, h3.2, (h2.ext hx).up hx.le⟩
theorem half_bod {w0 : World} {gs : List G} (h : ∀ g ∈ gs, ∃ A c, g.2.1 = .slice A g.2.2.length c ∧ Sl w0 w0.heap.size 1 A g.2.2.length (bys g.2.2)) (k : Nat) : ∀ g ∈ half gs k, ∃ A c, g.2.1 = .slice A g.2.2.length c ∧ Sl w0 w0.heap.size 1 A g.2.2.length (bys g.2.2) := by
  intro g hg
  rcases List.mem_append.1 hg with hg | hg
  · obtain ⟨x, hx, rfl⟩ := List.mem_map.1 hg
    exact h x (List.mem_of_mem_take hx)
  · exact h g (List.mem_of_mem_drop hg)
theorem half_small {gs : List G} (hf : ∀ (i : Nat) (d : Int) (b : List Int), (gs.map toF)[i]? = some (d, b) → b.length ≤ 300) (k : Nat) : ∀ (i : Nat) (d : Int) (b : List Int), ((half gs k).map toF)[i]? = some (d, b) → b.length ≤ 1000000 := by
  intro i d b hi
  have hm := List.mem_of_getElem? hi
  obtain ⟨g, hg, he⟩ := List.mem_map.1 hm
  have key : ∀ x ∈ gs, x.2.2.length ≤ 300 := fun x hx => by
    obtain ⟨j, hj⟩ := List.mem_iff_getElem?.1 hx
    exact hf j x.1 x.2.2 (by rw [List.getElem?_map, hj]; rfl)
  have e2 : b = g.2.2 := by simp [toF] at he; exact he.2.symm
  subst e2
  rcases List.mem_append.1 hg with hg | hg
  · obtain ⟨x, hx, rfl⟩ := List.mem_map.1 hg
    have := key x (List.mem_of_mem_take hx); simp [md6]; omega
  · have := key g (List.mem_of_mem_drop hg); omega
end Go.Proofs.Ytnppmdhgelfloaa
