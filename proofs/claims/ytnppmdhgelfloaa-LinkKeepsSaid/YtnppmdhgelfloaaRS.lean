/- Flights whose bodies lie in old memory or in rows of the call's own. -/
import Derived.Test.YtnppmdhgelfloaaL8
set_option linter.unusedVariables false
namespace Go.Proofs.Ytnppmdhgelfloaa
open Go.RowKit Go.Fw

def FlK (w : World) (B0 base : Nat) (xs : List Value) (fs : List Flight) : Prop :=
  xs.length = 2 * fs.length ∧ ∀ (i : Nat) (d : Int) (bs : List Int), fs[i]? = some (d, bs) → ∃ A c, xs[2 * i]? = some (.int .i64 d) ∧ xs[2 * i + 1]? = some (.slice A bs.length c) ∧ (Sl w B0 1 A bs.length (bys bs) ∨ Own w base 5 1 A bs.length c (bys bs))
theorem FlK.ext {w w' : World} {B0 base : Nat} {xs : List Value} {fs : List Flight} (h : FlK w B0 base xs fs) (e : Ext w w') : FlK w' B0 base xs fs :=
  ⟨h.1, fun i d bs hi => by obtain ⟨A, c, h1, h2, h3⟩ := h.2 i d bs hi; exact ⟨A, c, h1, h2, h3.imp (·.ext e) (·.ext e)⟩⟩
theorem FlK.grown {w w' : World} {B0 base n c size : Nat} {A : Option Addr} {xs xs' : List Value} {fs : List Flight} {e : TypeId} (h : FlK w B0 base xs fs) (ho : Own w B0 e size A n c xs') (he : 5 ≠ e) (hg : w.grownBy w' (rowOf A)) : FlK w' B0 base xs fs :=
  ⟨h.1, fun i d bs hi => by
    obtain ⟨A2, c2, h1, h2, h3⟩ := h.2 i d bs hi
    refine ⟨A2, c2, h1, h2, ?_⟩
    rcases h3 with h3 | h3
    · refine .inl ?_
      cases hr : rowOf A with
      | none => rw [hr] at hg; exact h3.ext ⟨hg.os, hg.tape, hg.output, hg.size, fun k hk => hg.block k hk (by simp)⟩
      | some k => rw [hr] at hg; exact h3.chg hg (ho.row k hr).1
    · exact .inr (h3.kept hg (h3.apart ho he))⟩
theorem FlK.snoc {w : World} {B0 base : Nat} {xs : List Value} {fs : List Flight} {A : Option Addr} {c : Nat} {d : Int} {bs : List Int} (h : FlK w B0 base xs fs) (hb : Own w base 5 1 A bs.length c (bys bs)) :
    FlK w B0 base (xs ++ [.int .i64 d, .slice A bs.length c]) (fs ++ [(d, bs)]) := by
  refine ⟨by simp [h.1]; omega, fun i d' bs' hi => ?_⟩
  rcases Nat.lt_or_ge i fs.length with hl | hl
  · rw [List.getElem?_append_left hl] at hi
    obtain ⟨A2, c2, h1, h2, h3⟩ := h.2 i d' bs' hi
    refine ⟨A2, c2, ?_, ?_, h3⟩
    · rw [List.getElem?_append_left (by rw [h.1]; omega)]; exact h1
    · rw [List.getElem?_append_left (by rw [h.1]; omega)]; exact h2
  · rw [List.getElem?_append_right hl] at hi
    have hi0 : i - fs.length = 0 := by
      rcases Nat.eq_zero_or_pos (i - fs.length) with h0 | h0
      · exact h0
      · rw [List.getElem?_eq_none (by simp; omega)] at hi; cases hi
    rw [hi0] at hi
    simp only [List.getElem?_cons_zero, Option.some.injEq, Prod.mk.injEq] at hi
    obtain ⟨rfl, rfl⟩ := hi
    have hil : i = fs.length := by omega
    subst hil
    refine ⟨A, c, ?_, ?_, .inr hb⟩
    · rw [List.getElem?_append_right (by rw [h.1]; omega)]; simp [h.1]
    · rw [List.getElem?_append_right (by rw [h.1]; omega)]; simp [h.1]
theorem FlK.flx {w : World} {B0 base : Nat} {xs : List Value} {fs : List Flight} (h : FlK w B0 base xs fs) (hB : B0 ≤ w.heap.size) : FlX w w.heap.size xs fs :=
  ⟨h.1, fun i d bs hi => by obtain ⟨A, c, h1, h2, h3⟩ := h.2 i d bs hi; exact ⟨A, c, h1, h2, h3.elim (·.up hB) (·.sl)⟩⟩
theorem FlX.flk {w : World} {B : Nat} {xs : List Value} {fs : List Flight} (h : FlX w B xs fs) (base : Nat) : FlK w B base xs fs :=
  ⟨h.1, fun i d bs hi => by obtain ⟨A, c, h1, h2, h3⟩ := h.2 i d bs hi; exact ⟨A, c, h1, h2, .inl h3⟩⟩
theorem FlX.one {w : World} {B : Nat} {xs : List Value} {fs : List Flight} (h : FlX w B xs fs) : ∀ u ∈ xs, u.oneCell' = true := by
  intro u hu
  obtain ⟨j, hj⟩ := List.mem_iff_getElem?.1 hu
  have hjl : j < xs.length := (List.getElem?_eq_some_iff.1 hj).1
  have hk : j / 2 < fs.length := by have := h.1; omega
  obtain ⟨A, c, h1, h2, _⟩ := h.2 (j / 2) (fs[j / 2]).1 (fs[j / 2]).2 (by rw [List.getElem?_eq_getElem hk])
  rcases Nat.mod_two_eq_zero_or_one j with h0 | h0
  · have e : 2 * (j / 2) = j := by omega
    rw [e, hj] at h1
    injection h1 with h1
    rw [h1]; rfl
  · have e : 2 * (j / 2) + 1 = j := by omega
    rw [e, hj] at h2
    injection h2 with h2
    rw [h2]; rfl
end Go.Proofs.Ytnppmdhgelfloaa
