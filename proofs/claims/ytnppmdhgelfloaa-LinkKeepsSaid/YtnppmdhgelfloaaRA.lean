/- Words for the reference Arrive: flights whose bodies lie in old memory. -/
import Derived.Test.YtnppmdhgelfloaaL9
import Derived.Test.YtnppmdhgelfloaaSlc
import Derived.Test.YtnppmdhgelfloaaBs
set_option linter.unusedVariables false
namespace Go.Proofs.Ytnppmdhgelfloaa
open Go.RowKit Go.Fw

def BodS (w : World) (gs : List G) : Prop := ∀ g ∈ gs, ∃ A c, g.2.1 = .slice A g.2.2.length c ∧ Sl w w.heap.size 1 A g.2.2.length (bys g.2.2) ∧ g.2.2.length ≤ 1000000
theorem BodS.nil (w : World) : BodS w [] := fun g hg => by cases hg
theorem BodS.one {w : World} {gs : List G} (h : BodS w gs) : OneC gs := fun g hg => by
  obtain ⟨A, c, h1, _⟩ := h g hg
  rw [h1]; rfl
theorem BodS.snoc {w : World} {gs : List G} {d : Int} {A : Option Addr} {c : Nat} {bs : List Int} (h : BodS w gs) (ho : Sl w w.heap.size 1 A bs.length (bys bs)) (hl : bs.length ≤ 1000000) : BodS w (gs ++ [(d, .slice A bs.length c, bs)]) := fun g hg => by
  rcases List.mem_append.1 hg with hg | hg
  · exact h g hg
  · simp at hg; subst hg; exact ⟨A, c, rfl, ho, hl⟩
theorem BodS.ins {w : World} {gs : List G} {e : G} (h : BodS w gs) (he : BodS w [e]) : BodS w (insE e gs) := fun g hg => by
  rcases mem_insE.1 hg with rfl | hg
  · exact he g (by simp)
  · exact h g hg
theorem fl_one {gs : List G} (h : OneC gs) : ∀ u ∈ fl gs, u.oneCell' = true := by
  induction gs with
  | nil => intro u hu; cases hu
  | cons g gs ih =>
    intro u hu
    simp only [fl, List.mem_cons] at hu
    rcases hu with rfl | rfl | hu
    · rfl
    · exact h g (by simp)
    · exact ih (fun x hx => h x (by simp [hx])) u hu
theorem fl_take (gs : List G) (p : Nat) : (fl gs).take (p * 2) = fl (gs.take p) := by
  induction gs generalizing p with
  | nil => simp [fl]
  | cons g gs ih =>
    cases p with
    | zero => simp [fl]
    | succ p => rw [show (p + 1) * 2 = p * 2 + 1 + 1 by omega]; simp only [fl, List.take_succ_cons]; rw [ih]
theorem fl_drop (gs : List G) (p : Nat) : (fl gs).drop (p * 2) = fl (gs.drop p) := by
  induction gs generalizing p with
  | nil => simp [fl]
  | cons g gs ih =>
    cases p with
    | zero => simp [fl]
    | succ p => rw [show (p + 1) * 2 = p * 2 + 1 + 1 by omega]; simp only [fl, List.drop_succ_cons]; rw [ih]
theorem isortF_snoc (l : List Flight) (e : Flight) : isortF (l ++ [e]) = insF e (isortF l) := by unfold isortF; rw [List.foldl_append]; rfl
theorem drop_step {gs : List G} {p : Nat} {x : G} {d : Int} (hp : 0 < p) (hx : gs[p - 1]? = some x) (hlt : d < x.1) (h : ∀ y ∈ gs.drop p, d < y.1) : ∀ y ∈ gs.drop (p - 1), d < y.1 := by
  intro y hy
  have hl := lt_of_get hx
  rw [List.drop_eq_getElem_cons hl, show p - 1 + 1 = p by omega] at hy
  rcases List.mem_cons.1 hy with rfl | hy
  · rw [List.getElem?_eq_getElem hl] at hx
    injection hx with hx
    rw [hx]; exact hlt
  · exact h y hy
theorem ins_here {gs : List G} {p : Nat} {e : G} (hs : Srt gs) (h2 : ∀ y ∈ gs.drop p, e.1 < y.1) (h1 : p = 0 ∨ ∃ x, gs[p - 1]? = some x ∧ ¬ e.1 < x.1) : insE e gs = gs.take p ++ e :: gs.drop p := by
  have hs' : Srt (gs.take p ++ gs.drop p) := by rw [List.take_append_drop]; exact hs
  have := insE_at (e := e) hs' h2 (fun x hx => by
    rcases h1 with rfl | ⟨y, hy, hn⟩
    · simp at hx
    · obtain ⟨i, hi⟩ := List.mem_iff_getElem?.1 hx
      rw [List.getElem?_take] at hi
      split at hi
      · have := srt_get hs (i := i) (j := p - 1) (by omega) hi hy; omega
      · cases hi)
  rw [List.take_append_drop] at this
  exact this
end Go.Proofs.Ytnppmdhgelfloaa
