/- What arrives: plain lists, and lists of byte slices in memory. -/
import Derived.Test.YtnppmdhgelfloaaL4
set_option linter.unusedVariables false
namespace Go.Proofs.Ytnppmdhgelfloaa
open Go.RowKit Go.Fw

def insF (e : Flight) : List Flight → List Flight
  | [] => [e]
  | x :: l => if e.1 < x.1 then e :: x :: l else x :: insF e l
def isortF (l : List Flight) : List Flight := l.foldl (fun acc e => insF e acc) []
def toF (g : G) : Flight := (g.1, g.2.2)
theorem insE_map (e : G) (l : List G) : (insE e l).map toF = insF (toF e) (l.map toF) := by
  induction l with
  | nil => rfl
  | cons x l ih =>
    simp only [insE, List.map_cons, insF]
    by_cases h : e.1 < x.1
    · rw [if_pos h, if_pos (show (toF e).1 < (toF x).1 from h)]; rfl
    · rw [if_neg h, if_neg (show ¬ (toF e).1 < (toF x).1 from h), List.map_cons, ih]
theorem isort_map (l : List G) : (isort l).map toF = isortF (l.map toF) := by
  unfold isort isortF
  suffices h : ∀ acc : List G, (l.foldl (fun acc e => insE e acc) acc).map toF = (l.map toF).foldl (fun acc e => insF e acc) (acc.map toF) from h []
  induction l with
  | nil => intro acc; rfl
  | cons e l ih => intro acc; simp only [List.foldl_cons, List.map_cons]; rw [ih, insE_map]

/-- each second cell is a byte slice in a row of its own -/
def Bod (w : World) (base : Nat) (gs : List G) : Prop := ∀ g ∈ gs, ∃ A c, g.2.1 = .slice A g.2.2.length c ∧ Own w base 5 1 A g.2.2.length c (bys g.2.2)
theorem Bod.one {w : World} {base : Nat} {gs : List G} (h : Bod w base gs) : OneC gs := by
  intro g hg
  obtain ⟨A, c, h1, _⟩ := h g hg
  rw [h1]; rfl
theorem Bod.ext {w w' : World} {base : Nat} {gs : List G} (h : Bod w base gs) (e : Ext w w') : Bod w' base gs := fun g hg => by
  obtain ⟨A, c, h1, h2⟩ := h g hg; exact ⟨A, c, h1, h2.ext e⟩
theorem Bod.grown {w w' : World} {base base' n c : Nat} {gs : List G} {A : Option Addr} {t : TypeId} {size : Nat} {xs : List Value} (h : Bod w base gs) (ho : Own w base' t size A n c xs) (ht : 5 ≠ t) (hg : w.grownBy w' (rowOf A)) : Bod w' base gs := fun g hg' => by
  obtain ⟨A2, c2, h1, h2⟩ := h g hg'; exact ⟨A2, c2, h1, h2.kept hg (h2.apart ho ht)⟩
theorem Bod.perm {w : World} {base : Nat} {gs : List G} (h : Bod w base gs) : Bod w base (isort gs) := fun g hg => h g (mem_of_atKey (isort_atKey gs) hg)
theorem Bod.snoc {w : World} {base : Nat} {gs : List G} {d : Int} {A : Option Addr} {c : Nat} {bs : List Int} (h : Bod w base gs) (ho : Own w base 5 1 A bs.length c (bys bs)) : Bod w base (gs ++ [(d, .slice A bs.length c, bs)]) := fun g hg => by
  rcases List.mem_append.1 hg with hg | hg
  · exact h g hg
  · simp at hg; subst hg; exact ⟨A, c, rfl, ho⟩
theorem Bod.nil (w : World) (base : Nat) : Bod w base [] := fun g hg => by cases hg
theorem fl_flx {w : World} {base : Nat} {gs : List G} (h : Bod w base gs) : FlX w w.heap.size (fl gs) (gs.map toF) := by
  refine ⟨by rw [fl_len]; simp, fun i d bs hi => ?_⟩
  rw [List.getElem?_map] at hi
  cases hg : gs[i]? with
  | none => rw [hg] at hi; cases hi
  | some g =>
    rw [hg] at hi
    simp only [Option.map_some, toF, Option.some.injEq, Prod.mk.injEq] at hi
    obtain ⟨rfl, rfl⟩ := hi
    obtain ⟨A, c, h1, h2⟩ := h g (List.mem_of_getElem? hg)
    have h3 := fl_at hg
    rw [h1, Nat.mul_comm] at h3
    exact ⟨A, c, h3.1, h3.2, h2.sl⟩
theorem fl_flr {w : World} {base n c : Nat} {A : Option Addr} {gs : List G} (ho : Own w base 37 2 A n c (fl gs)) (h : Bod w base gs) : FlR w w.heap.size A n (gs.map toF) := by
  refine ⟨?_, fl gs, ho.sl, fl_flx h⟩
  have := ho.len
  rw [fl_len] at this
  simp; omega

/-- the slice (A, n) reads as these byte slices -/
def BsR (w : World) (B : Nat) (A : Option Addr) (n : Nat) (bss : List (List Int)) : Prop :=
  n = bss.length ∧ ∃ xs : List Value, Sl w B 1 A n xs ∧ ∀ (i : Nat) (bs : List Int), bss[i]? = some bs → ∃ A' c', xs[i]? = some (.slice A' bs.length c') ∧ Sl w B 1 A' bs.length (bys bs)
theorem BsR.ext {w w' : World} {B n : Nat} {A : Option Addr} {bss : List (List Int)} (h : BsR w B A n bss) (e : Ext w w') : BsR w' B A n bss := by
  obtain ⟨hn, xs, h1, h2⟩ := h
  refine ⟨hn, xs, h1.ext e, fun i bs hi => ?_⟩
  obtain ⟨A', c', h3, h4⟩ := h2 i bs hi
  exact ⟨A', c', h3, h4.ext e⟩
theorem BsR.up {w : World} {B B' n : Nat} {A : Option Addr} {bss : List (List Int)} (h : BsR w B A n bss) (hb : B ≤ B') : BsR w B' A n bss := by
  obtain ⟨hn, xs, h1, h2⟩ := h
  refine ⟨hn, xs, h1.up hb, fun i bs hi => ?_⟩
  obtain ⟨A', c', h3, h4⟩ := h2 i bs hi
  exact ⟨A', c', h3, h4.up hb⟩
theorem BsR.at {w : World} {B n k : Nat} {A : Option Addr} {bss : List (List Int)} (h : BsR w B A n bss) (hk : k < n) :
    ∃ b o bs A' c', A = some ⟨b, o, none⟩ ∧ b < B ∧ bss[k]? = some bs ∧ w.cell? ⟨b, o + k, none⟩ = some (.slice A' bs.length c') ∧ Sl w B 1 A' bs.length (bys bs) := by
  obtain ⟨hn, xs, h1, h2⟩ := h
  obtain ⟨b, o, hA, hb, hc⟩ := h1.2 (by omega)
  have hk' : k < bss.length := by omega
  obtain ⟨A', c', h4, h5⟩ := h2 k bss[k] (List.getElem?_eq_getElem hk')
  exact ⟨b, o, _, A', c', hA, hb, List.getElem?_eq_getElem hk', hc _ _ h4, h5⟩
theorem BsR.of {w : World} {base base' n c : Nat} {A : Option Addr} {gs : List G} (ho : Own w base 27 1 A n c (gs.map (·.2.1))) (h : Bod w base' gs) : BsR w w.heap.size A n (gs.map (·.2.2)) := by
  refine ⟨by have := ho.len; simp at this ⊢; omega, _, ho.sl, fun i bs hi => ?_⟩
  rw [List.getElem?_map] at hi
  cases hg : gs[i]? with
  | none => rw [hg] at hi; cases hi
  | some g =>
    rw [hg] at hi
    simp only [Option.map_some, Option.some.injEq] at hi
    subst hi
    obtain ⟨A', c', h1, h2⟩ := h g (List.mem_of_getElem? hg)
    exact ⟨A', c', by rw [List.getElem?_map, hg]; simp [h1], h2.sl⟩

/-- what arrives at a tick, in its order; what stays -/
def arrF (fs : List Flight) (now : Int) : List Flight := isortF (fs.filter fun f => decide (f.1 ≤ now))
def stayF (fs : List Flight) (now : Int) : List Flight := fs.filter fun f => !decide (f.1 ≤ now)
theorem insF_len (e : Flight) (l : List Flight) : (insF e l).length = l.length + 1 := by
  induction l with
  | nil => rfl
  | cons x l ih => unfold insF; split <;> simp [ih]
theorem isortF_len (l : List Flight) : (isortF l).length = l.length := by
  unfold isortF
  suffices h : ∀ acc : List Flight, (l.foldl (fun acc e => insF e acc) acc).length = acc.length + l.length by have := h []; simpa using this
  induction l with
  | nil => intro acc; simp
  | cons e l ih => intro acc; simp only [List.foldl_cons, ih, insF_len, List.length_cons]; omega
end Go.Proofs.Ytnppmdhgelfloaa
