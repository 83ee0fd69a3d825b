/- Flights that were sent one behind the other: sorted, they keep their order. -/
import Derived.Test.YtnppmdhgelfloaaAny
set_option linter.unusedVariables false
namespace Go.Proofs.Ytnppmdhgelfloaa
open Go.RowKit Go.Fw

/-- flight j, of delay d -/
def Sent (now : Int) (m : Nat) (f : Flight) : Prop := ∃ (d : Int) (j : Nat), 1 ≤ d ∧ d ≤ 3 ∧ j < m ∧ f = (now + d, [d, (j : Int)])
def idx (f : Flight) : Int := f.2.getD 1 0
def Lx (x y : Flight) : Prop := x.1 < y.1 ∨ (x.1 = y.1 ∧ idx x < idx y)
def Lxs : List Flight → Prop
  | [] => True
  | x :: l => (∀ y ∈ l, Lx x y) ∧ Lxs l
theorem mem_insF {e y : Flight} {l : List Flight} : y ∈ insF e l ↔ y = e ∨ y ∈ l := by
  induction l with
  | nil => simp [insF]
  | cons x l ih =>
    unfold insF
    split
    · simp
    · simp only [List.mem_cons, ih]
      constructor
      · rintro (h | h | h) <;> simp_all
      · rintro (h | h | h) <;> simp_all
theorem insF_lxs {e : Flight} {l : List Flight} (h : Lxs l) (he : ∀ y ∈ l, idx y < idx e) : Lxs (insF e l) := by
  induction l with
  | nil => exact ⟨by simp, trivial⟩
  | cons x l ih =>
    unfold insF
    split
    · rename_i hlt
      refine ⟨fun y hy => ?_, h⟩
      rcases List.mem_cons.1 hy with rfl | hy
      · exact .inl hlt
      · rcases h.1 y hy with h1 | h1
        · exact .inl (by omega)
        · exact .inl (by omega)
    · rename_i hlt
      refine ⟨fun y hy => ?_, ih h.2 (fun y hy => he y (List.mem_cons_of_mem _ hy))⟩
      rcases mem_insF.1 hy with rfl | hy
      · have := he x (List.mem_cons_self ..)
        rcases Int.lt_or_eq_of_le (show x.1 ≤ y.1 by omega) with h1 | h1
        · exact .inl h1
        · exact .inr ⟨h1, this⟩
      · exact h.1 y hy
theorem isortF_snoc (l : List Flight) (e : Flight) : isortF (l ++ [e]) = insF e (isortF l) := by unfold isortF; rw [List.foldl_append]; rfl
/-- what has been sent up to now -/
structure Sents (now : Int) (m : Nat) (fs : List Flight) : Prop where
  len : fs.length = m
  all : ∀ f ∈ isortF fs, Sent now m f
  lxs : Lxs (isortF fs)
  due : ∀ f ∈ fs, f.1 ≤ now + 3
  two : ∀ f ∈ fs, f.2.length = 2
theorem Sents.nil (now : Int) : Sents now 0 [] := ⟨rfl, by simp [isortF], trivial, by simp, by simp⟩
theorem Sents.snoc {now : Int} {m : Nat} {fs : List Flight} {d : Int} (h : Sents now m fs) (h1 : 1 ≤ d) (h3 : d ≤ 3) : Sents now (m + 1) (fs ++ [(now + d, [d, (m : Int)])]) := by
  refine ⟨by simp [h.len], ?_, ?_, ?_, ?_⟩
  · intro f hf
    rw [isortF_snoc] at hf
    rcases mem_insF.1 hf with rfl | hf
    · exact ⟨d, m, h1, h3, by omega, rfl⟩
    · obtain ⟨d', j, a, b, c, e⟩ := h.all f hf; exact ⟨d', j, a, b, by omega, e⟩
  · rw [isortF_snoc]
    refine insF_lxs h.lxs fun y hy => ?_
    obtain ⟨d', j, _, _, c, rfl⟩ := h.all y hy
    simp [idx]; omega
  · intro f hf
    rcases List.mem_append.1 hf with hf | hf
    · exact h.due f hf
    · simp at hf; subst hf; simp; omega
  · intro f hf
    rcases List.mem_append.1 hf with hf | hf
    · exact h.two f hf
    · simp at hf; subst hf; rfl
theorem Sents.arr {now : Int} {m : Nat} {fs : List Flight} (h : Sents now m fs) : arrF fs (now + 3) = isortF fs ∧ stayF fs (now + 3) = [] := by
  unfold arrF stayF
  refine ⟨?_, ?_⟩
  · rw [List.filter_eq_self.2 (fun f hf => by simpa using h.due f hf)]
  · rw [List.filter_eq_nil_iff]
    intro f hf
    have := h.due f hf
    simp; omega
theorem Lxs.get {l : List Flight} (h : Lxs l) {i j : Nat} {x y : Flight} (hij : i < j) (hx : l[i]? = some x) (hy : l[j]? = some y) : Lx x y := by
  induction l generalizing i j with
  | nil => cases hx
  | cons a l ih =>
    cases j with
    | zero => omega
    | succ j =>
      cases i with
      | zero =>
        simp only [List.getElem?_cons_zero, Option.some.injEq] at hx
        subst hx
        exact h.1 y (List.mem_of_getElem? (by simpa using hy))
      | succ i => exact ih h.2 (i := i) (j := j) (by omega) (by simpa using hx) (by simpa using hy)
theorem send_one (fs : List Flight) (d i now : Int) (h1 : 1 ≤ d) (h3 : d ≤ 3) (hi : 0 ≤ i) (hi2 : i ≤ 255) : sendF fs [d] 0 0 [d, i] now = fs ++ [(now + d, [d, i])] := by
  have hc : clampD d = d := by unfold clampD; split <;> split <;> omega
  have hh : hit [d, i] 0 0 = [d, i] := hit_zero (by intro x hx; simp at hx; rcases hx with rfl | rfl <;> omega) (by decide)
  simp [sendF, hc, hh]
end Go.Proofs.Ytnppmdhgelfloaa
