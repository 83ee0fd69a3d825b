/- Sorting, stably, by a key: plain lists; and a row of flights in memory as such a list. -/
import Derived.Test.YtnppmdhgelfloaaL2
set_option linter.unusedVariables false
namespace Go.Proofs.Ytnppmdhgelfloaa
open Go.RowKit Go.Fw

/-- an element: its key (when it is due), its second cell, and what that cell reads as -/
abbrev G := Int × Value × List Int

def insE (e : G) : List G → List G
  | [] => [e]
  | x :: l => if e.1 < x.1 then e :: x :: l else x :: insE e l
def isort (l : List G) : List G := l.foldl (fun acc e => insE e acc) []
def Srt : List G → Prop
  | [] => True
  | x :: l => (∀ y ∈ l, x.1 ≤ y.1) ∧ Srt l

theorem isort_snoc (l : List G) (e : G) : isort (l ++ [e]) = insE e (isort l) := by unfold isort; rw [List.foldl_append]; rfl
theorem mem_insE {e y : G} {l : List G} : y ∈ insE e l ↔ y = e ∨ y ∈ l := by
  induction l with
  | nil => simp [insE]
  | cons x l ih =>
    unfold insE
    split
    · simp
    · simp only [List.mem_cons, ih]
      constructor
      · rintro (h | h | h) <;> simp_all
      · rintro (h | h | h) <;> simp_all
theorem insE_srt {e : G} {l : List G} (h : Srt l) : Srt (insE e l) := by
  induction l with
  | nil => exact ⟨by simp, trivial⟩
  | cons x l ih =>
    unfold insE
    split
    · rename_i hlt
      refine ⟨fun y hy => ?_, h⟩
      rcases List.mem_cons.1 hy with rfl | hy
      · omega
      · have := h.1 y hy; omega
    · rename_i hlt
      refine ⟨fun y hy => ?_, ih h.2⟩
      rcases mem_insE.1 hy with rfl | hy
      · omega
      · exact h.1 y hy
theorem isort_srt (l : List G) : Srt (isort l) := by
  unfold isort
  suffices h : ∀ acc, Srt acc → Srt (l.foldl (fun acc e => insE e acc) acc) from h [] trivial
  induction l with
  | nil => exact fun acc h => h
  | cons e l ih => exact fun acc h => ih _ (insE_srt h)
theorem insE_len (e : G) (l : List G) : (insE e l).length = l.length + 1 := by
  induction l with
  | nil => rfl
  | cons x l ih => unfold insE; split <;> simp [ih]
theorem isort_len (l : List G) : (isort l).length = l.length := by
  unfold isort
  suffices h : ∀ acc : List G, (l.foldl (fun acc e => insE e acc) acc).length = acc.length + l.length by have := h []; simpa using this
  induction l with
  | nil => intro acc; simp
  | cons e l ih => intro acc; simp only [List.foldl_cons, ih, insE_len, List.length_cons]; omega
/-- the elements of one key, in their order -/
def atKey (d : Int) (l : List G) : List G := l.filter fun g => g.1 == d
theorem atKey_append (d : Int) (l r : List G) : atKey d (l ++ r) = atKey d l ++ atKey d r := List.filter_append ..
theorem srt_atKey_nil {d : Int} {l : List G} (h : ∀ y ∈ l, d < y.1) : atKey d l = [] := by
  unfold atKey
  rw [List.filter_eq_nil_iff]
  intro a ha hd
  have := h a ha
  simp at hd
  omega
theorem atKey_cons_eq {d : Int} {x : G} {l : List G} (h : x.1 = d) : atKey d (x :: l) = x :: atKey d l := by unfold atKey; rw [List.filter_cons_of_pos (by simpa using h)]
theorem atKey_cons_ne {d : Int} {x : G} {l : List G} (h : x.1 ≠ d) : atKey d (x :: l) = atKey d l := by unfold atKey; rw [List.filter_cons_of_neg (by simpa using h)]
theorem insE_atKey {e : G} {l : List G} (h : Srt l) (d : Int) : atKey d (insE e l) = atKey d (l ++ [e]) := by
  induction l with
  | nil => rfl
  | cons x l ih =>
    unfold insE
    split
    · rename_i hlt
      rw [atKey_append]
      by_cases hd : e.1 = d
      · have h1 : atKey d (x :: l) = [] := srt_atKey_nil (fun y hy => by
          rcases List.mem_cons.1 hy with rfl | hy
          · omega
          · have := h.1 y hy; omega)
        rw [atKey_cons_eq hd, h1]
        rw [atKey_cons_eq hd]; rfl
      · rw [atKey_cons_ne hd, atKey_cons_ne hd]
        unfold atKey; simp
    · by_cases hx : x.1 = d
      · rw [atKey_cons_eq hx, ih h.2, List.cons_append, atKey_cons_eq hx]
      · rw [atKey_cons_ne hx, ih h.2, List.cons_append, atKey_cons_ne hx]
theorem isort_atKey (l : List G) (d : Int) : atKey d (isort l) = atKey d l := by
  unfold isort
  suffices h : ∀ acc, Srt acc → atKey d (l.foldl (fun acc e => insE e acc) acc) = atKey d (acc ++ l) from h [] trivial
  induction l with
  | nil => intro acc _; simp
  | cons e l ih =>
    intro acc h
    rw [List.foldl_cons, ih _ (insE_srt h), atKey_append, insE_atKey h, ← atKey_append, List.append_assoc]; rfl
theorem mem_of_atKey {l r : List G} (h : ∀ d, atKey d l = atKey d r) {g : G} (hg : g ∈ l) : g ∈ r := by
  have h1 : g ∈ atKey g.1 l := List.mem_filter.2 ⟨hg, by simp⟩
  rw [h] at h1
  exact (List.mem_filter.1 h1).1
/-- sorted, and stable: there is one such list alone -/
theorem srt_uniq {l r : List G} (hl : Srt l) (hr : Srt r) (h : ∀ d, atKey d l = atKey d r) : l = r := by
  induction l generalizing r with
  | nil =>
    cases r with
    | nil => rfl
    | cons y r => have := mem_of_atKey (fun d => (h d).symm) (List.mem_cons_self (a := y) (l := r)); cases this
  | cons x l ih =>
    cases r with
    | nil => have := mem_of_atKey h (List.mem_cons_self (a := x) (l := l)); cases this
    | cons y r =>
      have hxy : x.1 = y.1 := by
        have h1 : x ∈ y :: r := mem_of_atKey h (List.mem_cons_self ..)
        have h2 : y ∈ x :: l := mem_of_atKey (fun d => (h d).symm) (List.mem_cons_self ..)
        have h3 : y.1 ≤ x.1 := by
          rcases List.mem_cons.1 h1 with rfl | h1
          · omega
          · exact hr.1 x h1
        have h4 : x.1 ≤ y.1 := by
          rcases List.mem_cons.1 h2 with rfl | h2
          · omega
          · exact hl.1 y h2
        omega
      have h0 := h x.1
      rw [atKey_cons_eq rfl, atKey_cons_eq hxy.symm] at h0
      injection h0 with h5 h6
      subst h5
      congr 1
      refine ih hl.2 hr.2 fun d => ?_
      by_cases hd : x.1 = d
      · subst hd; exact h6
      · have := h d; rwa [atKey_cons_ne hd, atKey_cons_ne hd] at this
theorem srt_append {l r : List G} : Srt (l ++ r) ↔ Srt l ∧ Srt r ∧ ∀ x ∈ l, ∀ y ∈ r, x.1 ≤ y.1 := by
  induction l with
  | nil => simp [Srt]
  | cons a l ih =>
    simp only [List.cons_append, Srt, List.mem_append, ih, List.mem_cons]
    constructor
    · rintro ⟨h1, h2, h3, h4⟩
      refine ⟨⟨fun y hy => h1 y (.inl hy), h2⟩, h3, ?_⟩
      rintro x (rfl | hx) y hy
      · exact h1 y (.inr hy)
      · exact h4 x hx y hy
    · rintro ⟨⟨h1, h2⟩, h3, h4⟩
      refine ⟨?_, h2, h3, fun x hx y hy => h4 x (.inr hx) y hy⟩
      rintro y (hy | hy)
      · exact h1 y hy
      · exact h4 a (.inl rfl) y hy
/-- where the walk of an insertion ends -/
theorem insE_at {e : G} {P1 P2 : List G} (h : Srt (P1 ++ P2)) (h2 : ∀ x ∈ P2, e.1 < x.1) (h1 : ∀ x ∈ P1, x.1 ≤ e.1) : insE e (P1 ++ P2) = P1 ++ e :: P2 := by
  induction P1 with
  | nil =>
    cases P2 with
    | nil => rfl
    | cons x P2 => simp only [List.nil_append, insE]; rw [if_pos (h2 x (List.mem_cons_self ..))]
  | cons x P1 ih =>
    simp only [List.cons_append, insE]
    have h3 := h1 x (List.mem_cons_self ..)
    rw [if_neg (by omega), ih h.2 (fun y hy => h1 y (List.mem_cons_of_mem _ hy))]
theorem cmpI_neg {a b : Int} : cmpI a b < 0 ↔ a < b := by
  unfold cmpI; split
  · omega
  · split <;> omega

/-! in memory -/
def fl : List G → List Value
  | [] => []
  | g :: l => .int .i64 g.1 :: g.2.1 :: fl l
theorem fl_len (l : List G) : (fl l).length = 2 * l.length := by
  induction l with
  | nil => rfl
  | cons g l ih => simp only [fl, List.length_cons, ih]; omega
theorem fl_append (l r : List G) : fl (l ++ r) = fl l ++ fl r := by
  induction l with
  | nil => rfl
  | cons g l ih => simp only [List.cons_append, fl, ih]
theorem fl_at {l : List G} {i : Nat} {g : G} (h : l[i]? = some g) : (fl l)[i * 2]? = some (.int .i64 g.1) ∧ (fl l)[i * 2 + 1]? = some g.2.1 := by
  induction l generalizing i with
  | nil => cases h
  | cons x l ih =>
    cases i with
    | zero => simp only [List.getElem?_cons_zero, Option.some.injEq] at h; subst h; exact ⟨rfl, rfl⟩
    | succ i =>
      have := ih (i := i) (by simpa using h)
      rw [show (i + 1) * 2 = i * 2 + 1 + 1 by omega]
      exact ⟨by simpa [fl] using this.1, by simpa [fl] using this.2⟩
theorem fl_set {l : List G} {i : Nat} (g : G) : ((fl l).set (i * 2) (.int .i64 g.1)).set (i * 2 + 1) g.2.1 = fl (l.set i g) := by
  induction l generalizing i with
  | nil => rfl
  | cons x l ih =>
    cases i with
    | zero => simp [fl]
    | succ i =>
      rw [show (i + 1) * 2 = i * 2 + 1 + 1 by omega]
      simp only [fl, List.set_cons_succ, ih]
/-- the second cells are each one cell -/
def OneC (l : List G) : Prop := ∀ g ∈ l, g.2.1.oneCell' = true

section
variable {w : World} {base n c q : Nat} {l : List G}
theorem el_cells {i : Nat} {x : G} (ho : Own w base 37 2 (some ⟨q, 0, none⟩) n c (fl l)) (h : l[i]? = some x) : Cells w q (0 + i * 2) [.int .i64 x.1, x.2.1] := by
  have h1 := fl_at h
  refine cells2 ?_ ?_
  · rw [Nat.zero_add]; exact ho.cell h1.1
  · rw [Nat.zero_add]; exact ho.cell h1.2
theorem el_len (ho : Own w base 37 2 (some ⟨q, 0, none⟩) n c (fl l)) : l.length = n := by have h1 := ho.len; rw [fl_len] at h1; omega
end

section
variable {P : Program} {w : World} {ρ : Operand → Value} {d : Option Nat} {ty : TypeId} {pos : String} {af : Array Edge} {g : Option (Nat × Bool)}
/-- an element stored -/
theorem el_store {t : TypeId} {x y : Operand} {z : Value} {by_ base n c q i : Nat} {l : List G} (e : G) (hi : TI P t z 2 by_) (hx : ρ x = .pointer (some ⟨q, 0 + i * 2, none⟩)) (hy : ρ y = .agg #[.int .i64 e.1, e.2.1]) (h1 : e.2.1.oneCell' = true)
    (ho : Own w base 37 2 (some ⟨q, 0, none⟩) n c (fl l)) (hl : i < l.length) :
    ∃ w', St P ρ (.store t x y) d ty pos af g w w' ∧ Own w' base 37 2 (some ⟨q, 0, none⟩) n c (fl (l.set i e)) ∧ Chg q w w' := by
  have h2 := fl_at (l := l) (i := i) (g := l[i]) (List.getElem?_eq_getElem hl)
  have c0 := ho.cell h2.1
  have o1 := ho.set (i * 2) (.int .i64 e.1)
  have h3 : ((fl l).set (i * 2) (.int .i64 e.1))[i * 2 + 1]? = some (l[i]).2.1 := by rw [List.getElem?_set_ne (by omega)]; exact h2.2
  have c1 := o1.cell h3
  have o2 := o1.set (i * 2 + 1) e.2.1
  rw [fl_set] at o2
  refine ⟨_, ?_, o2, (Chg.setCell w q _ _).trans (Chg.setCell _ q _ _)⟩
  obtain ⟨ii, hi1, hi2, hi3, hi4⟩ := hi
  simp [St, execOp, hx, hy, Instr.storeAt, Instr.sureAddr, storeVar, sizeOf, typeInfo, hi1, hi3, Value.cells, storeCells, Addr.add_lit, run_store P w _ (.int .i64 e.1) .plain rfl, c0, ho.frozen, run_store P _ _ e.2.1 .plain h1, c1, o1.frozen]
end
section
variable {P : Program} {N : Nat} {ops : Array Oper} {S : World → Prop} {T : List Nat} {K : Fr → World → Prop} {f : Fr} {w : World} {n : Nat} {L : Array Bool}
/-- the same, in a region that draws -/
theorem oEl {i k : Nat} {d : Option Nat} {t : TypeId} {x y : Operand} {ty : TypeId} {pos : String} {af : Array Edge} {g : Option (Nat × Bool)} {z : Value} {by_ base m c q : Nat} {l : List G} (e : G) (hi : ops[i]? = some ⟨d, .store t x y, ty, pos, af, g⟩) (hw : wantF ops f g = true)
    (ht : TI P t z 2 by_) (hx : ev f x = .pointer (some ⟨q, 0 + k * 2, none⟩)) (hy : ev f y = .agg #[.int .i64 e.1, e.2.1]) (h1 : e.2.1.oneCell' = true) (ho : Own w base 37 2 (some ⟨q, 0, none⟩) m c (fl l)) (hl : k < l.length)
    (h : ∀ w', Own w' base 37 2 (some ⟨q, 0, none⟩) m c (fl (l.set k e)) → Chg q w w' → SL T S (L.setIfInBounds i true) w' ∧ WPh P N ops S T K n (L.setIfInBounds i true) (updO f d undef) w') : One P N ops S T K n L f w i := by
  obtain ⟨w', h2, h3, h4⟩ := el_store (P := P) (ρ := ev f) (d := d) (ty := ty) (pos := pos) (af := af) (g := g) e ht hx hy h1 ho hl
  exact oDo hi hw h2 (h w' h3 h4).1 (h w' h3 h4).2
end
end Go.Proofs.Ytnppmdhgelfloaa
