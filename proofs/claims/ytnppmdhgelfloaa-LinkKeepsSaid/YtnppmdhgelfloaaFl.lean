/- Lists of flights in memory: words and small laws. -/
import Derived.Test.YtnppmdhgelfloaaL1
set_option linter.unusedVariables false
namespace Go.Proofs.Ytnppmdhgelfloaa
open Go.RowKit Go.Fw

abbrev bys (bs : List Int) : List Value := bs.map (Value.int .u8)
theorem bys_one (bs : List Int) : ∀ u ∈ bys bs, u.oneCell' = true := by
  intro u hu; obtain ⟨a, _, rfl⟩ := List.mem_map.1 hu; rfl
abbrev ins (ds : List Int) : List Value := ds.map (Value.int .i64)
theorem ins_one (bs : List Int) : ∀ u ∈ ins bs, u.oneCell' = true := by
  intro u hu; obtain ⟨a, _, rfl⟩ := List.mem_map.1 hu; rfl

/-- a flight: when it is due, its body -/
abbrev Flight := Int × List Int

/-- the cells xs are these flights, the bodies readable below block B -/
def FlX (w : World) (B : Nat) (xs : List Value) (fs : List Flight) : Prop :=
  xs.length = 2 * fs.length ∧ ∀ i d bs, fs[i]? = some (d, bs) → ∃ A c, xs[2 * i]? = some (.int .i64 d) ∧ xs[2 * i + 1]? = some (.slice A bs.length c) ∧ Sl w B 1 A bs.length (bys bs)
/-- likewise, each body in a row of its own -/
def FlO (w : World) (base : Nat) (xs : List Value) (fs : List Flight) : Prop :=
  xs.length = 2 * fs.length ∧ ∀ i d bs, fs[i]? = some (d, bs) → ∃ A c, xs[2 * i]? = some (.int .i64 d) ∧ xs[2 * i + 1]? = some (.slice A bs.length c) ∧ Own w base 5 1 A bs.length c (bys bs)
/-- the slice (A, n) reads as these flights -/
def FlR (w : World) (B : Nat) (A : Option Addr) (n : Nat) (fs : List Flight) : Prop := n = fs.length ∧ ∃ xs, Sl w B 2 A n xs ∧ FlX w B xs fs

theorem FlO.nil (w : World) (base : Nat) : FlO w base [] [] := ⟨rfl, fun i d bs h => by simp at h⟩
theorem FlO.ext {w w' : World} {base : Nat} {xs : List Value} {fs : List Flight} (h : FlO w base xs fs) (e : Ext w w') : FlO w' base xs fs :=
  ⟨h.1, fun i d bs hi => by obtain ⟨A, c, h1, h2, h3⟩ := h.2 i d bs hi; exact ⟨A, c, h1, h2, h3.ext e⟩⟩
theorem FlO.grown {w w' : World} {base base' n c : Nat} {A : Option Addr} {xs xs' : List Value} {fs : List Flight} {e : TypeId} {size : Nat} (h : FlO w base xs fs) (ho : Own w base' e size A n c xs') (he : 5 ≠ e) (hg : w.grownBy w' (rowOf A)) : FlO w' base xs fs :=
  ⟨h.1, fun i d bs hi => by obtain ⟨A2, c2, h1, h2, h3⟩ := h.2 i d bs hi; exact ⟨A2, c2, h1, h2, h3.kept hg (h3.apart ho he)⟩⟩
theorem FlO.chg {w w' : World} {base b : Nat} {t : TypeId} {cs : Array Value} {xs : List Value} {fs : List Flight} (h : FlO w base xs fs) (hB : Blk w b t cs) (ht : 5 ≠ t) (hg : Chg b w w') : FlO w' base xs fs :=
  ⟨h.1, fun i d bs hi => by
    obtain ⟨A2, c2, h1, h2, h3⟩ := h.2 i d bs hi
    refine ⟨A2, c2, h1, h2, h3.kept hg ?_⟩
    rcases h3.blk with ⟨h4, _⟩ | ⟨g, cur, h4, h5, h6, _⟩
    · subst h4; exact .inl rfl
    · subst h4; exact .inr (by simp only [rowOf, Option.map_some, ne_eq, Option.some.injEq]; exact h6.ne hB ht)⟩
theorem FlO.snoc {w : World} {base : Nat} {xs : List Value} {fs : List Flight} {A : Option Addr} {c : Nat} {d : Int} {bs : List Int} (h : FlO w base xs fs) (hb : Own w base 5 1 A bs.length c (bys bs)) :
    FlO w base (xs ++ [.int .i64 d, .slice A bs.length c]) (fs ++ [(d, bs)]) := by
  refine ⟨by simp [h.1]; omega, fun i d' bs' hi => ?_⟩
  rcases Nat.lt_or_ge i fs.length with hl | hl
  · rw [List.getElem?_append_left hl] at hi
    obtain ⟨A2, c2, h1, h2, h3⟩ := h.2 i d' bs' hi
    refine ⟨A2, c2, ?_, ?_, h3⟩
    · rw [List.getElem?_append_left (by rw [h.1]; omega)]; exact h1
    · rw [List.getElem?_append_left (by rw [h.1]; omega)]; exact h2
  · rw [List.getElem?_append_right hl] at hi
    have hi0 : i - fs.length = 0 := by
      rcases Nat.eq_zero_or_pos (i - fs.length) with h0 | h0
      · exact h0
      · rw [List.getElem?_eq_none (by simp; omega)] at hi; cases hi
    rw [hi0] at hi
    simp only [List.getElem?_cons_zero, Option.some.injEq, Prod.mk.injEq] at hi
    obtain ⟨rfl, rfl⟩ := hi
    have hil : i = fs.length := by omega
    subst hil
    refine ⟨A, c, ?_, ?_, hb⟩
    · rw [List.getElem?_append_right (by rw [h.1]; omega)]; simp [h.1]
    · rw [List.getElem?_append_right (by rw [h.1]; omega)]; simp [h.1]
theorem FlO.flx {w : World} {base : Nat} {xs : List Value} {fs : List Flight} (h : FlO w base xs fs) : FlX w w.heap.size xs fs :=
  ⟨h.1, fun i d bs hi => by obtain ⟨A, c, h1, h2, h3⟩ := h.2 i d bs hi; exact ⟨A, c, h1, h2, h3.sl⟩⟩
theorem FlX.up {w : World} {B B' : Nat} {xs : List Value} {fs : List Flight} (h : FlX w B xs fs) (hb : B ≤ B') : FlX w B' xs fs :=
  ⟨h.1, fun i d bs hi => by obtain ⟨A, c, h1, h2, h3⟩ := h.2 i d bs hi; exact ⟨A, c, h1, h2, h3.up hb⟩⟩
theorem FlX.ext {w w' : World} {B : Nat} {xs : List Value} {fs : List Flight} (h : FlX w B xs fs) (e : Ext w w') : FlX w' B xs fs :=
  ⟨h.1, fun i d bs hi => by obtain ⟨A, c, h1, h2, h3⟩ := h.2 i d bs hi; exact ⟨A, c, h1, h2, h3.ext e⟩⟩
theorem FlR.ext {w w' : World} {B n : Nat} {A : Option Addr} {fs : List Flight} (h : FlR w B A n fs) (e : Ext w w') : FlR w' B A n fs := by
  obtain ⟨hn, xs, h1, h2⟩ := h; exact ⟨hn, xs, h1.ext e, h2.ext e⟩
theorem FlR.up {w : World} {B B' n : Nat} {A : Option Addr} {fs : List Flight} (h : FlR w B A n fs) (hb : B ≤ B') : FlR w B' A n fs := by
  obtain ⟨hn, xs, h1, h2⟩ := h; exact ⟨hn, xs, h1.up hb, h2.up hb⟩
theorem FlR.of {w : World} {base n c : Nat} {A : Option Addr} {xs : List Value} {fs : List Flight} (h : Own w base 37 2 A n c xs) (k : FlO w base xs fs) : FlR w w.heap.size A n fs := by
  refine ⟨?_, xs, h.sl, k.flx⟩
  have h1 := h.len
  have h2 := k.1
  omega
theorem FlR.at {w : World} {B n k : Nat} {A : Option Addr} {fs : List Flight} (h : FlR w B A n fs) (hk : k < n) :
    ∃ b o d bs A' c', A = some ⟨b, o, none⟩ ∧ b < B ∧ fs[k]? = some (d, bs) ∧ w.cell? ⟨b, o + k * 2, none⟩ = some (.int .i64 d) ∧ w.cell? ⟨b, o + k * 2 + 1, none⟩ = some (.slice A' bs.length c') ∧ Sl w B 1 A' bs.length (bys bs) := by
  obtain ⟨hn, xs, h1, h2, h3⟩ := h
  obtain ⟨b, o, hA, hb, hc⟩ := h1.2 (by omega)
  have hk' : k < fs.length := by omega
  obtain ⟨A', c', h4, h5, h6⟩ := h3 k (fs[k]).1 (fs[k]).2 (by rw [List.getElem?_eq_getElem hk'])
  refine ⟨b, o, _, _, A', c', hA, hb, List.getElem?_eq_getElem hk', ?_, ?_, h6⟩
  · have := hc _ _ h4; rwa [Nat.mul_comm 2 k] at this
  · have := hc _ _ h5; rwa [Nat.mul_comm 2 k, ← Nat.add_assoc] at this
theorem FlR.nil {w : World} {B : Nat} {A : Option Addr} : FlR w B A 0 [] := ⟨rfl, [], Sl.nil, rfl, fun i d bs h => by simp at h⟩

theorem take_snoc {α : Type} {l : List α} {k : Nat} {x : α} (h : l[k]? = some x) : l.take (k + 1) = l.take k ++ [x] := by
  rw [List.take_add_one, h]; rfl
theorem Sl.at1 {w : World} {B n k : Nat} {A : Option Addr} {xs : List Value} (h : Sl w B 1 A n xs) (hk : k < n) : ∃ b o v, A = some ⟨b, o, none⟩ ∧ b < B ∧ xs[k]? = some v ∧ w.cell? ⟨b, o + k, none⟩ = some v := by
  obtain ⟨b, o, hA, hb, hc⟩ := h.2 (by omega)
  have hl : k < xs.length := by have := h.1; omega
  exact ⟨b, o, xs[k], hA, hb, List.getElem?_eq_getElem hl, hc k _ (List.getElem?_eq_getElem hl)⟩
theorem ins_at {ds : List Int} {k : Nat} {v : Value} (h : (ins ds)[k]? = some v) : ∃ d, ds[k]? = some d ∧ v = .int .i64 d := by
  rw [List.getElem?_map] at h
  cases hd : ds[k]? with
  | none => rw [hd] at h; cases h
  | some d => rw [hd] at h; exact ⟨d, rfl, by simpa using h.symm⟩
theorem bys_at {ds : List Int} {k : Nat} {v : Value} (h : (bys ds)[k]? = some v) : ∃ d, ds[k]? = some d ∧ v = .int .u8 d := by
  rw [List.getElem?_map] at h
  cases hd : ds[k]? with
  | none => rw [hd] at h; cases h
  | some d => rw [hd] at h; exact ⟨d, rfl, by simpa using h.symm⟩
theorem dmg_len (bs : List Int) (i m : Int) : (dmg bs i m).length = bs.length := by unfold dmg; split <;> simp
end Go.Proofs.Ytnppmdhgelfloaa
