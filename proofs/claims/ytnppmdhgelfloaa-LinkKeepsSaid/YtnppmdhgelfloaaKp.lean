/- The table of what is awaited, and the flights that it counts: plain laws. -/
import Derived.Test.YtnppmdhgelfloaaAW
import Derived.Test.YtnppmdhgelfloaaOrd
set_option linter.unusedVariables false
namespace Go.Proofs.Ytnppmdhgelfloaa
open Go.RowKit Go.Fw

/-- the table, twelve rows of 120 -/
def tabA (F : Nat → Nat → Int) : Array Value := ((List.range 1440).map fun x => Value.int .i64 (F (x / 120) (x % 120))).toArray
theorem tab_size (F : Nat → Nat → Int) : (tabA F).size = 1440 := by simp [tabA]
theorem tab_at (F : Nat → Nat → Int) {x : Nat} (hx : x < 1440) : (tabA F)[x]? = some (.int .i64 (F (x / 120) (x % 120))) := by
  simp [tabA, List.getElem?_range hx]
theorem tab_get (F : Nat → Nat → Int) {i t : Nat} (hi : i < 12) (ht : t < 120) : (tabA F)[0 + i * 120 + t]? = some (.int .i64 (F i t)) := by
  rw [tab_at F (by omega), show (0 + i * 120 + t) / 120 = i by omega, show (0 + i * 120 + t) % 120 = t by omega]
def setF (F : Nat → Nat → Int) (i t : Nat) (v : Int) : Nat → Nat → Int := fun i' t' => if i' = i ∧ t' = t then v else F i' t'
theorem tab_set (F : Nat → Nat → Int) {i t : Nat} (v : Int) (hi : i < 12) (ht : t < 120) : (tabA F).setIfInBounds (0 + i * 120 + t) (.int .i64 v) = tabA (setF F i t v) := by
  apply Array.ext_getElem?
  intro x
  rw [Array.getElem?_setIfInBounds]
  by_cases hx : x < 1440
  · rw [tab_at (setF F i t v) hx]
    by_cases he : 0 + i * 120 + t = x
    · rw [if_pos he, if_pos (by rw [tab_size]; omega)]
      unfold setF
      rw [if_pos (by omega)]
    · rw [if_neg he, tab_at F hx]
      unfold setF
      rw [if_neg (by omega)]
  · rw [Array.getElem?_eq_none (xs := tabA (setF F i t v)) (by rw [tab_size]; omega), Array.getElem?_eq_none (xs := tabA F) (by rw [tab_size]; omega), if_neg (by omega)]
theorem tab_zero : Array.replicate 1440 (Value.int .i64 0) = tabA (fun _ _ => 0) := by
  apply Array.ext_getElem?
  intro x
  by_cases hx : x < 1440
  · rw [tab_at _ hx]; simp [hx]
  · rw [Array.getElem?_eq_none (xs := tabA _) (by rw [tab_size]; omega), Array.getElem?_eq_none (by simp; omega)]

/-- how many flights of datagram i are due at t -/
def cnt (fs : List Flight) (i t : Nat) : Int := (fs.count ((t : Int), [(i : Int)]) : Nat)
theorem cnt_le (fs : List Flight) (i t : Nat) : 0 ≤ cnt fs i t ∧ cnt fs i t ≤ fs.length := by
  have := List.count_le_length (a := ((t : Int), [(i : Int)])) (l := fs)
  unfold cnt; omega
theorem cnt_nil : cnt [] = fun _ _ => 0 := rfl
theorem cnt_add (fs gs : List Flight) (i t : Nat) : cnt (fs ++ ((t : Int), [(i : Int)]) :: gs) = setF (cnt (fs ++ gs)) i t (cnt (fs ++ gs) i t + 1) := by
  funext i' t'
  unfold setF cnt
  rw [List.count_append, List.count_append, List.count_append, List.count_cons]
  by_cases h : i' = i ∧ t' = t
  · obtain ⟨rfl, rfl⟩ := h
    simp; omega
  · rw [if_neg h, if_neg (by simp; omega)]
    simp
theorem cnt_sub (fs gs : List Flight) (i t : Nat) : cnt (fs ++ gs) = setF (cnt (fs ++ ((t : Int), [(i : Int)]) :: gs)) i t (cnt (fs ++ ((t : Int), [(i : Int)]) :: gs) i t - 1) := by
  funext i' t'
  unfold setF cnt
  rw [List.count_append, List.count_append, List.count_append, List.count_cons, List.count_cons]
  by_cases h : i' = i ∧ t' = t
  · obtain ⟨rfl, rfl⟩ := h
    simp; omega
  · rw [if_neg h, if_neg (by simp; omega)]
    simp
theorem cnt_perm {fs gs : List Flight} (h : fs.Perm gs) : cnt fs = cnt gs := by
  funext i t; unfold cnt; rw [h.count_eq]
theorem insF_perm (e : Flight) (l : List Flight) : (insF e l).Perm (e :: l) := by
  induction l with
  | nil => exact List.Perm.refl _
  | cons x l ih =>
    unfold insF
    split
    · exact List.Perm.refl _
    · exact (ih.cons x).trans (List.Perm.swap e x l)
theorem isortF_perm (l : List Flight) : (isortF l).Perm l := by
  unfold isortF
  suffices h : ∀ acc : List Flight, (l.foldl (fun acc e => insF e acc) acc).Perm (acc ++ l) by simpa using h []
  induction l with
  | nil => intro acc; simp
  | cons e l ih =>
    intro acc
    simp only [List.foldl_cons]
    refine (ih _).trans ?_
    refine ((insF_perm e acc).append_right l).trans ?_
    rw [List.cons_append]
    exact (List.perm_middle).symm
theorem split_perm (fs : List Flight) (t : Int) : fs.Perm (stayF fs t ++ arrF fs t) := by
  have h1 := List.filter_append_perm (fun f : Flight => decide (f.1 ≤ t)) fs
  exact (h1.symm.trans List.perm_append_comm).trans ((isortF_perm _).symm.append_left _)
/-- what may be in flight at tick t -/
def GF (fs : List Flight) (t : Nat) : Prop := ∀ f ∈ fs, ∃ i s : Nat, i < 12 ∧ t ≤ s ∧ s < 120 ∧ f = ((s : Int), [(i : Int)])
theorem GF.arr {fs : List Flight} {t : Nat} (h : GF fs t) : ∀ f ∈ arrF fs t, ∃ i : Nat, i < 12 ∧ f = ((t : Int), [(i : Int)]) := by
  intro f hf
  have hf2 : f ∈ fs.filter (fun f => decide (f.1 ≤ (t : Int))) := (isortF_perm _).subset hf
  rw [List.mem_filter] at hf2
  obtain ⟨i, s, h1, h2, h3, rfl⟩ := h f hf2.1
  have : (s : Int) ≤ t := by simpa using hf2.2
  exact ⟨i, h1, by rw [show s = t by omega]⟩
theorem GF.stay {fs : List Flight} {t : Nat} (h : GF fs t) : GF (stayF fs t) (t + 1) := by
  intro f hf
  unfold stayF at hf
  rw [List.mem_filter] at hf
  obtain ⟨i, s, h1, h2, h3, rfl⟩ := h f hf.1
  have : ¬ (s : Int) ≤ t := by simpa using hf.2
  exact ⟨i, s, h1, by omega, h3, rfl⟩
theorem GF.done {fs : List Flight} {t : Nat} (h : GF fs t) (ht : 120 ≤ t) : fs = [] := by
  cases fs with
  | nil => rfl
  | cons f fs =>
    obtain ⟨i, s, h1, h2, h3, _⟩ := h f (by simp)
    omega
theorem GF.len1 {fs : List Flight} {t : Nat} (h : GF fs t) : ∀ (i : Nat) (d : Int) (b : List Int), fs[i]? = some (d, b) → b.length ≤ 1000000 := by
  intro i d b hi
  obtain ⟨_, _, _, _, _, he⟩ := h _ (List.mem_of_getElem? hi)
  injection he with _ he
  rw [he]; simp
/-- the flights of one datagram -/
def fly (i : Nat) (ds : List Int) : List Flight := ds.map fun d => ((i : Int) + clampD d, [(i : Int)])
theorem fly_gf {fs : List Flight} {ds : List Int} {i : Nat} (hi : i < 12) (h : GF fs 0) : GF (fs ++ fly i ds) 0 := by
  intro f hf
  rcases List.mem_append.1 hf with hf | hf
  · exact h f hf
  · obtain ⟨d, hd, rfl⟩ := List.mem_map.1 hf
    have hb := clampD_bd d
    obtain ⟨c, hc⟩ := Int.eq_ofNat_of_zero_le (show 0 ≤ clampD d by omega)
    exact ⟨i, i + c, hi, by omega, by omega, by rw [hc]; simp⟩
theorem send_fly {fs : List Flight} {ds : List Int} {i : Nat} (hi : i < 12) (hd : ds.length ≤ 6) : sendF fs ds 0 0 [(i : Int)] (i : Int) = fs ++ fly i ds := by
  have hh : hit [(i : Int)] 0 0 = [(i : Int)] := hit_zero (by intro x hx; simp at hx; subst hx; omega) (by decide)
  unfold sendF fly
  rw [List.take_of_length_le (by omega), hh]
theorem fly_snoc {ds : List Int} {i k : Nat} {d : Int} (h : ds[k]? = some d) : fly i (ds.take (k + 1)) = fly i (ds.take k) ++ [((i : Int) + clampD d, [(i : Int)])] := by
  unfold fly; rw [take_snoc h, List.map_append]; rfl

/-- the slice (A, n) reads as these lists of numbers -/
def DsR (w : World) (B : Nat) (A : Option Addr) (n : Nat) (dss : List (List Int)) : Prop :=
  n = dss.length ∧ ∃ xs : List Value, Sl w B 1 A n xs ∧ ∀ (i : Nat) (ds : List Int), dss[i]? = some ds → ∃ A' c', xs[i]? = some (.slice A' ds.length c') ∧ ds.length ≤ c' ∧ ds.length ≤ 17592186044416 ∧ Sl w B 1 A' ds.length (ins ds)
theorem DsR.at {w : World} {B n k : Nat} {A : Option Addr} {dss : List (List Int)} (h : DsR w B A n dss) (hk : k < n) :
    ∃ b o ds A' c', A = some ⟨b, o, none⟩ ∧ b < B ∧ dss[k]? = some ds ∧ w.cell? ⟨b, o + k, none⟩ = some (.slice A' ds.length c') ∧ ds.length ≤ c' ∧ ds.length ≤ 17592186044416 ∧ Sl w B 1 A' ds.length (ins ds) := by
  obtain ⟨hn, xs, h1, h2⟩ := h
  obtain ⟨b, o, hA, hb, hc⟩ := h1.2 (by omega)
  have hk' : k < dss.length := by omega
  obtain ⟨A', c', h4, h5, h6, h7⟩ := h2 k dss[k] (List.getElem?_eq_getElem hk')
  exact ⟨b, o, _, A', c', hA, hb, List.getElem?_eq_getElem hk', hc _ _ h4, h5, h6, h7⟩
theorem DsR.ext {w w' : World} {B n : Nat} {A : Option Addr} {dss : List (List Int)} (h : DsR w B A n dss) (e : Ext w w') : DsR w' B A n dss := by
  obtain ⟨hn, xs, h1, h2⟩ := h
  refine ⟨hn, xs, h1.ext e, fun i bs hi => ?_⟩
  obtain ⟨A', c', h3, h4, h5, h6⟩ := h2 i bs hi
  exact ⟨A', c', h3, h4, h5, h6.ext e⟩
theorem DsR.take {w : World} {B n : Nat} {A : Option Addr} {dss : List (List Int)} (h : DsR w B A n dss) {j : Nat} (hj : j ≤ n) : DsR w B A j (dss.take j) := by
  obtain ⟨hn, xs, h1, h2⟩ := h
  refine ⟨by simp; omega, xs.take j, by simpa using h1.take hj, fun i ds hi => ?_⟩
  rw [List.getElem?_take] at hi
  split at hi
  · obtain ⟨A', c', h3, r⟩ := h2 i ds hi
    exact ⟨A', c', by rw [List.getElem?_take, if_pos ‹_›]; exact h3, r⟩
  · cases hi
theorem DsR.nil {w : World} {B : Nat} {A : Option Addr} : DsR w B A 0 [] := ⟨rfl, [], Sl.nil, fun i ds h => by cases h⟩

/-! the table lies in no block of the flights -/
theorem tab_int {w : World} {b o : Nat} {F : Nat → Nat → Int} {v : Value} (hB : Blk w b 46 (tabA F)) (h : w.cell? ⟨b, o, none⟩ = some v) : ∃ n, v = .int .i64 n := by
  rw [cell_of_row w b o _ 46 (0, 0) hB] at h
  have ho : o < 1440 := by have := (Array.getElem?_eq_some_iff.1 h).1; rwa [tab_size] at this
  rw [tab_at _ ho] at h
  exact ⟨_, (Option.some.inj h).symm⟩
theorem Sl.chgT {w w' : World} {B b4 n : Nat} {A : Option Addr} {bs : List Int} {F : Nat → Nat → Int} (h : Sl w B 1 A n (bys bs)) (hB : Blk w b4 46 (tabA F)) (hC : Chg b4 w w') : Sl w' B 1 A n (bys bs) := by
  refine ⟨h.1, fun h0 => ?_⟩
  obtain ⟨b, o, h1, h2, h3⟩ := h.2 h0
  have hne : b ≠ b4 := by
    rintro rfl
    have hl : 0 < bs.length := by have := h.1; simp at this; omega
    obtain ⟨n, hn⟩ := tab_int hB (h3 0 (.int .u8 bs[0]) (by rw [List.getElem?_map, List.getElem?_eq_getElem hl]; rfl))
    cases hn
  exact ⟨b, o, h1, h2, h3.chg hC hne⟩
theorem FlR.chgT {w w' : World} {B b4 n : Nat} {A : Option Addr} {fs : List Flight} {F : Nat → Nat → Int} (h : FlR w B A n fs) (hB : Blk w b4 46 (tabA F)) (hC : Chg b4 w w') : FlR w' B A n fs := by
  obtain ⟨hn, xs, h1, h2, h3⟩ := h
  refine ⟨hn, xs, ⟨h1.1, fun h0 => ?_⟩, h2, fun i d bs hi => ?_⟩
  · obtain ⟨b, o, e1, e2, e3⟩ := h1.2 h0
    have hne : b ≠ b4 := by
      rintro rfl
      have hl : 0 < fs.length := by omega
      obtain ⟨A', c', _, g2, _⟩ := h3 0 (fs[0]).1 (fs[0]).2 (List.getElem?_eq_getElem hl)
      obtain ⟨n, hn⟩ := tab_int hB (e3 _ _ g2)
      cases hn
    exact ⟨b, o, e1, e2, e3.chg hC hne⟩
  · obtain ⟨A', c', g1, g2, g3⟩ := h3 i d bs hi
    exact ⟨A', c', g1, g2, Sl.chgT g3 hB hC⟩
theorem BsR.chgT {w w' : World} {B b4 n : Nat} {A : Option Addr} {bss : List (List Int)} {F : Nat → Nat → Int} (h : BsR w B A n bss) (hB : Blk w b4 46 (tabA F)) (hC : Chg b4 w w') : BsR w' B A n bss := by
  obtain ⟨hn, xs, h1, h3⟩ := h
  refine ⟨hn, xs, ⟨h1.1, fun h0 => ?_⟩, fun i bs hi => ?_⟩
  · obtain ⟨b, o, e1, e2, e3⟩ := h1.2 h0
    have hne : b ≠ b4 := by
      rintro rfl
      have hl : 0 < bss.length := by omega
      obtain ⟨A', c', g2, _⟩ := h3 0 bss[0] (List.getElem?_eq_getElem hl)
      obtain ⟨n, hn⟩ := tab_int hB (e3 _ _ g2)
      cases hn
    exact ⟨b, o, e1, e2, e3.chg hC hne⟩
  · obtain ⟨A', c', g1, g3⟩ := h3 i bs hi
    exact ⟨A', c', g1, Sl.chgT g3 hB hC⟩
end Go.Proofs.Ytnppmdhgelfloaa
