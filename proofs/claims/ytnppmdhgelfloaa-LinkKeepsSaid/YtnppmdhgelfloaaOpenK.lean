/- The argument of LinkKeeps, opened: a list of lists of numbers. -/
import Derived.Test.YtnppmdhgelfloaaKp
import Derived.Test.YtnppmdhgelfloaaOpen
set_option linter.unusedVariables false
namespace Go.Proofs.Ytnppmdhgelfloaa
open Go.ChangeShapes Go.WideShapes Go.ChangeAt Go.RowKit Go.Fw Go.Joins
section
variable {H : Type} {enc : TypeId × Value → H} {w : World} {base : Nat} {spare : Nat → Bool} {held : Bool}
theorem open_numss {fuel : Nat} {cs : List Value} {x : DataW H × List MemPlace} (h : DataW.trod enc Try.prog w base spare held fuel 44 cs = some x) (hwt : Wt 44 x.1) :
    ∃ A c dss, cs = [.slice A (List.length dss) c] ∧ dss.length ≤ 4611686018427387904 ∧ dss.length ≤ c ∧ DsR w w.heap.size A dss.length dss := by
  rcases Deep.open_slice Try.underlying44 h with ⟨rfl, hx⟩ | ⟨a, len, cap, m, n, D, Pl, rfl, hb, hl, hm, hmm, hx, hi⟩
  · exact ⟨none, 0, [], rfl, by simp, Nat.le_refl _, DsR.nil⟩
  · have hlm : len ≤ m := by rw [hmm]; split <;> omega
    rw [hx] at hwt
    have hw2 := wt_slice Try.underlying44 hwt
    have hlen : len ≤ 4611686018427387904 := by
      have := hw2.1
      rw [show Try.prog.bytesOf 23 = 24 by kernel_rfl] at this
      simp only [List.length_map, List.length_range, reachBytes] at this
      omega
    have hc2 : Try.prog.cellsOf 23 = 1 := by kernel_rfl
    rw [hc2] at hi
    obtain ⟨dss, hgl, hgs⟩ := list_choice (p := fun i (ds : List Int) => ∃ A' c', w.cell? (a.add (i * 1)) = some (.slice A' ds.length c') ∧ ds.length ≤ c' ∧ ds.length ≤ 17592186044416 ∧ Sl w w.heap.size 1 A' ds.length (ins ds)) len (fun i hil => by
      obtain ⟨cs', h1, h2⟩ := hi i (by omega)
      have hwd : Wt 23 (D i) := hw2.2 (D i) (List.mem_map.2 ⟨i, List.mem_range.2 hil, rfl⟩)
      obtain ⟨A', c', zs, h6, h7, h8, _⟩ := open_nums h2 hwd
      have hcap : zs.length ≤ c' := by
        rcases Deep.open_slice Try.underlying23 h2 with ⟨h9, _⟩ | ⟨a', len', cap', m', n', D', Pl', h9, _, hl', _⟩
        · rw [h6] at h9; simp only [List.cons.injEq, Value.slice.injEq, and_true] at h9; omega
        · rw [h6] at h9; simp only [List.cons.injEq, Value.slice.injEq, and_true] at h9; omega
      obtain ⟨_, hcl', hat⟩ := World.cells?_some h1
      subst h6
      have e0 := hat 0 (by omega)
      exact ⟨zs, A', c', by simpa [Addr.add_zero'] using e0, hcap, h7, h8⟩)
    refine ⟨some a, cap, dss, by simp [hgl], by omega, by omega, rfl, ?_⟩
    have hv : ∀ i ds, dss[i]? = some ds → ∃ v A' c', v = Value.slice A' ds.length c' ∧ w.cell? (a.add (i * 1)) = some v ∧ ds.length ≤ c' ∧ ds.length ≤ 17592186044416 ∧ Sl w w.heap.size 1 A' ds.length (ins ds) := fun i ds hi => by
      obtain ⟨A', c', g1, g2⟩ := hgs i ds hi
      exact ⟨_, A', c', rfl, g1, g2⟩
    obtain ⟨vs, hvl, hvs⟩ := list_choice (p := fun i (v : Value) => ∃ ds A' c', dss[i]? = some ds ∧ v = Value.slice A' ds.length c' ∧ w.cell? (a.add (i * 1)) = some v ∧ ds.length ≤ c' ∧ ds.length ≤ 17592186044416 ∧ Sl w w.heap.size 1 A' ds.length (ins ds)) dss.length (fun i hil => by
      obtain ⟨v, A', c', g1, g2⟩ := hv i dss[i] (List.getElem?_eq_getElem hil)
      exact ⟨v, _, A', c', List.getElem?_eq_getElem hil, g1, g2⟩)
    refine ⟨vs, ⟨by omega, fun h0 => ?_⟩, fun i ds hi => ?_⟩
    · have h0' : 0 < vs.length := by omega
      obtain ⟨_, _, _, _, _, e0, _⟩ := hvs 0 vs[0] (List.getElem?_eq_getElem h0')
      rw [Nat.zero_mul, Addr.add_zero'] at e0
      obtain ⟨b, o, rfl, hbb⟩ := adr_none e0
      refine ⟨b, o, rfl, hbb, fun j v hj => ?_⟩
      obtain ⟨_, _, _, _, _, e1, _⟩ := hvs j v hj
      rw [Nat.mul_one, Addr.add_lit] at e1
      exact e1
    · have hl2 : i < vs.length := by have := (List.getElem?_eq_some_iff.1 hi).1; omega
      obtain ⟨ds', A', c', g1, g2, g3, g4⟩ := hvs i vs[i] (List.getElem?_eq_getElem hl2)
      rw [hi] at g1
      injection g1 with g1
      subst g1
      exact ⟨A', c', by rw [List.getElem?_eq_getElem hl2, g2], g4⟩
end
end Go.Proofs.Ytnppmdhgelfloaa
