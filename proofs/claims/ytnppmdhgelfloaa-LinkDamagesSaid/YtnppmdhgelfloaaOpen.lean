/- Arguments opened: what a reading of bytes, numbers, flights and fates says of memory. -/
import Derived.Test.YtnppmdhgelfloaaL6
import Derived.WalkKit
import Derived.ProofKit
import Derived.OpenShut
import Derived.ChangeOld
import Derived.SizedLaws
import Derived.Lib.SmallJoins
import Derived.Deep.Slices
set_option linter.unusedVariables false
namespace Go.Proofs.Ytnppmdhgelfloaa
open Go.ChangeShapes Go.WideShapes Go.ChangeAt Go.RowKit Go.Fw Go.Joins

theorem Try.own : ownKnob Try.prog.godebug = none := by kernel_rfl
theorem Try.laidOut : laidOutB Try.prog = true := by kernel_rfl

theorem adr_none {w : World} {a : Addr} {v : Value} (h : w.cell? a = some v) : ∃ b o, a = ⟨b, o, none⟩ ∧ b < w.heap.size := by
  have h1 := World.cell?_spot h
  obtain ⟨b, o, s⟩ := a
  simp only at h1
  subst h1
  exact ⟨b, o, rfl, World.block_lt_of_cell? w _ h⟩

section
variable {H : Type} {enc : TypeId × Value → H} {w : World} {base : Nat} {spare : Nat → Bool} {held : Bool}
theorem open_num {t e : TypeId} {k : IntKind} {fuel : Nat} {cs : List Value} {x : DataW H × List MemPlace} (ht : Try.prog.underlying t = some (.slice e)) (he : Try.prog.underlying e = some (.int k)) (hc : Try.prog.cellsOf e = 1)
    (h : DataW.trod enc Try.prog w base spare held fuel t cs = some x) :
    ∃ A c zs, cs = [.slice A zs.length c] ∧ zs.length ≤ 9223372036854775807 ∧ Sl w w.heap.size 1 A zs.length (zs.map (Value.int k)) ∧ (∀ n ∈ zs, (Lit.int k n).wf = true) ∧
      (x.1 = .nil ∧ zs = [] ∨ ∃ sp, x.1 = .slice (lits k zs) sp) := by
  rcases open_ints ht he hc h with ⟨rfl, hx⟩ | ⟨a, len, cap, zs, rfl, hb, hl, hm, hz, hx, hcell, hwz⟩
  · exact ⟨none, 0, [], rfl, by simp, Sl.nil, by simp, .inl ⟨by rw [hx], rfl⟩⟩
  · have hlz : len ≤ zs.length := by rw [hz]; split <;> omega
    have hlt : (zs.take len).length = len := by rw [List.length_take]; omega
    refine ⟨some a, cap, zs.take len, by rw [hlt], by rw [hlt]; simp only [maxLen] at hm; omega, ?_, fun n hn => hwz n (List.mem_of_mem_take hn), .inr ⟨lits k (zs.drop len), by rw [hx]⟩⟩
    rw [hlt]
    refine ⟨by simp; omega, fun h0 => ?_⟩
    have h1 := hcell 0 (by omega)
    rw [Addr.add_zero'] at h1
    obtain ⟨b, o, rfl, hbb⟩ := adr_none h1
    refine ⟨b, o, rfl, hbb, fun j v hv => ?_⟩
    rw [List.getElem?_map, List.getElem?_take] at hv
    split at hv
    · rename_i hj
      have h2 := hcell j (by omega)
      rw [Addr.add_lit] at h2
      rw [h2]
      rw [List.getElem?_eq_getElem (by omega)] at hv
      rw [List.getD_eq_getElem?_getD, List.getElem?_eq_getElem (by omega)]
      exact hv
    · cases hv
theorem wf_u8 {n : Int} (h : (Lit.int .u8 n).wf = true) : 0 ≤ n ∧ n ≤ 255 := by
  simpa [Lit.wf, IntKind.min, IntKind.max, IntKind.signed, IntKind.bits] using h
theorem wf_i64 {n : Int} (h : (Lit.int .i64 n).wf = true) : -9223372036854775808 ≤ n ∧ n ≤ 9223372036854775807 := by
  simpa [Lit.wf, IntKind.min, IntKind.max, IntKind.signed, IntKind.bits] using h
theorem open_bytes {fuel : Nat} {cs : List Value} {x : DataW H × List MemPlace} (h : DataW.trod enc Try.prog w base spare held fuel 27 cs = some x) :
    ∃ A c bs, cs = [.slice A bs.length c] ∧ bs.length ≤ 9223372036854775807 ∧ Sl w w.heap.size 1 A bs.length (bys bs) ∧ Byte bs := by
  obtain ⟨A, c, zs, h1, h2, h3, h4, _⟩ := open_num Try.underlying27 Try.underlying5 (by kernel_rfl) h
  exact ⟨A, c, zs, h1, h2, h3, fun n hn => wf_u8 (h4 n hn)⟩
end
end Go.Proofs.Ytnppmdhgelfloaa
