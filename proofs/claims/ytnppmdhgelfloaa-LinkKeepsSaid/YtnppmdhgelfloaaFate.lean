/- Fates in memory; what damage does, in plain words. -/
import Derived.Test.YtnppmdhgelfloaaL5
set_option linter.unusedVariables false
namespace Go.Proofs.Ytnppmdhgelfloaa
open Go.RowKit Go.Fw

/-- a fate: its delays, its place, its mask -/
abbrev Fate := List Int × Int × Int
def FaR (w : World) (B : Nat) (A : Option Addr) (n : Nat) (fas : List Fate) : Prop :=
  n = fas.length ∧ ∀ (k : Nat) (fa : Fate), fas[k]? = some fa → ∃ b o Ad cd, A = some ⟨b, o, none⟩ ∧ b < B ∧ w.cell? ⟨b, o + k * 3, none⟩ = some (.slice Ad fa.1.length cd) ∧ w.cell? ⟨b, o + k * 3 + 1, none⟩ = some (.int .i64 fa.2.1) ∧
    w.cell? ⟨b, o + k * 3 + 2, none⟩ = some (.int .i64 fa.2.2) ∧ Sl w B 1 Ad fa.1.length (ins fa.1)
theorem FaR.ext {w w' : World} {B n : Nat} {A : Option Addr} {fas : List Fate} (h : FaR w B A n fas) (e : Ext w w') : FaR w' B A n fas :=
  ⟨h.1, fun k fa hk => by obtain ⟨b, o, Ad, cd, h1, h2, h3, h4, h5, h6⟩ := h.2 k fa hk; exact ⟨b, o, Ad, cd, h1, h2, e.cellS h3, e.cellS h4, e.cellS h5, h6.ext e⟩⟩
theorem FaR.up {w : World} {B B' n : Nat} {A : Option Addr} {fas : List Fate} (h : FaR w B A n fas) (hb : B ≤ B') : FaR w B' A n fas :=
  ⟨h.1, fun k fa hk => by obtain ⟨b, o, Ad, cd, h1, h2, h3, h4, h5, h6⟩ := h.2 k fa hk; exact ⟨b, o, Ad, cd, h1, by omega, h3, h4, h5, h6.up hb⟩⟩
theorem FaR.nil {w : World} {B : Nat} {A : Option Addr} : FaR w B A 0 [] := ⟨rfl, fun k fa h => by cases h⟩
/-- what happens to datagram n -/
def fateF (fas : List Fate) (n : Int) : Fate := if 0 ≤ n ∧ n < fas.length then fas.getD n.toNat ([1], 0, 0) else ([1], 0, 0)

/-! bits -/
theorem u8_in {x : Int} (h0 : 0 ≤ x) (h1 : x ≤ 255) : IntKind.u8.wrap x = x := by
  have : IntKind.u8.wrap x = x % 256 := rfl
  rw [this]; omega
theorem xor8_zero {x : Int} (h0 : 0 ≤ x) (h1 : x ≤ 255) : xor8 x 0 = x := by
  show IntKind.u8.wrap ((BitVec.ofInt 8 x ^^^ BitVec.ofInt 8 0).toNat) = x
  have e : BitVec.ofInt 8 0 = 0#8 := rfl
  rw [e, BitVec.xor_zero, BitVec.toNat_ofInt]
  rw [u8_in (by omega) (by omega)]
  omega
def and16 (m : Int) : Int := IntKind.i64.wrap ((BitVec.ofInt IntKind.i64.bits m &&& BitVec.ofInt IntKind.i64.bits 65535).toNat)
theorem and16_zero {m : Int} (h : and16 m = 0) : m % 65536 = 0 := by
  unfold and16 at h
  have h1 : (BitVec.ofInt IntKind.i64.bits m &&& BitVec.ofInt IntKind.i64.bits 65535).toNat = (m % 65536).toNat := by
    show (BitVec.ofInt 64 m &&& BitVec.ofInt 64 65535).toNat = _
    rw [BitVec.toNat_and, BitVec.toNat_ofInt, BitVec.toNat_ofInt]
    have e : (65535 % ((2 ^ 64 : Nat) : Int)).toNat = 2 ^ 16 - 1 := by decide
    rw [e, Nat.and_two_pow_sub_one_eq_mod]
    omega
  rw [h1] at h
  rw [w64 (by omega) (by omega)] at h
  omega
theorem mask_zero {m : Int} (h : and16 m = 0) : IntKind.u8.wrap m = 0 ∧ IntKind.u8.wrap (m.fdiv (2 ^ (min (8 : Int).toNat IntKind.i64.bits))) = 0 := by
  have h1 := and16_zero h
  have e : (2 : Int) ^ (min (8 : Int).toNat IntKind.i64.bits) = 256 := by decide
  rw [e, Int.fdiv_eq_ediv_of_nonneg _ (by omega)]
  refine ⟨?_, ?_⟩
  · show m % 256 = 0; omega
  · show (m / 256) % 256 = 0; omega
/-- all bytes are bytes -/
def Byte (bs : List Int) : Prop := ∀ x ∈ bs, 0 ≤ x ∧ x ≤ 255
theorem dmg_zero {bs : List Int} (h : Byte bs) (i : Int) : dmg bs i 0 = bs := by
  unfold dmg
  split
  · rename_i hi
    have hl : i.toNat < bs.length := by omega
    rw [List.getD_eq_getElem?_getD, List.getElem?_eq_getElem hl, Option.getD_some]
    have hb := h bs[i.toNat] (List.getElem_mem hl)
    rw [xor8_zero hb.1 hb.2, List.set_getElem_self]
  · rfl
theorem dmg_ne {bs : List Int} {i m : Int} {k : Nat} (h : (k : Int) ≠ i) : (dmg bs i m)[k]? = bs[k]? := by
  unfold dmg
  split
  · rw [List.getElem?_set_ne (by omega)]
  · rfl
theorem hit_ne {bs : List Int} {at_ mask : Int} {k : Nat} (hk : (k : Int) ≤ 1000000000) (hb : -9223372036854775808 ≤ at_ ∧ at_ ≤ 9223372036854775807) (h : (k : Int) ≠ at_) (h1 : (k : Int) - 1 ≠ at_) : (hit bs at_ mask)[k]? = bs[k]? := by
  unfold hit
  rw [dmg_ne, dmg_ne h]
  intro e
  by_cases hm : at_ = 9223372036854775807
  · subst hm
    have : IntKind.i64.wrap (9223372036854775807 + 1) = -9223372036854775808 := by decide
    rw [this] at e; omega
  · rw [w64 (by omega) (by omega)] at e; omega
theorem hit_zero {bs : List Int} {at_ mask : Int} (h : Byte bs) (hm : and16 mask = 0) : hit bs at_ mask = bs := by
  unfold hit
  obtain ⟨h1, h2⟩ := mask_zero hm
  rw [h1, h2, dmg_zero h, dmg_zero h]
end Go.Proofs.Ytnppmdhgelfloaa
