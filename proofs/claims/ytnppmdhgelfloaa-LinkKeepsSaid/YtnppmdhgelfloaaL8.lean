/- The contract of the reference damaged. -/
import Derived.Test.YtnppmdhgelfloaaL7
set_option linter.unusedVariables false
namespace Go.Proofs.Ytnppmdhgelfloaa
open Go.RowKit Go.Fw


def m1 (mask : Int) : Int := IntKind.u8.wrap (mask.fdiv (2 ^ (min (8 : Int).toNat IntKind.i64.bits)))
def m2 (mask : Int) : Int := IntKind.u8.wrap mask
theorem set_self {l : List Int} {k : Nat} {x : Int} (h : l[k]? = some x) : l.set k x = l := by
  obtain ⟨hk, hx⟩ := List.getElem?_eq_some_iff.1 h
  rw [← hx, List.set_getElem_self]
/-- one byte, as it arrives -/
def one (at_ mask : Int) (i : Nat) (x : Int) : Int :=
  if (0 < (i : Int) ∧ (i : Int) - 1 = at_) ∨ ((i : Int) = 0 ∧ at_ = -1) then xor8 (if (i : Int) = at_ then xor8 x (m1 mask) else x) (m2 mask) else (if (i : Int) = at_ then xor8 x (m1 mask) else x)
theorem dmg_at {bs : List Int} {i m : Int} {k : Nat} {x : Int} (h : bs[k]? = some x) : (dmg bs i m)[k]? = some (if (k : Int) = i then xor8 x m else x) := by
  have hk : k < bs.length := (List.getElem?_eq_some_iff.1 h).1
  by_cases hi : (k : Int) = i
  · subst hi
    unfold dmg
    rw [if_pos ⟨by omega, by omega⟩, if_pos rfl, Int.toNat_natCast, List.getElem?_set_self hk, List.getD_eq_getElem?_getD, h]; rfl
  · rw [dmg_ne hi, if_neg hi, h]
theorem hit_at {bs : List Int} {at_ mask : Int} {k : Nat} {x : Int} (hk : (k : Int) ≤ 1000000000) (hb : -9223372036854775808 ≤ at_ ∧ at_ ≤ 9223372036854775807) (h : bs[k]? = some x) : (hit bs at_ mask)[k]? = some (one at_ mask k x) := by
  unfold hit
  rw [dmg_at (dmg_at h)]
  unfold one m1 m2
  congr 1
  have e : ((k : Int) = IntKind.i64.wrap (at_ + 1)) ↔ ((0 < (k : Int) ∧ (k : Int) - 1 = at_) ∨ ((k : Int) = 0 ∧ at_ = -1)) := by
    by_cases hm : at_ = 9223372036854775807
    · subst hm
      have : IntKind.i64.wrap (9223372036854775807 + 1) = -9223372036854775808 := by decide
      rw [this]; omega
    · rw [w64 (by omega) (by omega)]; omega
  by_cases hc : (k : Int) = IntKind.i64.wrap (at_ + 1)
  · rw [if_pos hc, if_pos (e.1 hc)]
  · rw [if_neg hc, if_neg (fun h => hc (e.2 h))]
/-- the bytes when k of them have been turned -/
def part (bs : List Int) (at_ mask : Int) (k : Nat) : List Int := (hit bs at_ mask).take k ++ bs.drop k
theorem part_at {bs : List Int} {at_ mask : Int} {k : Nat} {x : Int} (h : bs[k]? = some x) : (part bs at_ mask k)[k]? = some x := by
  have hk : k < bs.length := (List.getElem?_eq_some_iff.1 h).1
  unfold part
  rw [List.getElem?_append_right (by simp [hit_len]; omega)]
  simp [hit_len, h, Nat.min_eq_left (Nat.le_of_lt hk)]
theorem part_step {bs : List Int} {at_ mask : Int} {k : Nat} {x : Int} (hkb : (k : Int) ≤ 1000000000) (hb : -9223372036854775808 ≤ at_ ∧ at_ ≤ 9223372036854775807) (h : bs[k]? = some x) :
    (part bs at_ mask k).set k (one at_ mask k x) = part bs at_ mask (k + 1) := by
  have hk : k < bs.length := (List.getElem?_eq_some_iff.1 h).1
  have hkx : bs[k] = x := (List.getElem?_eq_some_iff.1 h).2
  unfold part
  have hl : ((hit bs at_ mask).take k).length = k := by simp [hit_len]; omega
  rw [List.set_append_right _ _ (by omega), hl, Nat.sub_self, take_snoc (hit_at hkb hb h), List.append_assoc, List.drop_eq_getElem_cons hk]
  rfl

theorem bs22_7 {ρ : Operand → Value} {w : World} {d : Option Nat} {ty : TypeId} {pos : String} {af : Array Edge} {g : Option (Nat × Bool)}    :
    (execOp ρ ⟨d, .buildSlice 27 0 #[], ty, pos, af, g⟩).run Try.prog w = .ok (.value (.slice (some ⟨w.heap.size, 0, none⟩) 0 0)) (w.alloc (.cells #[] 5)) := by
  have e : (Instr.buildSlice 27 0 #[]).run Try.prog w = .ok (.slice (some ⟨w.heap.size, 0, none⟩) 0 0) (w.alloc (.cells #[] 5)) := by kernel_rfl
  simp [execOp, e]
set_option maxRecDepth 4000 in
theorem damaged_spec (Ab Ad : Option Addr) (nd cb cd : Nat) (bs : List Int) (at_ mask : Int) (w0 : World) (hb0 : Sl w0 w0.heap.size 1 Ab bs.length (bys bs)) (hat : -9223372036854775808 ≤ at_ ∧ at_ ≤ 9223372036854775807) (hlb : bs.length ≤ 1000000) :
    Calls Try.prog 22 #[.slice Ab bs.length cb, .agg #[.slice Ad nd cd, .int .i64 at_, .int .i64 mask]] w0 (Ret fun v w' => ∃ A2 c2, v = .slice A2 bs.length c2 ∧ Own w' w0.heap.size 5 1 A2 bs.length c2 (bys (hit bs at_ mask)) ∧ Ext w0 w') := by
  refine calls_of Try.func22 rfl (Nat.le_of_ble_eq_true rfl) (by kernel_rfl) ?_
  refine wCut [(0, .slice Ab bs.length cb), (1, .agg #[.slice Ad nd cd, .int .i64 at_, .int .i64 mask])] ⟨rfl, rfl, trivial⟩ fun g => ?_
  refine wSeq ?_
  refine wReg ?_
  refine sTo (aNew (mBox rfl)) ?_
  rintro _ w3 ⟨b3, rfl, hge3, hB3, he3⟩
  refine sRun (xAsS rfl) ?_
  refine sNil ?_
  refine wSeq ?_
  refine wReg ?_
  refine sTo (aRow (bs22_7)) ?_
  rintro _ w7 ⟨b7, rfl, hge7, hB7, he7⟩
  refine sRun (xMvS rfl) ?_
  refine sTo (aAppend (w3.heap.size) (bs.length) Try.underlying27 ti5 rfl (by decide) rfl rfl (hB7.own (n := 0) (size := 1) hge7 (by decide) rfl) (hb0.ext (he3.trans he7)) (bys_one _) (by have := he7.le; omega) (by omega) (by omega) (by omega)) ?_
  rintro _ w9 ⟨A9, c9, rfl, ho9, hg9, hr9⟩
  have hx9 : Ext w3 w9 := grown_ext he7 hg9 (fun i hi => by simp [rowOf] at hi; omega)
  have ho9 : Own w9 w3.heap.size 5 1 A9 bs.length c9 (bys bs) := by simpa using ho9
  refine sRun (xAsS rfl) ?_
  refine sNil ?_
  refine wSeq ?_
  refine wSeq ?_
  refine wReg ?_
  refine sRun (xAsI rfl) ?_
  refine sNil ?_
  refine wBlock ?_
  refine wLoopG (fun n f w => ∃ i A9, n = bs.length - i ∧ i ≤ bs.length ∧ Has f [(5, .slice A9 bs.length c9), (6, .int .i64 (i : Nat)), (3, .pointer (some ⟨b3, 0, none⟩))] ∧ Ext w3 w ∧ Own w w3.heap.size 5 1 A9 bs.length c9 (bys (part bs at_ mask i))) (bs.length) ⟨0, A9, rfl, Nat.zero_le _, ⟨rfl, rfl, rfl, trivial⟩, hx9, by simpa [part] using ho9⟩ ?_
  clear ho9 hx9 hg9 hr9
  rintro n f w ⟨i, A9, rfl, hi, hf0, hx, ho⟩
  obtain ⟨g, rfl⟩ := has_updL _ _ hf0
  clear hf0
  refine wSeq ?_
  refine wSeq ?_
  refine wReg ?_
  refine sRun (xMvI rfl) ?_
  refine sRun (xMvS rfl) ?_
  refine sRun (xLen Try.underlying27 rfl) ?_
  refine sSplit (xLss rfl rfl) (fun h13 => ?_) (fun h13 => ?_)
  · obtain ⟨q, rfl⟩ := ho.adr (by omega)
    obtain ⟨x, hxi⟩ : ∃ x, bs[i]? = some x := ⟨bs[i], List.getElem?_eq_getElem (by omega)⟩
    have hB := hB3.ext hx
    have hcur : (bys (part bs at_ mask i))[i]? = some (.int .u8 x) := by rw [List.getElem?_map, part_at hxi]; rfl
    refine sNil ?_
    refine wIfT rfl ?_
    refine wSkip ?_
    refine wSeq ?_
    refine wBlock ?_
    refine wSeq ?_
    refine wSeq ?_
    refine wReg ?_
    refine sRun (xMvI rfl) ?_
    refine sRun (xFld (k := 1) Try.underlying25 rfl rfl ti3 (by decide) rfl) ?_
    refine sRun (xLoad Try.underlying3 rfl rfl (hB.cell (i := 0 + 1) rfl)) ?_
    refine sSplit (xEqlD rfl rfl) (fun h19 => ?_) (fun h19 => ?_)
    · refine sNil ?_
      refine wIfT rfl ?_
      refine wDraw (fun wS => Own wS w3.heap.size 5 1 (some ⟨q, 0, none⟩) bs.length c9 (bys (part bs at_ mask i)) ∧ Blk wS b3 25 #[.slice Ad nd cd, .int .i64 at_, .int .i64 mask]) [12] (by kernel_rfl) ?_
      refine hTake 0 rfl (by kernel_rfl) rfl (fun wS => (xMvS rfl)) (sl_of ⟨ho, hB⟩) ?_
      refine hTake 1 rfl (by kernel_rfl) rfl (fun wS => (xMvI rfl)) (sl_of ⟨ho, hB⟩) ?_
      refine hTake 2 rfl (by kernel_rfl) rfl (fun wS => (xMvS rfl)) (sl_of ⟨ho, hB⟩) ?_
      refine hTake 3 rfl (by kernel_rfl) rfl (fun wS => (xMvI rfl)) (sl_of ⟨ho, hB⟩) ?_
      refine hTake 4 rfl (by kernel_rfl) rfl (fun wS => (xIdx1 i Try.underlying27 ti5 rfl rfl (by omega) (by omega))) (sl_of ⟨ho, hB⟩) ?_
      refine hTakeS 5 rfl (by kernel_rfl) (by kernel_rfl) rfl (fun wS hS => (xLoad Try.underlying5 rfl rfl (by rw [Nat.zero_add]; exact hS.1.cell hcur))) (sl_of ⟨ho, hB⟩) ?_
      refine hTake 6 rfl (by kernel_rfl) rfl (fun wS => (xFld (k := 2) Try.underlying25 rfl rfl ti3 (by decide) rfl)) (sl_of ⟨ho, hB⟩) ?_
      refine hTakeS 7 rfl (by kernel_rfl) (by kernel_rfl) rfl (fun wS hS => (xLoad Try.underlying3 rfl rfl (hS.2.cell (i := 0 + 2) rfl))) (sl_of ⟨ho, hB⟩) ?_
      refine hTake 8 rfl (by kernel_rfl) rfl (fun wS => (xShr rfl rfl (by omega))) (sl_of ⟨ho, hB⟩) ?_
      refine hTake 9 rfl (by kernel_rfl) rfl (fun wS => (xConv _ ⟨_, Try.underlying3⟩ Try.underlying5 rfl)) (sl_of ⟨ho, hB⟩) ?_
      refine hTake 10 rfl (by kernel_rfl) rfl (fun wS => (xXor rfl rfl)) (sl_of ⟨ho, hB⟩) ?_
      refine hTake 11 rfl (by kernel_rfl) rfl (fun wS => (xIdx1 i Try.underlying27 ti5 rfl rfl (by omega) (by omega))) (sl_of ⟨ho, hB⟩) ?_
      refine hOne 12 (by kernel_rfl) (oStO (k := 0 + i) (v := .int .u8 (xor8 x (m1 mask))) rfl rfl ti5 rfl rfl rfl (ho.ext (Ext.refl w).drew) (by rw [Nat.zero_add]; exact hcur) ?_)
      intro wa hoa hca
      have hB := (hB.ext (Ext.refl w).drew).chg hca (by intro e; exact (ho.apartB hB (by decide) q rfl) e.symm)
      have hxa : Ext w3 wa := Chg.ext (hx.trans (Ext.refl w).drew) hca (ho.row q rfl).1
      have ho : Own wa w3.heap.size 5 1 (some ⟨q, 0, none⟩) bs.length c9 (bys ((part bs at_ mask i).set i (xor8 x (m1 mask)))) := by rw [Nat.zero_add] at hoa; simpa [bys, List.map_set] using hoa
      have hcur : (bys ((part bs at_ mask i).set i (xor8 x (m1 mask))))[i]? = some (.int .u8 (xor8 x (m1 mask))) := by
        have hlen := ho.len
        rw [List.getElem?_map, List.getElem?_set_self (by simp at hlen; omega)]; rfl
      refine ⟨(sl_late 12 (by kernel_rfl)), ?_⟩
      refine hDone (by kernel_rfl) ?_
      refine wSeq ?_
      refine wReg ?_
      refine sRun (xMvI rfl) ?_
      refine sSplit (xGtr rfl rfl) (fun h33 => ?_) (fun h33 => ?_)
      · refine sRun (xMvB rfl) ?_
        refine sGo rfl ?_
        refine sRun (xMvI rfl) ?_
        refine sGo rfl ?_
        refine sRun (xSub64 rfl rfl (by omega) (by omega)) ?_
        refine sGo rfl ?_
        refine sRun (xFld (k := 1) Try.underlying25 rfl rfl ti3 (by decide) rfl) ?_
        refine sGo rfl ?_
        refine sRun (xLoad Try.underlying3 rfl rfl (hB.cell (i := 0 + 1) rfl)) ?_
        refine sGo rfl ?_
        refine sSplit (xEqlD rfl rfl) (fun h39 => ?_) (fun h39 => ?_)
        · refine sRun (xPkTB rfl rfl) ?_
          refine sRun (xMvB rfl) ?_
          refine sNo rfl ?_
          refine sNo rfl ?_
          refine sNo rfl ?_
          refine sNo rfl ?_
          refine sNo rfl ?_
          refine sNo rfl ?_
          refine sNo rfl ?_
          refine sRun (xPkTB rfl rfl) ?_
          refine sNil ?_
          refine wIfT rfl ?_
          refine wDraw (fun wS => Own wS w3.heap.size 5 1 (some ⟨q, 0, none⟩) bs.length c9 (bys ((part bs at_ mask i).set i (xor8 x (m1 mask)))) ∧ Blk wS b3 25 #[.slice Ad nd cd, .int .i64 at_, .int .i64 mask]) [11] (by kernel_rfl) ?_
          refine hTake 0 rfl (by kernel_rfl) rfl (fun wS => (xMvS rfl)) (sl_of ⟨ho, hB⟩) ?_
          refine hTake 1 rfl (by kernel_rfl) rfl (fun wS => (xMvI rfl)) (sl_of ⟨ho, hB⟩) ?_
          refine hTake 2 rfl (by kernel_rfl) rfl (fun wS => (xMvS rfl)) (sl_of ⟨ho, hB⟩) ?_
          refine hTake 3 rfl (by kernel_rfl) rfl (fun wS => (xMvI rfl)) (sl_of ⟨ho, hB⟩) ?_
          refine hTake 4 rfl (by kernel_rfl) rfl (fun wS => (xIdx1 i Try.underlying27 ti5 rfl rfl (by omega) (by omega))) (sl_of ⟨ho, hB⟩) ?_
          refine hTakeS 5 rfl (by kernel_rfl) (by kernel_rfl) rfl (fun wS hS => (xLoad Try.underlying5 rfl rfl (by rw [Nat.zero_add]; exact hS.1.cell hcur))) (sl_of ⟨ho, hB⟩) ?_
          refine hTake 6 rfl (by kernel_rfl) rfl (fun wS => (xFld (k := 2) Try.underlying25 rfl rfl ti3 (by decide) rfl)) (sl_of ⟨ho, hB⟩) ?_
          refine hTakeS 7 rfl (by kernel_rfl) (by kernel_rfl) rfl (fun wS hS => (xLoad Try.underlying3 rfl rfl (hS.2.cell (i := 0 + 2) rfl))) (sl_of ⟨ho, hB⟩) ?_
          refine hTake 8 rfl (by kernel_rfl) rfl (fun wS => (xConv _ ⟨_, Try.underlying3⟩ Try.underlying5 rfl)) (sl_of ⟨ho, hB⟩) ?_
          refine hTake 9 rfl (by kernel_rfl) rfl (fun wS => (xXor rfl rfl)) (sl_of ⟨ho, hB⟩) ?_
          refine hTake 10 rfl (by kernel_rfl) rfl (fun wS => (xIdx1 i Try.underlying27 ti5 rfl rfl (by omega) (by omega))) (sl_of ⟨ho, hB⟩) ?_
          refine hOne 11 (by kernel_rfl) (oStO (k := 0 + i) (v := .int .u8 (xor8 (xor8 x (m1 mask)) (m2 mask))) rfl rfl ti5 rfl rfl rfl (ho.ext (Ext.refl _).drew) (by rw [Nat.zero_add]; exact hcur) ?_)
          intro wb hob hcb
          have hxb : Ext w3 wb := Chg.ext (hxa.trans (Ext.refl _).drew) hcb (ho.row q rfl).1
          rw [Nat.zero_add] at hob
          refine ⟨(sl_late 11 (by kernel_rfl)), ?_⟩
          refine hDone (by kernel_rfl) ?_
          refine wReg ?_
          refine sRun (xMvI rfl) ?_
          refine sRun (xAdd64 rfl rfl (by omega) (by omega)) ?_
          refine sRun (xAsI rfl) ?_
          refine sNil ?_
          refine ⟨bs.length - (i + 1), by omega, i + 1, some ⟨q, 0, none⟩, rfl, by omega, ⟨rfl, rfl, rfl, trivial⟩, hxb, ?_⟩
          have hone : one at_ mask i x = xor8 (xor8 x (m1 mask)) (m2 mask) := by
            unfold one
            rw [if_pos (by omega), if_pos h19]
          rw [← part_step (by omega) hat hxi, hone]
          simpa [bys, List.map_set] using hob
        · refine sRun (xPkTB rfl rfl) ?_
          refine sRun (xMvB rfl) ?_
          refine sGo rfl ?_
          refine sRun (xMvI rfl) ?_
          refine sGo rfl ?_
          refine sSplit (xEqlD rfl rfl) (fun h43 => ?_) (fun h43 => ?_)
          · refine sGo rfl ?_
            refine sRun (xMvB rfl) ?_
            refine sGo rfl ?_
            refine sRun (xFld (k := 1) Try.underlying25 rfl rfl ti3 (by decide) rfl) ?_
            refine sGo rfl ?_
            refine sRun (xLoad Try.underlying3 rfl rfl (hB.cell (i := 0 + 1) rfl)) ?_
            refine sGo rfl ?_
            refine sSplit (xEqlD rfl rfl) (fun h47 => ?_) (fun h47 => ?_)
            · refine sGo rfl ?_
              refine sRun (xPkTB rfl rfl) ?_
              refine sRun (xPkFB rfl rfl) ?_
              refine sNil ?_
              refine wIfT rfl ?_
              refine wDraw (fun wS => Own wS w3.heap.size 5 1 (some ⟨q, 0, none⟩) bs.length c9 (bys ((part bs at_ mask i).set i (xor8 x (m1 mask)))) ∧ Blk wS b3 25 #[.slice Ad nd cd, .int .i64 at_, .int .i64 mask]) [11] (by kernel_rfl) ?_
              refine hTake 0 rfl (by kernel_rfl) rfl (fun wS => (xMvS rfl)) (sl_of ⟨ho, hB⟩) ?_
              refine hTake 1 rfl (by kernel_rfl) rfl (fun wS => (xMvI rfl)) (sl_of ⟨ho, hB⟩) ?_
              refine hTake 2 rfl (by kernel_rfl) rfl (fun wS => (xMvS rfl)) (sl_of ⟨ho, hB⟩) ?_
              refine hTake 3 rfl (by kernel_rfl) rfl (fun wS => (xMvI rfl)) (sl_of ⟨ho, hB⟩) ?_
              refine hTake 4 rfl (by kernel_rfl) rfl (fun wS => (xIdx1 i Try.underlying27 ti5 rfl rfl (by omega) (by omega))) (sl_of ⟨ho, hB⟩) ?_
              refine hTakeS 5 rfl (by kernel_rfl) (by kernel_rfl) rfl (fun wS hS => (xLoad Try.underlying5 rfl rfl (by rw [Nat.zero_add]; exact hS.1.cell hcur))) (sl_of ⟨ho, hB⟩) ?_
              refine hTake 6 rfl (by kernel_rfl) rfl (fun wS => (xFld (k := 2) Try.underlying25 rfl rfl ti3 (by decide) rfl)) (sl_of ⟨ho, hB⟩) ?_
              refine hTakeS 7 rfl (by kernel_rfl) (by kernel_rfl) rfl (fun wS hS => (xLoad Try.underlying3 rfl rfl (hS.2.cell (i := 0 + 2) rfl))) (sl_of ⟨ho, hB⟩) ?_
              refine hTake 8 rfl (by kernel_rfl) rfl (fun wS => (xConv _ ⟨_, Try.underlying3⟩ Try.underlying5 rfl)) (sl_of ⟨ho, hB⟩) ?_
              refine hTake 9 rfl (by kernel_rfl) rfl (fun wS => (xXor rfl rfl)) (sl_of ⟨ho, hB⟩) ?_
              refine hTake 10 rfl (by kernel_rfl) rfl (fun wS => (xIdx1 i Try.underlying27 ti5 rfl rfl (by omega) (by omega))) (sl_of ⟨ho, hB⟩) ?_
              refine hOne 11 (by kernel_rfl) (oStO (k := 0 + i) (v := .int .u8 (xor8 (xor8 x (m1 mask)) (m2 mask))) rfl rfl ti5 rfl rfl rfl (ho.ext (Ext.refl _).drew) (by rw [Nat.zero_add]; exact hcur) ?_)
              intro wb hob hcb
              have hxb : Ext w3 wb := Chg.ext (hxa.trans (Ext.refl _).drew) hcb (ho.row q rfl).1
              rw [Nat.zero_add] at hob
              refine ⟨(sl_late 11 (by kernel_rfl)), ?_⟩
              refine hDone (by kernel_rfl) ?_
              refine wReg ?_
              refine sRun (xMvI rfl) ?_
              refine sRun (xAdd64 rfl rfl (by omega) (by omega)) ?_
              refine sRun (xAsI rfl) ?_
              refine sNil ?_
              refine ⟨bs.length - (i + 1), by omega, i + 1, some ⟨q, 0, none⟩, rfl, by omega, ⟨rfl, rfl, rfl, trivial⟩, hxb, ?_⟩
              have hone : one at_ mask i x = xor8 (xor8 x (m1 mask)) (m2 mask) := by
                unfold one
                rw [if_pos (by omega), if_pos h19]
              rw [← part_step (by omega) hat hxi, hone]
              simpa [bys, List.map_set] using hob
            · refine sGo rfl ?_
              refine sRun (xPkTB rfl rfl) ?_
              refine sRun (xPkFB rfl rfl) ?_
              refine sNil ?_
              refine wIfF rfl ?_
              refine wSkip ?_
              refine wReg ?_
              refine sRun (xMvI rfl) ?_
              refine sRun (xAdd64 rfl rfl (by omega) (by omega)) ?_
              refine sRun (xAsI rfl) ?_
              refine sNil ?_
              refine ⟨bs.length - (i + 1), by omega, i + 1, some ⟨q, 0, none⟩, rfl, by omega, ⟨rfl, rfl, rfl, trivial⟩, hxa, ?_⟩
              have hone : one at_ mask i x = (xor8 x (m1 mask)) := by
                unfold one
                rw [if_neg (by omega), if_pos h19]
              rw [← part_step (by omega) hat hxi, hone]
              exact ho
          · refine sGo rfl ?_
            refine sRun (xMvB rfl) ?_
            refine sNo rfl ?_
            refine sNo rfl ?_
            refine sNo rfl ?_
            refine sGo rfl ?_
            refine sRun (xPkFB rfl rfl) ?_
            refine sRun (xPkFB rfl rfl) ?_
            refine sNil ?_
            refine wIfF rfl ?_
            refine wSkip ?_
            refine wReg ?_
            refine sRun (xMvI rfl) ?_
            refine sRun (xAdd64 rfl rfl (by omega) (by omega)) ?_
            refine sRun (xAsI rfl) ?_
            refine sNil ?_
            refine ⟨bs.length - (i + 1), by omega, i + 1, some ⟨q, 0, none⟩, rfl, by omega, ⟨rfl, rfl, rfl, trivial⟩, hxa, ?_⟩
            have hone : one at_ mask i x = (xor8 x (m1 mask)) := by
              unfold one
              rw [if_neg (by omega), if_pos h19]
            rw [← part_step (by omega) hat hxi, hone]
            exact ho
      · refine sRun (xMvB rfl) ?_
        refine sNo rfl ?_
        refine sNo rfl ?_
        refine sNo rfl ?_
        refine sNo rfl ?_
        refine sNo rfl ?_
        refine sRun (xPkFB rfl rfl) ?_
        refine sRun (xMvB rfl) ?_
        refine sGo rfl ?_
        refine sRun (xMvI rfl) ?_
        refine sGo rfl ?_
        refine sSplit (xEqlD rfl rfl) (fun h43 => ?_) (fun h43 => ?_)
        · refine sGo rfl ?_
          refine sRun (xMvB rfl) ?_
          refine sGo rfl ?_
          refine sRun (xFld (k := 1) Try.underlying25 rfl rfl ti3 (by decide) rfl) ?_
          refine sGo rfl ?_
          refine sRun (xLoad Try.underlying3 rfl rfl (hB.cell (i := 0 + 1) rfl)) ?_
          refine sGo rfl ?_
          refine sSplit (xEqlD rfl rfl) (fun h47 => ?_) (fun h47 => ?_)
          · refine sGo rfl ?_
            refine sRun (xPkTB rfl rfl) ?_
            refine sRun (xPkFB rfl rfl) ?_
            refine sNil ?_
            refine wIfT rfl ?_
            refine wDraw (fun wS => Own wS w3.heap.size 5 1 (some ⟨q, 0, none⟩) bs.length c9 (bys ((part bs at_ mask i).set i (xor8 x (m1 mask)))) ∧ Blk wS b3 25 #[.slice Ad nd cd, .int .i64 at_, .int .i64 mask]) [11] (by kernel_rfl) ?_
            refine hTake 0 rfl (by kernel_rfl) rfl (fun wS => (xMvS rfl)) (sl_of ⟨ho, hB⟩) ?_
            refine hTake 1 rfl (by kernel_rfl) rfl (fun wS => (xMvI rfl)) (sl_of ⟨ho, hB⟩) ?_
            refine hTake 2 rfl (by kernel_rfl) rfl (fun wS => (xMvS rfl)) (sl_of ⟨ho, hB⟩) ?_
            refine hTake 3 rfl (by kernel_rfl) rfl (fun wS => (xMvI rfl)) (sl_of ⟨ho, hB⟩) ?_
            refine hTake 4 rfl (by kernel_rfl) rfl (fun wS => (xIdx1 i Try.underlying27 ti5 rfl rfl (by omega) (by omega))) (sl_of ⟨ho, hB⟩) ?_
            refine hTakeS 5 rfl (by kernel_rfl) (by kernel_rfl) rfl (fun wS hS => (xLoad Try.underlying5 rfl rfl (by rw [Nat.zero_add]; exact hS.1.cell hcur))) (sl_of ⟨ho, hB⟩) ?_
            refine hTake 6 rfl (by kernel_rfl) rfl (fun wS => (xFld (k := 2) Try.underlying25 rfl rfl ti3 (by decide) rfl)) (sl_of ⟨ho, hB⟩) ?_
            refine hTakeS 7 rfl (by kernel_rfl) (by kernel_rfl) rfl (fun wS hS => (xLoad Try.underlying3 rfl rfl (hS.2.cell (i := 0 + 2) rfl))) (sl_of ⟨ho, hB⟩) ?_
            refine hTake 8 rfl (by kernel_rfl) rfl (fun wS => (xConv _ ⟨_, Try.underlying3⟩ Try.underlying5 rfl)) (sl_of ⟨ho, hB⟩) ?_
            refine hTake 9 rfl (by kernel_rfl) rfl (fun wS => (xXor rfl rfl)) (sl_of ⟨ho, hB⟩) ?_
            refine hTake 10 rfl (by kernel_rfl) rfl (fun wS => (xIdx1 i Try.underlying27 ti5 rfl rfl (by omega) (by omega))) (sl_of ⟨ho, hB⟩) ?_
            refine hOne 11 (by kernel_rfl) (oStO (k := 0 + i) (v := .int .u8 (xor8 (xor8 x (m1 mask)) (m2 mask))) rfl rfl ti5 rfl rfl rfl (ho.ext (Ext.refl _).drew) (by rw [Nat.zero_add]; exact hcur) ?_)
            intro wb hob hcb
            have hxb : Ext w3 wb := Chg.ext (hxa.trans (Ext.refl _).drew) hcb (ho.row q rfl).1
            rw [Nat.zero_add] at hob
            refine ⟨(sl_late 11 (by kernel_rfl)), ?_⟩
            refine hDone (by kernel_rfl) ?_
            refine wReg ?_
            refine sRun (xMvI rfl) ?_
            refine sRun (xAdd64 rfl rfl (by omega) (by omega)) ?_
            refine sRun (xAsI rfl) ?_
            refine sNil ?_
            refine ⟨bs.length - (i + 1), by omega, i + 1, some ⟨q, 0, none⟩, rfl, by omega, ⟨rfl, rfl, rfl, trivial⟩, hxb, ?_⟩
            have hone : one at_ mask i x = xor8 (xor8 x (m1 mask)) (m2 mask) := by
              unfold one
              rw [if_pos (by omega), if_pos h19]
            rw [← part_step (by omega) hat hxi, hone]
            simpa [bys, List.map_set] using hob
          · refine sGo rfl ?_
            refine sRun (xPkTB rfl rfl) ?_
            refine sRun (xPkFB rfl rfl) ?_
            refine sNil ?_
            refine wIfF rfl ?_
            refine wSkip ?_
            refine wReg ?_
            refine sRun (xMvI rfl) ?_
            refine sRun (xAdd64 rfl rfl (by omega) (by omega)) ?_
            refine sRun (xAsI rfl) ?_
            refine sNil ?_
            refine ⟨bs.length - (i + 1), by omega, i + 1, some ⟨q, 0, none⟩, rfl, by omega, ⟨rfl, rfl, rfl, trivial⟩, hxa, ?_⟩
            have hone : one at_ mask i x = (xor8 x (m1 mask)) := by
              unfold one
              rw [if_neg (by omega), if_pos h19]
            rw [← part_step (by omega) hat hxi, hone]
            exact ho
        · refine sGo rfl ?_
          refine sRun (xMvB rfl) ?_
          refine sNo rfl ?_
          refine sNo rfl ?_
          refine sNo rfl ?_
          refine sGo rfl ?_
          refine sRun (xPkFB rfl rfl) ?_
          refine sRun (xPkFB rfl rfl) ?_
          refine sNil ?_
          refine wIfF rfl ?_
          refine wSkip ?_
          refine wReg ?_
          refine sRun (xMvI rfl) ?_
          refine sRun (xAdd64 rfl rfl (by omega) (by omega)) ?_
          refine sRun (xAsI rfl) ?_
          refine sNil ?_
          refine ⟨bs.length - (i + 1), by omega, i + 1, some ⟨q, 0, none⟩, rfl, by omega, ⟨rfl, rfl, rfl, trivial⟩, hxa, ?_⟩
          have hone : one at_ mask i x = (xor8 x (m1 mask)) := by
            unfold one
            rw [if_neg (by omega), if_pos h19]
          rw [← part_step (by omega) hat hxi, hone]
          exact ho
    · refine sNil ?_
      refine wIfF rfl ?_
      refine wSkip ?_
      refine wSeq ?_
      refine wReg ?_
      refine sRun (xMvI rfl) ?_
      refine sSplit (xGtr rfl rfl) (fun h33 => ?_) (fun h33 => ?_)
      · refine sRun (xMvB rfl) ?_
        refine sGo rfl ?_
        refine sRun (xMvI rfl) ?_
        refine sGo rfl ?_
        refine sRun (xSub64 rfl rfl (by omega) (by omega)) ?_
        refine sGo rfl ?_
        refine sRun (xFld (k := 1) Try.underlying25 rfl rfl ti3 (by decide) rfl) ?_
        refine sGo rfl ?_
        refine sRun (xLoad Try.underlying3 rfl rfl (hB.cell (i := 0 + 1) rfl)) ?_
        refine sGo rfl ?_
        refine sSplit (xEqlD rfl rfl) (fun h39 => ?_) (fun h39 => ?_)
        · refine sRun (xPkTB rfl rfl) ?_
          refine sRun (xMvB rfl) ?_
          refine sNo rfl ?_
          refine sNo rfl ?_
          refine sNo rfl ?_
          refine sNo rfl ?_
          refine sNo rfl ?_
          refine sNo rfl ?_
          refine sNo rfl ?_
          refine sRun (xPkTB rfl rfl) ?_
          refine sNil ?_
          refine wIfT rfl ?_
          refine wDraw (fun wS => Own wS w3.heap.size 5 1 (some ⟨q, 0, none⟩) bs.length c9 (bys (part bs at_ mask i)) ∧ Blk wS b3 25 #[.slice Ad nd cd, .int .i64 at_, .int .i64 mask]) [11] (by kernel_rfl) ?_
          refine hTake 0 rfl (by kernel_rfl) rfl (fun wS => (xMvS rfl)) (sl_of ⟨ho, hB⟩) ?_
          refine hTake 1 rfl (by kernel_rfl) rfl (fun wS => (xMvI rfl)) (sl_of ⟨ho, hB⟩) ?_
          refine hTake 2 rfl (by kernel_rfl) rfl (fun wS => (xMvS rfl)) (sl_of ⟨ho, hB⟩) ?_
          refine hTake 3 rfl (by kernel_rfl) rfl (fun wS => (xMvI rfl)) (sl_of ⟨ho, hB⟩) ?_
          refine hTake 4 rfl (by kernel_rfl) rfl (fun wS => (xIdx1 i Try.underlying27 ti5 rfl rfl (by omega) (by omega))) (sl_of ⟨ho, hB⟩) ?_
          refine hTakeS 5 rfl (by kernel_rfl) (by kernel_rfl) rfl (fun wS hS => (xLoad Try.underlying5 rfl rfl (by rw [Nat.zero_add]; exact hS.1.cell hcur))) (sl_of ⟨ho, hB⟩) ?_
          refine hTake 6 rfl (by kernel_rfl) rfl (fun wS => (xFld (k := 2) Try.underlying25 rfl rfl ti3 (by decide) rfl)) (sl_of ⟨ho, hB⟩) ?_
          refine hTakeS 7 rfl (by kernel_rfl) (by kernel_rfl) rfl (fun wS hS => (xLoad Try.underlying3 rfl rfl (hS.2.cell (i := 0 + 2) rfl))) (sl_of ⟨ho, hB⟩) ?_
          refine hTake 8 rfl (by kernel_rfl) rfl (fun wS => (xConv _ ⟨_, Try.underlying3⟩ Try.underlying5 rfl)) (sl_of ⟨ho, hB⟩) ?_
          refine hTake 9 rfl (by kernel_rfl) rfl (fun wS => (xXor rfl rfl)) (sl_of ⟨ho, hB⟩) ?_
          refine hTake 10 rfl (by kernel_rfl) rfl (fun wS => (xIdx1 i Try.underlying27 ti5 rfl rfl (by omega) (by omega))) (sl_of ⟨ho, hB⟩) ?_
          refine hOne 11 (by kernel_rfl) (oStO (k := 0 + i) (v := .int .u8 (xor8 x (m2 mask))) rfl rfl ti5 rfl rfl rfl (ho.ext (Ext.refl _).drew) (by rw [Nat.zero_add]; exact hcur) ?_)
          intro wb hob hcb
          have hxb : Ext w3 wb := Chg.ext (hx.trans (Ext.refl _).drew) hcb (ho.row q rfl).1
          rw [Nat.zero_add] at hob
          refine ⟨(sl_late 11 (by kernel_rfl)), ?_⟩
          refine hDone (by kernel_rfl) ?_
          refine wReg ?_
          refine sRun (xMvI rfl) ?_
          refine sRun (xAdd64 rfl rfl (by omega) (by omega)) ?_
          refine sRun (xAsI rfl) ?_
          refine sNil ?_
          refine ⟨bs.length - (i + 1), by omega, i + 1, some ⟨q, 0, none⟩, rfl, by omega, ⟨rfl, rfl, rfl, trivial⟩, hxb, ?_⟩
          have hone : one at_ mask i x = xor8 x (m2 mask) := by
            unfold one
            rw [if_pos (by omega), if_neg h19]
          rw [← part_step (by omega) hat hxi, hone]
          simpa [bys, List.map_set] using hob
        · refine sRun (xPkTB rfl rfl) ?_
          refine sRun (xMvB rfl) ?_
          refine sGo rfl ?_
          refine sRun (xMvI rfl) ?_
          refine sGo rfl ?_
          refine sSplit (xEqlD rfl rfl) (fun h43 => ?_) (fun h43 => ?_)
          · refine sGo rfl ?_
            refine sRun (xMvB rfl) ?_
            refine sGo rfl ?_
            refine sRun (xFld (k := 1) Try.underlying25 rfl rfl ti3 (by decide) rfl) ?_
            refine sGo rfl ?_
            refine sRun (xLoad Try.underlying3 rfl rfl (hB.cell (i := 0 + 1) rfl)) ?_
            refine sGo rfl ?_
            refine sSplit (xEqlD rfl rfl) (fun h47 => ?_) (fun h47 => ?_)
            · refine sGo rfl ?_
              refine sRun (xPkTB rfl rfl) ?_
              refine sRun (xPkFB rfl rfl) ?_
              refine sNil ?_
              refine wIfT rfl ?_
              refine wDraw (fun wS => Own wS w3.heap.size 5 1 (some ⟨q, 0, none⟩) bs.length c9 (bys (part bs at_ mask i)) ∧ Blk wS b3 25 #[.slice Ad nd cd, .int .i64 at_, .int .i64 mask]) [11] (by kernel_rfl) ?_
              refine hTake 0 rfl (by kernel_rfl) rfl (fun wS => (xMvS rfl)) (sl_of ⟨ho, hB⟩) ?_
              refine hTake 1 rfl (by kernel_rfl) rfl (fun wS => (xMvI rfl)) (sl_of ⟨ho, hB⟩) ?_
              refine hTake 2 rfl (by kernel_rfl) rfl (fun wS => (xMvS rfl)) (sl_of ⟨ho, hB⟩) ?_
              refine hTake 3 rfl (by kernel_rfl) rfl (fun wS => (xMvI rfl)) (sl_of ⟨ho, hB⟩) ?_
              refine hTake 4 rfl (by kernel_rfl) rfl (fun wS => (xIdx1 i Try.underlying27 ti5 rfl rfl (by omega) (by omega))) (sl_of ⟨ho, hB⟩) ?_
              refine hTakeS 5 rfl (by kernel_rfl) (by kernel_rfl) rfl (fun wS hS => (xLoad Try.underlying5 rfl rfl (by rw [Nat.zero_add]; exact hS.1.cell hcur))) (sl_of ⟨ho, hB⟩) ?_
              refine hTake 6 rfl (by kernel_rfl) rfl (fun wS => (xFld (k := 2) Try.underlying25 rfl rfl ti3 (by decide) rfl)) (sl_of ⟨ho, hB⟩) ?_
              refine hTakeS 7 rfl (by kernel_rfl) (by kernel_rfl) rfl (fun wS hS => (xLoad Try.underlying3 rfl rfl (hS.2.cell (i := 0 + 2) rfl))) (sl_of ⟨ho, hB⟩) ?_
              refine hTake 8 rfl (by kernel_rfl) rfl (fun wS => (xConv _ ⟨_, Try.underlying3⟩ Try.underlying5 rfl)) (sl_of ⟨ho, hB⟩) ?_
              refine hTake 9 rfl (by kernel_rfl) rfl (fun wS => (xXor rfl rfl)) (sl_of ⟨ho, hB⟩) ?_
              refine hTake 10 rfl (by kernel_rfl) rfl (fun wS => (xIdx1 i Try.underlying27 ti5 rfl rfl (by omega) (by omega))) (sl_of ⟨ho, hB⟩) ?_
              refine hOne 11 (by kernel_rfl) (oStO (k := 0 + i) (v := .int .u8 (xor8 x (m2 mask))) rfl rfl ti5 rfl rfl rfl (ho.ext (Ext.refl _).drew) (by rw [Nat.zero_add]; exact hcur) ?_)
              intro wb hob hcb
              have hxb : Ext w3 wb := Chg.ext (hx.trans (Ext.refl _).drew) hcb (ho.row q rfl).1
              rw [Nat.zero_add] at hob
              refine ⟨(sl_late 11 (by kernel_rfl)), ?_⟩
              refine hDone (by kernel_rfl) ?_
              refine wReg ?_
              refine sRun (xMvI rfl) ?_
              refine sRun (xAdd64 rfl rfl (by omega) (by omega)) ?_
              refine sRun (xAsI rfl) ?_
              refine sNil ?_
              refine ⟨bs.length - (i + 1), by omega, i + 1, some ⟨q, 0, none⟩, rfl, by omega, ⟨rfl, rfl, rfl, trivial⟩, hxb, ?_⟩
              have hone : one at_ mask i x = xor8 x (m2 mask) := by
                unfold one
                rw [if_pos (by omega), if_neg h19]
              rw [← part_step (by omega) hat hxi, hone]
              simpa [bys, List.map_set] using hob
            · refine sGo rfl ?_
              refine sRun (xPkTB rfl rfl) ?_
              refine sRun (xPkFB rfl rfl) ?_
              refine sNil ?_
              refine wIfF rfl ?_
              refine wSkip ?_
              refine wReg ?_
              refine sRun (xMvI rfl) ?_
              refine sRun (xAdd64 rfl rfl (by omega) (by omega)) ?_
              refine sRun (xAsI rfl) ?_
              refine sNil ?_
              refine ⟨bs.length - (i + 1), by omega, i + 1, some ⟨q, 0, none⟩, rfl, by omega, ⟨rfl, rfl, rfl, trivial⟩, hx, ?_⟩
              have hone : one at_ mask i x = x := by
                unfold one
                rw [if_neg (by omega), if_neg h19]
              rw [← part_step (by omega) hat hxi, hone]
              rw [set_self (part_at hxi)]
              exact ho
          · refine sGo rfl ?_
            refine sRun (xMvB rfl) ?_
            refine sNo rfl ?_
            refine sNo rfl ?_
            refine sNo rfl ?_
            refine sGo rfl ?_
            refine sRun (xPkFB rfl rfl) ?_
            refine sRun (xPkFB rfl rfl) ?_
            refine sNil ?_
            refine wIfF rfl ?_
            refine wSkip ?_
            refine wReg ?_
            refine sRun (xMvI rfl) ?_
            refine sRun (xAdd64 rfl rfl (by omega) (by omega)) ?_
            refine sRun (xAsI rfl) ?_
            refine sNil ?_
            refine ⟨bs.length - (i + 1), by omega, i + 1, some ⟨q, 0, none⟩, rfl, by omega, ⟨rfl, rfl, rfl, trivial⟩, hx, ?_⟩
            have hone : one at_ mask i x = x := by
              unfold one
              rw [if_neg (by omega), if_neg h19]
            rw [← part_step (by omega) hat hxi, hone]
            rw [set_self (part_at hxi)]
            exact ho
      · refine sRun (xMvB rfl) ?_
        refine sNo rfl ?_
        refine sNo rfl ?_
        refine sNo rfl ?_
        refine sNo rfl ?_
        refine sNo rfl ?_
        refine sRun (xPkFB rfl rfl) ?_
        refine sRun (xMvB rfl) ?_
        refine sGo rfl ?_
        refine sRun (xMvI rfl) ?_
        refine sGo rfl ?_
        refine sSplit (xEqlD rfl rfl) (fun h43 => ?_) (fun h43 => ?_)
        · refine sGo rfl ?_
          refine sRun (xMvB rfl) ?_
          refine sGo rfl ?_
          refine sRun (xFld (k := 1) Try.underlying25 rfl rfl ti3 (by decide) rfl) ?_
          refine sGo rfl ?_
          refine sRun (xLoad Try.underlying3 rfl rfl (hB.cell (i := 0 + 1) rfl)) ?_
          refine sGo rfl ?_
          refine sSplit (xEqlD rfl rfl) (fun h47 => ?_) (fun h47 => ?_)
          · refine sGo rfl ?_
            refine sRun (xPkTB rfl rfl) ?_
            refine sRun (xPkFB rfl rfl) ?_
            refine sNil ?_
            refine wIfT rfl ?_
            refine wDraw (fun wS => Own wS w3.heap.size 5 1 (some ⟨q, 0, none⟩) bs.length c9 (bys (part bs at_ mask i)) ∧ Blk wS b3 25 #[.slice Ad nd cd, .int .i64 at_, .int .i64 mask]) [11] (by kernel_rfl) ?_
            refine hTake 0 rfl (by kernel_rfl) rfl (fun wS => (xMvS rfl)) (sl_of ⟨ho, hB⟩) ?_
            refine hTake 1 rfl (by kernel_rfl) rfl (fun wS => (xMvI rfl)) (sl_of ⟨ho, hB⟩) ?_
            refine hTake 2 rfl (by kernel_rfl) rfl (fun wS => (xMvS rfl)) (sl_of ⟨ho, hB⟩) ?_
            refine hTake 3 rfl (by kernel_rfl) rfl (fun wS => (xMvI rfl)) (sl_of ⟨ho, hB⟩) ?_
            refine hTake 4 rfl (by kernel_rfl) rfl (fun wS => (xIdx1 i Try.underlying27 ti5 rfl rfl (by omega) (by omega))) (sl_of ⟨ho, hB⟩) ?_
            refine hTakeS 5 rfl (by kernel_rfl) (by kernel_rfl) rfl (fun wS hS => (xLoad Try.underlying5 rfl rfl (by rw [Nat.zero_add]; exact hS.1.cell hcur))) (sl_of ⟨ho, hB⟩) ?_
            refine hTake 6 rfl (by kernel_rfl) rfl (fun wS => (xFld (k := 2) Try.underlying25 rfl rfl ti3 (by decide) rfl)) (sl_of ⟨ho, hB⟩) ?_
            refine hTakeS 7 rfl (by kernel_rfl) (by kernel_rfl) rfl (fun wS hS => (xLoad Try.underlying3 rfl rfl (hS.2.cell (i := 0 + 2) rfl))) (sl_of ⟨ho, hB⟩) ?_
            refine hTake 8 rfl (by kernel_rfl) rfl (fun wS => (xConv _ ⟨_, Try.underlying3⟩ Try.underlying5 rfl)) (sl_of ⟨ho, hB⟩) ?_
            refine hTake 9 rfl (by kernel_rfl) rfl (fun wS => (xXor rfl rfl)) (sl_of ⟨ho, hB⟩) ?_
            refine hTake 10 rfl (by kernel_rfl) rfl (fun wS => (xIdx1 i Try.underlying27 ti5 rfl rfl (by omega) (by omega))) (sl_of ⟨ho, hB⟩) ?_
            refine hOne 11 (by kernel_rfl) (oStO (k := 0 + i) (v := .int .u8 (xor8 x (m2 mask))) rfl rfl ti5 rfl rfl rfl (ho.ext (Ext.refl _).drew) (by rw [Nat.zero_add]; exact hcur) ?_)
            intro wb hob hcb
            have hxb : Ext w3 wb := Chg.ext (hx.trans (Ext.refl _).drew) hcb (ho.row q rfl).1
            rw [Nat.zero_add] at hob
            refine ⟨(sl_late 11 (by kernel_rfl)), ?_⟩
            refine hDone (by kernel_rfl) ?_
            refine wReg ?_
            refine sRun (xMvI rfl) ?_
            refine sRun (xAdd64 rfl rfl (by omega) (by omega)) ?_
            refine sRun (xAsI rfl) ?_
            refine sNil ?_
            refine ⟨bs.length - (i + 1), by omega, i + 1, some ⟨q, 0, none⟩, rfl, by omega, ⟨rfl, rfl, rfl, trivial⟩, hxb, ?_⟩
            have hone : one at_ mask i x = xor8 x (m2 mask) := by
              unfold one
              rw [if_pos (by omega), if_neg h19]
            rw [← part_step (by omega) hat hxi, hone]
            simpa [bys, List.map_set] using hob
          · refine sGo rfl ?_
            refine sRun (xPkTB rfl rfl) ?_
            refine sRun (xPkFB rfl rfl) ?_
            refine sNil ?_
            refine wIfF rfl ?_
            refine wSkip ?_
            refine wReg ?_
            refine sRun (xMvI rfl) ?_
            refine sRun (xAdd64 rfl rfl (by omega) (by omega)) ?_
            refine sRun (xAsI rfl) ?_
            refine sNil ?_
            refine ⟨bs.length - (i + 1), by omega, i + 1, some ⟨q, 0, none⟩, rfl, by omega, ⟨rfl, rfl, rfl, trivial⟩, hx, ?_⟩
            have hone : one at_ mask i x = x := by
              unfold one
              rw [if_neg (by omega), if_neg h19]
            rw [← part_step (by omega) hat hxi, hone]
            rw [set_self (part_at hxi)]
            exact ho
        · refine sGo rfl ?_
          refine sRun (xMvB rfl) ?_
          refine sNo rfl ?_
          refine sNo rfl ?_
          refine sNo rfl ?_
          refine sGo rfl ?_
          refine sRun (xPkFB rfl rfl) ?_
          refine sRun (xPkFB rfl rfl) ?_
          refine sNil ?_
          refine wIfF rfl ?_
          refine wSkip ?_
          refine wReg ?_
          refine sRun (xMvI rfl) ?_
          refine sRun (xAdd64 rfl rfl (by omega) (by omega)) ?_
          refine sRun (xAsI rfl) ?_
          refine sNil ?_
          refine ⟨bs.length - (i + 1), by omega, i + 1, some ⟨q, 0, none⟩, rfl, by omega, ⟨rfl, rfl, rfl, trivial⟩, hx, ?_⟩
          have hone : one at_ mask i x = x := by
            unfold one
            rw [if_neg (by omega), if_neg h19]
          rw [← part_step (by omega) hat hxi, hone]
          rw [set_self (part_at hxi)]
          exact ho
  · refine sNil ?_
    refine wIfF rfl ?_
    refine wExit ?_
    refine wSeq ?_
    refine wReg ?_
    refine sRun (xMvS rfl) ?_
    refine sRun (xAsS rfl) ?_
    refine sNil ?_
    refine wRet ?_
    refine res1 (P := Try.prog) (fn := Try.f22) rfl ?_
    obtain rfl : i = bs.length := by omega
    refine ⟨A9, c9, rfl, ?_, he3.trans hx⟩
    have e : part bs at_ mask bs.length = hit bs at_ mask := by
      unfold part
      rw [List.drop_length, List.append_nil, List.take_of_length_le (by rw [hit_len]; omega)]
    rw [e] at ho
    exact ho.mono he3.le

end Go.Proofs.Ytnppmdhgelfloaa
