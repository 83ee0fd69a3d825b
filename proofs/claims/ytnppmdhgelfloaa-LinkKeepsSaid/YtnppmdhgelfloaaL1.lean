/- Contracts of Mod, Clone, Compare and of the closures of package link. -/
import Derived.Test.YtnppmdhgelfloaaRows
import Derived.Test.YtnppmdhgelfloaaMem
set_option linter.unusedVariables false
namespace Go.Proofs.Ytnppmdhgelfloaa
open Go.RowKit Go.Fw

theorem ti3 : TI Try.prog 3 (.int .i64 0) 1 8 := ti_of (by kernel_rfl)
theorem ti5 : TI Try.prog 5 (.int .u8 0) 1 1 := ti_of (by kernel_rfl)
theorem cal26 : Callable Try.prog 26 := ⟨_, Try.func26, by kernel_rfl, by kernel_rfl⟩
theorem cal28 : Callable Try.prog 28 := ⟨_, Try.func28, by kernel_rfl, by kernel_rfl⟩
theorem mod_math {a n : Int} (hn : 1 ≤ n) : -n < a.tmod n ∧ a.tmod n < n ∧ (a.tmod n < 0 → a.tmod n + n = a % n) ∧ (¬ a.tmod n < 0 → a.tmod n = a % n) := by
  have h1 := Int.emod_nonneg a (show n ≠ 0 by omega)
  have h2 := Int.emod_lt_of_pos a (show 0 < n by omega)
  have h3 := Int.tmod_eq_emod (a := a) (b := n)
  have h4 : n.natAbs = n := by omega
  have h5 : (↑n.natAbs : Int) = n := by omega
  rw [h3]
  split
  · refine ⟨by omega, by omega, fun h => by omega, fun h => by omega⟩
  · refine ⟨by omega, by omega, fun h => by omega, fun h => by omega⟩


theorem mod_spec (a n : Int) (w : World) (hn : 1 ≤ n) (hn2 : n ≤ 4611686018427387904) :
    Calls Try.prog 10 #[.int .i64 a, .int .i64 n] w (Ret fun v w' => v = .int .i64 (a % n) ∧ w' = w) := by
  have hm := mod_math (a := a) hn
  refine calls_of Try.func10 rfl (Nat.le_of_ble_eq_true rfl) (by kernel_rfl) ?_
  refine wCut [(0, .int .i64 a), (1, .int .i64 n)] ⟨rfl, rfl, trivial⟩ fun g => ?_
  refine wSeq ?_
  refine wReg ?_
  refine sRun (xAsI rfl) ?_
  refine sNil ?_
  refine wSeq ?_
  refine wReg ?_
  refine sRun (xMvI rfl) ?_
  refine sRun (xMvI rfl) ?_
  refine sRun (xRem rfl rfl (by omega)) ?_
  refine sRun (xAsI rfl) ?_
  refine sNil ?_
  refine wSeq ?_
  refine wSeq ?_
  refine wReg ?_
  refine sRun (xMvI rfl) ?_
  refine sSplit (xLss rfl rfl) (fun h9 => ?_) (fun h9 => ?_)
  · refine sNil ?_
    refine wIfT rfl ?_
    refine wReg ?_
    refine sRun (xMvI rfl) ?_
    refine sRun (xMvI rfl) ?_
    refine sRun (xAdd64 rfl rfl (by omega) (by omega)) ?_
    refine sRun (xAsI rfl) ?_
    refine sNil ?_
    refine wSeq ?_
    refine wReg ?_
    refine sRun (xMvI rfl) ?_
    refine sRun (xAsI rfl) ?_
    refine sNil ?_
    refine wRet ?_
    refine res1 (P := Try.prog) (fn := Try.f10) rfl ?_
    refine ⟨?_, rfl⟩
    exact congrArg _ (hm.2.2.1 h9)
  · refine sNil ?_
    refine wIfF rfl ?_
    refine wSkip ?_
    refine wSeq ?_
    refine wReg ?_
    refine sRun (xMvI rfl) ?_
    refine sRun (xAsI rfl) ?_
    refine sNil ?_
    refine wRet ?_
    refine res1 (P := Try.prog) (fn := Try.f10) rfl ?_
    refine ⟨?_, rfl⟩
    exact congrArg _ (hm.2.2.2 h9)

theorem bs20_5 {ρ : Operand → Value} {w : World} {d : Option Nat} {ty : TypeId} {pos : String} {af : Array Edge} {g : Option (Nat × Bool)}    :
    (execOp ρ ⟨d, .buildSlice 27 0 #[], ty, pos, af, g⟩).run Try.prog w = .ok (.value (.slice (some ⟨w.heap.size, 0, none⟩) 0 0)) (w.alloc (.cells #[] 5)) := by
  have e : (Instr.buildSlice 27 0 #[]).run Try.prog w = .ok (.slice (some ⟨w.heap.size, 0, none⟩) 0 0) (w.alloc (.cells #[] 5)) := by kernel_rfl
  simp [execOp, e]
theorem clone5 (A : Option Addr) (n c : Nat) (xs : List Value) (w : World) (h : Sl w w.heap.size 1 A n xs) (h1 : ∀ u ∈ xs, u.oneCell' = true) (hn : n * 1 ≤ 140737488355328) :
    Calls Try.prog 20 #[.slice A n c] w (Ret fun v w' => ∃ A2 c2, v = .slice A2 n c2 ∧ Own w' w.heap.size 5 1 A2 n c2 xs ∧ Ext w w') := by
  cases A with
  | none =>
    have hn0 : n = 0 := by
      rcases Nat.eq_zero_or_pos n with h0 | h0
      · exact h0
      · obtain ⟨b, o, h2, _⟩ := h.2 h0; cases h2
    subst hn0
    have hx : xs = [] := List.eq_nil_of_length_eq_zero (by simpa using h.1)
    subst hx
    refine calls_of Try.func20 rfl (Nat.le_of_ble_eq_true rfl) (by kernel_rfl) ?_
    refine wCut [(0, .slice none 0 c)] ⟨rfl, trivial⟩ fun g => ?_
    refine wSeq ?_
    refine wReg ?_
    refine sRun (xAsS rfl) ?_
    refine sNil ?_
    refine wSeq ?_
    refine wSeq ?_
    refine wReg ?_
    refine sRun (xMvS rfl) ?_
    refine sRun (xNilEql Try.underlying27 rfl rfl) ?_
    refine sNil ?_
    refine wIfT rfl ?_
    refine wSeq ?_
    refine wReg ?_
    refine sRun (xAsS rfl) ?_
    refine sNil ?_
    refine wRet ?_
    refine res1 (P := Try.prog) (fn := Try.f20) rfl ?_
    exact ⟨none, 0, rfl, Own.nil _ _ _ _, Ext.refl _⟩
  | some a =>
    refine calls_of Try.func20 rfl (Nat.le_of_ble_eq_true rfl) (by kernel_rfl) ?_
    refine wCut [(0, .slice (some a) n c)] ⟨rfl, trivial⟩ fun g => ?_
    refine wSeq ?_
    refine wReg ?_
    refine sRun (xAsS rfl) ?_
    refine sNil ?_
    refine wSeq ?_
    refine wSeq ?_
    refine wReg ?_
    refine sRun (xMvS rfl) ?_
    refine sRun (xNilEql Try.underlying27 rfl rfl) ?_
    refine sNil ?_
    refine wIfF rfl ?_
    refine wSkip ?_
    refine wSeq ?_
    refine wReg ?_
    refine sTo (aRow (bs20_5)) ?_
    rintro _ w5 ⟨b5, rfl, hge5, hB5, he5⟩
    refine sRun (xMvS rfl) ?_
    refine sTo (aAppend (w.heap.size) (n) Try.underlying27 ti5 rfl (by decide) rfl rfl (hB5.own (size := 1) hge5 (by decide) rfl) (h.ext he5) h1 (by have := he5.le; omega) (by omega) (by omega) (by omega)) ?_
    rintro _ w7 ⟨A7, c7, rfl, ho7, hg7, hr7⟩
    refine sRun (xAsS rfl) ?_
    refine sNil ?_
    refine wRet ?_
    refine res1 (P := Try.prog) (fn := Try.f20) rfl ?_
    refine ⟨A7, c7, rfl, by simpa using ho7, ?_⟩
    exact grown_ext he5 hg7 (fun i hi => by simp [rowOf] at hi; omega)

theorem bs23_5 {ρ : Operand → Value} {w : World} {d : Option Nat} {ty : TypeId} {pos : String} {af : Array Edge} {g : Option (Nat × Bool)}    :
    (execOp ρ ⟨d, .buildSlice 23 0 #[], ty, pos, af, g⟩).run Try.prog w = .ok (.value (.slice (some ⟨w.heap.size, 0, none⟩) 0 0)) (w.alloc (.cells #[] 3)) := by
  have e : (Instr.buildSlice 23 0 #[]).run Try.prog w = .ok (.slice (some ⟨w.heap.size, 0, none⟩) 0 0) (w.alloc (.cells #[] 3)) := by kernel_rfl
  simp [execOp, e]
theorem clone3 (A : Option Addr) (n c : Nat) (xs : List Value) (w : World) (h : Sl w w.heap.size 1 A n xs) (h1 : ∀ u ∈ xs, u.oneCell' = true) (hn : n * 8 ≤ 140737488355328) :
    Calls Try.prog 23 #[.slice A n c] w (Ret fun v w' => ∃ A2 c2, v = .slice A2 n c2 ∧ Own w' w.heap.size 3 1 A2 n c2 xs ∧ Ext w w') := by
  cases A with
  | none =>
    have hn0 : n = 0 := by
      rcases Nat.eq_zero_or_pos n with h0 | h0
      · exact h0
      · obtain ⟨b, o, h2, _⟩ := h.2 h0; cases h2
    subst hn0
    have hx : xs = [] := List.eq_nil_of_length_eq_zero (by simpa using h.1)
    subst hx
    refine calls_of Try.func23 rfl (Nat.le_of_ble_eq_true rfl) (by kernel_rfl) ?_
    refine wCut [(0, .slice none 0 c)] ⟨rfl, trivial⟩ fun g => ?_
    refine wSeq ?_
    refine wReg ?_
    refine sRun (xAsS rfl) ?_
    refine sNil ?_
    refine wSeq ?_
    refine wSeq ?_
    refine wReg ?_
    refine sRun (xMvS rfl) ?_
    refine sRun (xNilEql Try.underlying23 rfl rfl) ?_
    refine sNil ?_
    refine wIfT rfl ?_
    refine wSeq ?_
    refine wReg ?_
    refine sRun (xAsS rfl) ?_
    refine sNil ?_
    refine wRet ?_
    refine res1 (P := Try.prog) (fn := Try.f23) rfl ?_
    exact ⟨none, 0, rfl, Own.nil _ _ _ _, Ext.refl _⟩
  | some a =>
    refine calls_of Try.func23 rfl (Nat.le_of_ble_eq_true rfl) (by kernel_rfl) ?_
    refine wCut [(0, .slice (some a) n c)] ⟨rfl, trivial⟩ fun g => ?_
    refine wSeq ?_
    refine wReg ?_
    refine sRun (xAsS rfl) ?_
    refine sNil ?_
    refine wSeq ?_
    refine wSeq ?_
    refine wReg ?_
    refine sRun (xMvS rfl) ?_
    refine sRun (xNilEql Try.underlying23 rfl rfl) ?_
    refine sNil ?_
    refine wIfF rfl ?_
    refine wSkip ?_
    refine wSeq ?_
    refine wReg ?_
    refine sTo (aRow (bs23_5)) ?_
    rintro _ w5 ⟨b5, rfl, hge5, hB5, he5⟩
    refine sRun (xMvS rfl) ?_
    refine sTo (aAppend (w.heap.size) (n) Try.underlying23 ti3 rfl (by decide) rfl rfl (hB5.own (size := 1) hge5 (by decide) rfl) (h.ext he5) h1 (by have := he5.le; omega) (by omega) (by omega) (by omega)) ?_
    rintro _ w7 ⟨A7, c7, rfl, ho7, hg7, hr7⟩
    refine sRun (xAsS rfl) ?_
    refine sNil ?_
    refine wRet ?_
    refine res1 (P := Try.prog) (fn := Try.f23) rfl ?_
    refine ⟨A7, c7, rfl, by simpa using ho7, ?_⟩
    exact grown_ext he5 hg7 (fun i hi => by simp [rowOf] at hi; omega)


theorem isNaN_spec (a : Int) (w : World) : Calls Try.prog 28 #[.int .i64 a] w (Ret fun v w' => v = .bool false ∧ w' = w) := by
  refine calls_of Try.func28 rfl (Nat.le_of_ble_eq_true rfl) (by kernel_rfl) ?_
  refine wCut [(0, .int .i64 a)] ⟨rfl, trivial⟩ fun g => ?_
  refine wSeq ?_
  refine wReg ?_
  refine sRun (xAsB rfl) ?_
  refine sNil ?_
  refine wSeq ?_
  refine wReg ?_
  refine sRun (xMvI rfl) ?_
  refine sRun (xMvI rfl) ?_
  refine sRun (xNeqF rfl rfl (by omega)) ?_
  refine sRun (xAsB rfl) ?_
  refine sNil ?_
  refine wRet ?_
  refine res1 (P := Try.prog) (fn := Try.f28) rfl ?_
  exact ⟨rfl, rfl⟩

def cmpI (a b : Int) : Int := if a < b then -1 else if b < a then 1 else 0


theorem compare_spec (a b : Int) (w : World) : Calls Try.prog 26 #[.int .i64 a, .int .i64 b] w (Ret fun v w' => v = .int .i64 (cmpI a b) ∧ w' = w) := by
  refine calls_of Try.func26 rfl (Nat.le_of_ble_eq_true rfl) (by kernel_rfl) ?_
  refine wCut [(0, .int .i64 a), (1, .int .i64 b)] ⟨rfl, rfl, trivial⟩ fun g => ?_
  refine wSeq ?_
  refine wReg ?_
  refine sRun (xAsI rfl) ?_
  refine sNil ?_
  refine wSeq ?_
  refine wReg ?_
  refine sRun (xMvI rfl) ?_
  refine sCall (eCall cal28 rfl) (isNaN_spec _ _) ?_
  rintro _ _ ⟨rfl, rfl⟩
  refine sRun (xAsB rfl) ?_
  refine sNil ?_
  refine wSeq ?_
  refine wReg ?_
  refine sRun (xMvI rfl) ?_
  refine sCall (eCall cal28 rfl) (isNaN_spec _ _) ?_
  rintro _ _ ⟨rfl, rfl⟩
  refine sRun (xAsB rfl) ?_
  refine sNil ?_
  refine wSeq ?_
  refine wSeq ?_
  refine wReg ?_
  refine sRun (xMvB rfl) ?_
  refine sNil ?_
  refine wIfF rfl ?_
  refine wSkip ?_
  refine wSeq ?_
  refine wSeq ?_
  refine wReg ?_
  refine sRun (xMvB rfl) ?_
  refine sNil ?_
  refine wIfF rfl ?_
  refine wSkip ?_
  refine wSeq ?_
  refine wSeq ?_
  refine wReg ?_
  refine sRun (xMvI rfl) ?_
  refine sRun (xMvI rfl) ?_
  refine sSplit (xLss rfl rfl) (fun h16 => ?_) (fun h16 => ?_)
  · refine sNil ?_
    refine wIfT rfl ?_
    refine wSeq ?_
    refine wReg ?_
    refine sRun (xAsI rfl) ?_
    refine sNil ?_
    refine wRet ?_
    refine res1 (P := Try.prog) (fn := Try.f26) rfl ?_
    refine ⟨congrArg (Value.int .i64) ?_, rfl⟩
    unfold cmpI
    rw [if_pos h16]
  · refine sNil ?_
    refine wIfF rfl ?_
    refine wSkip ?_
    refine wSeq ?_
    refine wSeq ?_
    refine wReg ?_
    refine sRun (xMvI rfl) ?_
    refine sRun (xMvI rfl) ?_
    refine sSplit (xGtr rfl rfl) (fun h19 => ?_) (fun h19 => ?_)
    · refine sNil ?_
      refine wIfT rfl ?_
      refine wSeq ?_
      refine wReg ?_
      refine sRun (xAsI rfl) ?_
      refine sNil ?_
      refine wRet ?_
      refine res1 (P := Try.prog) (fn := Try.f26) rfl ?_
      refine ⟨congrArg (Value.int .i64) ?_, rfl⟩
      unfold cmpI
      rw [if_neg h16, if_pos h19]
    · refine sNil ?_
      refine wIfF rfl ?_
      refine wSkip ?_
      refine wSeq ?_
      refine wReg ?_
      refine sRun (xAsI rfl) ?_
      refine sNil ?_
      refine wRet ?_
      refine res1 (P := Try.prog) (fn := Try.f26) rfl ?_
      refine ⟨congrArg (Value.int .i64) ?_, rfl⟩
      unfold cmpI
      rw [if_neg h16, if_neg h19]


theorem less_spec (a b : Int) (u v : Value) (w : World) :
    Calls Try.prog 25 #[.agg #[.int .i64 a, u], .agg #[.int .i64 b, v]] w (Ret fun r w' => r = .int .i64 (cmpI a b) ∧ Ext w w') := by
  refine calls_of Try.func25 rfl (Nat.le_of_ble_eq_true rfl) (by kernel_rfl) ?_
  refine wCut [(0, .agg #[.int .i64 a, u]), (1, .agg #[.int .i64 b, v])] ⟨rfl, rfl, trivial⟩ fun g => ?_
  refine wSeq ?_
  refine wReg ?_
  refine sTo (aNew (mBox rfl)) ?_
  rintro _ w2 ⟨b2, rfl, hge2, hB2, he2⟩
  refine sTo (aNew (mBox rfl)) ?_
  rintro _ w3 ⟨b3, rfl, hge3, hB3, he3⟩
  refine sRun (xAsI rfl) ?_
  refine sNil ?_
  refine wSeq ?_
  refine wReg ?_
  refine sRun (xFld0 Try.underlying37 rfl rfl ti3 (by decide) rfl) ?_
  refine sRun (xLoad Try.underlying3 rfl rfl (Blk.cell (hB2.ext he3) (i := 0) rfl)) ?_
  refine sRun (xFld0 Try.underlying37 rfl rfl ti3 (by decide) rfl) ?_
  refine sRun (xLoad Try.underlying3 rfl rfl (hB3.cell (i := 0) rfl)) ?_
  refine sCall (eCall cal26 rfl) (compare_spec _ _ _) ?_
  rintro _ _ ⟨rfl, rfl⟩
  refine sRun (xAsI rfl) ?_
  refine sNil ?_
  refine wRet ?_
  refine res1 (P := Try.prog) (fn := Try.f25) rfl ?_
  exact ⟨rfl, he2.trans he3⟩

def xor8 (a b : Int) : Int := IntKind.u8.wrap ((BitVec.ofInt IntKind.u8.bits a ^^^ BitVec.ofInt IntKind.u8.bits b).toNat)
/-- the byte at a place, turned by a mask; a place outside turns nothing -/
def dmg (bs : List Int) (i m : Int) : List Int := if 0 ≤ i ∧ i < bs.length then bs.set i.toNat (xor8 (bs.getD i.toNat 0) m) else bs


theorem damage_spec (i m : Int) (p base n c : Nat) (A : Option Addr) (bs : List Int) (w : World) (hp : Blk w p 27 #[.slice A n c]) (ho : Own w base 5 1 A n c (bs.map (.int .u8))) :
    Calls Try.prog 21 #[.int .i64 i, .int .u8 m, .pointer (some ⟨p, 0, none⟩)] w (Ret fun v w' => Own w' base 5 1 A n c ((dmg bs i m).map (.int .u8)) ∧ w.grownBy w' (rowOf A)) := by
  have hn : bs.length = n := by have := ho.len; simpa using this
  refine calls_of Try.func21 rfl (Nat.le_of_ble_eq_true rfl) (by kernel_rfl) ?_
  refine wCut [(0, .int .i64 i), (1, .int .u8 m), (2, .pointer (some ⟨p, 0, none⟩))] ⟨rfl, rfl, rfl, trivial⟩ fun g => ?_
  refine wSeq ?_
  refine wReg ?_
  refine sRun (xMvI rfl) ?_
  refine sSplit (xGeq rfl rfl) (fun h6 => ?_) (fun h6 => ?_)
  · refine sRun (xMvB rfl) ?_
    refine sGo rfl ?_
    refine sRun (xMvI rfl) ?_
    refine sGo rfl ?_
    refine sRun (xLoad Try.underlying27 rfl rfl (hp.cell (i := 0) rfl)) ?_
    refine sGo rfl ?_
    refine sRun (xLen Try.underlying27 rfl) ?_
    refine sGo rfl ?_
    refine sSplit (xLss rfl rfl) (fun h11 => ?_) (fun h11 => ?_)
    · obtain ⟨gb, rfl⟩ := ho.adr (by omega)
      have hc := ho.cell (j := i.toNat) (v := .int .u8 (bs.getD i.toNat 0)) (by simp [List.getD_eq_getElem?_getD]; rw [List.getElem?_eq_getElem (by omega)]; simp)
      refine sRun (xPkTB rfl rfl) ?_
      refine sNil ?_
      refine wIfT rfl ?_
      refine wReg ?_
      refine sRun (xLoad Try.underlying27 rfl rfl (hp.cell (i := 0) rfl)) ?_
      refine sRun (xMvI rfl) ?_
      refine sRun (xIdx1 i.toNat Try.underlying27 ti5 rfl rfl (by omega) (by omega)) ?_
      refine sRun (xLoad Try.underlying5 rfl rfl (by rw [Nat.zero_add]; exact hc)) ?_
      refine sRun (xMvI rfl) ?_
      refine sRun (xXor rfl rfl) ?_
      refine sRun (xIdx1 i.toNat Try.underlying27 ti5 rfl rfl (by omega) (by omega)) ?_
      refine sDo (tStore ti5 rfl rfl rfl (by rw [Nat.zero_add]; exact hc) (by rw [Nat.zero_add]; exact ho.frozen _)) ?_
      refine sNil ?_
      refine res0 (P := Try.prog) (fn := Try.f21) rfl ?_
      refine ⟨?_, ?_⟩
      · unfold dmg
        rw [if_pos ⟨h6, by omega⟩, List.map_set, Nat.zero_add]
        exact ho.set _ _
      · rw [Nat.zero_add]
        exact Chg.setCell _ _ _ _
    · refine sRun (xPkTB rfl rfl) ?_
      refine sNil ?_
      refine wIfF rfl ?_
      refine wSkip ?_
      refine res0 (P := Try.prog) (fn := Try.f21) rfl ?_
      refine ⟨?_, ⟨rfl, rfl, rfl, Nat.le_refl _, fun _ _ _ => rfl⟩⟩
      unfold dmg
      rw [if_neg (by omega)]
      exact ho
  · refine sRun (xMvB rfl) ?_
    refine sNo rfl ?_
    refine sNo rfl ?_
    refine sNo rfl ?_
    refine sNo rfl ?_
    refine sRun (xPkFB rfl rfl) ?_
    refine sNil ?_
    refine wIfF rfl ?_
    refine wSkip ?_
    refine res0 (P := Try.prog) (fn := Try.f21) rfl ?_
    refine ⟨?_, ⟨rfl, rfl, rfl, Nat.le_refl _, fun _ _ _ => rfl⟩⟩
    unfold dmg
    rw [if_neg (by omega)]
    exact ho

end Go.Proofs.Ytnppmdhgelfloaa
