/- Contracts of the reference parser's looks at tokens. -/
import Derived.Test.YtikafojlhinonaaRows
import Derived.Test.YtikafojlhinonaaE28
set_option linter.unusedVariables false
namespace Go.Proofs.Ytikafojlhinonaa
open Go.RowKit Go.Fw

theorem xNilC {P : Program} {ρ : Operand → Value} {w : World} {d : Option Nat} {ty : TypeId} {pos : String} {af : Array Edge} {g : Option (Nat × Bool)} {x : Operand} {a : Addr} (h : ρ x = .pointer (some a)) : Yl P ρ (.nilCheck x) d ty pos af g w (.pointer (some a)) := by
  simp [Yl, execOp, h]
theorem xEqT {P : Program} {ρ : Operand → Value} {w : World} {d : Option Nat} {ty : TypeId} {pos : String} {af : Array Edge} {g : Option (Nat × Bool)} {t t' : TypeId} {x y : Operand} {a b : ByteArray} (hx : ρ x = .string a) (hy : ρ y = .string b) : Yl P ρ (.binOp .eql t x y t') d ty pos af g w (.bool (a == b)) := by
  simp [Yl, execOp, hx, hy, binOp, eqGuard, Op.stringOp, beq_toListBytes]
theorem ti3 : TI Try.prog 3 (.int .i64 0) 1 8 := ti_of (by kernel_rfl)
theorem ti9 : TI Try.prog 9 (.string ByteArray.empty) 1 16 := ti_of (by kernel_rfl)
theorem ti64 : TI Try.prog 64 (.slice none 0 0) 1 24 := ti_of (by kernel_rfl)
theorem ti98 : TI Try.prog 98 (.agg #[.int .i64 0, .int .i64 0, .string ByteArray.empty, .int .i64 0]) 4 40 := ti_of (by kernel_rfl)
theorem cal29 : Callable Try.prog 29 := ⟨_, Try.func29, by kernel_rfl, by kernel_rfl⟩

theorem is_spec (b tb to n c at_ k : Nat) (kd ln num : Int) (tx s : ByteArray) (w : World) (hl : w.cell? ⟨b, 0, none⟩ = some (.slice (some ⟨tb, to, none⟩) n c)) (ha : w.cell? ⟨b, 1, none⟩ = some (.int .i64 (at_ : Nat)))
    (hk : at_ + k < n) (hn : n ≤ 1000000) (ht : ∀ j v, ([.int .i64 kd, .int .i64 ln, .string tx, .int .i64 num] : List Value)[j]? = some v → w.cell? ⟨tb, to + (at_ + k) * 4 + j, none⟩ = some v) :
    Calls Try.prog 29 #[.pointer (some ⟨b, 0, none⟩), .int .i64 (k : Nat), .string s] w (Ret fun v w' => v = .bool ((decide (kd = 3) || decide (kd = 4)) && (tx == s)) ∧ Ext w w') := by
  refine calls_of Try.func29 rfl (Nat.le_of_ble_eq_true rfl) (by kernel_rfl) ?_
  refine wCut [(0, .pointer (some ⟨b, 0, none⟩)), (1, .int .i64 (k : Nat)), (2, .string s)] ⟨rfl, rfl, rfl, trivial⟩ fun g => ?_
  refine wSeq ?_
  refine wReg ?_
  refine sRun (xAsB rfl) ?_
  refine sNil ?_
  refine wSeq ?_
  refine wSeq ?_
  refine wDraw (fun wS => Ext w wS) [] (by kernel_rfl) ?_
  refine hTake 0 rfl (by kernel_rfl) rfl (fun wS => (xMvP rfl)) (sl_of (Ext.refl w).drew) ?_
  refine hTake 1 rfl (by kernel_rfl) rfl (fun wS => (xNilC rfl)) (sl_of (Ext.refl w).drew) ?_
  refine hTake 2 rfl (by kernel_rfl) rfl (fun wS => (xFld (k := 1) Try.underlying69 rfl rfl ti3 (by decide) rfl)) (sl_of (Ext.refl w).drew) ?_
  refine hTakeS 3 rfl (by kernel_rfl) (by kernel_rfl) rfl (fun wS hS => (xLoad Try.underlying3 rfl rfl (hS.cellS ha))) (sl_of (Ext.refl w).drew) ?_
  refine hTake 4 rfl (by kernel_rfl) rfl (fun wS => (xMvI rfl)) (sl_of (Ext.refl w).drew) ?_
  refine hTake 5 rfl (by kernel_rfl) rfl (fun wS => (xAdd64 rfl rfl (by omega) (by omega))) (sl_of (Ext.refl w).drew) ?_
  refine hTake 6 rfl (by kernel_rfl) rfl (fun wS => (xMvP rfl)) (sl_of (Ext.refl w).drew) ?_
  refine hTake 7 rfl (by kernel_rfl) rfl (fun wS => (xNilC rfl)) (sl_of (Ext.refl w).drew) ?_
  refine hTake 8 rfl (by kernel_rfl) rfl (fun wS => (xFld0 Try.underlying69 rfl rfl ti64 (by decide) rfl)) (sl_of (Ext.refl w).drew) ?_
  refine hTakeS 9 rfl (by kernel_rfl) (by kernel_rfl) rfl (fun wS hS => (xLoad Try.underlying64 rfl rfl (hS.cellS hl))) (sl_of (Ext.refl w).drew) ?_
  refine hTake 10 rfl (by kernel_rfl) rfl (fun wS => (xLen Try.underlying64 rfl)) (sl_of (Ext.refl w).drew) ?_
  refine hTake 11 rfl (by kernel_rfl) rfl (fun wS => (xGeqF rfl rfl (by omega))) (sl_of (Ext.refl w).drew) ?_
  refine hDone (by kernel_rfl) ?_
  refine wIfF rfl ?_
  refine wSkip ?_
  refine wSeq ?_
  refine wDraw (fun wS => Ext w wS) [] (by kernel_rfl) ?_
  refine hTake 0 rfl (by kernel_rfl) rfl (fun wS => (xMvP rfl)) (sl_of (Ext.refl w).drew.drew) ?_
  refine hTake 1 rfl (by kernel_rfl) rfl (fun wS => (xNilC rfl)) (sl_of (Ext.refl w).drew.drew) ?_
  refine hTake 2 rfl (by kernel_rfl) rfl (fun wS => (xFld0 Try.underlying69 rfl rfl ti64 (by decide) rfl)) (sl_of (Ext.refl w).drew.drew) ?_
  refine hTakeS 3 rfl (by kernel_rfl) (by kernel_rfl) rfl (fun wS hS => (xLoad Try.underlying64 rfl rfl (hS.cellS hl))) (sl_of (Ext.refl w).drew.drew) ?_
  refine hTake 4 rfl (by kernel_rfl) rfl (fun wS => (xMvP rfl)) (sl_of (Ext.refl w).drew.drew) ?_
  refine hTake 5 rfl (by kernel_rfl) rfl (fun wS => (xNilC rfl)) (sl_of (Ext.refl w).drew.drew) ?_
  refine hTake 6 rfl (by kernel_rfl) rfl (fun wS => (xFld (k := 1) Try.underlying69 rfl rfl ti3 (by decide) rfl)) (sl_of (Ext.refl w).drew.drew) ?_
  refine hTakeS 7 rfl (by kernel_rfl) (by kernel_rfl) rfl (fun wS hS => (xLoad Try.underlying3 rfl rfl (hS.cellS ha))) (sl_of (Ext.refl w).drew.drew) ?_
  refine hTake 8 rfl (by kernel_rfl) rfl (fun wS => (xMvI rfl)) (sl_of (Ext.refl w).drew.drew) ?_
  refine hTake 9 rfl (by kernel_rfl) rfl (fun wS => (xAdd64 rfl rfl (by omega) (by omega))) (sl_of (Ext.refl w).drew.drew) ?_
  refine hTake 10 rfl (by kernel_rfl) rfl (fun wS => (xIdx (at_ + k) Try.underlying64 ti98 rfl rfl (by omega) (by omega))) (sl_of (Ext.refl w).drew.drew) ?_
  refine hTakeS 11 rfl (by kernel_rfl) (by kernel_rfl) rfl (fun wS hS => (xLoadS [.int .i64 kd, .int .i64 ln, .string tx, .int .i64 num] Try.underlying98 rfl ti98 rfl rfl (fun j v hv => hS.cellS (ht j v hv)))) (sl_of (Ext.refl w).drew.drew) ?_
  refine hOne 12 (by kernel_rfl) (oTo rfl rfl (aNew (mAlloc ti98)) ?_)
  rintro _ w7 ⟨b7, rfl, hge7, hB7, he7⟩
  refine ⟨(sl_of ((Ext.refl w).drew.drew.trans he7)), ?_⟩
  refine hOne 13 (by kernel_rfl) (oStS rfl rfl ti98 rfl rfl rfl (by simp [Value.oneCell']) hB7 rfl ?_)
  intro wx hBx hCx
  have hex : Ext w wx := Chg.ext ((Ext.refl w).drew.drew.trans he7) hCx hge7
  refine ⟨(sl_of hex), ?_⟩
  refine hDone (by kernel_rfl) ?_
  refine wSeq ?_
  refine wReg ?_
  refine sRun (xFld0 Try.underlying98 rfl rfl ti3 (by decide) rfl) ?_
  refine sRun (xLoad Try.underlying3 rfl rfl (hBx.cell (i := 0) rfl)) ?_
  refine sSplit (xEqlD rfl rfl) (fun h34 => ?_) (fun h34 => ?_)
  · refine sRun (xMvB rfl) ?_
    refine sNo rfl ?_
    refine sNo rfl ?_
    refine sNo rfl ?_
    refine sRun (xPkTB rfl rfl) ?_
    refine sRun (xMvB rfl) ?_
    refine sGo rfl ?_
    refine sRun (xFld (k := 2) Try.underlying98 rfl rfl ti9 (by decide) rfl) ?_
    refine sGo rfl ?_
    refine sRun (xLoad Try.underlying9 rfl rfl (hBx.cell (i := 2) rfl)) ?_
    refine sGo rfl ?_
    refine sRun (xMvT rfl) ?_
    refine sGo rfl ?_
    refine sRun (xEqT rfl rfl) ?_
    refine sRun (xPkTB rfl rfl) ?_
    refine sRun (xAsB rfl) ?_
    refine sNil ?_
    refine wRet ?_
    refine res1 (P := Try.prog) (fn := Try.f29) rfl ?_
    refine ⟨congrArg Value.bool ?_, hex⟩
    rw [decide_eq_true h34]; simp
  · refine sRun (xMvB rfl) ?_
    refine sGo rfl ?_
    refine sRun (xFld0 Try.underlying98 rfl rfl ti3 (by decide) rfl) ?_
    refine sGo rfl ?_
    refine sRun (xLoad Try.underlying3 rfl rfl (hBx.cell (i := 0) rfl)) ?_
    refine sGo rfl ?_
    refine sSplit (xEqlD rfl rfl) (fun h38 => ?_) (fun h38 => ?_)
    · refine sRun (xPkFB rfl rfl) ?_
      refine sRun (xMvB rfl) ?_
      refine sGo rfl ?_
      refine sRun (xFld (k := 2) Try.underlying98 rfl rfl ti9 (by decide) rfl) ?_
      refine sGo rfl ?_
      refine sRun (xLoad Try.underlying9 rfl rfl (hBx.cell (i := 2) rfl)) ?_
      refine sGo rfl ?_
      refine sRun (xMvT rfl) ?_
      refine sGo rfl ?_
      refine sRun (xEqT rfl rfl) ?_
      refine sRun (xPkTB rfl rfl) ?_
      refine sRun (xAsB rfl) ?_
      refine sNil ?_
      refine wRet ?_
      refine res1 (P := Try.prog) (fn := Try.f29) rfl ?_
      refine ⟨congrArg Value.bool ?_, hex⟩
      rw [decide_eq_false h34, decide_eq_true h38]; simp
    · refine sRun (xPkFB rfl rfl) ?_
      refine sRun (xMvB rfl) ?_
      refine sNo rfl ?_
      refine sNo rfl ?_
      refine sNo rfl ?_
      refine sNo rfl ?_
      refine sRun (xPkFB rfl rfl) ?_
      refine sRun (xAsB rfl) ?_
      refine sNil ?_
      refine wRet ?_
      refine res1 (P := Try.prog) (fn := Try.f29) rfl ?_
      refine ⟨congrArg Value.bool ?_, hex⟩
      rw [decide_eq_false h34, decide_eq_false h38]; simp


theorem kind_spec (b tb to n c at_ k : Nat) (kd ln num kk : Int) (tx : ByteArray) (w : World) (hl : w.cell? ⟨b, 0, none⟩ = some (.slice (some ⟨tb, to, none⟩) n c)) (ha : w.cell? ⟨b, 1, none⟩ = some (.int .i64 (at_ : Nat)))
    (hk : at_ + k < n) (hn : n ≤ 1000000) (ht : ∀ j v, ([.int .i64 kd, .int .i64 ln, .string tx, .int .i64 num] : List Value)[j]? = some v → w.cell? ⟨tb, to + (at_ + k) * 4 + j, none⟩ = some v) :
    Calls Try.prog 34 #[.pointer (some ⟨b, 0, none⟩), .int .i64 (k : Nat), .int .i64 kk] w (Ret fun v w' => v = .bool (decide (kd = kk)) ∧ Ext w w') := by
  refine calls_of Try.func34 rfl (Nat.le_of_ble_eq_true rfl) (by kernel_rfl) ?_
  refine wCut [(0, .pointer (some ⟨b, 0, none⟩)), (1, .int .i64 (k : Nat)), (2, .int .i64 kk)] ⟨rfl, rfl, rfl, trivial⟩ fun g => ?_
  refine wSeq ?_
  refine wReg ?_
  refine sRun (xAsB rfl) ?_
  refine sNil ?_
  refine wSeq ?_
  refine wDraw (fun wS => Ext w wS) [] (by kernel_rfl) ?_
  refine hTake 0 rfl (by kernel_rfl) rfl (fun wS => (xMvP rfl)) (sl_of (Ext.refl w).drew) ?_
  refine hTake 1 rfl (by kernel_rfl) rfl (fun wS => (xNilC rfl)) (sl_of (Ext.refl w).drew) ?_
  refine hTake 2 rfl (by kernel_rfl) rfl (fun wS => (xFld (k := 1) Try.underlying69 rfl rfl ti3 (by decide) rfl)) (sl_of (Ext.refl w).drew) ?_
  refine hTakeS 3 rfl (by kernel_rfl) (by kernel_rfl) rfl (fun wS hS => (xLoad Try.underlying3 rfl rfl (hS.cellS ha))) (sl_of (Ext.refl w).drew) ?_
  refine hTake 4 rfl (by kernel_rfl) rfl (fun wS => (xMvI rfl)) (sl_of (Ext.refl w).drew) ?_
  refine hTake 5 rfl (by kernel_rfl) rfl (fun wS => (xAdd64 rfl rfl (by omega) (by omega))) (sl_of (Ext.refl w).drew) ?_
  refine hTake 6 rfl (by kernel_rfl) rfl (fun wS => (xMvP rfl)) (sl_of (Ext.refl w).drew) ?_
  refine hTake 7 rfl (by kernel_rfl) rfl (fun wS => (xNilC rfl)) (sl_of (Ext.refl w).drew) ?_
  refine hTake 8 rfl (by kernel_rfl) rfl (fun wS => (xFld0 Try.underlying69 rfl rfl ti64 (by decide) rfl)) (sl_of (Ext.refl w).drew) ?_
  refine hTakeS 9 rfl (by kernel_rfl) (by kernel_rfl) rfl (fun wS hS => (xLoad Try.underlying64 rfl rfl (hS.cellS hl))) (sl_of (Ext.refl w).drew) ?_
  refine hTake 10 rfl (by kernel_rfl) rfl (fun wS => (xLen Try.underlying64 rfl)) (sl_of (Ext.refl w).drew) ?_
  refine hTake 11 rfl (by kernel_rfl) rfl (fun wS => (xLssT rfl rfl (by omega))) (sl_of (Ext.refl w).drew) ?_
  refine hTake 12 rfl (by kernel_rfl) rfl (fun wS => (xMvB rfl)) (sl_of (Ext.refl w).drew) ?_
  refine hTake 13 rfl (by kernel_rfl) rfl (fun wS => (xMvP rfl)) (sl_of (Ext.refl w).drew) ?_
  refine hTake 14 rfl (by kernel_rfl) rfl (fun wS => (xNilC rfl)) (sl_of (Ext.refl w).drew) ?_
  refine hTake 15 rfl (by kernel_rfl) rfl (fun wS => (xFld0 Try.underlying69 rfl rfl ti64 (by decide) rfl)) (sl_of (Ext.refl w).drew) ?_
  refine hTakeS 16 rfl (by kernel_rfl) (by kernel_rfl) rfl (fun wS hS => (xLoad Try.underlying64 rfl rfl (hS.cellS hl))) (sl_of (Ext.refl w).drew) ?_
  refine hTake 17 rfl (by kernel_rfl) rfl (fun wS => (xMvP rfl)) (sl_of (Ext.refl w).drew) ?_
  refine hTake 18 rfl (by kernel_rfl) rfl (fun wS => (xNilC rfl)) (sl_of (Ext.refl w).drew) ?_
  refine hTake 19 rfl (by kernel_rfl) rfl (fun wS => (xFld (k := 1) Try.underlying69 rfl rfl ti3 (by decide) rfl)) (sl_of (Ext.refl w).drew) ?_
  refine hTakeS 20 rfl (by kernel_rfl) (by kernel_rfl) rfl (fun wS hS => (xLoad Try.underlying3 rfl rfl (hS.cellS ha))) (sl_of (Ext.refl w).drew) ?_
  refine hTake 21 rfl (by kernel_rfl) rfl (fun wS => (xMvI rfl)) (sl_of (Ext.refl w).drew) ?_
  refine hTake 22 rfl (by kernel_rfl) rfl (fun wS => (xAdd64 rfl rfl (by omega) (by omega))) (sl_of (Ext.refl w).drew) ?_
  refine hTake 23 rfl (by kernel_rfl) rfl (fun wS => (xIdx (at_ + k) Try.underlying64 ti98 rfl rfl (by omega) (by omega))) (sl_of (Ext.refl w).drew) ?_
  refine hTake 24 rfl (by kernel_rfl) rfl (fun wS => (xFld0 Try.underlying98 rfl rfl ti3 (by decide) rfl)) (sl_of (Ext.refl w).drew) ?_
  refine hTakeS 25 rfl (by kernel_rfl) (by kernel_rfl) rfl (fun wS hS => (xLoad Try.underlying3 rfl rfl (hS.cellS (ht 0 (.int .i64 kd) rfl)))) (sl_of (Ext.refl w).drew) ?_
  refine hTake 26 rfl (by kernel_rfl) rfl (fun wS => (xMvI rfl)) (sl_of (Ext.refl w).drew) ?_
  refine hTake 27 rfl (by kernel_rfl) rfl (fun wS => (xEqlD rfl rfl)) (sl_of (Ext.refl w).drew) ?_
  refine hTake 28 rfl (by kernel_rfl) rfl (fun wS => (xPkTB rfl rfl)) (sl_of (Ext.refl w).drew) ?_
  refine hTake 29 rfl (by kernel_rfl) rfl (fun wS => (xAsB rfl)) (sl_of (Ext.refl w).drew) ?_
  refine hDone (by kernel_rfl) ?_
  refine wRet ?_
  refine res1 (P := Try.prog) (fn := Try.f34) rfl ?_
  exact ⟨rfl, (Ext.refl w).drew⟩

def signsL : List ByteArray := [⟨#[43]⟩, ⟨#[45]⟩, ⟨#[42]⟩, ⟨#[47]⟩, ⟨#[37]⟩, ⟨#[38]⟩, ⟨#[124]⟩, ⟨#[94]⟩, ⟨#[60]⟩, ⟨#[60, 61]⟩, ⟨#[61, 61]⟩, ⟨#[33, 61]⟩]
theorem signs_at : ∀ k, k < 12 → ∃ sx ∈ signsL, (#[.string ⟨#[43]⟩, .string ⟨#[45]⟩, .string ⟨#[42]⟩, .string ⟨#[47]⟩, .string ⟨#[37]⟩, .string ⟨#[38]⟩, .string ⟨#[124]⟩, .string ⟨#[94]⟩, .string ⟨#[60]⟩, .string ⟨#[60, 61]⟩, .string ⟨#[61, 61]⟩, .string ⟨#[33, 61]⟩] : Array Value)[k]? = some (.string sx)
  | 0, _ => ⟨_, by simp [signsL], rfl⟩
  | 1, _ => ⟨_, by simp [signsL], rfl⟩
  | 2, _ => ⟨_, by simp [signsL], rfl⟩
  | 3, _ => ⟨_, by simp [signsL], rfl⟩
  | 4, _ => ⟨_, by simp [signsL], rfl⟩
  | 5, _ => ⟨_, by simp [signsL], rfl⟩
  | 6, _ => ⟨_, by simp [signsL], rfl⟩
  | 7, _ => ⟨_, by simp [signsL], rfl⟩
  | 8, _ => ⟨_, by simp [signsL], rfl⟩
  | 9, _ => ⟨_, by simp [signsL], rfl⟩
  | 10, _ => ⟨_, by simp [signsL], rfl⟩
  | 11, _ => ⟨_, by simp [signsL], rfl⟩
  | k + 12, h => absurd h (by omega)
theorem is_no (b tb to n c at_ k : Nat) (kd ln num : Int) (tx s : ByteArray) (w : World) (hl : w.cell? ⟨b, 0, none⟩ = some (.slice (some ⟨tb, to, none⟩) n c)) (ha : w.cell? ⟨b, 1, none⟩ = some (.int .i64 (at_ : Nat)))
    (hk : at_ + k < n) (hn : n ≤ 1000000) (ht : ∀ j v, ([.int .i64 kd, .int .i64 ln, .string tx, .int .i64 num] : List Value)[j]? = some v → w.cell? ⟨tb, to + (at_ + k) * 4 + j, none⟩ = some v) (hne : tx ≠ s) :
    Calls Try.prog 29 #[.pointer (some ⟨b, 0, none⟩), .int .i64 (k : Nat), .string s] w (Ret fun v w' => v = .bool false ∧ Ext w w') := by
  refine (is_spec b tb to n c at_ k kd ln num tx s w hl ha hk hn ht).mono fun e w' he => ?_
  obtain ⟨v, rfl, rfl, hx⟩ := he
  have hq : (tx == s) = false := by
    have h1 : (tx == s) = (tx.data == s.data) := rfl
    rw [h1]
    exact beq_false_of_ne fun e => hne (by cases tx; cases s; simp at e; rw [e])
  exact ⟨_, rfl, by rw [hq, Bool.and_false], hx⟩

theorem bs80_8 {ρ : Operand → Value} {w : World} {d : Option Nat} {ty : TypeId} {pos : String} {af : Array Edge} {g : Option (Nat × Bool)} {x0 : ByteArray} {x1 : ByteArray} {x2 : ByteArray} {x3 : ByteArray} {x4 : ByteArray} {x5 : ByteArray} {x6 : ByteArray} {x7 : ByteArray} {x8 : ByteArray} {x9 : ByteArray} {x10 : ByteArray} {x11 : ByteArray} {o0 : Operand} {o1 : Operand} {o2 : Operand} {o3 : Operand} {o4 : Operand} {o5 : Operand} {o6 : Operand} {o7 : Operand} {o8 : Operand} {o9 : Operand} {o10 : Operand} {o11 : Operand} (h0 : ρ o0 = .string x0) (h1 : ρ o1 = .string x1) (h2 : ρ o2 = .string x2) (h3 : ρ o3 = .string x3) (h4 : ρ o4 = .string x4) (h5 : ρ o5 = .string x5) (h6 : ρ o6 = .string x6) (h7 : ρ o7 = .string x7) (h8 : ρ o8 = .string x8) (h9 : ρ o9 = .string x9) (h10 : ρ o10 = .string x10) (h11 : ρ o11 = .string x11) :
    (execOp ρ ⟨d, .buildSlice 25 12 #[(0, o0), (1, o1), (2, o2), (3, o3), (4, o4), (5, o5), (6, o6), (7, o7), (8, o8), (9, o9), (10, o10), (11, o11)], ty, pos, af, g⟩).run Try.prog w = .ok (.value (.slice (some ⟨w.heap.size, 0, none⟩) 12 12)) (w.alloc (.cells #[.string x0, .string x1, .string x2, .string x3, .string x4, .string x5, .string x6, .string x7, .string x8, .string x9, .string x10, .string x11] 9)) := by
  have e : (Instr.buildSlice 25 12 #[(0, .string x0), (1, .string x1), (2, .string x2), (3, .string x3), (4, .string x4), (5, .string x5), (6, .string x6), (7, .string x7), (8, .string x8), (9, .string x9), (10, .string x10), (11, .string x11)]).run Try.prog w = .ok (.slice (some ⟨w.heap.size, 0, none⟩) 12 12) (w.alloc (.cells #[.string x0, .string x1, .string x2, .string x3, .string x4, .string x5, .string x6, .string x7, .string x8, .string x9, .string x10, .string x11] 9)) := by kernel_rfl
  simp [execOp, h0, h1, h2, h3, h4, h5, h6, h7, h8, h9, h10, h11, e]
theorem bs80_9 {ρ : Operand → Value} {w : World} {d : Option Nat} {ty : TypeId} {pos : String} {af : Array Edge} {g : Option (Nat × Bool)} {x0 : Int} {x1 : Int} {x2 : Int} {x3 : Int} {x4 : Int} {x5 : Int} {x6 : Int} {x7 : Int} {x8 : Int} {x9 : Int} {x10 : Int} {x11 : Int} {o0 : Operand} {o1 : Operand} {o2 : Operand} {o3 : Operand} {o4 : Operand} {o5 : Operand} {o6 : Operand} {o7 : Operand} {o8 : Operand} {o9 : Operand} {o10 : Operand} {o11 : Operand} (h0 : ρ o0 = .int .i64 x0) (h1 : ρ o1 = .int .i64 x1) (h2 : ρ o2 = .int .i64 x2) (h3 : ρ o3 = .int .i64 x3) (h4 : ρ o4 = .int .i64 x4) (h5 : ρ o5 = .int .i64 x5) (h6 : ρ o6 = .int .i64 x6) (h7 : ρ o7 = .int .i64 x7) (h8 : ρ o8 = .int .i64 x8) (h9 : ρ o9 = .int .i64 x9) (h10 : ρ o10 = .int .i64 x10) (h11 : ρ o11 = .int .i64 x11) :
    (execOp ρ ⟨d, .buildSlice 41 12 #[(0, o0), (1, o1), (2, o2), (3, o3), (4, o4), (5, o5), (6, o6), (7, o7), (8, o8), (9, o9), (10, o10), (11, o11)], ty, pos, af, g⟩).run Try.prog w = .ok (.value (.slice (some ⟨w.heap.size, 0, none⟩) 12 12)) (w.alloc (.cells #[.int .i64 x0, .int .i64 x1, .int .i64 x2, .int .i64 x3, .int .i64 x4, .int .i64 x5, .int .i64 x6, .int .i64 x7, .int .i64 x8, .int .i64 x9, .int .i64 x10, .int .i64 x11] 3)) := by
  have e : (Instr.buildSlice 41 12 #[(0, .int .i64 x0), (1, .int .i64 x1), (2, .int .i64 x2), (3, .int .i64 x3), (4, .int .i64 x4), (5, .int .i64 x5), (6, .int .i64 x6), (7, .int .i64 x7), (8, .int .i64 x8), (9, .int .i64 x9), (10, .int .i64 x10), (11, .int .i64 x11)]).run Try.prog w = .ok (.slice (some ⟨w.heap.size, 0, none⟩) 12 12) (w.alloc (.cells #[.int .i64 x0, .int .i64 x1, .int .i64 x2, .int .i64 x3, .int .i64 x4, .int .i64 x5, .int .i64 x6, .int .i64 x7, .int .i64 x8, .int .i64 x9, .int .i64 x10, .int .i64 x11] 3)) := by kernel_rfl
  simp [execOp, h0, h1, h2, h3, h4, h5, h6, h7, h8, h9, h10, h11, e]
theorem level_spec (b tb to n c at_ : Nat) (kd ln num : Int) (tx : ByteArray) (w0 : World) (hl : w0.cell? ⟨b, 0, none⟩ = some (.slice (some ⟨tb, to, none⟩) n c)) (ha : w0.cell? ⟨b, 1, none⟩ = some (.int .i64 (at_ : Nat)))
    (hk : at_ + 0 < n) (hn : n ≤ 1000000) (ht : ∀ j v, ([.int .i64 kd, .int .i64 ln, .string tx, .int .i64 num] : List Value)[j]? = some v → w0.cell? ⟨tb, to + (at_ + 0) * 4 + j, none⟩ = some v) (hno : ∀ sx ∈ signsL, tx ≠ sx) :
    Calls Try.prog 80 #[.pointer (some ⟨b, 0, none⟩)] w0 (Ret fun v w' => v = .tuple #[.int .i64 0, .int .i64 0] ∧ Ext w0 w') := by
  refine calls_of Try.func80 rfl (Nat.le_of_ble_eq_true rfl) (by kernel_rfl) ?_
  refine wCut [(0, .pointer (some ⟨b, 0, none⟩))] ⟨rfl, trivial⟩ fun g => ?_
  refine wSeq ?_
  refine wReg ?_
  refine sRun (xAsI rfl) ?_
  refine sRun (xAsI rfl) ?_
  refine sNil ?_
  refine wSeq ?_
  refine wReg ?_
  refine sTo (aRow (bs80_8 rfl rfl rfl rfl rfl rfl rfl rfl rfl rfl rfl rfl)) ?_
  rintro _ w8 ⟨b8, rfl, hge8, hB8, he8⟩
  refine sRun (xAsS rfl) ?_
  refine sNil ?_
  refine wSeq ?_
  refine wReg ?_
  refine sTo (aRow (bs80_9 rfl rfl rfl rfl rfl rfl rfl rfl rfl rfl rfl rfl)) ?_
  rintro _ w9 ⟨b9, rfl, hge9, hB9, he9⟩
  refine sRun (xAsS rfl) ?_
  refine sNil ?_
  refine wSeq ?_
  refine wSeq ?_
  refine wReg ?_
  refine sRun (xMvS rfl) ?_
  refine sRun (xLen Try.underlying25 rfl) ?_
  refine sRun (xMvI rfl) ?_
  refine sNil ?_
  refine wBlock ?_
  refine wLoopG (fun n' f w => ∃ k, n' = 12 - k ∧ k ≤ 12 ∧ Has f [(0, .pointer (some ⟨b, 0, none⟩)), (10, .slice (some ⟨b8, 0, none⟩) 12 12), (11, .int .i64 (12 : Nat)), (12, .int .i64 (k : Nat))] ∧ Ext w0 w ∧ Blk w b8 9 #[.string ⟨#[43]⟩, .string ⟨#[45]⟩, .string ⟨#[42]⟩, .string ⟨#[47]⟩, .string ⟨#[37]⟩, .string ⟨#[38]⟩, .string ⟨#[124]⟩, .string ⟨#[94]⟩, .string ⟨#[60]⟩, .string ⟨#[60, 61]⟩, .string ⟨#[61, 61]⟩, .string ⟨#[33, 61]⟩]) (12) ⟨0, rfl, Nat.zero_le _, ⟨rfl, rfl, rfl, rfl, trivial⟩, he8.trans he9, hB8.ext he9⟩ ?_
  rintro n' f w ⟨k, rfl, hk, hf0, hx, hB⟩
  obtain ⟨g, rfl⟩ := has_updL _ _ hf0
  clear hf0
  refine wSeq ?_
  refine wReg ?_
  refine sSplit (xLss rfl rfl) (fun h13 => ?_) (fun h13 => ?_)
  · obtain ⟨sx, hmem, hsx⟩ := signs_at k (by omega)
    refine sNil ?_
    refine wSeq ?_
    refine wIfT rfl ?_
    refine wSkip ?_
    refine wSeq ?_
    refine wBlock ?_
    refine wSeq ?_
    refine wReg ?_
    refine sRun (xMvI rfl) ?_
    refine sRun (xIdx1 k Try.underlying25 ti9 rfl rfl (by omega) (by omega)) ?_
    refine sRun (xLoad Try.underlying9 rfl rfl (by rw [Nat.zero_add]; exact hB.cell hsx)) ?_
    refine sRun (xAsI rfl) ?_
    refine sRun (xAsT rfl) ?_
    refine sNil ?_
    refine wSeq ?_
    refine wReg ?_
    refine sRun (xMvP rfl) ?_
    refine sRun (xMvT rfl) ?_
    refine sCall (eCall cal29 rfl) (is_no b tb to n c at_ 0 kd ln num tx sx _ (hx.cellS hl) (hx.cellS ha) (by omega) hn (fun j v hv => hx.cellS (ht j v hv)) (hno sx hmem)) ?_
    rintro _ w19 ⟨rfl, he19⟩
    refine sNil ?_
    refine wIfF rfl ?_
    refine wSkip ?_
    refine wReg ?_
    refine sRun (xAdd64 rfl rfl (by omega) (by omega)) ?_
    refine sRun (xMvI rfl) ?_
    refine sNil ?_
    refine ⟨12 - (k + 1), by omega, k + 1, rfl, by omega, ⟨rfl, rfl, rfl, rfl, trivial⟩, hx.trans he19, hB.ext he19⟩
  · refine sNil ?_
    refine wSeq ?_
    refine wIfF rfl ?_
    refine wExit ?_
    refine wSeq ?_
    refine wReg ?_
    refine sRun (xAsI rfl) ?_
    refine sRun (xAsI rfl) ?_
    refine sNil ?_
    refine wRet ?_
    refine res2 (P := Try.prog) (fn := Try.f80) rfl ?_
    exact ⟨rfl, hx⟩

end Go.Proofs.Ytikafojlhinonaa
