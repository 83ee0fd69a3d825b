/- The stable sort of at most twenty flights. -/
import Derived.Test.YtnppmdhgelfloaaL3
set_option linter.unusedVariables false
namespace Go.Proofs.Ytnppmdhgelfloaa
open Go.RowKit Go.Fw

theorem cal27 : Callable Try.prog 27 := ⟨_, Try.func27, by kernel_rfl, by kernel_rfl⟩
theorem cal29 : Callable Try.prog 29 := ⟨_, Try.func29, by kernel_rfl, by kernel_rfl⟩
theorem insertion_nil (A : Option Addr) (m c a : Nat) (w0 : World) (ha : a ≤ 4611686018427387904) : Calls Try.prog 29 #[.slice A m c, .int .i64 (a : Nat), .int .i64 (a : Nat), .func (.func 25) #[] #[]] w0 (Ret fun _ w' => w' = w0) := by
  refine calls_of Try.func29 rfl (Nat.le_of_ble_eq_true rfl) (by kernel_rfl) ?_
  refine wCut [(0, .slice A m c), (1, .int .i64 (a : Nat)), (2, .int .i64 (a : Nat)), (3, .func (.func 25) #[] #[])] ⟨rfl, rfl, rfl, rfl, trivial⟩ fun g => ?_
  refine wSeq ?_
  refine wReg ?_
  refine sRun (xMvI rfl) ?_
  refine sRun (xAdd64 rfl rfl (by omega) (by omega)) ?_
  refine sRun (xAsI rfl) ?_
  refine sNil ?_
  refine wBlock ?_
  refine wLoopG (fun n f w => Has f [(2, .int .i64 (a : Nat)), (8, .int .i64 ((a : Int) + 1))] ∧ w = w0) (0) ⟨⟨rfl, rfl, trivial⟩, rfl⟩ ?_
  rintro n f w ⟨hf0, rfl⟩
  obtain ⟨g, rfl⟩ := has_updL _ _ hf0
  clear hf0
  refine wSeq ?_
  refine wSeq ?_
  refine wReg ?_
  refine sRun (xMvI rfl) ?_
  refine sRun (xMvI rfl) ?_
  refine sRun (xLssF rfl rfl (by omega)) ?_
  refine sNil ?_
  refine wIfF rfl ?_
  refine wExit ?_
  refine res0 (P := Try.prog) (fn := Try.f29) rfl ?_
  exact rfl
/-- the insertion sort, whatever the stretch -/
theorem insertion_spec (A : Option Addr) (m c base a b : Nat) (pre S post : List G) (w0 : World) (ha : a = pre.length) (hb : b = a + S.length) (h1 : OneC (pre ++ S ++ post)) (ho : Own w0 base 37 2 A m c (fl (pre ++ S ++ post))) (hm : m ≤ 4611686018427387904) :
    Calls Try.prog 29 #[.slice A m c, .int .i64 (a : Nat), .int .i64 (b : Nat), .func (.func 25) #[] #[]] w0 (Ret fun _ w' => Own w' base 37 2 A m c (fl (pre ++ isort S ++ post)) ∧ w0.grownBy w' (rowOf A)) := by
  have hlen := ho.len
  rw [fl_len] at hlen
  simp only [List.length_append] at hlen
  by_cases hS : S = []
  · subst hS
    simp only [List.length_nil, Nat.add_zero] at hb
    subst hb
    refine (insertion_nil A m c b w0 (by omega)).mono fun e w' h => ?_
    obtain ⟨v, he, rfl⟩ := h
    exact ⟨v, he, ho, ⟨rfl, rfl, rfl, Nat.le_refl _, fun _ _ _ => rfl⟩⟩
  · have hS0 : 0 < S.length := List.length_pos_iff.2 hS
    obtain ⟨q, rfl⟩ := ho.adr (by omega)
    exact insertion_ne q m c base a b pre S post w0 ha hb hS h1 ho hm

theorem grownBy.trans {w1 w2 w3 : World} {r : Option Nat} (h : w1.grownBy w2 r) (k : w2.grownBy w3 r) : w1.grownBy w3 r :=
  ⟨k.os.trans h.os, k.tape.trans h.tape, k.output.trans h.output, Nat.le_trans h.size k.size, fun i hi hne => (k.block i (Nat.lt_of_lt_of_le hi h.size) hne).trans (h.block i hi hne)⟩
theorem stable20 (A : Option Addr) (c base : Nat) (gs : List G) (w0 : World) (hn : gs.length ≤ 20) (h1 : OneC gs) (ho : Own w0 base 37 2 A gs.length c (fl gs)) :
    Calls Try.prog 27 #[.slice A gs.length c, .int .i64 gs.length, .func (.func 25) #[] #[]] w0 (Ret fun _ w' => Own w' base 37 2 A gs.length c (fl (isort gs)) ∧ w0.grownBy w' (rowOf A)) := by
  refine calls_of Try.func27 rfl (Nat.le_of_ble_eq_true rfl) (by kernel_rfl) ?_
  refine wCut [(0, .slice A gs.length c), (1, .int .i64 gs.length), (2, .func (.func 25) #[] #[])] ⟨rfl, rfl, rfl, trivial⟩ fun g => ?_
  refine wSeq ?_
  refine wReg ?_
  refine sRun (xAsI rfl) ?_
  refine sNil ?_
  refine wSeq ?_
  refine wReg ?_
  refine sRun (xMvI rfl) ?_
  refine sRun (xAsI rfl) ?_
  refine sRun (xAsI rfl) ?_
  refine sNil ?_
  refine wSeq ?_
  refine wBlock ?_
  refine wLoopG (fun n f w => ∃ a b gl, Has f [(0, .slice A gs.length c), (1, .int .i64 gs.length), (2, .func (.func 25) #[] #[]), (6, .int .i64 20), (7, .int .i64 (a : Nat)), (8, .int .i64 (b : Nat))] ∧ Own w base 37 2 A gs.length c (fl gl) ∧ w0.grownBy w (rowOf A) ∧ ((n = 1 ∧ a = 0 ∧ b = 20 ∧ gl = gs) ∨ (n = 0 ∧ a = 20 ∧ b = 40 ∧ gs.length = 20 ∧ gl = isort gs))) (1) ⟨0, 20, gs, ⟨rfl, rfl, rfl, rfl, rfl, rfl, trivial⟩, ho, ⟨rfl, rfl, rfl, Nat.le_refl _, fun _ _ _ => rfl⟩, .inl ⟨rfl, rfl, rfl, rfl⟩⟩ ?_
  rintro n f w ⟨a, b, gl, hf0, ho, hg, hcs⟩
  obtain ⟨g, rfl⟩ := has_updL _ _ hf0
  clear hf0
  refine wSeq ?_
  refine wSeq ?_
  refine wReg ?_
  refine sRun (xMvI rfl) ?_
  refine sRun (xMvI rfl) ?_
  refine sSplit (xLeq rfl rfl) (fun h13 => ?_) (fun h13 => ?_)
  · rcases hcs with ⟨rfl, rfl, rfl, rfl⟩ | ⟨rfl, rfl, rfl, hg20, rfl⟩
    rotate_left
    · exfalso; omega
    have hg20 : gl.length = 20 := by omega
    refine sNil ?_
    refine wIfT rfl ?_
    refine wSkip ?_
    refine wBlock ?_
    refine wSeq ?_
    refine wReg ?_
    refine sRun (xMvS rfl) ?_
    refine sRun (xMvI rfl) ?_
    refine sRun (xMvI rfl) ?_
    refine sRun (xMvF rfl) ?_
    refine sCall (eCall cal29 rfl) (insertion_spec A _ c base 0 20 [] gl [] w rfl (by simp [hg20]) (by simpa using h1) (by simpa using ho) (by omega)) ?_
    rintro _ w18 ⟨ho18, hg18⟩
    simp only [List.nil_append, List.append_nil] at ho18
    refine sNil ?_
    refine wSeq ?_
    refine wReg ?_
    refine sRun (xMvI rfl) ?_
    refine sRun (xAsI rfl) ?_
    refine sNil ?_
    refine wReg ?_
    refine sRun (xMvI rfl) ?_
    refine sRun (xMvI rfl) ?_
    refine sRun (xAdd64 rfl rfl (by omega) (by omega)) ?_
    refine sRun (xAsI rfl) ?_
    refine sNil ?_
    refine ⟨0, by omega, 20, 40, isort gl, ⟨rfl, rfl, rfl, rfl, rfl, rfl, trivial⟩, ho18, grownBy.trans hg hg18, .inr ⟨rfl, rfl, rfl, hg20, rfl⟩⟩
  · have hgl : gl.length = gs.length := by rcases hcs with ⟨_, _, _, h⟩ | ⟨_, _, _, _, h⟩ <;> rw [h] <;> simp [isort_len]
    have h1g : OneC gl := by
      rcases hcs with ⟨_, _, _, h⟩ | ⟨_, _, _, _, h⟩
      · rw [h]; exact h1
      · rw [h]; exact fun y hy => h1 y (mem_of_atKey (isort_atKey gs) hy)
    have hag : a ≤ gs.length := by omega
    refine sNil ?_
    refine wIfF rfl ?_
    refine wExit ?_
    refine wSeq ?_
    refine wReg ?_
    refine sRun (xMvS rfl) ?_
    refine sRun (xMvI rfl) ?_
    refine sRun (xMvI rfl) ?_
    refine sRun (xMvF rfl) ?_
    refine sCall (eCall cal29 rfl) (insertion_spec A _ c base a gs.length (gl.take a) (gl.drop a) [] w (by simp; omega) (by simp; omega) (by rw [List.append_nil, List.take_append_drop]; exact h1g) (by rw [List.append_nil, List.take_append_drop]; exact ho) (by omega)) ?_
    rintro _ w27 ⟨ho27, hg27⟩
    refine sNil ?_
    refine wBlock ?_
    refine wLoopG (fun n f w => Has f [(1, .int .i64 gs.length), (6, .int .i64 20)] ∧ w = w27) (0) ⟨⟨rfl, rfl, trivial⟩, rfl⟩ ?_
    rintro n f w ⟨hf0, rfl⟩
    obtain ⟨g, rfl⟩ := has_updL _ _ hf0
    clear hf0
    refine wSeq ?_
    refine wSeq ?_
    refine wReg ?_
    refine sRun (xMvI rfl) ?_
    refine sRun (xMvI rfl) ?_
    refine sRun (xLssF rfl rfl (by omega)) ?_
    refine sNil ?_
    refine wIfF rfl ?_
    refine wExit ?_
    refine res0 (P := Try.prog) (fn := Try.f27) rfl ?_
    refine ⟨?_, grownBy.trans hg hg27⟩
    rcases hcs with ⟨_, rfl, _, rfl⟩ | ⟨_, rfl, _, hg20, rfl⟩
    · simpa using ho27
    · rw [List.take_of_length_le (by rw [isort_len]; omega), List.drop_eq_nil_of_le (by rw [isort_len]; omega)] at ho27
      simpa [isort] using ho27
/-- what is asked of the sort of up to M flights -/
def SortC (M : Nat) : Prop := ∀ (A : Option Addr) (c base : Nat) (gs : List G) (w0 : World), gs.length ≤ M → OneC gs → Own w0 base 37 2 A gs.length c (fl gs) →
    Calls Try.prog 24 #[.slice A gs.length c, .func (.func 25) #[] #[]] w0 (Ret fun _ w' => Own w' base 37 2 A gs.length c (fl (isort gs)) ∧ w0.grownBy w' (rowOf A))

theorem sort20 : SortC 20 := by
  intro A c base gs w0 hn h1 ho
  refine calls_of Try.func24 rfl (Nat.le_of_ble_eq_true rfl) (by kernel_rfl) ?_
  refine wCut [(0, .slice A gs.length c), (1, .func (.func 25) #[] #[])] ⟨rfl, rfl, trivial⟩ fun g => ?_
  refine wReg ?_
  refine sRun (xMvS rfl) ?_
  refine sRun (xMvS rfl) ?_
  refine sRun (xLen Try.underlying22 rfl) ?_
  refine sRun (xMvF rfl) ?_
  refine sCall (eCall cal27 rfl) (stable20 A c base gs w0 hn h1 ho) ?_
  rintro _ w8 ⟨ho8, hg8⟩
  refine sNil ?_
  refine res0 (P := Try.prog) (fn := Try.f24) rfl ?_
  exact ⟨ho8, hg8⟩

end Go.Proofs.Ytnppmdhgelfloaa
