/- Contracts, printed by gen4.py. -/
import Derived.Test.YtbpccmnalhdpmaaGf
import Derived.Test.YtbpccmnalhdpmaaOz
set_option linter.unusedVariables false
set_option linter.unusedSimpArgs false
set_option maxRecDepth 4000
namespace Go.Proofs.Ytbpccmnalhdpmaa
open Go.RowKit Go.Fw
theorem bs31_5 {ρ : Operand → Value} {w : World} {d : Option Nat} {ty : TypeId} {pos : String} {af : Array Edge} {g : Option (Nat × Bool)} :
    (execOp ρ ⟨d, .buildSlice 23 0 #[], ty, pos, af, g⟩).run Try.prog w = .ok (.value (.slice (some ⟨w.heap.size, 0, none⟩) 0 0)) (w.alloc (.cells #[] 69)) := by
  have e : (Instr.buildSlice 23 0 #[]).run Try.prog w = .ok (.slice (some ⟨w.heap.size, 0, none⟩) 0 0) (w.alloc (.cells #[] 69)) := by kernel_rfl
  simp [execOp, e]
theorem sp_clone31 (w0 w : World) (L0 : List It) (s : Lst GContext) (hs : Dat.ok (fun _ => True) w0 s) (hL : Bx w0 w L0) : Calls Try.prog 31 #[s.val] w (Ret fun v w' => ∃ A c, v = .slice A s.l.length c ∧ Bx w0 w' (.ownl A c 69 s.l :: L0)) := by
  have hs1 : s.ok (fun _ => True) w := Dat.ext (x := s) hs hL.1
  have hbd : s.l.length * 24 ≤ 140737488355328 := Lst.bd hs1
  refine calls_of Try.func31 rfl (Nat.le_of_ble_eq_true rfl) (by kernel_rfl) ?_
  refine wCut [(0, s.val)] ⟨rfl, trivial⟩ fun g => ?_
  refine wSeq (wReg (sRun (xAsS rfl) (sNil (wSeq (wSeq (wReg (sRun (xMvS rfl) (sRun (xNilEql Try.underlying23 rfl rfl) (sNil ?_)))))))))
  cases hA : s.a with
  | none =>
    have h0 : s.l = [] := by
      cases hl : s.l with
      | nil => rfl
      | cons a l =>
        have := (hs1.2 (by rw [hl]; simp)).1
        rw [hA] at this; cases this
    refine wIfT rfl (wSeq (wReg (sRun (xAsS rfl) (sNil (wRet ?_)))))
    refine res1 (P := Try.prog) (fn := Try.f31) rfl ?_
    rw [h0]
    exact ⟨none, 0, rfl, hL.owL GContext 69⟩
  | some a =>
    refine wIfF rfl (wSkip (wSeq (wReg (sTo (aRow bs31_5) ?_))))
    rintro _ w1 ⟨b1, rfl, hge1, hB1, he1⟩
    replace hL := (hL.new hge1 hB1 he1).boxOwn (n := 0) (size := Dat.sz GContext) (Nat.zero_le _) rfl
    have hsl : Sl w1 w1.heap.size (Dat.sz GContext) s.a s.l.length (s.l.flatMap Dat.cells) := Lst.sl (F := fun _ => True) (Dat.ext (x := s) hs1 he1)
    refine sRun (xMvS rfl) (sTo (aAppL (xs := ([] : List GContext)) (ys := s.l) Try.underlying23 ti69 rfl (by decide) rfl rfl (hL.bo 0 rfl) hsl ?_ ?_ ?_) ?_)
    · intro u hu
      obtain ⟨x, _, hx⟩ := List.mem_flatMap.1 hu
      exact allOne (l := Dat.cells x) rfl u hx
    · simp only [List.length_nil]; omega
    · simp only [List.length_nil]; omega
    rintro _ w2 ⟨A2, c2, rfl, ho2, hg2, hr2⟩
    replace hL : Bx w0 w2 (.ownl A2 c2 69 s.l :: L0) := hL.app 0 rfl ho2 hg2 hr2
    refine sRun (xAsS rfl) (sNil (wRet ?_))
    refine res1 (P := Try.prog) (fn := Try.f31) rfl ?_
    exact ⟨A2, c2, rfl, hL⟩
theorem bs32_5 {ρ : Operand → Value} {w : World} {d : Option Nat} {ty : TypeId} {pos : String} {af : Array Edge} {g : Option (Nat × Bool)} :
    (execOp ρ ⟨d, .buildSlice 24 0 #[], ty, pos, af, g⟩).run Try.prog w = .ok (.value (.slice (some ⟨w.heap.size, 0, none⟩) 0 0)) (w.alloc (.cells #[] 72)) := by
  have e : (Instr.buildSlice 24 0 #[]).run Try.prog w = .ok (.slice (some ⟨w.heap.size, 0, none⟩) 0 0) (w.alloc (.cells #[] 72)) := by kernel_rfl
  simp [execOp, e]
theorem sp_clone32 (w0 w : World) (L0 : List It) (s : Lst GObject) (hs : Dat.ok (fun _ => True) w0 s) (hL : Bx w0 w L0) : Calls Try.prog 32 #[s.val] w (Ret fun v w' => ∃ A c, v = .slice A s.l.length c ∧ Bx w0 w' (.ownl A c 72 s.l :: L0)) := by
  have hs1 : s.ok (fun _ => True) w := Dat.ext (x := s) hs hL.1
  have hbd : s.l.length * 24 ≤ 140737488355328 := Lst.bd hs1
  refine calls_of Try.func32 rfl (Nat.le_of_ble_eq_true rfl) (by kernel_rfl) ?_
  refine wCut [(0, s.val)] ⟨rfl, trivial⟩ fun g => ?_
  refine wSeq (wReg (sRun (xAsS rfl) (sNil (wSeq (wSeq (wReg (sRun (xMvS rfl) (sRun (xNilEql Try.underlying24 rfl rfl) (sNil ?_)))))))))
  cases hA : s.a with
  | none =>
    have h0 : s.l = [] := by
      cases hl : s.l with
      | nil => rfl
      | cons a l =>
        have := (hs1.2 (by rw [hl]; simp)).1
        rw [hA] at this; cases this
    refine wIfT rfl (wSeq (wReg (sRun (xAsS rfl) (sNil (wRet ?_)))))
    refine res1 (P := Try.prog) (fn := Try.f32) rfl ?_
    rw [h0]
    exact ⟨none, 0, rfl, hL.owL GObject 72⟩
  | some a =>
    refine wIfF rfl (wSkip (wSeq (wReg (sTo (aRow bs32_5) ?_))))
    rintro _ w1 ⟨b1, rfl, hge1, hB1, he1⟩
    replace hL := (hL.new hge1 hB1 he1).boxOwn (n := 0) (size := Dat.sz GObject) (Nat.zero_le _) rfl
    have hsl : Sl w1 w1.heap.size (Dat.sz GObject) s.a s.l.length (s.l.flatMap Dat.cells) := Lst.sl (F := fun _ => True) (Dat.ext (x := s) hs1 he1)
    refine sRun (xMvS rfl) (sTo (aAppL (xs := ([] : List GObject)) (ys := s.l) Try.underlying24 ti72 rfl (by decide) rfl rfl (hL.bo 0 rfl) hsl ?_ ?_ ?_) ?_)
    · intro u hu
      obtain ⟨x, _, hx⟩ := List.mem_flatMap.1 hu
      exact allOne (l := Dat.cells x) rfl u hx
    · simp only [List.length_nil]; omega
    · simp only [List.length_nil]; omega
    rintro _ w2 ⟨A2, c2, rfl, ho2, hg2, hr2⟩
    replace hL : Bx w0 w2 (.ownl A2 c2 72 s.l :: L0) := hL.app 0 rfl ho2 hg2 hr2
    refine sRun (xAsS rfl) (sNil (wRet ?_))
    refine res1 (P := Try.prog) (fn := Try.f32) rfl ?_
    exact ⟨A2, c2, rfl, hL⟩
theorem bs75_5 {ρ : Operand → Value} {w : World} {d : Option Nat} {ty : TypeId} {pos : String} {af : Array Edge} {g : Option (Nat × Bool)} :
    (execOp ρ ⟨d, .buildSlice 53 0 #[], ty, pos, af, g⟩).run Try.prog w = .ok (.value (.slice (some ⟨w.heap.size, 0, none⟩) 0 0)) (w.alloc (.cells #[] 66)) := by
  have e : (Instr.buildSlice 53 0 #[]).run Try.prog w = .ok (.slice (some ⟨w.heap.size, 0, none⟩) 0 0) (w.alloc (.cells #[] 66)) := by kernel_rfl
  simp [execOp, e]
theorem sp_clone75 (w0 w : World) (L0 : List It) (s : Lst GOp) (hs : Dat.ok (fun _ => True) w0 s) (hL : Bx w0 w L0) : Calls Try.prog 75 #[s.val] w (Ret fun v w' => ∃ A c, v = .slice A s.l.length c ∧ Bx w0 w' (.ownl A c 66 s.l :: L0)) := by
  have hs1 : s.ok (fun _ => True) w := Dat.ext (x := s) hs hL.1
  have hbd : s.l.length * 88 ≤ 140737488355328 := Lst.bd hs1
  refine calls_of Try.func75 rfl (Nat.le_of_ble_eq_true rfl) (by kernel_rfl) ?_
  refine wCut [(0, s.val)] ⟨rfl, trivial⟩ fun g => ?_
  refine wSeq (wReg (sRun (xAsS rfl) (sNil (wSeq (wSeq (wReg (sRun (xMvS rfl) (sRun (xNilEql Try.underlying53 rfl rfl) (sNil ?_)))))))))
  cases hA : s.a with
  | none =>
    have h0 : s.l = [] := by
      cases hl : s.l with
      | nil => rfl
      | cons a l =>
        have := (hs1.2 (by rw [hl]; simp)).1
        rw [hA] at this; cases this
    refine wIfT rfl (wSeq (wReg (sRun (xAsS rfl) (sNil (wRet ?_)))))
    refine res1 (P := Try.prog) (fn := Try.f75) rfl ?_
    rw [h0]
    exact ⟨none, 0, rfl, hL.owL GOp 66⟩
  | some a =>
    refine wIfF rfl (wSkip (wSeq (wReg (sTo (aRow bs75_5) ?_))))
    rintro _ w1 ⟨b1, rfl, hge1, hB1, he1⟩
    replace hL := (hL.new hge1 hB1 he1).boxOwn (n := 0) (size := Dat.sz GOp) (Nat.zero_le _) rfl
    have hsl : Sl w1 w1.heap.size (Dat.sz GOp) s.a s.l.length (s.l.flatMap Dat.cells) := Lst.sl (F := fun _ => True) (Dat.ext (x := s) hs1 he1)
    refine sRun (xMvS rfl) (sTo (aAppL (xs := ([] : List GOp)) (ys := s.l) Try.underlying53 ti66 rfl (by decide) rfl rfl (hL.bo 0 rfl) hsl ?_ ?_ ?_) ?_)
    · intro u hu
      obtain ⟨x, _, hx⟩ := List.mem_flatMap.1 hu
      exact allOne (l := Dat.cells x) rfl u hx
    · simp only [List.length_nil]; omega
    · simp only [List.length_nil]; omega
    rintro _ w2 ⟨A2, c2, rfl, ho2, hg2, hr2⟩
    replace hL : Bx w0 w2 (.ownl A2 c2 66 s.l :: L0) := hL.app 0 rfl ho2 hg2 hr2
    refine sRun (xAsS rfl) (sNil (wRet ?_))
    refine res1 (P := Try.prog) (fn := Try.f75) rfl ?_
    exact ⟨A2, c2, rfl, hL⟩
theorem bs129_5 {ρ : Operand → Value} {w : World} {d : Option Nat} {ty : TypeId} {pos : String} {af : Array Edge} {g : Option (Nat × Bool)} :
    (execOp ρ ⟨d, .buildSlice 37 0 #[], ty, pos, af, g⟩).run Try.prog w = .ok (.value (.slice (some ⟨w.heap.size, 0, none⟩) 0 0)) (w.alloc (.cells #[] 3)) := by
  have e : (Instr.buildSlice 37 0 #[]).run Try.prog w = .ok (.slice (some ⟨w.heap.size, 0, none⟩) 0 0) (w.alloc (.cells #[] 3)) := by kernel_rfl
  simp [execOp, e]
theorem sp_clone129 (w0 w : World) (L0 : List It) (s : Lst Int) (hs : Dat.ok (fun _ => True) w0 s) (hL : Bx w0 w L0) : Calls Try.prog 129 #[s.val] w (Ret fun v w' => ∃ A c, v = .slice A s.l.length c ∧ Bx w0 w' (.ownl A c 3 s.l :: L0)) := by
  have hs1 : s.ok (fun _ => True) w := Dat.ext (x := s) hs hL.1
  have hbd : s.l.length * 8 ≤ 140737488355328 := Lst.bd hs1
  refine calls_of Try.func129 rfl (Nat.le_of_ble_eq_true rfl) (by kernel_rfl) ?_
  refine wCut [(0, s.val)] ⟨rfl, trivial⟩ fun g => ?_
  refine wSeq (wReg (sRun (xAsS rfl) (sNil (wSeq (wSeq (wReg (sRun (xMvS rfl) (sRun (xNilEql Try.underlying37 rfl rfl) (sNil ?_)))))))))
  cases hA : s.a with
  | none =>
    have h0 : s.l = [] := by
      cases hl : s.l with
      | nil => rfl
      | cons a l =>
        have := (hs1.2 (by rw [hl]; simp)).1
        rw [hA] at this; cases this
    refine wIfT rfl (wSeq (wReg (sRun (xAsS rfl) (sNil (wRet ?_)))))
    refine res1 (P := Try.prog) (fn := Try.f129) rfl ?_
    rw [h0]
    exact ⟨none, 0, rfl, hL.owL Int 3⟩
  | some a =>
    refine wIfF rfl (wSkip (wSeq (wReg (sTo (aRow bs129_5) ?_))))
    rintro _ w1 ⟨b1, rfl, hge1, hB1, he1⟩
    replace hL := (hL.new hge1 hB1 he1).boxOwn (n := 0) (size := Dat.sz Int) (Nat.zero_le _) rfl
    have hsl : Sl w1 w1.heap.size (Dat.sz Int) s.a s.l.length (s.l.flatMap Dat.cells) := Lst.sl (F := fun _ => True) (Dat.ext (x := s) hs1 he1)
    refine sRun (xMvS rfl) (sTo (aAppL (xs := ([] : List Int)) (ys := s.l) Try.underlying37 ti3 rfl (by decide) rfl rfl (hL.bo 0 rfl) hsl ?_ ?_ ?_) ?_)
    · intro u hu
      obtain ⟨x, _, hx⟩ := List.mem_flatMap.1 hu
      exact allOne (l := Dat.cells x) rfl u hx
    · simp only [List.length_nil]; omega
    · simp only [List.length_nil]; omega
    rintro _ w2 ⟨A2, c2, rfl, ho2, hg2, hr2⟩
    replace hL : Bx w0 w2 (.ownl A2 c2 3 s.l :: L0) := hL.app 0 rfl ho2 hg2 hr2
    refine sRun (xAsS rfl) (sNil (wRet ?_))
    refine res1 (P := Try.prog) (fn := Try.f129) rfl ?_
    exact ⟨A2, c2, rfl, hL⟩

end Go.Proofs.Ytbpccmnalhdpmaa
