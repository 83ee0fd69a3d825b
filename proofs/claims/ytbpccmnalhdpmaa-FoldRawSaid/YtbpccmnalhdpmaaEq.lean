/- Structs with a struct in them, compared. Over any program. -/
import Derived.Test.YtbpccmnalhdpmaaOx
set_option linter.unusedVariables false
namespace Go.Fw
open Go.RowKit
theorem eq_ag3d {P : Program} {w : World} (dp : Nat) {t : TypeId} {f0 f1 f2 : Field} {a b c a' b' c' : Int} (ht : P.underlying t = some (.struct #[f0, f1, f2])) (hf : (isI P f0 0 && isI P f1 1 && isI P f2 2) = true) (hp : P.stoodInHeld t = false) :
    (Op.equalIn (dp + 4 + 1) t (.agg #[.int .i64 a, .int .i64 b, .int .i64 c]) (.agg #[.int .i64 a', .int .i64 b', .int .i64 c'])).run P w = .ok (decide ([a, b, c] = [a', b', c'])) w := by
  simp only [Bool.and_eq_true] at hf
  have hfs : P.fieldsOf t = #[f0, f1, f2] := by unfold Program.fieldsOf; rw [ht]
  rw [run_equalIn_struct (P := P) w (dp + 4) t _ _ (by rw [hfs, ht]) hp, hfs]
  rw [show (#[f0, f1, f2] : Array Field).toList = [f0, f1, f2] from rfl]
  rw [eqF_step (P := P) (dp := dp + 3) hf.1.1 rfl rfl, eqF_step (P := P) (dp := dp + 3) hf.1.2 rfl rfl, eqF_step (P := P) (dp := dp + 3) hf.2 rfl rfl]
  by_cases h1 : a = a' <;> by_cases h2 : b = b' <;> by_cases h3 : c = c' <;> simp [h1, h2, h3, Op.eqFields]
/-- a field that is a struct of three numbers -/
def isS3 (P : Program) (f : Field) (o : Nat) : Bool := f.name != "_" && f.offset == o && (match P.underlying f.type with | some (.struct fs) => (match fs.toList with | [g0, g1, g2] => isI P g0 0 && isI P g1 1 && isI P g2 2 | _ => false) | _ => false) && !P.stoodInHeld f.type && P.cellsOf f.type == 3
theorem eqF_step3 {P : Program} {w : World} {f : Field} {fs : List Field} {o dp : Nat} {xs ys : Array Value} {a b c a' b' c' : Int} (h : isS3 P f o = true) (hx : xs.extract o (o + 3) = #[.int .i64 a, .int .i64 b, .int .i64 c]) (hy : ys.extract o (o + 3) = #[.int .i64 a', .int .i64 b', .int .i64 c']) (hi : ∃ i, P.info? f.type = some i ∧ i.size = 3) :
    (Op.eqFields (dp + 4 + 1) xs ys (f :: fs)).run P w = if [a, b, c] = [a', b', c'] then (Op.eqFields (dp + 4 + 1) xs ys fs).run P w else .ok false w := by
  simp only [isS3, Bool.and_eq_true, bne_iff_ne, ne_eq, beq_iff_eq, Bool.not_eq_true'] at h
  obtain ⟨⟨⟨⟨h1, rfl⟩, h3⟩, h4⟩, h5⟩ := h
  cases hu : P.underlying f.type with
  | none => rw [hu] at h3; cases h3
  | some D =>
    rw [hu] at h3
    cases D with
    | struct gs =>
      replace h3 : (match gs.toList with | [g0, g1, g2] => isI P g0 0 && isI P g1 1 && isI P g2 2 | _ => false) = true := h3
      obtain ⟨g0, g1, g2, hg⟩ : ∃ g0 g1 g2, gs.toList = [g0, g1, g2] := by
        match hq : gs.toList with
        | [g0, g1, g2] => exact ⟨_, _, _, rfl⟩
        | [] => rw [hq] at h3; cases h3
        | [_] => rw [hq] at h3; cases h3
        | [_, _] => rw [hq] at h3; cases h3
        | _ :: _ :: _ :: _ :: _ => rw [hq] at h3; cases h3
      obtain rfl : gs = #[g0, g1, g2] := by apply Array.ext'; rw [hg]
      have hf3 : (isI P g0 0 && isI P g1 1 && isI P g2 2) = true := h3
      have hagg : (isAgg f.type).run P w = .ok true w := by
        unfold isAgg
        rw [Sem.run_bind, run_underlying hu w]
        simp
      obtain ⟨i, hi1, hi2⟩ := hi
      have hp1 : (part f.type xs f.offset).run P w = .ok (.agg #[.int .i64 a, .int .i64 b, .int .i64 c]) w := by
        have hl : f.offset + 3 ≤ xs.size := by have := congrArg Array.size hx; simp at this; omega
        simp [part, hagg, sizeOf, typeInfo, hi1, hi2, hx, hl]
      have hp2 : (part f.type ys f.offset).run P w = .ok (.agg #[.int .i64 a', .int .i64 b', .int .i64 c']) w := by
        have hl : f.offset + 3 ≤ ys.size := by have := congrArg Array.size hy; simp at this; omega
        simp [part, hagg, sizeOf, typeInfo, hi1, hi2, hy, hl]
      have he := eq_ag3d (P := P) (w := w) dp (a := a) (b := b) (c := c) (a' := a') (b' := b') (c' := c') hu hf3 h4
      conv => lhs; unfold Op.eqFields
      rw [if_pos h1]
      simp only [Sem.run_bind, hp1, hp2, Result.andThen_ok, he]
      by_cases hab : [a, b, c] = [a', b', c']
      · rw [if_pos hab, decide_eq_true hab]; simp
      · rw [if_neg hab, decide_eq_false hab]; simp
    | _ => cases h3
section
variable {P : Program} {ρ : Operand → Value} {d : Option Nat} {ty : TypeId} {pos : String} {af : Array Edge} {g : Option (Nat × Bool)} {w : World}
theorem xAgNe11 {t t' : TypeId} {x y : Operand} {f0 f1 f2 f3 f4 f5 f6 f7 f8 : Field} {a0 a1 a2 a3 a4 a5 a6 a7 a8 a9 a10 b0 b1 b2 b3 b4 b5 b6 b7 b8 b9 b10 : Int} (ht : P.underlying t = some (.struct #[f0, f1, f2, f3, f4, f5, f6, f7, f8]))
    (hf : (isI P f0 0 && (isI P f1 1 && (isI P f2 2 && (isI P f3 3 && (isI P f4 4 && (isI P f5 5 && (isI P f6 6 && (isI P f7 7 && (isS3 P f8 8 && ((P.info? f8.type).map (·.size) == some 3)))))))))) = true) (hp : P.stoodInHeld t = false) (hm : P.eqGuardType P.depth t = false)
    (hx : ρ x = .agg #[.int .i64 a0, .int .i64 a1, .int .i64 a2, .int .i64 a3, .int .i64 a4, .int .i64 a5, .int .i64 a6, .int .i64 a7, .int .i64 a8, .int .i64 a9, .int .i64 a10])
    (hy : ρ y = .agg #[.int .i64 b0, .int .i64 b1, .int .i64 b2, .int .i64 b3, .int .i64 b4, .int .i64 b5, .int .i64 b6, .int .i64 b7, .int .i64 b8, .int .i64 b9, .int .i64 b10]) :
    Yl P ρ (.binOp .neq t x y t') d ty pos af g w (.bool (decide (¬ [a0, a1, a2, a3, a4, a5, a6, a7, a8, a9, a10] = [b0, b1, b2, b3, b4, b5, b6, b7, b8, b9, b10]))) := by
  have h1 := run_neq_struct (P := P) w t #[.int .i64 a0, .int .i64 a1, .int .i64 a2, .int .i64 a3, .int .i64 a4, .int .i64 a5, .int .i64 a6, .int .i64 a7, .int .i64 a8, .int .i64 a9, .int .i64 a10] #[.int .i64 b0, .int .i64 b1, .int .i64 b2, .int .i64 b3, .int .i64 b4, .int .i64 b5, .int .i64 b6, .int .i64 b7, .int .i64 b8, .int .i64 b9, .int .i64 b10]
  have h2 := run_eqGuard_agg (P := P) w .neq t x y #[.int .i64 a0, .int .i64 a1, .int .i64 a2, .int .i64 a3, .int .i64 a4, .int .i64 a5, .int .i64 a6, .int .i64 a7, .int .i64 a8, .int .i64 a9, .int .i64 a10] #[.int .i64 b0, .int .i64 b1, .int .i64 b2, .int .i64 b3, .int .i64 b4, .int .i64 b5, .int .i64 b6, .int .i64 b7, .int .i64 b8, .int .i64 b9, .int .i64 b10] hm
  simp only [Bool.and_eq_true, beq_iff_eq] at hf
  obtain ⟨e0, e1, e2, e3, e4, e5, e6, e7, e8, e9⟩ := hf
  have hi8 : ∃ i, P.info? f8.type = some i ∧ i.size = 3 := by
    cases hq : P.info? f8.type with
    | none => rw [hq] at e9; cases e9
    | some i => rw [hq] at e9; exact ⟨i, rfl, by simpa using e9⟩
  have key : (Op.equalIn 10000 t (.agg #[.int .i64 a0, .int .i64 a1, .int .i64 a2, .int .i64 a3, .int .i64 a4, .int .i64 a5, .int .i64 a6, .int .i64 a7, .int .i64 a8, .int .i64 a9, .int .i64 a10]) (.agg #[.int .i64 b0, .int .i64 b1, .int .i64 b2, .int .i64 b3, .int .i64 b4, .int .i64 b5, .int .i64 b6, .int .i64 b7, .int .i64 b8, .int .i64 b9, .int .i64 b10])).run P w = .ok (decide ([a0, a1, a2, a3, a4, a5, a6, a7, a8, a9, a10] = [b0, b1, b2, b3, b4, b5, b6, b7, b8, b9, b10])) w := by
    have hfs : P.fieldsOf t = #[f0, f1, f2, f3, f4, f5, f6, f7, f8] := by unfold Program.fieldsOf; rw [ht]
    rw [run_equalIn_struct (P := P) w 9999 t _ _ (by rw [hfs, ht]) hp, hfs]
    rw [show (#[f0, f1, f2, f3, f4, f5, f6, f7, f8] : Array Field).toList = [f0, f1, f2, f3, f4, f5, f6, f7, f8] from rfl]
    rw [eqF_step (P := P) (dp := 9998) e0 rfl rfl, eqF_step (P := P) (dp := 9998) e1 rfl rfl, eqF_step (P := P) (dp := 9998) e2 rfl rfl, eqF_step (P := P) (dp := 9998) e3 rfl rfl, eqF_step (P := P) (dp := 9998) e4 rfl rfl, eqF_step (P := P) (dp := 9998) e5 rfl rfl, eqF_step (P := P) (dp := 9998) e6 rfl rfl, eqF_step (P := P) (dp := 9998) e7 rfl rfl,
      eqF_step3 (P := P) (dp := 9994) (a := a8) (b := a9) (c := a10) (a' := b8) (b' := b9) (c' := b10) e8 rfl rfl hi8]
    by_cases c0 : a0 = b0
    · by_cases c1 : a1 = b1
      · by_cases c2 : a2 = b2
        · by_cases c3 : a3 = b3
          · by_cases c4 : a4 = b4
            · by_cases c5 : a5 = b5
              · by_cases c6 : a6 = b6
                · by_cases c7 : a7 = b7
                  · by_cases c8 : [a8, a9, a10] = [b8, b9, b10]
                    · simp only [c0, c1, c2, c3, c4, c5, c6, c7, c8, if_true, Op.eqFields]; simp
                    · rw [if_pos c0, if_pos c1, if_pos c2, if_pos c3, if_pos c4, if_pos c5, if_pos c6, if_pos c7, if_neg c8, decide_eq_false]
                      intro h; simp only [List.cons.injEq, and_true] at h; exact c8 (by rw [h.2.2.2.2.2.2.2.2.1, h.2.2.2.2.2.2.2.2.2.1, h.2.2.2.2.2.2.2.2.2.2])
                  · simp [c0, c1, c2, c3, c4, c5, c6, c7]
                · simp [c0, c1, c2, c3, c4, c5, c6]
              · simp [c0, c1, c2, c3, c4, c5]
            · simp [c0, c1, c2, c3, c4]
          · simp [c0, c1, c2, c3]
        · simp [c0, c1, c2]
      · simp [c0, c1]
    · simp [c0]
  rw [key] at h1
  have e : decide (¬ [a0, a1, a2, a3, a4, a5, a6, a7, a8, a9, a10] = [b0, b1, b2, b3, b4, b5, b6, b7, b8, b9, b10]) = !decide ([a0, a1, a2, a3, a4, a5, a6, a7, a8, a9, a10] = [b0, b1, b2, b3, b4, b5, b6, b7, b8, b9, b10]) := by
    by_cases h : [a0, a1, a2, a3, a4, a5, a6, a7, a8, a9, a10] = [b0, b1, b2, b3, b4, b5, b6, b7, b8, b9, b10]
    · rw [decide_eq_true h, decide_eq_false (not_not_intro h)]; rfl
    · rw [decide_eq_false h, decide_eq_true h]; rfl
  rw [e]
  simp only [Yl, execOp, hx, hy, Sem.run_bind, h2, Result.andThen_ok, h1]
  rfl
end
end Go.Fw
