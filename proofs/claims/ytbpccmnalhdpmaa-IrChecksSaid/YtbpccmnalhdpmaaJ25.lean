/- IrChecks: E11. -/
import Derived.Test.YtbpccmnalhdpmaaJ24
set_option linter.unusedVariables false
namespace Go.Ev
open Go.RowKit Go.Fw
noncomputable section
section
variable {P : Program} {Θ : T (Option TyI)} (hΘ : Θ.All (TyQ P)) {CV : T (Option Site)} {σ : Nat → Int} {Γ : Env} (hΓ : Γ.Ok σ)
variable {fr : T V} {out : Out} {d : Option Nat} {ty : TypeId} {pos : String} {af : Array Edge} {g : Option (Nat × Bool)}

theorem lenN_eq : ∀ l : List (U × U), lenN l = l.length
  | [] => rfl
  | _ :: l => congrArg Nat.succ (lenN_eq l)
theorem DE.len {η : Eta} : ∀ {l : List (U × U)} {es : List MapEntry}, DE σ η l es → es.length = l.length
  | [], _, h => by rw [show _ = _ from h]; rfl
  | (_, _) :: _, _, ⟨e, es', h1, _, _, h4⟩ => by rw [h1]; simp [DE.len h4]
theorem rdLm {t kt et : TypeId} {x : Operand} {x' : X} {c : Call} {h : AH} {K : V → R} (hc : c.callee = .builtin .len) (hxs : c.args = #[x]) (hts : c.argTypes = #[t]) (ht : P.underlying t = some (.map kt et)) (hx : cvX x = some x') (hr : rLm x' Γ fr h K = some out) :
    ∃ v, K v = some out ∧ RDoes P CV σ fr h ⟨d, .call c, ty, pos, af, g⟩ v := by
  obtain ⟨c1, c2, c3⟩ := c
  simp only at hc hxs hts
  subst hc; subst hxs; subst hts
  obtain ⟨a, ha, g1⟩ := aK_some hr
  rcases mK_some g1 with ⟨rfl, g2⟩ | ⟨r, rfl, g2⟩
  · refine ⟨_, g2, fun η f w hX hh => ⟨.int .i64 ((0 : Nat) : Int), ?_, rfl⟩⟩
    have dx := hX.get (by simp [Op.operands, Call.operands]) hx
    rw [ha] at dx
    have dx : ev f x = .map none := dx
    simp [execOp, resolve, invoke, builtin, Builtin.len_, run_underlying ht, dx, goInt]
  · obtain ⟨es, hrow, g3⟩ := rowM_some g2
    rw [frc_eq] at g3
    refine ⟨_, g3, fun η f w hX hh => ⟨.int .i64 ((lenN es : Nat) : Int), ?_, rfl⟩⟩
    have dx := hX.get (by simp [Op.operands, Call.operands]) hx
    rw [ha] at dx
    obtain ⟨b, c, h1, h2⟩ := dx
    have hR := hh.rows r b c (by unfold Eta.cut; rw [if_pos (hh.lt (by rw [hrow]; exact fun e => Row.noConfusion e))]; exact h1)
    rw [hrow] at hR
    obtain ⟨ents, clock, r1, r2⟩ := hR
    have ro : (getObj b).run P w = .ok (.map ents clock) w := run_getObj_some r1
    have hl := r2.len
    rw [lenN_eq, ← hl]
    simp [execOp, resolve, invoke, builtin, Builtin.len_, run_underlying ht, h2, ro, goInt]
include hΘ hΓ in
theorem sR (o : Oper) (op : OR) (h : AH) (K : V → R) (hc : cvR Θ o.op = some op) (hk : exR op Γ fr h K = some out) : ∃ v, K v = some out ∧ RDoes P CV σ fr h o v := by
  obtain ⟨d, p, ty, pos, af, g⟩ := o
  simp only at hc
  cases p
  case load t x =>
    obtain ⟨i, hi, hc⟩ := Option.bind_eq_some_iff.1 hc
    obtain ⟨x', hx, hc⟩ := Option.map_eq_some_iff.1 hc
    cases hb : aggD i.D with
    | true => rw [hb] at hc; subst hc; exact rdLg (Γ := Γ) (tyOf_ok hΘ hi) hb hx hk
    | false => rw [hb] at hc; subst hc; exact rdLd (Γ := Γ) (tyOf_ok hΘ hi) hb hx hk
  case lookup t x k ok =>
    obtain ⟨i, hi, hc⟩ := Option.bind_eq_some_iff.1 hc
    have hu := (tyOf_ok hΘ hi).1
    cases hD : i.D
    case map kt et =>
      rw [hD] at hc hu
      obtain ⟨ik, hik, hc⟩ := Option.bind_eq_some_iff.1 hc
      obtain ⟨ie, hie, hc⟩ := Option.bind_eq_some_iff.1 hc
      obtain ⟨ks, hks, hc⟩ := Option.bind_eq_some_iff.1 hc
      obtain ⟨z, hz, hc⟩ := Option.bind_eq_some_iff.1 hc
      obtain ⟨x', hx, hc⟩ := Option.bind_eq_some_iff.1 hc
      obtain ⟨k', hk', rfl⟩ := Option.map_eq_some_iff.1 hc
      exact rdLk hΘ hΓ hu hik (tyOf_ok hΘ hie) hks hz hx hk' hk
    all_goals (rw [hD] at hc; cases hc)
  case call c =>
    unfold cvR at hc
    simp only at hc
    split at hc
    · rename_i x t hcal hxs hts
      obtain ⟨i, hi, hc⟩ := Option.bind_eq_some_iff.1 hc
      have hu := (tyOf_ok hΘ hi).1
      cases hD : i.D
      case map kt et =>
        rw [hD] at hc hu
        obtain ⟨x', hx, rfl⟩ := Option.map_eq_some_iff.1 hc
        exact rdLm (Γ := Γ) hcal (arr1 hxs) (arr1 hts) hu hx hk
      all_goals (rw [hD] at hc; cases hc)
    · cases hc
  all_goals cases hc

/-! new rows -/
theorem mkT_get (l : List A) : ∀ p : Pp, (mkT l).get .u p ≠ .u → p.toNat < l.length ∧ (mkT l).get .u p = l.getD p.toNat .u := by
  have key : ∀ (l : List A) (k : Nat) (t : T A) (pre : List A), pre.length = k → (∀ p : Pp, t.get .u p ≠ .u → p.toNat < k ∧ t.get .u p = pre.getD p.toNat .u) →
      ∀ p : Pp, ((l.zipIdx k).foldl (fun t p => match toPo 20 p.2 with | some q => T.set .u p.1 q t | none => t) t).get .u p ≠ .u → p.toNat < k + l.length ∧ ((l.zipIdx k).foldl (fun t p => match toPo 20 p.2 with | some q => T.set .u p.1 q t | none => t) t).get .u p = (pre ++ l).getD p.toNat .u := by
    intro l
    induction l with
    | nil => intro k t pre hk ht p hp; simpa using ht p hp
    | cons a l ih =>
      intro k t pre hk ht p hp
      rw [List.zipIdx_cons, List.foldl_cons] at hp ⊢
      have := ih (k + 1) (match toPo 20 k with | some q => T.set .u a q t | none => t) (pre ++ [a]) (by simp [hk]) (by
        intro q hq
        cases hb : toPo 20 k with
        | none =>
          rw [hb] at hq
          obtain ⟨h1, h2⟩ := ht q hq
          refine ⟨by omega, ?_⟩
          show t.get .u q = _
          rw [h2]
          simp [List.getElem?_append, hk, h1]
        | some r =>
          rw [hb] at hq
          have hr := toPo_some hb
          simp only [T.get_set] at hq ⊢
          by_cases e : q = r
          · subst e
            rw [if_pos rfl]
            exact ⟨by omega, by rw [hr]; simp [hk]⟩
          · rw [if_neg e] at hq ⊢
            obtain ⟨h1, h2⟩ := ht q hq
            exact ⟨by omega, by rw [h2]; simp [List.getElem?_append, hk, h1]⟩) p hp
      obtain ⟨h1, h2⟩ := this
      exact ⟨by simp only [List.length_cons]; omega, by rw [h2]; simp⟩
  intro p hp
  have := key l 0 .e [] rfl (fun p hp => absurd (T.get_e _ p) hp) p hp
  simp only [Nat.zero_add, List.nil_append] at this
  exact this
/-- the cells of a new row -/
theorem cellsR_of {η : Eta} {n : Nat} {t : T A} {l : List A} {cs : Array Value} (hd : DL σ η l cs.toList) (hn : n = l.length) (ht : ∀ p : Pp, t.get .u p ≠ .u → p.toNat < l.length ∧ t.get .u p = l.getD p.toNat .u) : CellsR σ η n t cs := by
  have hl := hd.len
  refine ⟨by rw [hn, ← hl]; simp, fun p hp => ?_⟩
  obtain ⟨h1, h2⟩ := ht p hp
  refine ⟨by omega, ?_⟩
  have h3 : l[p.toNat]? = some (l.getD p.toNat .u) := by simp [List.getElem?_eq_getElem h1]
  obtain ⟨v, h4, h5⟩ := hd.get h3
  exact ⟨v, by simpa using h4, by rw [h2]; exact h5⟩
theorem put_fresh {l : List A} {K : T A → R} (h : putK l .e 0 K = some out) : ∃ t, K t = some out ∧ ∀ p : Pp, t.get .u p ≠ .u → p.toNat < l.length ∧ t.get .u p = l.getD p.toNat .u := by
  obtain ⟨t, h1, h2⟩ := putK_some h
  refine ⟨t, h1, fun p hp => ?_⟩
  rw [h2 p] at hp ⊢
  by_cases hc : 0 ≤ p.toNat ∧ p.toNat < 0 + l.length
  · rw [if_pos hc]; exact ⟨by omega, by simp⟩
  · rw [if_neg hc] at hp; exact absurd (T.get_e _ p) hp
theorem adAl {t : TypeId} {i : TyI} {K : Row → (Pp → A) → R} (hi : i.Ok P t) (hk : aAl t i.z.length (mkT i.z) fr K = some out) : ∃ row mk, K row mk = some out ∧ ADoes P CV σ fr ⟨d, .alloc t, ty, pos, af, g⟩ row mk := by
  refine ⟨_, _, hk, fun e => Row.noConfusion e, fun η f w hX => ?_⟩
  have hi' := hi
  obtain ⟨hu, zv, hti, hz, _⟩ := hi
  refine ⟨_, _, 1, mAlloc hti, ⟨zv.cells, i, rfl, hi', ?_, by simp [maxLen], cellsR_of (hz σ η) rfl (mkT_get i.z)⟩, fun η' r hr => ⟨_, _, hr, rfl⟩⟩
  have := (hz σ η).len
  rw [Nat.one_mul, ← this]; simp
theorem adBx {t : TypeId} {x : Operand} {x' : X} {i : TyI} {K : Row → (Pp → A) → R} (hi : i.Ok P t) (hx : cvX x = some x') (hk : aBx t i.z.length x' fr K = some out) : ∃ row mk, K row mk = some out ∧ ADoes P CV σ fr ⟨d, .box t x, ty, pos, af, g⟩ row mk := by
  obtain ⟨l, g1, g2⟩ := cK_some hk
  obtain ⟨g3, g4⟩ := bif_some g1
  have g3 := Nat.eq_of_beq_eq_true g3
  rw [lenA_eq] at g3
  obtain ⟨tr, g5, g6⟩ := put_fresh g4
  refine ⟨_, _, g5, fun e => Row.noConfusion e, fun η f w hX => ?_⟩
  obtain ⟨vs, d1, d2⟩ := g2 σ η _ (hX.get (by simp [Op.operands]) hx)
  refine ⟨_, _, 1, mBox rfl, ⟨(ev f x).cells, i, rfl, hi, ?_, by simp [maxLen], cellsR_of (l := l) (by rw [d2]; simpa using d1) g3.symm g6⟩, fun η' r hr => ⟨_, _, hr, rfl⟩⟩
  have := d1.len
  rw [d2, Nat.one_mul, ← g3]; simpa using this
theorem repL_len (z : List A) : ∀ n, (repL z n).length = n * z.length
  | 0 => by simp [repL]
  | n + 1 => by simp [repL, repL_len z n, Nat.add_mul, Nat.add_comm]
theorem DL.rep {η : Eta} {z : List A} {vs : List Value} (h : DL σ η z vs) : ∀ n, DL σ η (repL z n) (List.replicate n vs).flatten
  | 0 => rfl
  | n + 1 => by
    show DL σ η (z ++ repL z n) _
    rw [List.replicate_succ, List.flatten_cons]
    exact h.append (DL.rep h n)
theorem madeCells_eq (z : Array Value) (n : Nat) : (madeCells z (n * z.size)).toList = (List.replicate n z.toList).flatten := by
  induction n with
  | zero => simp [madeCells]
  | succ n ih =>
    have hlen : ∀ m : Nat, (madeCells z (m * z.size)).toList.length = m * z.size := fun m => by simp [madeCells]
    rw [List.replicate_succ', List.flatten_append]
    rw [← ih]
    apply List.ext_getElem?
    intro i
    simp only [List.flatten_cons, List.flatten_nil, List.append_nil]
    rw [List.getElem?_append, hlen]
    by_cases h1 : i < n * z.size
    · rw [if_pos h1]
      have h2 : i < (n + 1) * z.size := by rw [Nat.add_mul]; omega
      simp [madeCells, h1, h2]
    · rw [if_neg h1]
      by_cases h2 : i < (n + 1) * z.size
      · have hz : 0 < z.size := by
          rcases Nat.eq_zero_or_pos z.size with h0 | h0
          · rw [h0] at h2; simp at h2
          · exact h0
        have h3 : i - n * z.size < z.size := by rw [Nat.add_mul, Nat.one_mul] at h2; omega
        have h4 : i % z.size = i - n * z.size := by
          have : i = (i - n * z.size) + n * z.size := by omega
          rw [this, Nat.add_mul_mod_self_right, Nat.mod_eq_of_lt h3]; omega
        simp [madeCells, h2, h4, h3]
      · have h3 : ¬ i - n * z.size < z.size := by rw [Nat.add_mul, Nat.one_mul] at h2; omega
        simp [madeCells, h2, h3]
theorem adBs {t e : TypeId} {m : Nat} {ps : Array (Nat × Operand)} {qs : List (Nat × Nat × X)} {j : TyI} {K : Row → (Pp → A) → R} (ht : P.underlying t = some (.slice e)) (hj : j.Ok P e) (hm : m * j.z.length ≤ 16777216) (hm2 : m ≤ maxLen) (hc : cvPs (fun k => some (Nat.mul k j.z.length, j.z.length)) ps.toList = some qs)
    (hk : aBs e m (repL j.z m) qs fr K = some out) : ∃ row mk, K row mk = some out ∧ ADoes P CV σ fr ⟨d, .buildSlice t m ps, ty, pos, af, g⟩ row mk := by
  obtain ⟨l, g1, g2, g3⟩ := fillK_some (σ := σ) hk
  obtain ⟨tr, g4, g5⟩ := put_fresh g1
  rw [frc_eq] at g4
  refine ⟨_, _, g4, fun e => Row.noConfusion e, fun η f w hX => ?_⟩
  have hj' := hj
  obtain ⟨hu, zv, ⟨tj, tj1, tj2, tj3, tj4⟩, hz, _⟩ := hj
  have hzl : zv.cells.size = j.z.length := by have := (hz σ η).len; simpa using this
  have hp := cvPs_ok hX (place := fun k => some (Nat.mul k j.z.length, j.z.length)) hc (fun p hp => by simp [Op.operands]; exact ⟨p.1, by simpa using hp⟩)
  obtain ⟨ws, g6, g7⟩ := g3 η _ _ _ hp ((hz σ η).rep m)
  have hs : (sizeOf e).run P w = .ok j.z.length w := by simp [sizeOf, typeInfo, tj1, tj3]
  have hzv : (zeroValue e).run P w = .ok zv w := by simp [zeroValue, typeInfo, tj1, tj2]
  have hfill : Instr.fill (fun k => some (k * j.z.length, j.z.length)) (List.replicate m zv.cells.toList).flatten.toArray (ps.toList.map fun p => (p.1, ev f p.2)) = some ws := g6
  have hps : (ps.map fun p => (p.1, ev f p.2)).toList = ps.toList.map fun p => (p.1, ev f p.2) := by simp
  have hz0 : (Array.range (m * j.z.length)).map (fun i => (if m * j.z.length = 0 then (#[] : Array Value) else zv.cells)[i % (if m * j.z.length = 0 then (#[] : Array Value) else zv.cells).size]!) = (List.replicate m zv.cells.toList).flatten.toArray := by
    by_cases h0 : m * j.z.length = 0
    · have : (List.replicate m zv.cells.toList).flatten = [] := by
        apply List.eq_nil_of_length_eq_zero
        have := ((hz σ η).rep m).len
        rw [this, repL_len]; exact h0
      rw [this, h0]; simp
    · simp only [if_neg h0]
      have := madeCells_eq zv.cells m
      rw [hzl] at this
      unfold madeCells at this
      apply Array.ext'
      rw [this]
  have hws : ws.size = m * j.z.length := by
    have := g7.len
    rw [g2, repL_len] at this
    simpa using this
  refine ⟨.slice (some ⟨w.heap.size, 0, none⟩) m m, .cells ws e, m, ?_, ⟨ws, j, rfl, hj', hws, hm2, cellsR_of g7 (lenA_eq l) g5⟩, fun η' r hr => ⟨_, _, _, hr, rfl, Nat.le_refl _, fun _ => rfl⟩⟩
  show (execOp (ev f) ⟨d, .buildSlice t m ps, ty, pos, af, g⟩).run P w = _
  unfold execOp
  have hlt : ¬ m * j.z.length > 2 ^ 24 := by have : (2 : Nat) ^ 24 = 16777216 := by decide
                                             omega
  simp only [Instr.buildSlice, Sem.run_bind, run_underlying ht, Result.andThen_ok, hs, if_neg hlt, Sem.run_pure]
  by_cases h0 : m * j.z.length = 0
  · simp only [if_pos h0] at hz0 ⊢
    simp only [Sem.run_bind, Sem.run_pure, Result.andThen_ok]
    rw [show (Array.map (fun x : Nat × Operand => (x.1, ev f x.2)) ps).toList = ps.toList.map fun p => (p.1, ev f p.2) from hps, hz0]
    simp only [hfill]
    rfl
  · simp only [if_neg h0] at hz0 ⊢
    simp only [Sem.run_bind, Sem.run_pure, hzv, Result.andThen_ok]
    rw [show (Array.map (fun x : Nat × Operand => (x.1, ev f x.2)) ps).toList = ps.toList.map fun p => (p.1, ev f p.2) from hps, hz0]
    simp only [hfill]
    rfl
theorem repK_some {z : List A} : ∀ {n : Nat} {t : T A} {o : Nat} {K : T A → Nat → R}, repK z n t o K = some out → ∃ t', K t' (o + n * z.length) = some out ∧ ∀ p : Pp, t'.get .u p = if o ≤ p.toNat ∧ p.toNat < o + n * z.length then (repL z n).getD (p.toNat - o) .u else t.get .u p
  | 0, t, o, K, h => ⟨t, by rw [Nat.zero_mul, Nat.add_zero]; exact h, fun p => by rw [if_neg (by omega)]⟩
  | n + 1, t, o, K, h => by
    have h0 : putK z t o (fun t' => frc (Nat.add o (lenA z)) (fun o' => repK z n t' o' K)) = some out := h
    obtain ⟨t1, h1, h2⟩ := putK_some h0
    rw [frc_eq, lenA_eq] at h1
    obtain ⟨t', h3, h4⟩ := repK_some (n := n) h1
    have e : Nat.add o z.length = o + z.length := rfl
    rw [e] at h3 h4
    refine ⟨t', by rw [Nat.add_mul, Nat.one_mul]; rwa [show o + (n * z.length + z.length) = o + z.length + n * z.length by omega], fun p => ?_⟩
    rw [h4 p, h2 p, Nat.add_mul, Nat.one_mul]
    show _ = if _ then (z ++ repL z n).getD _ _ else _
    have hlen := repL_len z n
    by_cases c1 : o + z.length ≤ p.toNat ∧ p.toNat < o + z.length + n * z.length
    · rw [if_pos c1, if_pos (by omega)]
      simp only [List.getD_eq_getElem?_getD, List.getElem?_append]
      rw [if_neg (by omega), show p.toNat - (o + z.length) = p.toNat - o - z.length by omega]
    · rw [if_neg c1]
      by_cases c2 : o ≤ p.toNat ∧ p.toNat < o + z.length
      · rw [if_pos c2, if_pos (by omega)]
        simp only [List.getD_eq_getElem?_getD, List.getElem?_append]
        rw [if_pos (by omega)]
      · rw [if_neg c2, if_neg (by omega)]
theorem adMs {t e : TypeId} {x y : Operand} {x' : X} {j : TyI} {K : Row → (Pp → A) → R} (ht : P.underlying t = some (.slice e)) (hj : j.Ok P e) (hxy : ∀ f, ev f y = ev f x) (hx : cvX x = some x') (hk : aMs e j.b j.z x' fr K = some out) : ∃ row mk, K row mk = some out ∧ ADoes P CV σ fr ⟨d, .makeSlice t x y, ty, pos, af, g⟩ row mk := by
  obtain ⟨k, m, hm, g1⟩ := natK_some hk
  obtain ⟨g2, g3⟩ := bif_some g1
  have g2 : (j.b + 1) * m ≤ 140737488355328 := Nat.le_of_ble_eq_true g2
  have g2a : j.b * m + m ≤ 140737488355328 := by rw [Nat.add_mul, Nat.one_mul] at g2; exact g2
  obtain ⟨tr, g4, g5⟩ := repK_some g3
  rw [Nat.zero_add] at g4
  refine ⟨_, _, g4, fun e => Row.noConfusion e, fun η f w hX => ?_⟩
  have hj' := hj
  obtain ⟨hu, zv, ⟨tj, tj1, tj2, tj3, tj4⟩, hz, _⟩ := hj
  have hzl : zv.cells.size = j.z.length := by have := (hz σ η).len; simpa using this
  have dx := hX.get (by simp [Op.operands]) hx
  rw [hm] at dx
  have dx := i_nat dx
  have hb : ((tj.bytes : Nat) : Int) * ((m : Nat) : Int) ≤ 281474976710656 := by
    rw [tj4, ← Int.natCast_mul]; omega
  have hmm : m ≤ 140737488355328 := by omega
  have hrun := run_make (P := P) w t e tj zv ht tj1 tj2 k k m m (by omega) (Int.le_refl _) hb (by omega)
  have hcell : (madeCells zv.cells (((m : Nat) : Int).toNat * tj.size)).toList = (List.replicate m zv.cells.toList).flatten := by
    rw [Int.toNat_natCast, tj3, ← hzl]; exact madeCells_eq zv.cells m
  have hdl := (hz σ η).rep m
  rw [← hcell] at hdl
  refine ⟨.slice (some ⟨w.heap.size, 0, none⟩) m m, _, m, ?_, ⟨_, j, rfl, hj', ?_, by simp [maxLen]; omega, cellsR_of hdl (by rw [repL_len]) ?_⟩, fun η' r hr => ⟨_, _, _, hr, rfl, Nat.le_refl _, fun _ => rfl⟩⟩
  · simp only [Int.toNat_natCast] at hrun
    simp [execOp, dx, hxy f, hrun]
  · have := hdl.len
    rw [repL_len] at this
    simpa using this
  · intro p hp
    rw [g5 p] at hp ⊢
    by_cases hc : 0 ≤ p.toNat ∧ p.toNat < 0 + m * j.z.length
    · rw [if_pos hc]; exact ⟨by rw [repL_len]; omega, by simp⟩
    · rw [if_neg hc] at hp; exact absurd (T.get_e _ p) hp
theorem adMm {t : TypeId} {K : Row → (Pp → A) → R} (hk : aMm fr K = some out) : ∃ row mk, K row mk = some out ∧ ADoes P CV σ fr ⟨d, .makeMap t none, ty, pos, af, g⟩ row mk := by
  refine ⟨_, _, hk, fun e => Row.noConfusion e, fun η f w hX => ⟨.map (some w.heap.size), .map #[] 0, 0, ?_, ⟨#[], 0, rfl, rfl⟩, fun η' r hr => ⟨_, _, hr, rfl⟩⟩⟩
  rfl
include hΘ in
theorem sA (o : Oper) (op : OA) (K : Row → (Pp → A) → R) (hc : cvAl Θ o.op = some op) (hk : exA op fr K = some out) : ∃ row mk, K row mk = some out ∧ ADoes P CV σ fr o row mk := by
  obtain ⟨d, p, ty, pos, af, g⟩ := o
  simp only at hc
  cases p
  case alloc t => obtain ⟨i, hi, rfl⟩ := Option.map_eq_some_iff.1 hc; exact adAl (tyOf_ok hΘ hi) hk
  case box t x =>
    obtain ⟨i, hi, hc⟩ := Option.bind_eq_some_iff.1 hc
    obtain ⟨x', hx, rfl⟩ := Option.map_eq_some_iff.1 hc
    exact adBx (tyOf_ok hΘ hi) hx hk
  case buildSlice t m ps =>
    obtain ⟨i, hi, hc⟩ := Option.bind_eq_some_iff.1 hc
    have hu := (tyOf_ok hΘ hi).1
    cases hD : i.D
    case slice e =>
      rw [hD] at hc hu
      obtain ⟨j, hj, hc⟩ := Option.bind_eq_some_iff.1 hc
      cases hb : and (Nat.ble (Nat.mul m j.z.length) 16777216) (Nat.ble m 16777216) with
      | false => simp only [hb] at hc; cases hc
      | true =>
        simp only [hb] at hc
        obtain ⟨qs, hq, rfl⟩ := Option.map_eq_some_iff.1 hc
        obtain ⟨b1, b2⟩ := and_t hb
        have b2 := Nat.le_of_ble_eq_true b2
        exact adBs hu (tyOf_ok hΘ hj) (Nat.le_of_ble_eq_true b1) (by simp [maxLen]; omega) hq hk
    all_goals (rw [hD] at hc; cases hc)
  case makeSlice t x y =>
    cases x <;> cases y <;> first | cases hc | skip
    · rename_i x y
      obtain ⟨i, hi, hc⟩ := Option.bind_eq_some_iff.1 hc
      have hu := (tyOf_ok hΘ hi).1
      cases hD : i.D
      case slice e =>
        rw [hD] at hc hu
        obtain ⟨j, hj, hc⟩ := Option.bind_eq_some_iff.1 hc
        cases hb : Nat.beq x y with
        | false => simp only [hb] at hc; cases hc
        | true =>
          simp only [hb] at hc
          obtain ⟨x', hx, rfl⟩ := Option.map_eq_some_iff.1 hc
          exact adMs hu (tyOf_ok hΘ hj) (fun f => by rw [Nat.eq_of_beq_eq_true hb]) hx hk
      all_goals (rw [hD] at hc; cases hc)
    · rename_i x y
      obtain ⟨i, hi, hc⟩ := Option.bind_eq_some_iff.1 hc
      have hu := (tyOf_ok hΘ hi).1
      cases hD : i.D
      case slice e =>
        rw [hD] at hc hu
        cases x with
        | int k a =>
          cases y with
          | int k' b =>
            obtain ⟨j, hj, hc⟩ := Option.bind_eq_some_iff.1 hc
            cases hb : decide (a = b ∧ k = k') with
            | false => simp only [hb] at hc; cases hc
            | true =>
              simp only [hb, cond_true] at hc
              obtain ⟨x', hx, rfl⟩ := Option.map_eq_some_iff.1 hc
              obtain ⟨rfl, rfl⟩ := of_decide_eq_true hb
              exact adMs hu (tyOf_ok hΘ hj) (fun f => rfl) hx hk
          | _ => cases hc
        | _ => cases hc
      all_goals (rw [hD] at hc; cases x <;> cases y <;> cases hc)
  case makeMap t r =>
    cases r with
    | none => cases hc; exact adMm hk
    | some _ => cases hc
  all_goals cases hc
end
end
end Go.Ev

