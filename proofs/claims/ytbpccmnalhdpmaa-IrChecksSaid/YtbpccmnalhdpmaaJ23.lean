/- IrChecks: E9. -/
import Derived.Test.YtbpccmnalhdpmaaJ22
import Derived.Laws.CopyRow
import Derived.Laws.MakeOwn
set_option linter.unusedVariables false
namespace Go.Ev
open Go.RowKit Go.Fw
noncomputable section
def zU (i : TyI) : Option U := bif aggD i.D then some (.g i.z) else match i.z with | [a] => some (.a a) | _ => none
def cvR (Θ : T (Option TyI)) : Op → Option OR
 | .load t x => (tyOf Θ t).bind fun i => (cvX x).map fun x' => bif aggD i.D then .lg i.z.length x' else .ld x'
 | .lookup t x k ok => (tyOf Θ t).bind fun i => match i.D with
  | .map kt et => (tyOf Θ kt).bind fun ik => (tyOf Θ et).bind fun ie => (eqT Θ 10 kt).bind fun ks => (zU ie).bind fun z => (cvX x).bind fun x' => (cvX k).map fun k' => .lk ok (aggD ik.D) ks z x' k'
  | _ => none
 | .call c => match c.callee, c.args.toList, c.argTypes.toList with
  | .builtin .len, [x], [t] => (tyOf Θ t).bind fun i => match i.D with
   | .map _ _ => (cvX x).map .lm
   | _ => none
  | _, _, _ => none
 | _ => none
def mkT (l : List A) : T A := (l.zipIdx).foldl (fun t p => match toPo 20 p.2 with | some q => T.set .u p.1 q t | none => t) .e
def repL (z : List A) : Nat → List A
 | 0 => []
 | n + 1 => z ++ repL z n
def cvAl (Θ : T (Option TyI)) : Op → Option OA
 | .alloc t => (tyOf Θ t).map fun i => .al t i.z.length (mkT i.z)
 | .box t x => (tyOf Θ t).bind fun i => (cvX x).map fun x' => .bx t i.z.length x'
 | .buildSlice t m ps => (tyOf Θ t).bind fun i => match i.D with
  | .slice e => (tyOf Θ e).bind fun j => bif and (Nat.ble (Nat.mul m j.z.length) 16777216) (Nat.ble m 16777216) then (cvPs (fun k => some (Nat.mul k j.z.length, j.z.length)) ps.toList).map fun qs => .bs e m (repL j.z m) qs else none
  | _ => none
 | .makeSlice t (.tmp x) (.tmp y) => (tyOf Θ t).bind fun i => match i.D with
  | .slice e => (tyOf Θ e).bind fun j => bif Nat.beq x y then (cvX (.tmp x)).map fun x' => .ms e j.b j.z x' else none
  | _ => none
 | .makeSlice t (.const x) (.const y) => (tyOf Θ t).bind fun i => match i.D, x, y with
  | .slice e, .int k a, .int k' b => (tyOf Θ e).bind fun j => bif decide (a = b ∧ k = k') then (cvX (.const (.int k a))).map fun x' => .ms e j.b j.z x' else none
  | _, _, _ => none
 | .makeMap _ none => some .mm
 | _ => none
def cvCh (Θ : T (Option TyI)) : Op → Option OC
 | .store t x y => (tyOf Θ t).bind fun i => (cvX x).bind fun x' => (cvX y).map fun y' => .st i.z.length x' y'
 | .mapUpdate t m k v => (tyOf Θ t).bind fun i => match i.D with
  | .map kt et => (tyOf Θ kt).bind fun ik => (eqT Θ 10 kt).bind fun ks => (cvX m).bind fun m' => (cvX k).bind fun k' => (cvX v).map fun v' => .mu (aggD ik.D) ks m' k' v'
  | _ => none
 | .call c => match c.callee, c.args.toList, c.argTypes.toList with
  | .builtin .append, [x, y], [t, t'] => (tyOf Θ t).bind fun i => match i.D with
   | .slice e => (tyOf Θ e).bind fun j => bif and (Nat.beq t t') (Nat.ble 1 j.z.length) then (cvX x).bind fun x' => (cvX y).map fun y' => .ap e j.z.length j.b x' y' else none
   | _ => none
  | _, _, _ => none
 | _ => none
section
variable {P : Program} {Θ : T (Option TyI)} (hΘ : Θ.All (TyQ P)) {CV : T (Option Site)} {σ : Nat → Int} {Γ : Env} (hΓ : Γ.Ok σ)
variable {fr : T V} {out : Out} {d : Option Nat} {ty : TypeId} {pos : String} {af : Array Edge} {g : Option (Nat × Bool)}
/-- the names below a bound -/
def Eta.cut (η : Eta) (n : Pp) : Eta := fun r => if r.toNat < n.toNat then η r else none
theorem Eta.cut_le (η : Eta) (n : Pp) : (η.cut n).le η := fun r p h => by
 unfold Eta.cut at h
 split at h
 · exact h
 · cases h
theorem HRel.cut {η : Eta} {h : AH} {w : World} (hh : HRel P CV σ η h w) : η.cut h.nx = η := by
 funext r
 unfold Eta.cut
 split
 · rfl
 · exact (hh.dom r (by omega)).symm
theorem HRel.lt {η : Eta} {h : AH} {w : World} (hh : HRel P CV σ η h w) {r : Pp} (hl : h.row r ≠ .d) : r.toNat < h.nx.toNat := by
 rcases Nat.lt_or_ge r.toNat h.nx.toNat with h1 | h1
 · exact h1
 · exact absurd (hh.nix r h1) hl
/-- what an operation that reads does -/
def RDoes (P : Program) (CV : T (Option Site)) (σ : Nat → Int) (fr : T V) (h : AH) (o : Oper) (v : V) : Prop :=
 ∀ (η : Eta) (f : Fr) (w : World), XR σ η fr f o.op.operands.toList → HRel P CV σ (η.cut h.nx) h w → ∃ v', (execOp (ev f) o).run P w = .ok (.value v') w ∧ Dv σ η v v'
/-- what an operation that lays a row does -/
def ADoes (P : Program) (CV : T (Option Site)) (σ : Nat → Int) (fr : T V) (o : Oper) (row : Row) (mk : Pp → A) : Prop :=
 row ≠ .d ∧ ∀ (η : Eta) (f : Fr) (w : World), XR σ η fr f o.op.operands.toList → ∃ v' ob c, (execOp (ev f) o).run P w = .ok (.value v') (w.alloc ob) ∧ RowR P CV σ η c (some ob) row ∧ ∀ (η' : Eta) r, η' r = some (w.heap.size, c) → Da σ η' (mk r) v'
/-- what an operation that changes memory does -/
def CDoes (P : Program) (CV : T (Option Site)) (σ : Nat → Int) (fr : T V) (h : AH) (o : Oper) (v : V) (h' : AH) : Prop :=
 ∀ (η : Eta) (f : Fr) (w : World), XR σ η fr f o.op.operands.toList → HRel P CV σ η h w →
  ∃ w' η', ((∃ v', (execOp (ev f) o).run P w = .ok (.value v') w' ∧ Dv σ η' v v') ∨ ((execOp (ev f) o).run P w = .ok .skip w' ∧ v = .x)) ∧ HRel P CV σ η' h' w' ∧ Stp η h w η' h' w'
theorem rowC_some {r : Row} {K : Nat → Nat → T A → R} (h : r.cK K = some out) : ∃ ty n t, r = .c ty n t ∧ K ty n t = some out := by
 cases r with
 | c ty n t => exact ⟨ty, n, t, rfl, h⟩
 | _ => cases h
theorem rowM_some {r : Row} {K : List (U × U) → R} (h : r.mK K = some out) : ∃ es, r = .m es ∧ K es = some out := by
 cases r with
 | m es => exact ⟨es, rfl, h⟩
 | _ => cases h
theorem CellsR.at {η : Eta} {n : Nat} {t : T A} {cs : Array Value} (hc : CellsR σ η n t cs) : ∀ {l : List A} {o : Nat}, CellsAt t o l → ∃ vs, DL σ η l vs ∧ ∀ j v, vs[j]? = some v → cs[o + j]? = some v
 | [], o, _ => ⟨[], rfl, fun j v h => by simp at h⟩
 | a :: l, o, ⟨⟨p, h1, h2, h3⟩, h4⟩ => by
  obtain ⟨vs, h5, h6⟩ := CellsR.at hc h4
  obtain ⟨_, v, h7, h8⟩ := hc.2 p (by rw [h2]; exact h3)
  rw [h2] at h8
  rw [h1] at h7
  refine ⟨v :: vs, ⟨v, vs, rfl, h8, h5⟩, fun j u hu => ?_⟩
  cases j with
  | zero => simp at hu; subst hu; exact h7
  | succ j => have := h6 j u (by simpa using hu); rwa [show o + (j + 1) = o + 1 + j by omega]
theorem rdLd {t : TypeId} {x : Operand} {x' : X} {i : TyI} {h : AH} {K : V → R} (hi : i.Ok P t) (hD : aggD i.D = false) (hx : cvX x = some x') (hk : rLd x' Γ fr h K = some out) : ∃ v, K v = some out ∧ RDoes P CV σ fr h ⟨d, .load t x, ty, pos, af, g⟩ v := by
 obtain ⟨a, ha, g1⟩ := aK_some hk
 obtain ⟨r, o, rfl, g2⟩ := pK_some g1
 obtain ⟨tt, n, tr, hrow, g3⟩ := rowC_some g2
 obtain ⟨p, hp, g4⟩ := cellK_some g3
 obtain ⟨hne, g5⟩ := knK_some g4
 refine ⟨_, g5, fun η f w hr hh => ?_⟩
 have dx := hr.get (by simp [Op.operands]) hx
 rw [ha] at dx
 obtain ⟨b, c, h1, h2⟩ := dx
 have hR := hh.rows r b c (by unfold Eta.cut; rw [if_pos (hh.lt (by rw [hrow]; exact fun e => Row.noConfusion e))]; exact h1)
 rw [hrow] at hR
 obtain ⟨cs, j, r1, r2, r3, r4, r5⟩ := hR
 obtain ⟨_, v, h3, h4⟩ := r5.2 p hne
 rw [hp] at h3
 exact ⟨v, xLoad hi.1 hD h2 (Blk.cell (show Blk w b tt cs from r1) h3), h4.mono (Eta.cut_le _ _)⟩
theorem rdLg {t : TypeId} {x : Operand} {x' : X} {i : TyI} {h : AH} {K : V → R} (hi : i.Ok P t) (hD : aggD i.D = true) (hx : cvX x = some x') (hk : rLg i.z.length x' Γ fr h K = some out) : ∃ v, K v = some out ∧ RDoes P CV σ fr h ⟨d, .load t x, ty, pos, af, g⟩ v := by
 obtain ⟨a, ha, g1⟩ := aK_some hk
 obtain ⟨r, o, rfl, g2⟩ := pK_some g1
 obtain ⟨tt, n, tr, hrow, g3⟩ := rowC_some g2
 obtain ⟨l, hl, hc, g4⟩ := kcellsK_some g3
 refine ⟨_, g4, fun η f w hr hh => ?_⟩
 have dx := hr.get (by simp [Op.operands]) hx
 rw [ha] at dx
 obtain ⟨b, c, h1, h2⟩ := dx
 have hR := hh.rows r b c (by unfold Eta.cut; rw [if_pos (hh.lt (by rw [hrow]; exact fun e => Row.noConfusion e))]; exact h1)
 rw [hrow] at hR
 obtain ⟨cs, j, r1, r2, r3, r4, r5⟩ := hR
 obtain ⟨vs, h3, h4⟩ := r5.at hc
 obtain ⟨hu, zv, hti, _⟩ := hi
 exact ⟨_, xLoadS vs hu hD hti (by rw [h3.len, hl]) h2 (fun j v hv => Blk.cell (show Blk w b tt cs from r1) (h4 j v hv)), vs, h3.mono (Eta.cut_le _ _), rfl⟩
end
end
end Go.Ev
