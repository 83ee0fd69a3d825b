/- IrChecks: E6. -/
import Derived.Test.YtbpccmnalhdpmaaJ19
set_option linter.unusedVariables false
namespace Go.Ev
open Go.RowKit Go.Fw
noncomputable section
def cvPs (place : Nat → Option (Nat × Nat)) : List (Nat × Operand) → Option (List (Nat × Nat × X))
 | [] => some []
 | (i, x) :: l => (place i).bind fun p => (cvX x).bind fun x' => (cvPs place l).map ((p.1, p.2, x') :: ·)
def fieldAt (Θ : T (Option TyI)) (fs : Array Field) (n : Nat) : Option (Nat × Nat) := (fs[n]?).bind fun f => (tyOf Θ f.type).map fun j => (f.offset, j.z.length)
def known (Θ : T (Option TyI)) : List Field → Bool
 | [] => true
 | f :: fs => and (tyOf Θ f.type).isSome (known Θ fs)
def cvBin (Θ : T (Option TyI)) (i : TyI) (o : BinOp) (t : Nat) (x' : X) (y : Operand) : Option OP :=
 match i.D with
 | .int _ => (cvX y).bind fun y' => bif compares o then some (.cp o x' y') else some (.ar o x' y')
 | .slice _ => match y, o with
  | .const (.slice none _ _), .eql => some (.ne false x')
  | .const (.slice none _ _), .neq => some (.ne true x')
  | _, _ => none
 | _ => (cvX y).bind fun y' => (eqT Θ 10 t).bind fun ks => match o with
  | .eql => some (.eq false (aggD i.D) ks x' y')
  | .neq => some (.eq true (aggD i.D) ks x' y')
  | _ => none
def cvCallP (Θ : T (Option TyI)) (c : Call) : Option OP :=
 match c.callee, c.args.toList, c.argTypes.toList with
 | .builtin .len, [x], [t] => (tyOf Θ t).bind fun i => match i.D with
  | .slice _ => (cvX x).map .ln
  | .array n _ => some (.mv (.c (.a (.i .i64 (.n n)))))
  | _ => none
 | .builtin .min, [x, y], [_, _] => (cvX x).bind fun x' => (cvX y).map fun y' => .mn false x' y'
 | .builtin .max, [x, y], [_, _] => (cvX x).bind fun x' => (cvX y).map fun y' => .mn true x' y'
 | _, _, _ => none
def cvP (Θ : T (Option TyI)) : Op → Option OP
 | .move x => (cvX x).map .mv
 | .assign x => (cvX x).map .mv
 | .pick c a b => (cvX c).bind fun c' => (cvX a).bind fun a' => (cvX b).map fun b' => .pk c' a' b'
 | .binOp o t x y _ => (tyOf Θ t).bind fun i => (cvX x).bind fun x' => cvBin Θ i o t x' y
 | .unOp .not _ x => (cvX x).map .nt
 | .nilCheck x => (cvX x).map .nc
 | .fieldAddr t x n => (tyOf Θ t).bind fun i => match i.D with
  | .struct fs => (fs[n]?).bind fun f => (tyOf Θ f.type).bind fun j => bif Nat.beq j.z.length 0 then none else (cvX x).map fun x' => .fa f.offset x'
  | _ => none
 | .field t x n => (tyOf Θ t).bind fun i => match i.D with
  | .struct fs => (fs[n]?).bind fun f => (tyOf Θ f.type).bind fun j => (cvX x).map fun x' => bif aggD j.D then .fn f.offset j.z.length x' else .fd f.offset x'
  | _ => none
 | .indexAddr t x y => (tyOf Θ t).bind fun i => match i.D with
  | .slice e => (tyOf Θ e).bind fun j => (cvX x).bind fun x' => (cvX y).map fun y' => .ix j.z.length x' y'
  | .array m e => (tyOf Θ e).bind fun j => (cvX x).bind fun x' => (cvX y).map fun y' => .ia m j.z.length x' y'
  | _ => none
 | .index t x y => (tyOf Θ t).bind fun i => match i.D with
  | .array m e => (tyOf Θ e).bind fun j => (cvX x).bind fun x' => (cvX y).map fun y' => bif aggD j.D then .ig m j.z.length x' y' else .id m x' y'
  | _ => none
 | .build t ps => (tyOf Θ t).bind fun i => match i.D with
  | .struct fs => bif known Θ fs.toList then (cvPs (fieldAt Θ fs) ps.toList).map fun qs => .bd i.z qs else none
  | .array _ e => (tyOf Θ e).bind fun j => (cvPs (fun k => some (Nat.mul k j.z.length, j.z.length)) ps.toList).map fun qs => .bd i.z qs
  | _ => none
 | .extract x n => (cvX x).map fun x' => .ex n x'
 | .slice t x none (some y) none => (tyOf Θ t).bind fun i => match i.D with
  | .slice e => (tyOf Θ e).bind fun j => (cvX x).bind fun x' => (cvX y).map fun y' => .sl x' y'
  | _ => none
 | .makeFunc (.func k) first cs => bif first.isEmpty then (cvXs cs.toList).map fun xs => .mf k xs else none
 | .call c => cvCallP Θ c
 | _ => none
section
variable {P : Program} {Θ : T (Option TyI)} (hΘ : Θ.All (TyQ P)) {σ : Nat → Int} {Γ : Env} (hΓ : Γ.Ok σ)
/-- what an operation that looks at no memory does -/
def PDoes (P : Program) (σ : Nat → Int) (fr : T V) (o : Oper) (v : V) : Prop :=
 ∀ (η : Eta) (f : Fr) (w : World), XR σ η fr f o.op.operands.toList → ∃ v', (execOp (ev f) o).run P w = .ok (.value v') w ∧ Dv σ η v v'
section
variable {fr : T V} {K : V → R} {out : Out} {d : Option Nat} {ty : TypeId} {pos : String} {af : Array Edge} {g : Option (Nat × Bool)}
theorem dMv {x : Operand} {x' : X} (hx : cvX x = some x') (h : pMv x' Γ fr K = some out) : ∃ v, K v = some out ∧ PDoes P σ fr ⟨d, .move x, ty, pos, af, g⟩ v :=
 ⟨_, by rw [pMv, frc_V] at h; exact h, fun η f w hr => ⟨_, rfl, hr.get (by simp [Op.operands]) hx⟩⟩
theorem dAs {x : Operand} {x' : X} (hx : cvX x = some x') (h : pMv x' Γ fr K = some out) : ∃ v, K v = some out ∧ PDoes P σ fr ⟨d, .assign x, ty, pos, af, g⟩ v :=
 ⟨_, by rw [pMv, frc_V] at h; exact h, fun η f w hr => ⟨_, rfl, hr.get (by simp [Op.operands]) hx⟩⟩
theorem dPk {c a b : Operand} {c' a' b' : X} (hc : cvX c = some c') (ha : cvX a = some a') (hb : cvX b = some b') (h : pPk c' a' b' Γ fr K = some out) : ∃ v, K v = some out ∧ PDoes P σ fr ⟨d, .pick c a b, ty, pos, af, g⟩ v := by
 obtain ⟨q, h1, h2⟩ := aK_some h
 obtain ⟨t, rfl, h3⟩ := bK_some h2
 cases t with
 | true =>
  have h4 : (rdX fr a').frc K = some out := h3
  rw [frc_V] at h4
  refine ⟨_, h4, fun η f w hr => ⟨_, xPickT ?_, hr.get (by simp [Op.operands]) ha⟩⟩
  have := hr.get (by simp [Op.operands]) hc
  rw [h1] at this; exact this
 | false =>
  have h4 : (rdX fr b').frc K = some out := h3
  rw [frc_V] at h4
  refine ⟨_, h4, fun η f w hr => ⟨_, xPickF ?_, hr.get (by simp [Op.operands]) hb⟩⟩
  have := hr.get (by simp [Op.operands]) hc
  rw [h1] at this; exact this
theorem sameK_some {k k' : IntKind} {c : R} (h : sameK k k' c = some out) : k = k' ∧ c = some out := by
 obtain ⟨h1, h2⟩ := bif_some h
 exact ⟨ikK_inj h1, h2⟩
include hΓ in
theorem dAr {o : BinOp} {t t' : TypeId} {x y : Operand} {x' y' : X} (hx : cvX x = some x') (hy : cvX y = some y') (h : pAr o x' y' Γ fr K = some out) : ∃ v, K v = some out ∧ PDoes P σ fr ⟨d, .binOp o t x y t', ty, pos, af, g⟩ v := by
 obtain ⟨a, ha, g1⟩ := aK_some h
 obtain ⟨k, e, rfl, g2⟩ := iK_some g1
 obtain ⟨b, hb, g3⟩ := aK_some g2
 obtain ⟨k', e', rfl, g4⟩ := iK_some g3
 obtain ⟨rfl, g5⟩ := sameK_some g4
 obtain ⟨s, h1, h2⟩ := arK_some hΓ g5
 refine ⟨_, h1, fun η f w hr => ⟨.int k (s.den σ), ?_, rfl⟩⟩
 have dx := hr.get (by simp [Op.operands]) hx
 have dy := hr.get (by simp [Op.operands]) hy
 rw [ha] at dx
 rw [hb] at dy
 have dx : ev f x = .int k (e.den σ) := dx
 have dy : ev f y = .int k (e'.den σ) := dy
 cases o
 case add => injection h2 with h2; rw [← h2]; exact xAdd dx dy
 case sub => injection h2 with h2; rw [← h2]; exact xSub dx dy
 case mul => injection h2 with h2; rw [← h2]; exact xMul dx dy
 case quo =>
  have h2 : Bool.rec (motive := fun _ => Option Int) (some (k.wrap ((e.den σ).tdiv (e'.den σ)))) none (decide (e'.den σ = 0)) = some (s.den σ) := h2
  by_cases h0 : e'.den σ = 0
  · rw [decide_eq_true h0] at h2; cases h2
  · rw [decide_eq_false h0] at h2; injection h2 with h2; rw [← h2]; exact xQuo dx dy h0
 case rem =>
  have h2 : Bool.rec (motive := fun _ => Option Int) (some ((e.den σ).tmod (e'.den σ))) none (decide (e'.den σ = 0)) = some (s.den σ) := h2
  by_cases h0 : e'.den σ = 0
  · rw [decide_eq_true h0] at h2; cases h2
  · rw [decide_eq_false h0] at h2; injection h2 with h2; rw [← h2]; exact xRem dx dy h0
 case and => injection h2 with h2; rw [← h2]; exact xAnd dx dy
 case or => injection h2 with h2; rw [← h2]; exact xOr dx dy
 case xor => injection h2 with h2; rw [← h2]; exact xXor dx dy
 all_goals cases h2
include hΓ in
theorem dCp {o : BinOp} {t t' : TypeId} {x y : Operand} {x' y' : X} (hx : cvX x = some x') (hy : cvX y = some y') (h : pCp o x' y' Γ fr K = some out) : ∃ v, K v = some out ∧ PDoes P σ fr ⟨d, .binOp o t x y t', ty, pos, af, g⟩ v := by
 obtain ⟨a, ha, g1⟩ := aK_some h
 obtain ⟨k, e, rfl, g2⟩ := iK_some g1
 obtain ⟨b, hb, g3⟩ := aK_some g2
 obtain ⟨k', e', rfl, g4⟩ := iK_some g3
 obtain ⟨rfl, g5⟩ := sameK_some g4
 obtain ⟨s, h1, h2⟩ := cpK_some hΓ g5
 refine ⟨_, h1, fun η f w hr => ⟨.bool s, ?_, rfl⟩⟩
 have dx := hr.get (by simp [Op.operands]) hx
 have dy := hr.get (by simp [Op.operands]) hy
 rw [ha] at dx
 rw [hb] at dy
 have dx : ev f x = .int k (e.den σ) := dx
 have dy : ev f y = .int k (e'.den σ) := dy
 cases o
 case eql => injection h2 with h2; rw [← h2]; exact xEqlD dx dy
 case neq => injection h2 with h2; rw [← h2]; have := xNeqD (P := P) (w := w) (d := d) (ty := ty) (pos := pos) (af := af) (g := g) (t := t) (t' := t') dx dy; simpa [Yl, decide_not] using this
 case lss => injection h2 with h2; rw [← h2]; exact xLss dx dy
 case leq => injection h2 with h2; rw [← h2]; exact xLeq dx dy
 case gtr => injection h2 with h2; rw [← h2]; exact xGtr dx dy
 case geq => injection h2 with h2; rw [← h2]; exact xGeq dx dy
 all_goals cases h2
theorem dNt {t : TypeId} {x : Operand} {x' : X} (hx : cvX x = some x') (h : pNt x' Γ fr K = some out) : ∃ v, K v = some out ∧ PDoes P σ fr ⟨d, .unOp .not t x, ty, pos, af, g⟩ v := by
 obtain ⟨a, ha, g1⟩ := aK_some h
 obtain ⟨s, rfl, g2⟩ := bK_some g1
 rw [bol_eq] at g2
 refine ⟨_, g2, fun η f w hr => ⟨.bool (!s), ?_, rfl⟩⟩
 have dx := hr.get (by simp [Op.operands]) hx
 rw [ha] at dx
 exact xNot dx
theorem dNc {x : Operand} {x' : X} (hx : cvX x = some x') (h : pNc x' Γ fr K = some out) : ∃ v, K v = some out ∧ PDoes P σ fr ⟨d, .nilCheck x, ty, pos, af, g⟩ v := by
 obtain ⟨a, ha, g1⟩ := aK_some h
 obtain ⟨r, o, rfl, g2⟩ := pK_some g1
 refine ⟨_, g2, fun η f w hr => ?_⟩
 have dx := hr.get (by simp [Op.operands]) hx
 rw [ha] at dx
 obtain ⟨b, c, h1, h2⟩ := dx
 exact ⟨_, by simp [execOp, h2], b, c, h1, rfl⟩
theorem dEx {x : Operand} {x' : X} {i : Nat} (hx : cvX x = some x') (h : pEx i x' Γ fr K = some out) : ∃ v, K v = some out ∧ PDoes P σ fr ⟨d, .extract x i, ty, pos, af, g⟩ v := by
 obtain ⟨l, hl, h⟩ := tK_some h
 obtain ⟨u, hu, h⟩ := nthU_some h
 refine ⟨_, h, fun η f w hr => ?_⟩
 have dx := hr.get (by simp [Op.operands]) hx
 rw [hl] at dx
 obtain ⟨vs, h1, h2⟩ := dx
 obtain ⟨v, h3, h4⟩ := h1.get hu
 exact ⟨v, xExtract h2 (by simpa using h3), Du.v.2 h4⟩
theorem dNe {t t' e : TypeId} {x : Operand} {n' c' : Nat} {x' : X} {o : BinOp} {ng : Bool} (ho : (o = .eql ∧ ng = false) ∨ (o = .neq ∧ ng = true)) (ht : P.underlying t = some (.slice e)) (hx : cvX x = some x') (h : pNe ng x' Γ fr K = some out) :
   ∃ v, K v = some out ∧ PDoes P σ fr ⟨d, .binOp o t x (.const (.slice none n' c')) t', ty, pos, af, g⟩ v := by
 obtain ⟨a, ha, h⟩ := aK_some h
 have key : ∀ (A : Option Addr) (n c : Nat) (f : Fr) (w : World), ev f x = .slice A n c → (execOp (ev f) ⟨d, .binOp o t x (.const (.slice none n' c')) t', ty, pos, af, g⟩).run P w = .ok (.value (.bool (xor ng A.isNone))) w := by
   intro A n c f w hA
   rcases ho with ⟨rfl, rfl⟩ | ⟨rfl, rfl⟩
   · have := xNilEql (P := P) (w := w) (ρ := ev f) (d := d) (ty := ty) (pos := pos) (af := af) (g := g) (n' := n') (c' := c') (t' := t') ht hA rfl
     simpa [Yl] using this
   · have h3 := run_neq_slice_nil_any (P := P) w t e A n c n' c' ht
     have hc : ev f (.const (.slice none n' c')) = .slice none n' c' := rfl
     simp [execOp, hA, hc, eqGuard, h3]
 rcases sK_some h with ⟨rfl, g1⟩ | ⟨r, o', n, rfl, g1⟩
 · rw [bol_eq] at g1
   refine ⟨_, g1, fun η f w hr => ⟨_, key none 0 0 f w ?_, rfl⟩⟩
   have dx := hr.get (by simp [Op.operands]) hx
   rw [ha] at dx; exact dx
 · rw [bol_eq] at g1
   refine ⟨_, g1, fun η f w hr => ?_⟩
   have dx := hr.get (by simp [Op.operands]) hx
   rw [ha] at dx
   obtain ⟨b, c, c'', h1, h2, h3⟩ := dx
   exact ⟨_, key _ _ _ f w h2, rfl⟩
theorem i_nat {η : Eta} {k : IntKind} {n : Nat} {v : Value} (h : Dv σ η (.a (.i k (.n n))) v) : v = .int k ((n : Nat) : Int) := h
theorem dFa {t : TypeId} {x : Operand} {x' : X} {n : Nat} {fs : Array Field} {f : Field} {j : TyI} (ht : P.underlying t = some (.struct fs)) (hf : fs[n]? = some f) (hj : j.Ok P f.type) (hz : j.z.length ≠ 0) (hx : cvX x = some x') (h : pFa f.offset x' Γ fr K = some out) :
  ∃ v, K v = some out ∧ PDoes P σ fr ⟨d, .fieldAddr t x n, ty, pos, af, g⟩ v := by
 obtain ⟨a, ha, g1⟩ := aK_some h
 obtain ⟨r, o, rfl, g2⟩ := pK_some g1
 rw [frc_eq] at g2
 refine ⟨_, g2, fun η f' w hr => ?_⟩
 have dx := hr.get (by simp [Op.operands]) hx
 rw [ha] at dx
 obtain ⟨b, c, h1, h2⟩ := dx
 obtain ⟨hu, zv, hti, _⟩ := hj
 exact ⟨_, xFld ht hf rfl hti hz h2, b, c, h1, rfl⟩
theorem isAgg_run {t : TypeId} {D : TypeDesc} (hu : P.underlying t = some D) (w : World) : (isAgg t).run P w = .ok (aggD D) w := by
 unfold isAgg
 rw [Sem.run_bind, run_underlying hu w]
 cases D <;> simp [aggD]
theorem dFd {t : TypeId} {x : Operand} {x' : X} {n : Nat} {fs : Array Field} {f : Field} {j : TyI} (ht : P.underlying t = some (.struct fs)) (hf : fs[n]? = some f) (hj : j.Ok P f.type) (hD : aggD j.D = false) (hx : cvX x = some x') (h : pFd f.offset x' Γ fr K = some out) :
  ∃ v, K v = some out ∧ PDoes P σ fr ⟨d, .field t x n, ty, pos, af, g⟩ v := by
 obtain ⟨l, hl, g1⟩ := gK_some h
 obtain ⟨a, ha, g2⟩ := nthK_some g1
 refine ⟨_, g2, fun η f' w hr => ?_⟩
 have dx := hr.get (by simp [Op.operands]) hx
 rw [hl] at dx
 obtain ⟨vs, h1, h2⟩ := dx
 obtain ⟨v, h3, h4⟩ := h1.get ha
 have hag := isAgg_run hj.1 w
 rw [hD] at hag
 refine ⟨v, ?_, h4⟩
 simp [execOp, Instr.field, run_underlying ht, hf, h2, asAgg, part, Sem.run_bind, hag, h3]
theorem dFn {t : TypeId} {x : Operand} {x' : X} {n : Nat} {fs : Array Field} {f : Field} {j : TyI} (ht : P.underlying t = some (.struct fs)) (hf : fs[n]? = some f) (hj : j.Ok P f.type) (hD : aggD j.D = true) (hx : cvX x = some x') (h : pFn f.offset j.z.length x' Γ fr K = some out) :
  ∃ v, K v = some out ∧ PDoes P σ fr ⟨d, .field t x n, ty, pos, af, g⟩ v := by
 obtain ⟨l, hl, g1⟩ := gK_some h
 obtain ⟨_, g2⟩ := dropK_some g1
 obtain ⟨_, g3⟩ := takeK_some g2
 refine ⟨_, g3, fun η f' w hr => ?_⟩
 have dx := hr.get (by simp [Op.operands]) hx
 rw [hl] at dx
 obtain ⟨vs, h1, h2⟩ := dx
 have hag := isAgg_run hj.1 w
 rw [hD] at hag
 obtain ⟨hu, zv, ⟨ti, ti1, ti2, ti3, ti4⟩, _⟩ := hj
 refine ⟨_, ?_, _, (h1.drop f.offset).take j.z.length, rfl⟩
 simp [execOp, Instr.field, run_underlying ht, hf, h2, asAgg, part, Sem.run_bind, hag, sizeOf, typeInfo, ti1, ti3, List.extract]
theorem dIx {t e : TypeId} {x y : Operand} {x' y' : X} {j : TyI} (ht : P.underlying t = some (.slice e)) (hj : j.Ok P e) (hx : cvX x = some x') (hy : cvX y = some y') (h : pIx j.z.length x' y' Γ fr K = some out) :
   ∃ v, K v = some out ∧ PDoes P σ fr ⟨d, .indexAddr t x y, ty, pos, af, g⟩ v := by
 obtain ⟨a, ha, g1⟩ := aK_some h
 rcases sK_some g1 with ⟨rfl, g2⟩ | ⟨r, o, n, rfl, g2⟩
 · cases g2
 · obtain ⟨k, m, hm, g3⟩ := natK_some g2
   obtain ⟨hb, g4⟩ := bif_some g3
   have hb := Nat.le_of_ble_eq_true hb
   rw [frc_eq] at g4
   refine ⟨_, g4, fun η f w hr => ?_⟩
   have dx := hr.get (by simp [Op.operands]) hx
   have dy := hr.get (by simp [Op.operands]) hy
   rw [ha] at dx
   rw [hm] at dy
   obtain ⟨b, c, c', h1, h2, h3⟩ := dx
   obtain ⟨hu, zv, hti, _⟩ := hj
   exact ⟨_, xIdx m ht hti h2 (i_nat dy) rfl hb, b, c, h1, rfl⟩
theorem dIa {t e : TypeId} {m : Nat} {x y : Operand} {x' y' : X} {j : TyI} (ht : P.underlying t = some (.array m e)) (hj : j.Ok P e) (hx : cvX x = some x') (hy : cvX y = some y') (h : pIa m j.z.length x' y' Γ fr K = some out) :
  ∃ v, K v = some out ∧ PDoes P σ fr ⟨d, .indexAddr t x y, ty, pos, af, g⟩ v := by
 obtain ⟨a, ha, g1⟩ := aK_some h
 obtain ⟨r, o, rfl, g2⟩ := pK_some g1
 obtain ⟨k, i, hm, g3⟩ := natK_some g2
 obtain ⟨hb, g4⟩ := bif_some g3
 have hb := Nat.le_of_ble_eq_true hb
 rw [frc_eq] at g4
 refine ⟨_, g4, fun η f w hr => ?_⟩
 have dx := hr.get (by simp [Op.operands]) hx
 have dy := hr.get (by simp [Op.operands]) hy
 rw [ha] at dx
 rw [hm] at dy
 obtain ⟨b, c, h1, h2⟩ := dx
 obtain ⟨hu, zv, hti, _⟩ := hj
 exact ⟨_, xIdxA i ht hti h2 (i_nat dy) rfl hb, b, c, h1, rfl⟩
theorem dId {t e : TypeId} {m : Nat} {x y : Operand} {x' y' : X} {j : TyI} (ht : P.underlying t = some (.array m e)) (hj : j.Ok P e) (hD : aggD j.D = false) (hx : cvX x = some x') (hy : cvX y = some y') (h : pId m x' y' Γ fr K = some out) :
  ∃ v, K v = some out ∧ PDoes P σ fr ⟨d, .index t x y, ty, pos, af, g⟩ v := by
 obtain ⟨l, hl, g1⟩ := gK_some h
 obtain ⟨k, i, hm, g3⟩ := natK_some g1
 obtain ⟨hb, g4⟩ := bif_some g3
 have hb := Nat.le_of_ble_eq_true hb
 obtain ⟨a, ha, g5⟩ := nthK_some g4
 refine ⟨_, g5, fun η f w hr => ?_⟩
 have dx := hr.get (by simp [Op.operands]) hx
 have dy := hr.get (by simp [Op.operands]) hy
 rw [hl] at dx
 rw [hm] at dy
 obtain ⟨vs, h1, h2⟩ := dx
 obtain ⟨v, h3, h4⟩ := h1.get ha
 have hag := isAgg_run hj.1 w
 rw [hD] at hag
 obtain ⟨hu, zv, ⟨ti, ti1, ti2, ti3, ti4⟩, hz, hza, hzo, _⟩ := hj
 have hlen : j.z.length = 1 := by
  have h5 := (hz (fun _ => 0) (fun _ => none)).len
  rw [cells_one (hzo hD)] at h5
  simpa using h5.symm
 have hlt : i < m := hb
 refine ⟨v, ?_, h4⟩
 simp [execOp, Instr.index, run_underlying ht, h2, i_nat dy, asIntOf, hlt, part, Sem.run_bind, hag, sizeOf, typeInfo, ti1, ti3, hlen, h3]
theorem dIg {t e : TypeId} {m : Nat} {x y : Operand} {x' y' : X} {j : TyI} (ht : P.underlying t = some (.array m e)) (hj : j.Ok P e) (hD : aggD j.D = true) (hx : cvX x = some x') (hy : cvX y = some y') (h : pIg m j.z.length x' y' Γ fr K = some out) :
  ∃ v, K v = some out ∧ PDoes P σ fr ⟨d, .index t x y, ty, pos, af, g⟩ v := by
 obtain ⟨l, hl, g1⟩ := gK_some h
 obtain ⟨k, i, hm, g3⟩ := natK_some g1
 obtain ⟨hb, g4⟩ := bif_some g3
 have hb := Nat.le_of_ble_eq_true hb
 obtain ⟨_, g5⟩ := dropK_some g4
 obtain ⟨_, g6⟩ := takeK_some g5
 refine ⟨_, g6, fun η f w hr => ?_⟩
 have dx := hr.get (by simp [Op.operands]) hx
 have dy := hr.get (by simp [Op.operands]) hy
 rw [hl] at dx
 rw [hm] at dy
 obtain ⟨vs, h1, h2⟩ := dx
 have hag := isAgg_run hj.1 w
 rw [hD] at hag
 obtain ⟨hu, zv, ⟨ti, ti1, ti2, ti3, ti4⟩, _⟩ := hj
 have hlt : i < m := hb
 refine ⟨_, ?_, _, (h1.drop (Nat.mul i j.z.length)).take j.z.length, rfl⟩
 simp [execOp, Instr.index, run_underlying ht, h2, i_nat dy, asIntOf, hlt, part, Sem.run_bind, hag, sizeOf, typeInfo, ti1, ti3, List.extract]
theorem dLn {t e : TypeId} {x : Operand} {x' : X} {a2 : Array TypeId} {c : Call} (hc : c.callee = .builtin .len) (hxs : c.args = #[x]) (hts : c.argTypes = #[t]) (ht : P.underlying t = some (.slice e)) (hx : cvX x = some x') (h : pLn x' Γ fr K = some out) :
   ∃ v, K v = some out ∧ PDoes P σ fr ⟨d, .call c, ty, pos, af, g⟩ v := by
 obtain ⟨c1, c2, c3⟩ := c
 simp only at hc hxs hts
 subst hc; subst hxs; subst hts
 obtain ⟨a, ha, g1⟩ := aK_some h
 rcases sK_some g1 with ⟨rfl, g2⟩ | ⟨r, o, n, rfl, g2⟩
 · refine ⟨_, g2, fun η f w hr => ⟨.int .i64 ((0 : Nat) : Int), ?_, rfl⟩⟩
   have dx := hr.get (by simp [Op.operands, Call.operands]) hx
   rw [ha] at dx
   exact xLen ht dx
 · refine ⟨_, g2, fun η f w hr => ⟨.int .i64 ((n : Nat) : Int), ?_, rfl⟩⟩
   have dx := hr.get (by simp [Op.operands, Call.operands]) hx
   rw [ha] at dx
   obtain ⟨b, c, c', h1, h2, h3⟩ := dx
   exact xLen ht h2
theorem dLa {t e : TypeId} {x : Operand} {n : Nat} {c : Call} (hc : c.callee = .builtin .len) (hxs : c.args = #[x]) (hts : c.argTypes = #[t]) (ht : P.underlying t = some (.array n e)) (h : pMv (.c (.a (.i .i64 (.n n)))) Γ fr K = some out) :
  ∃ v, K v = some out ∧ PDoes P σ fr ⟨d, .call c, ty, pos, af, g⟩ v := by
 obtain ⟨c1, c2, c3⟩ := c
 simp only at hc hxs hts
 subst hc; subst hxs; subst hts
 rw [pMv, frc_V] at h
 refine ⟨_, h, fun η f w hr => ⟨.int .i64 ((n : Nat) : Int), ?_, rfl⟩⟩
 simp [execOp, resolve, invoke, builtin, Builtin.len_, run_underlying ht, goInt]
theorem dSl {t e : TypeId} {x y : Operand} {x' y' : X} {j : TyI} (ht : P.underlying t = some (.slice e)) (hj : j.Ok P e) (hx : cvX x = some x') (hy : cvX y = some y') (h : pSl x' y' Γ fr K = some out) :
   ∃ v, K v = some out ∧ PDoes P σ fr ⟨d, .slice t x none (some y) none, ty, pos, af, g⟩ v := by
 obtain ⟨a, ha, g1⟩ := aK_some h
 obtain ⟨k, i, hm, g2⟩ := natK_some g1
 obtain ⟨hu, zv, hti, _⟩ := hj
 rcases sK_some g2 with ⟨rfl, g3⟩ | ⟨r, o, n, rfl, g3⟩
 · obtain ⟨hb, g4⟩ := bif_some g3
   have hb := Nat.eq_of_beq_eq_true hb
   subst hb
   refine ⟨_, g4, fun η f w hr => ⟨.slice none 0 0, ?_, rfl⟩⟩
   have dx := hr.get (by simp [Op.operands]) hx
   have dy := hr.get (by simp [Op.operands]) hy
   rw [ha] at dx
   rw [hm] at dy
   exact xSlcH 0 ht hti dx (i_nat dy) rfl (Nat.le_refl _)
 · obtain ⟨hb, g4⟩ := bif_some g3
   have hb := Nat.le_of_ble_eq_true hb
   refine ⟨_, g4, fun η f w hr => ?_⟩
   have dx := hr.get (by simp [Op.operands]) hx
   have dy := hr.get (by simp [Op.operands]) hy
   rw [ha] at dx
   rw [hm] at dy
   obtain ⟨b, c, c', h1, h2, h3, h4⟩ := dx
   exact ⟨_, xSlcH i ht hti h2 (i_nat dy) rfl (by omega), b, c, c', h1, rfl, by omega, h4⟩
theorem capsK_some {fr : T V} : ∀ {xs : List X} {K : List (Pp × Nat) → R} {out : Out}, capsK fr xs K = some out → ∃ l, K l = some out ∧ ∀ η vs, DVL σ η (xs.map (rdX fr)) vs → Dcaps η l vs
 | [], K, out, h => ⟨[], h, fun η vs hd => hd⟩
 | x :: xs, K, out, h => by
  obtain ⟨a, ha, g1⟩ := aK_some (show (rdX fr x).aK _ = some out from h)
  obtain ⟨r, o, rfl, g2⟩ := pK_some g1
  obtain ⟨l, g3, g4⟩ := capsK_some (xs := xs) (K := fun l => K ((r, o) :: l)) g2
  refine ⟨_, g3, fun η vs hd => ?_⟩
  obtain ⟨v, vs', rfl, d1, d2⟩ := hd
  rw [ha] at d1
  obtain ⟨b, c, h1, rfl⟩ := d1
  exact ⟨b, c, vs', h1, rfl, g4 η vs' d2⟩
theorem dMf {k : Nat} {first cs : Array Operand} {xs : List X} (hf : first = #[]) (hc : cvXs cs.toList = some xs) (h : pMf k xs Γ fr K = some out) : ∃ v, K v = some out ∧ PDoes P σ fr ⟨d, .makeFunc (.func k) first cs, ty, pos, af, g⟩ v := by
 subst hf
 obtain ⟨l, g1, g2⟩ := capsK_some (σ := σ) h
 refine ⟨_, g1, fun η f w hr => ?_⟩
 have := hr.list (l := cs.toList) (by intro x hx; simpa [Op.operands] using hx) hc
 refine ⟨.func (.func k) #[] (cs.toList.map (ev f)).toArray, ?_, _, g2 η _ this, rfl⟩
 have he : cs.map (ev f) = (cs.toList.map (ev f)).toArray := by apply Array.ext'; simp
 simp only [execOp, Instr.makeFunc, he]
 simp
include hΓ in
theorem dMn {x y : Operand} {x' y' : X} {mx : Bool} {t t' : TypeId} {c : Call} (hc : c.callee = .builtin (bif mx then .max else .min)) (hxs : c.args = #[x, y]) (hts : c.argTypes = #[t, t']) (hx : cvX x = some x') (hy : cvX y = some y') (h : pMn mx x' y' Γ fr K = some out) :
  ∃ v, K v = some out ∧ PDoes P σ fr ⟨d, .call c, ty, pos, af, g⟩ v := by
 obtain ⟨c1, c2, c3⟩ := c
 simp only at hc hxs hts
 subst hc; subst hxs; subst hts
 obtain ⟨a, ha, g1⟩ := aK_some h
 obtain ⟨k, e, rfl, g2⟩ := iK_some g1
 obtain ⟨b, hb, g3⟩ := aK_some g2
 obtain ⟨k', e', rfl, g4⟩ := iK_some g3
 obtain ⟨rfl, g5⟩ := sameK_some g4
 have get : ∀ (η : Eta) (f : Fr), XR σ η fr f (Op.call { callee := .builtin (bif mx then .max else .min), args := #[x, y], argTypes := #[t, t'] }).operands.toList → ev f x = .int k (e.den σ) ∧ ev f y = .int k (e'.den σ) := by
  intro η f hr
  have dx := hr.get (x := x) (by simp [Op.operands, Call.operands]) hx
  have dy := hr.get (x := y) (by simp [Op.operands, Call.operands]) hy
  rw [ha] at dx
  rw [hb] at dy
  exact ⟨dx, dy⟩
 cases mx with
 | true =>
  obtain ⟨s, g6, g7⟩ := cpK_some hΓ (show cpK Γ .lss e e' _ = some out from g5)
  have g7 : some (decide (e.den σ < e'.den σ)) = some s := g7
  injection g7 with g7
  subst g7
  by_cases hlt : e.den σ < e'.den σ
  · rw [decide_eq_true hlt] at g6
    refine ⟨_, g6, fun η f w hr => ⟨.int k (e'.den σ), ?_, rfl⟩⟩
    have := xMax (P := P) (w := w) (d := d) (ty := ty) (pos := pos) (af := af) (g := g) (t := t) (t' := t') (get η f hr).1 (get η f hr).2
    rwa [if_pos hlt] at this
  · rw [decide_eq_false hlt] at g6
    refine ⟨_, g6, fun η f w hr => ⟨.int k (e.den σ), ?_, rfl⟩⟩
    have := xMax (P := P) (w := w) (d := d) (ty := ty) (pos := pos) (af := af) (g := g) (t := t) (t' := t') (get η f hr).1 (get η f hr).2
    rwa [if_neg hlt] at this
 | false =>
  obtain ⟨s, g6, g7⟩ := cpK_some hΓ (show cpK Γ .lss e' e _ = some out from g5)
  have g7 : some (decide (e'.den σ < e.den σ)) = some s := g7
  injection g7 with g7
  subst g7
  by_cases hlt : e'.den σ < e.den σ
  · rw [decide_eq_true hlt] at g6
    refine ⟨_, g6, fun η f w hr => ⟨.int k (e'.den σ), ?_, rfl⟩⟩
    have := xMin (P := P) (w := w) (d := d) (ty := ty) (pos := pos) (af := af) (g := g) (t := t) (t' := t') (get η f hr).1 (get η f hr).2
    rwa [if_pos hlt] at this
  · rw [decide_eq_false hlt] at g6
    refine ⟨_, g6, fun η f w hr => ⟨.int k (e.den σ), ?_, rfl⟩⟩
    have := xMin (P := P) (w := w) (d := d) (ty := ty) (pos := pos) (af := af) (g := g) (t := t) (t' := t') (get η f hr).1 (get η f hr).2
    rwa [if_neg hlt] at this
end
end
end
end Go.Ev
