/- The evaluator: operations that look at no memory, and the program's own. -/
import Derived.Test.YtikafojlhinonaaE5
set_option linter.unusedVariables false
set_option linter.unusedSimpArgs false
namespace Go.Ev
open Go.RowKit Go.Fw
noncomputable section

def cvPs (place : Nat → Option (Nat × Nat)) : List (Nat × Operand) → Option (List (Nat × Nat × X))
  | [] => some []
  | (i, x) :: l => (place i).bind fun p => (cvX x).bind fun x' => (cvPs place l).map ((p.1, p.2, x') :: ·)
def fieldAt (Θ : T (Option TyI)) (fs : Array Field) (n : Nat) : Option (Nat × Nat) := (fs[n]?).bind fun f => (tyOf Θ f.type).map fun j => (f.offset, j.z.length)
def known (Θ : T (Option TyI)) : List Field → Bool
  | [] => true
  | f :: fs => and (tyOf Θ f.type).isSome (known Θ fs)
def cvEq (Θ : T (Option TyI)) (i : TyI) (o : BinOp) (t : Nat) (x' : X) (y : Operand) : Option OP :=
  (cvX y).bind fun y' => (eqX Θ 9 t).bind fun ks => match o with
    | .eql => some (.eq false (aggD i.D) ks x' y')
    | .neq => some (.eq true (aggD i.D) ks x' y')
    | _ => none
def cvO : Option Operand → Option (Option X)
  | none => some none
  | some y => (cvX y).map some
def cvBin (Θ : T (Option TyI)) (i : TyI) (o : BinOp) (t : Nat) (x' : X) (y : Operand) : Option OP :=
  match i.D with
  | .int _ => (cvX y).bind fun y' => bif compares o then some (.cp o x' y') else some (.ar o x' y')
  | .slice _ => match y, o with
    | .const (.slice none _ _), .eql => some (.ne false x')
    | .const (.slice none _ _), .neq => some (.ne true x')
    | _, _ => none
  | .string => match o with
    | .add => (cvX y).map fun y' => .sc x' y'
    | o => cvEq Θ i o t x' y
  | .interface _ => match y, o with
    | .const .nilIface, .eql => some (.qe false x')
    | .const .nilIface, .neq => some (.qe true x')
    | _, _ => none
  | _ => cvEq Θ i o t x' y
def cvCallP (Θ : T (Option TyI)) (c : Call) : Option OP :=
  match c.callee, c.args.toList, c.argTypes.toList with
  | .builtin .len, [x], [t] => (tyOf Θ t).bind fun i => match i.D with
    | .slice _ => (cvX x).map .ln
    | .array n _ => some (.mv (.c (.a (.i .i64 (.n n)))))
    | .string => (cvX x).map .sn
    | _ => none
  | .builtin .min, [x, y], [_, _] => (cvX x).bind fun x' => (cvX y).map fun y' => .mn false x' y'
  | .builtin .max, [x, y], [_, _] => (cvX x).bind fun x' => (cvX y).map fun y' => .mn true x' y'
  | _, _, _ => none
def cvP (Θ : T (Option TyI)) : Op → Option OP
  | .move x => (cvX x).map .mv
  | .assign x => (cvX x).map .mv
  | .pick c a b => (cvX c).bind fun c' => (cvX a).bind fun a' => (cvX b).map fun b' => .pk c' a' b'
  | .binOp o t x y _ => (tyOf Θ t).bind fun i => (cvX x).bind fun x' => cvBin Θ i o t x' y
  | .unOp .not _ x => (cvX x).map .nt
  | .unOp .neg _ x => (cvX x).map .ng
  | .nilCheck x => (cvX x).map .nc
  | .fieldAddr t x n => (tyOf Θ t).bind fun i => match i.D with
    | .struct fs => (fs[n]?).bind fun f => (tyOf Θ f.type).bind fun j => bif Nat.beq j.z.length 0 then none else (cvX x).map fun x' => .fa f.offset x'
    | _ => none
  | .field t x n => (tyOf Θ t).bind fun i => match i.D with
    | .struct fs => (fs[n]?).bind fun f => (tyOf Θ f.type).bind fun j => (cvX x).map fun x' => bif aggD j.D then .fn f.offset j.z.length x' else .fd f.offset x'
    | _ => none
  | .indexAddr t x y => (tyOf Θ t).bind fun i => match i.D with
    | .slice e => (tyOf Θ e).bind fun j => (cvX x).bind fun x' => (cvX y).map fun y' => .ix j.z.length x' y'
    | .array m e => (tyOf Θ e).bind fun j => (cvX x).bind fun x' => (cvX y).map fun y' => .ia m j.z.length x' y'
    | _ => none
  | .index t x y => (tyOf Θ t).bind fun i => match i.D with
    | .array m e => (tyOf Θ e).bind fun j => (cvX x).bind fun x' => (cvX y).map fun y' => bif aggD j.D then .ig m j.z.length x' y' else .id m x' y'
    | .string => (cvX x).bind fun x' => (cvX y).map fun y' => .sx x' y'
    | _ => none
  | .build t ps => (tyOf Θ t).bind fun i => match i.D with
    | .struct fs => bif known Θ fs.toList then (cvPs (fieldAt Θ fs) ps.toList).map fun qs => .bd i.z qs else none
    | .array _ e => (tyOf Θ e).bind fun j => (cvPs (fun k => some (Nat.mul k j.z.length, j.z.length)) ps.toList).map fun qs => .bd i.z qs
    | _ => none
  | .extract x n => (cvX x).map fun x' => .ex n x'
  | .slice t x none (some y) none => (tyOf Θ t).bind fun i => match i.D with
    | .slice e => (tyOf Θ e).bind fun j => (cvX x).bind fun x' => (cvX y).map fun y' => .sl x' y'
    | .string => (cvX x).bind fun x' => (cvX y).map fun y' => .ss x' none (some y')
    | _ => none
  | .slice t x (some l) hi none => (tyOf Θ t).bind fun i => match i.D with
    | .slice e => (tyOf Θ e).bind fun j => (cvX x).bind fun x' => (cvX l).bind fun l' => (cvO hi).map fun h' => .s2 j.z.length x' l' h'
    | .string => (cvX x).bind fun x' => (cvX l).bind fun l' => (cvO hi).map fun h' => .ss x' (some l') h'
    | _ => none
  | .convert s t x => (tyOf Θ s).bind fun j => (tyOf Θ t).bind fun i => match j.D, i.D with
    | .int _, .int k => (cvX x).map (.cv k)
    | _, _ => none
  | .makeInterface t x => (tyOf Θ t).bind fun i => match i.D with
    | .int _ => (cvX x).map (.mi t)
    | _ => none
  | .typeAssert x _ t true => (tyOf Θ t).bind fun i => match i.D, i.z with
    | .int _, [z] => (cvX x).map (.ta t z)
    | _, _ => none
  | .makeFunc (.func k) first cs => bif first.isEmpty then (cvXs cs.toList).map fun xs => .mf k xs else none
  | .call c => cvCallP Θ c
  | _ => none

section
variable {P : Program} {Θ : T (Option TyI)} (hΘ : Θ.All (TyQ P)) {σ : Sg} {Γ : Env} (hΓ : Γ.Ok σ)
/-- what an operation that looks at no memory does -/
def PDoes (P : Program) (σ : Sg) (fr : T V) (o : Oper) (v : V) : Prop :=
  ∀ (η : Eta) (f : Fr) (w : World), XR σ η fr f o.op.operands.toList → ∃ v', (execOp (ev f) o).run P w = .ok (.value v') w ∧ Dv σ η v v'
section
variable {fr : T V} {K : V → R} {out : Out} {d : Option Nat} {ty : TypeId} {pos : String} {af : Array Edge} {g : Option (Nat × Bool)}
theorem dMv {x : Operand} {x' : X} (hx : cvX x = some x') (h : pMv x' Γ fr K = some out) : ∃ v, K v = some out ∧ PDoes P σ fr ⟨d, .move x, ty, pos, af, g⟩ v :=
  ⟨_, by rw [pMv, frc_V] at h; exact h, fun η f w hr => ⟨_, rfl, hr.get (by simp [Op.operands]) hx⟩⟩
theorem dAs {x : Operand} {x' : X} (hx : cvX x = some x') (h : pMv x' Γ fr K = some out) : ∃ v, K v = some out ∧ PDoes P σ fr ⟨d, .assign x, ty, pos, af, g⟩ v :=
  ⟨_, by rw [pMv, frc_V] at h; exact h, fun η f w hr => ⟨_, rfl, hr.get (by simp [Op.operands]) hx⟩⟩
theorem dPk {c a b : Operand} {c' a' b' : X} (hc : cvX c = some c') (ha : cvX a = some a') (hb : cvX b = some b') (h : pPk c' a' b' Γ fr K = some out) : ∃ v, K v = some out ∧ PDoes P σ fr ⟨d, .pick c a b, ty, pos, af, g⟩ v := by
  obtain ⟨q, h1, h2⟩ := aK_some h
  obtain ⟨t, rfl, h3⟩ := bK_some h2
  cases t with
  | true =>
    have h4 : (rdX fr a').frc K = some out := h3
    rw [frc_V] at h4
    refine ⟨_, h4, fun η f w hr => ⟨_, xPickT ?_, hr.get (by simp [Op.operands]) ha⟩⟩
    have := hr.get (by simp [Op.operands]) hc
    rw [h1] at this; exact this
  | false =>
    have h4 : (rdX fr b').frc K = some out := h3
    rw [frc_V] at h4
    refine ⟨_, h4, fun η f w hr => ⟨_, xPickF ?_, hr.get (by simp [Op.operands]) hb⟩⟩
    have := hr.get (by simp [Op.operands]) hc
    rw [h1] at this; exact this
theorem sameK_some {k k' : IntKind} {c : R} (h : sameK k k' c = some out) : k = k' ∧ c = some out := by
  obtain ⟨h1, h2⟩ := bif_some h
  exact ⟨ikK_inj h1, h2⟩
include hΓ in
theorem dAr {o : BinOp} {t t' : TypeId} {x y : Operand} {x' y' : X} (hx : cvX x = some x') (hy : cvX y = some y') (h : pAr o x' y' Γ fr K = some out) : ∃ v, K v = some out ∧ PDoes P σ fr ⟨d, .binOp o t x y t', ty, pos, af, g⟩ v := by
  obtain ⟨a, ha, g1⟩ := aK_some h
  obtain ⟨k, e, rfl, g2⟩ := iK_some g1
  obtain ⟨b, hb, g3⟩ := aK_some g2
  obtain ⟨k', e', rfl, g4⟩ := iK_some g3
  obtain ⟨rfl, g5⟩ := sameK_some g4
  obtain ⟨s, h1, h2⟩ := arK_some hΓ g5
  refine ⟨_, h1, fun η f w hr => ⟨.int k (s.den σ), ?_, rfl⟩⟩
  have dx := hr.get (by simp [Op.operands]) hx
  have dy := hr.get (by simp [Op.operands]) hy
  rw [ha] at dx
  rw [hb] at dy
  have dx : ev f x = .int k (e.den σ) := dx
  have dy : ev f y = .int k (e'.den σ) := dy
  cases o
  case add => injection h2 with h2; rw [← h2]; exact xAdd dx dy
  case sub => injection h2 with h2; rw [← h2]; exact xSub dx dy
  case mul => injection h2 with h2; rw [← h2]; exact xMul dx dy
  case quo =>
    have h2 : Bool.rec (motive := fun _ => Option Int) (some (k.wrap ((e.den σ).tdiv (e'.den σ)))) none (decide (e'.den σ = 0)) = some (s.den σ) := h2
    by_cases h0 : e'.den σ = 0
    · rw [decide_eq_true h0] at h2; cases h2
    · rw [decide_eq_false h0] at h2; injection h2 with h2; rw [← h2]; exact xQuo dx dy h0
  case rem =>
    have h2 : Bool.rec (motive := fun _ => Option Int) (some ((e.den σ).tmod (e'.den σ))) none (decide (e'.den σ = 0)) = some (s.den σ) := h2
    by_cases h0 : e'.den σ = 0
    · rw [decide_eq_true h0] at h2; cases h2
    · rw [decide_eq_false h0] at h2; injection h2 with h2; rw [← h2]; exact xRem dx dy h0
  case and => injection h2 with h2; rw [← h2]; exact xAnd dx dy
  case or => injection h2 with h2; rw [← h2]; exact xOr dx dy
  case xor => injection h2 with h2; rw [← h2]; exact xXor dx dy
  all_goals cases h2
include hΓ in
theorem dCp {o : BinOp} {t t' : TypeId} {x y : Operand} {x' y' : X} (hx : cvX x = some x') (hy : cvX y = some y') (h : pCp o x' y' Γ fr K = some out) : ∃ v, K v = some out ∧ PDoes P σ fr ⟨d, .binOp o t x y t', ty, pos, af, g⟩ v := by
  obtain ⟨a, ha, g1⟩ := aK_some h
  obtain ⟨k, e, rfl, g2⟩ := iK_some g1
  obtain ⟨b, hb, g3⟩ := aK_some g2
  obtain ⟨k', e', rfl, g4⟩ := iK_some g3
  obtain ⟨rfl, g5⟩ := sameK_some g4
  obtain ⟨s, h1, h2⟩ := cpK_some hΓ g5
  refine ⟨_, h1, fun η f w hr => ⟨.bool s, ?_, rfl⟩⟩
  have dx := hr.get (by simp [Op.operands]) hx
  have dy := hr.get (by simp [Op.operands]) hy
  rw [ha] at dx
  rw [hb] at dy
  have dx : ev f x = .int k (e.den σ) := dx
  have dy : ev f y = .int k (e'.den σ) := dy
  cases o
  case eql => injection h2 with h2; rw [← h2]; exact xEqlD dx dy
  case neq => injection h2 with h2; rw [← h2]; have := xNeqD (P := P) (w := w) (d := d) (ty := ty) (pos := pos) (af := af) (g := g) (t := t) (t' := t') dx dy; simpa [Yl, decide_not] using this
  case lss => injection h2 with h2; rw [← h2]; exact xLss dx dy
  case leq => injection h2 with h2; rw [← h2]; exact xLeq dx dy
  case gtr => injection h2 with h2; rw [← h2]; exact xGtr dx dy
  case geq => injection h2 with h2; rw [← h2]; exact xGeq dx dy
  all_goals cases h2
theorem dNt {t : TypeId} {x : Operand} {x' : X} (hx : cvX x = some x') (h : pNt x' Γ fr K = some out) : ∃ v, K v = some out ∧ PDoes P σ fr ⟨d, .unOp .not t x, ty, pos, af, g⟩ v := by
  obtain ⟨a, ha, g1⟩ := aK_some h
  obtain ⟨s, rfl, g2⟩ := bK_some g1
  rw [bol_eq] at g2
  refine ⟨_, g2, fun η f w hr => ⟨.bool (!s), ?_, rfl⟩⟩
  have dx := hr.get (by simp [Op.operands]) hx
  rw [ha] at dx
  exact xNot dx
theorem dNc {x : Operand} {x' : X} (hx : cvX x = some x') (h : pNc x' Γ fr K = some out) : ∃ v, K v = some out ∧ PDoes P σ fr ⟨d, .nilCheck x, ty, pos, af, g⟩ v := by
  obtain ⟨a, ha, g1⟩ := aK_some h
  obtain ⟨r, o, rfl, g2⟩ := pK_some g1
  refine ⟨_, g2, fun η f w hr => ?_⟩
  have dx := hr.get (by simp [Op.operands]) hx
  rw [ha] at dx
  obtain ⟨b, c, h1, h2⟩ := dx
  exact ⟨_, by simp [execOp, h2], b, c, h1, rfl⟩
theorem dEx {x : Operand} {x' : X} {i : Nat} (hx : cvX x = some x') (h : pEx i x' Γ fr K = some out) : ∃ v, K v = some out ∧ PDoes P σ fr ⟨d, .extract x i, ty, pos, af, g⟩ v := by
  obtain ⟨l, hl, h⟩ := tK_some h
  obtain ⟨u, hu, h⟩ := nthU_some h
  refine ⟨_, h, fun η f w hr => ?_⟩
  have dx := hr.get (by simp [Op.operands]) hx
  rw [hl] at dx
  obtain ⟨vs, h1, h2⟩ := dx
  obtain ⟨v, h3, h4⟩ := h1.get hu
  exact ⟨v, xExtract h2 (by simpa using h3), Du.v.2 h4⟩
theorem dNe {t t' e : TypeId} {x : Operand} {n' c' : Nat} {x' : X} {o : BinOp} {ng : Bool} (ho : (o = .eql ∧ ng = false) ∨ (o = .neq ∧ ng = true)) (ht : P.underlying t = some (.slice e)) (hx : cvX x = some x') (h : pNe ng x' Γ fr K = some out) :
    ∃ v, K v = some out ∧ PDoes P σ fr ⟨d, .binOp o t x (.const (.slice none n' c')) t', ty, pos, af, g⟩ v := by
  obtain ⟨a, ha, h⟩ := aK_some h
  have key : ∀ (A : Option Addr) (n c : Nat) (f : Fr) (w : World), ev f x = .slice A n c → (execOp (ev f) ⟨d, .binOp o t x (.const (.slice none n' c')) t', ty, pos, af, g⟩).run P w = .ok (.value (.bool (xor ng A.isNone))) w := by
    intro A n c f w hA
    rcases ho with ⟨rfl, rfl⟩ | ⟨rfl, rfl⟩
    · have := xNilEql (P := P) (w := w) (ρ := ev f) (d := d) (ty := ty) (pos := pos) (af := af) (g := g) (n' := n') (c' := c') (t' := t') ht hA rfl
      simpa [Yl] using this
    · have h3 := run_neq_slice_nil_any (P := P) w t e A n c n' c' ht
      have hc : ev f (.const (.slice none n' c')) = .slice none n' c' := rfl
      simp [execOp, hA, hc, eqGuard, h3]
  rcases sK_some h with ⟨rfl, g1⟩ | ⟨r, o', n, rfl, g1⟩
  · rw [bol_eq] at g1
    refine ⟨_, g1, fun η f w hr => ⟨_, key none 0 0 f w ?_, rfl⟩⟩
    have dx := hr.get (by simp [Op.operands]) hx
    rw [ha] at dx; exact dx
  · rw [bol_eq] at g1
    refine ⟨_, g1, fun η f w hr => ?_⟩
    have dx := hr.get (by simp [Op.operands]) hx
    rw [ha] at dx
    obtain ⟨b, c, c'', o'', h1, h2, h3⟩ := dx
    exact ⟨_, key _ _ _ f w h2, rfl⟩
theorem i_nat {η : Eta} {k : IntKind} {n : Nat} {v : Value} (h : Dv σ η (.a (.i k (.n n))) v) : v = .int k ((n : Nat) : Int) := h
theorem dFa {t : TypeId} {x : Operand} {x' : X} {n : Nat} {fs : Array Field} {f : Field} {j : TyI} (ht : P.underlying t = some (.struct fs)) (hf : fs[n]? = some f) (hj : j.Ok P f.type) (hz : j.z.length ≠ 0) (hx : cvX x = some x') (h : pFa f.offset x' Γ fr K = some out) :
    ∃ v, K v = some out ∧ PDoes P σ fr ⟨d, .fieldAddr t x n, ty, pos, af, g⟩ v := by
  obtain ⟨a, ha, g1⟩ := aK_some h
  obtain ⟨r, o, rfl, g2⟩ := pK_some g1
  rw [frc_eq] at g2
  refine ⟨_, g2, fun η f' w hr => ?_⟩
  have dx := hr.get (by simp [Op.operands]) hx
  rw [ha] at dx
  obtain ⟨b, c, h1, h2⟩ := dx
  obtain ⟨hu, zv, hti, _⟩ := hj
  exact ⟨_, xFld ht hf rfl hti hz h2, b, c, h1, rfl⟩
theorem isAgg_run {t : TypeId} {D : TypeDesc} (hu : P.underlying t = some D) (w : World) : (isAgg t).run P w = .ok (aggD D) w := by
  unfold isAgg
  rw [Sem.run_bind, run_underlying hu w]
  cases D <;> simp [aggD]
theorem dFd {t : TypeId} {x : Operand} {x' : X} {n : Nat} {fs : Array Field} {f : Field} {j : TyI} (ht : P.underlying t = some (.struct fs)) (hf : fs[n]? = some f) (hj : j.Ok P f.type) (hD : aggD j.D = false) (hx : cvX x = some x') (h : pFd f.offset x' Γ fr K = some out) :
    ∃ v, K v = some out ∧ PDoes P σ fr ⟨d, .field t x n, ty, pos, af, g⟩ v := by
  obtain ⟨l, hl, g1⟩ := gK_some h
  obtain ⟨a, ha, g2⟩ := nthK_some g1
  refine ⟨_, g2, fun η f' w hr => ?_⟩
  have dx := hr.get (by simp [Op.operands]) hx
  rw [hl] at dx
  obtain ⟨vs, h1, h2⟩ := dx
  obtain ⟨v, h3, h4⟩ := h1.get ha
  have hag := isAgg_run hj.1 w
  rw [hD] at hag
  refine ⟨v, ?_, h4⟩
  simp [execOp, Instr.field, run_underlying ht, hf, h2, asAgg, part, Sem.run_bind, hag, h3]
theorem dFn {t : TypeId} {x : Operand} {x' : X} {n : Nat} {fs : Array Field} {f : Field} {j : TyI} (ht : P.underlying t = some (.struct fs)) (hf : fs[n]? = some f) (hj : j.Ok P f.type) (hD : aggD j.D = true) (hx : cvX x = some x') (h : pFn f.offset j.z.length x' Γ fr K = some out) :
    ∃ v, K v = some out ∧ PDoes P σ fr ⟨d, .field t x n, ty, pos, af, g⟩ v := by
  obtain ⟨l, hl, g1⟩ := gK_some h
  obtain ⟨_, g2⟩ := dropK_some g1
  obtain ⟨_, g3⟩ := takeK_some g2
  refine ⟨_, g3, fun η f' w hr => ?_⟩
  have dx := hr.get (by simp [Op.operands]) hx
  rw [hl] at dx
  obtain ⟨vs, h1, h2⟩ := dx
  have hag := isAgg_run hj.1 w
  rw [hD] at hag
  obtain ⟨hu, zv, ⟨ti, ti1, ti2, ti3, ti4⟩, _⟩ := hj
  refine ⟨_, ?_, _, (h1.drop f.offset).take j.z.length, rfl⟩
  simp [execOp, Instr.field, run_underlying ht, hf, h2, asAgg, part, Sem.run_bind, hag, sizeOf, typeInfo, ti1, ti3, List.extract]
include hΓ in
theorem dIx {t e : TypeId} {x y : Operand} {x' y' : X} {j : TyI} (ht : P.underlying t = some (.slice e)) (hj : j.Ok P e) (hx : cvX x = some x') (hy : cvX y = some y') (h : pIx j.z.length x' y' Γ fr K = some out) :
    ∃ v, K v = some out ∧ PDoes P σ fr ⟨d, .indexAddr t x y, ty, pos, af, g⟩ v := by
  obtain ⟨a, ha, g0⟩ := aK_some h
  rcases orW_some g0 with g1 | ⟨r, e', rfl, g1⟩
  case inr =>
    obtain ⟨k, m, hm, g3⟩ := natK_some g1
    obtain ⟨hb, g4⟩ := bif_some g3
    have hz := Nat.eq_of_beq_eq_true hb
    obtain ⟨t', g5, g6⟩ := cpK_some hΓ g4
    cases t' with
    | false => cases g5
    | true =>
      refine ⟨_, g5, fun η f w hr => ?_⟩
      have dx := hr.get (by simp [Op.operands]) hx
      have dy := hr.get (by simp [Op.operands]) hy
      rw [ha] at dx
      rw [hm] at dy
      obtain ⟨A', l, c', h2, h3, h4⟩ := dx
      obtain ⟨hu, zv, hti, _⟩ := hj
      have hlt : m < l := by
        have g6 : some (decide ((m : Int) < e'.den σ)) = some true := g6
        injection g6 with g6
        have := of_decide_eq_true g6
        omega
      obtain ⟨b, c, h1, rfl⟩ := h4 (by omega)
      refine ⟨_, xIdx m ht hti h2 (i_nat dy) rfl hlt, b, c, h1, ?_⟩
      rw [hz, Nat.mul_one]
  rcases sK_some g1 with ⟨rfl, g2⟩ | ⟨r, o, n, rfl, g2⟩
  · cases g2
  · obtain ⟨k, m, hm, g3⟩ := natK_some g2
    obtain ⟨hb, g4⟩ := bif_some g3
    have hb := Nat.le_of_ble_eq_true hb
    rw [frc_eq] at g4
    refine ⟨_, g4, fun η f w hr => ?_⟩
    have dx := hr.get (by simp [Op.operands]) hx
    have dy := hr.get (by simp [Op.operands]) hy
    rw [ha] at dx
    rw [hm] at dy
    obtain ⟨b, c, c', o', h1, h2, h3, _, h4⟩ := dx
    have ho : o' = o := by rcases h4 with h4 | ⟨h4, _⟩ <;> omega
    subst ho
    obtain ⟨hu, zv, hti, _⟩ := hj
    exact ⟨_, xIdx m ht hti h2 (i_nat dy) rfl hb, b, c, h1, rfl⟩
theorem dIa {t e : TypeId} {m : Nat} {x y : Operand} {x' y' : X} {j : TyI} (ht : P.underlying t = some (.array m e)) (hj : j.Ok P e) (hx : cvX x = some x') (hy : cvX y = some y') (h : pIa m j.z.length x' y' Γ fr K = some out) :
    ∃ v, K v = some out ∧ PDoes P σ fr ⟨d, .indexAddr t x y, ty, pos, af, g⟩ v := by
  obtain ⟨a, ha, g1⟩ := aK_some h
  obtain ⟨r, o, rfl, g2⟩ := pK_some g1
  obtain ⟨k, i, hm, g3⟩ := natK_some g2
  obtain ⟨hb, g4⟩ := bif_some g3
  have hb := Nat.le_of_ble_eq_true hb
  rw [frc_eq] at g4
  refine ⟨_, g4, fun η f w hr => ?_⟩
  have dx := hr.get (by simp [Op.operands]) hx
  have dy := hr.get (by simp [Op.operands]) hy
  rw [ha] at dx
  rw [hm] at dy
  obtain ⟨b, c, h1, h2⟩ := dx
  obtain ⟨hu, zv, hti, _⟩ := hj
  exact ⟨_, xIdxA i ht hti h2 (i_nat dy) rfl hb, b, c, h1, rfl⟩
theorem dId {t e : TypeId} {m : Nat} {x y : Operand} {x' y' : X} {j : TyI} (ht : P.underlying t = some (.array m e)) (hj : j.Ok P e) (hD : aggD j.D = false) (hx : cvX x = some x') (hy : cvX y = some y') (h : pId m x' y' Γ fr K = some out) :
    ∃ v, K v = some out ∧ PDoes P σ fr ⟨d, .index t x y, ty, pos, af, g⟩ v := by
  obtain ⟨l, hl, g1⟩ := gK_some h
  obtain ⟨k, i, hm, g3⟩ := natK_some g1
  obtain ⟨hb, g4⟩ := bif_some g3
  have hb := Nat.le_of_ble_eq_true hb
  obtain ⟨a, ha, g5⟩ := nthK_some g4
  refine ⟨_, g5, fun η f w hr => ?_⟩
  have dx := hr.get (by simp [Op.operands]) hx
  have dy := hr.get (by simp [Op.operands]) hy
  rw [hl] at dx
  rw [hm] at dy
  obtain ⟨vs, h1, h2⟩ := dx
  obtain ⟨v, h3, h4⟩ := h1.get ha
  have hag := isAgg_run hj.1 w
  rw [hD] at hag
  obtain ⟨hu, zv, ⟨ti, ti1, ti2, ti3, ti4⟩, hz, hza, hzo, _⟩ := hj
  have hlen : j.z.length = 1 := by
    have h5 := (hz ⟨fun _ => 0, none⟩ (fun _ => none)).len
    rw [cells_one (hzo hD)] at h5
    simpa using h5.symm
  have hlt : i < m := hb
  refine ⟨v, ?_, h4⟩
  simp [execOp, Instr.index, run_underlying ht, h2, i_nat dy, asIntOf, hlt, part, Sem.run_bind, hag, sizeOf, typeInfo, ti1, ti3, hlen, h3]
theorem dIg {t e : TypeId} {m : Nat} {x y : Operand} {x' y' : X} {j : TyI} (ht : P.underlying t = some (.array m e)) (hj : j.Ok P e) (hD : aggD j.D = true) (hx : cvX x = some x') (hy : cvX y = some y') (h : pIg m j.z.length x' y' Γ fr K = some out) :
    ∃ v, K v = some out ∧ PDoes P σ fr ⟨d, .index t x y, ty, pos, af, g⟩ v := by
  obtain ⟨l, hl, g1⟩ := gK_some h
  obtain ⟨k, i, hm, g3⟩ := natK_some g1
  obtain ⟨hb, g4⟩ := bif_some g3
  have hb := Nat.le_of_ble_eq_true hb
  obtain ⟨_, g5⟩ := dropK_some g4
  obtain ⟨_, g6⟩ := takeK_some g5
  refine ⟨_, g6, fun η f w hr => ?_⟩
  have dx := hr.get (by simp [Op.operands]) hx
  have dy := hr.get (by simp [Op.operands]) hy
  rw [hl] at dx
  rw [hm] at dy
  obtain ⟨vs, h1, h2⟩ := dx
  have hag := isAgg_run hj.1 w
  rw [hD] at hag
  obtain ⟨hu, zv, ⟨ti, ti1, ti2, ti3, ti4⟩, _⟩ := hj
  have hlt : i < m := hb
  refine ⟨_, ?_, _, (h1.drop (Nat.mul i j.z.length)).take j.z.length, rfl⟩
  simp [execOp, Instr.index, run_underlying ht, h2, i_nat dy, asIntOf, hlt, part, Sem.run_bind, hag, sizeOf, typeInfo, ti1, ti3, List.extract]
theorem dLn {t e : TypeId} {x : Operand} {x' : X} {a2 : Array TypeId} {c : Call} (hc : c.callee = .builtin .len) (hxs : c.args = #[x]) (hts : c.argTypes = #[t]) (ht : P.underlying t = some (.slice e)) (hx : cvX x = some x') (h : pLn x' Γ fr K = some out) :
    ∃ v, K v = some out ∧ PDoes P σ fr ⟨d, .call c, ty, pos, af, g⟩ v := by
  obtain ⟨c1, c2, c3⟩ := c
  simp only at hc hxs hts
  subst hc; subst hxs; subst hts
  obtain ⟨a, ha, g0⟩ := aK_some h
  rcases orW_some g0 with g1 | ⟨r, e', rfl, g1⟩
  case inr =>
    refine ⟨_, g1, fun η f w hr => ?_⟩
    have dx := hr.get (by simp [Op.operands, Call.operands]) hx
    rw [ha] at dx
    obtain ⟨A', l, c', h2, h3, h4⟩ := dx
    exact ⟨.int .i64 ((l : Nat) : Int), xLen ht h2, by rw [h3]; rfl⟩
  rcases sK_some g1 with ⟨rfl, g2⟩ | ⟨r, o, n, rfl, g2⟩
  · refine ⟨_, g2, fun η f w hr => ⟨.int .i64 ((0 : Nat) : Int), ?_, rfl⟩⟩
    have dx := hr.get (by simp [Op.operands, Call.operands]) hx
    rw [ha] at dx
    exact xLen ht dx
  · refine ⟨_, g2, fun η f w hr => ⟨.int .i64 ((n : Nat) : Int), ?_, rfl⟩⟩
    have dx := hr.get (by simp [Op.operands, Call.operands]) hx
    rw [ha] at dx
    obtain ⟨b, c, c', o', h1, h2, h3⟩ := dx
    exact xLen ht h2
theorem dLa {t e : TypeId} {x : Operand} {n : Nat} {c : Call} (hc : c.callee = .builtin .len) (hxs : c.args = #[x]) (hts : c.argTypes = #[t]) (ht : P.underlying t = some (.array n e)) (h : pMv (.c (.a (.i .i64 (.n n)))) Γ fr K = some out) :
    ∃ v, K v = some out ∧ PDoes P σ fr ⟨d, .call c, ty, pos, af, g⟩ v := by
  obtain ⟨c1, c2, c3⟩ := c
  simp only at hc hxs hts
  subst hc; subst hxs; subst hts
  rw [pMv, frc_V] at h
  refine ⟨_, h, fun η f w hr => ⟨.int .i64 ((n : Nat) : Int), ?_, rfl⟩⟩
  simp [execOp, resolve, invoke, builtin, Builtin.len_, run_underlying ht, goInt]
theorem dSl {t e : TypeId} {x y : Operand} {x' y' : X} {j : TyI} (ht : P.underlying t = some (.slice e)) (hj : j.Ok P e) (hx : cvX x = some x') (hy : cvX y = some y') (h : pSl x' y' Γ fr K = some out) :
    ∃ v, K v = some out ∧ PDoes P σ fr ⟨d, .slice t x none (some y) none, ty, pos, af, g⟩ v := by
  obtain ⟨a, ha, g1⟩ := aK_some h
  obtain ⟨k, i, hm, g2⟩ := natK_some g1
  obtain ⟨hu, zv, hti, _⟩ := hj
  rcases sK_some g2 with ⟨rfl, g3⟩ | ⟨r, o, n, rfl, g3⟩
  · obtain ⟨hb, g4⟩ := bif_some g3
    have hb := Nat.eq_of_beq_eq_true hb
    subst hb
    refine ⟨_, g4, fun η f w hr => ⟨.slice none 0 0, ?_, rfl⟩⟩
    have dx := hr.get (by simp [Op.operands]) hx
    have dy := hr.get (by simp [Op.operands]) hy
    rw [ha] at dx
    rw [hm] at dy
    exact xSlcH 0 ht hti dx (i_nat dy) rfl (Nat.le_refl _)
  · obtain ⟨hb, g4⟩ := bif_some g3
    have hb := Nat.le_of_ble_eq_true hb
    refine ⟨_, g4, fun η f w hr => ?_⟩
    have dx := hr.get (by simp [Op.operands]) hx
    have dy := hr.get (by simp [Op.operands]) hy
    rw [ha] at dx
    rw [hm] at dy
    obtain ⟨b, c, c', o', h1, h2, h3, h4, h5⟩ := dx
    exact ⟨_, xSlcH i ht hti h2 (i_nat dy) rfl (by omega), b, c, c', o', h1, rfl, by omega, h4, by omega⟩
theorem bytes_len (s : ByteArray) : tlen (enc s.data.toList) = s.size := by rw [tlen_enc]; rfl
theorem dSc {t t' : TypeId} {x y : Operand} {x' y' : X} (hx : cvX x = some x') (hy : cvX y = some y') (h : pSc x' y' Γ fr K = some out) : ∃ v, K v = some out ∧ PDoes P σ fr ⟨d, .binOp .add t x y t', ty, pos, af, g⟩ v := by
  obtain ⟨a, ha, g1⟩ := aK_some h
  obtain ⟨s, rfl, g2⟩ := tKA_some g1
  obtain ⟨b, hb, g3⟩ := aK_some g2
  obtain ⟨u, rfl, g4⟩ := tKA_some g3
  obtain ⟨g5, g6⟩ := bif_some g4
  have g5 : tlen s + tlen u ≤ 1000000 := Nat.le_of_ble_eq_true g5
  rw [frc_eq] at g6
  refine ⟨_, g6, fun η f w hr => ?_⟩
  have dx := hr.get (by simp [Op.operands]) hx
  have dy := hr.get (by simp [Op.operands]) hy
  rw [ha] at dx
  rw [hb] at dy
  obtain ⟨A, e1, e2⟩ := dx
  obtain ⟨B, e3, e4⟩ := dy
  refine ⟨.string (A ++ B), ?_, A ++ B, ?_, rfl⟩
  · rw [← e1, ← e3, bytes_len, bytes_len] at g5
    have hm : ¬ (((A.size + B.size : Nat) : Int) > IntKind.i64.max) := by
      have : IntKind.i64.max = 9223372036854775807 := by decide
      rw [this]; omega
    simp only [execOp, e2, e4, eqGuard, binOp, Op.stringOp]
    simp only [if_neg hm]
    rfl
  · show enc (A ++ B).data.toList = Nat.add s (Nat.mul (Nat.sub u 1) (tpw (tlen s)))
    rw [ByteArray.data_append, Array.toList_append, ← tcat_enc, ← e1, ← e3, tlen_enc]
    rfl
theorem dSx {t : TypeId} {x y : Operand} {x' y' : X} (ht : P.underlying t = some .string) (hx : cvX x = some x') (hy : cvX y = some y') (h : pSx x' y' Γ fr K = some out) : ∃ v, K v = some out ∧ PDoes P σ fr ⟨d, .index t x y, ty, pos, af, g⟩ v := by
  obtain ⟨a, ha, g1⟩ := aK_some h
  obtain ⟨s, rfl, g2⟩ := tKA_some g1
  obtain ⟨k, j, hj, g3⟩ := natK_some g2
  obtain ⟨g4, g5⟩ := bif_some g3
  have g4 : j < tlen s := Nat.le_of_ble_eq_true g4
  rw [frc_eq] at g5
  refine ⟨_, g5, fun η f w hr => ?_⟩
  have dx := hr.get (by simp [Op.operands]) hx
  have dy := hr.get (by simp [Op.operands]) hy
  rw [ha] at dx
  rw [hj] at dy
  obtain ⟨A, e1, e2⟩ := dx
  have dy := i_nat dy
  rw [← e1] at g4
  have hl : j < A.data.toList.length := by rw [tlen_enc] at g4; exact g4
  have hs : j < A.size := by rw [bytes_len] at g4; exact g4
  refine ⟨.int .u8 ((A.data.toList[j]).toNat : Nat), ?_, ?_⟩
  · have hget : A[j]? = some (A.data.toList[j]) := by
      rw [getElem?_pos A j hs]; rfl
    simp [execOp, Instr.index, run_underlying ht, e2, dy, asIntOf, hget]
  · show Value.int .u8 _ = Value.int .u8 ((tget s j : Nat) : Int)
    rw [← e1, tget_enc j _ hl]
theorem optN_some {x : Option Operand} {x' : Option X} {n : Nat} {K : Nat → R} (hx : cvO x = some x') (h : optN fr x' n K = some out) : ∃ j, K j = some out ∧ ∀ (η : Eta) (f : Fr) (xs : List Operand), XR σ η fr f xs → (∀ y, x = some y → y ∈ xs) → (x = none ∧ j = n) ∨ ∃ y k, x = some y ∧ ev f y = .int k ((j : Nat) : Int) := by
  cases x with
  | none =>
    cases hx
    have h : frc n K = some out := h
    rw [frc_eq] at h
    exact ⟨n, h, fun η f xs _ _ => .inl ⟨rfl, rfl⟩⟩
  | some y =>
    obtain ⟨y', hy, rfl⟩ := Option.map_eq_some_iff.1 hx
    obtain ⟨k, j, hj, g⟩ := natK_some h
    refine ⟨j, g, fun η f xs hr hm => .inr ⟨y, k, rfl, ?_⟩⟩
    have dy := hr.get (hm y rfl) hy
    rw [hj] at dy
    exact i_nat dy
theorem dSs {t : TypeId} {x : Operand} {lo hi : Option Operand} {x' : X} {lo' hi' : Option X} (ht : P.underlying t = some .string) (hx : cvX x = some x') (hlo : cvO lo = some lo') (hhi : cvO hi = some hi') (h : pSs x' lo' hi' Γ fr K = some out) : ∃ v, K v = some out ∧ PDoes P σ fr ⟨d, .slice t x lo hi none, ty, pos, af, g⟩ v := by
  obtain ⟨a, ha, g1⟩ := aK_some h
  obtain ⟨s, rfl, g2⟩ := tKA_some g1
  obtain ⟨i, g3, q1⟩ := optN_some (σ := σ) hlo g2
  obtain ⟨j, g4, q2⟩ := optN_some (σ := σ) hhi g3
  obtain ⟨g5, g6⟩ := bif_some g4
  obtain ⟨g7, g8⟩ := and_t g5
  have g7 : i ≤ j := Nat.le_of_ble_eq_true g7
  have g8 : j ≤ tlen s := Nat.le_of_ble_eq_true g8
  rw [frc_eq] at g6
  refine ⟨_, g6, fun η f w hr => ?_⟩
  have dx := hr.get (by simp [Op.operands]) hx
  rw [ha] at dx
  obtain ⟨A, e1, e2⟩ := dx
  have q1 := q1 η f _ hr (fun y hy => by subst hy; simp [Op.operands])
  have q2 := q2 η f _ hr (fun y hy => by subst hy; simp [Op.operands])
  rw [← e1] at g8 q2
  have hl : j ≤ A.data.toList.length := by rw [tlen_enc] at g8; exact g8
  rw [bytes_len] at g8 q2
  refine ⟨.string (A.extract i j), ?_, A.extract i j, ?_, rfl⟩
  · have h2 : (i : Int) ≤ (j : Int) := by omega
    have h3 : (j : Int) ≤ (A.size : Int) := by omega
    rcases q1 with ⟨rfl, rfl⟩ | ⟨y, k, rfl, ey⟩ <;> rcases q2 with ⟨rfl, rfl⟩ | ⟨z, k', rfl, ez⟩ <;>
      simp [execOp, Instr.sliceAt, Instr.slice, run_underlying ht, e2, Instr.sliceBounds, Instr.sliceBound, asIntOf, *]
  · show enc (A.extract i j).data.toList = tcut s i j
    rw [← e1, tcut_enc _ i j g7 hl, ByteArray.data_extract, Array.toList_extract]
theorem dSn {t : TypeId} {x : Operand} {x' : X} {c : Call} (hc : c.callee = .builtin .len) (hxs : c.args = #[x]) (hts : c.argTypes = #[t]) (ht : P.underlying t = some .string) (hx : cvX x = some x') (h : pSn x' Γ fr K = some out) :
    ∃ v, K v = some out ∧ PDoes P σ fr ⟨d, .call c, ty, pos, af, g⟩ v := by
  obtain ⟨c1, c2, c3⟩ := c
  simp only at hc hxs hts
  subst hc; subst hxs; subst hts
  obtain ⟨a, ha, g1⟩ := aK_some h
  obtain ⟨s, rfl, g2⟩ := tKA_some g1
  rw [frc_eq] at g2
  refine ⟨_, g2, fun η f w hr => ⟨.int .i64 ((tlen s : Nat) : Int), ?_, rfl⟩⟩
  have dx := hr.get (by simp [Op.operands, Call.operands]) hx
  rw [ha] at dx
  obtain ⟨A, e1, e2⟩ := dx
  rw [← e1, bytes_len]
  simp [execOp, resolve, invoke, builtin, Builtin.len_, run_underlying ht, e2, goInt]
include hΓ in
theorem dNg {t : TypeId} {x : Operand} {x' : X} (hx : cvX x = some x') (h : pNg x' Γ fr K = some out) : ∃ v, K v = some out ∧ PDoes P σ fr ⟨d, .unOp .neg t x, ty, pos, af, g⟩ v := by
  obtain ⟨a, ha, g1⟩ := aK_some h
  obtain ⟨k, e, rfl, g2⟩ := iK_some g1
  obtain ⟨s, h1, h2⟩ := arK_some hΓ g2
  refine ⟨_, h1, fun η f w hr => ⟨.int k (s.den σ), ?_, rfl⟩⟩
  have dx := hr.get (by simp [Op.operands]) hx
  rw [ha] at dx
  have dx : ev f x = .int k (e.den σ) := dx
  have h2 : some (k.wrap (0 - e.den σ)) = some (s.den σ) := h2
  injection h2 with h2
  rw [← h2]
  simp [execOp, dx, Op.unary, Op.intArith]
theorem dCv {s t : TypeId} {ks k : IntKind} {x : Operand} {x' : X} (hs : P.underlying s = some (.int ks)) (ht : P.underlying t = some (.int k)) (hx : cvX x = some x') (h : pCv k x' Γ fr K = some out) : ∃ v, K v = some out ∧ PDoes P σ fr ⟨d, .convert s t x, ty, pos, af, g⟩ v := by
  obtain ⟨a, ha, g1⟩ := aK_some h
  obtain ⟨k', e, rfl, g2⟩ := iK_some g1
  cases hl : e.lit with
  | none => rw [hl] at g2; cases g2
  | some i =>
    rw [hl] at g2
    simp only [ofI_eq] at g2
    refine ⟨_, g2, fun η f w hr => ⟨.int k (k.wrap i), ?_, ?_⟩⟩
    · have dx := hr.get (by simp [Op.operands]) hx
      rw [ha] at dx
      have dx : ev f x = .int k' (e.den σ) := dx
      rw [lit_den hl] at dx
      simp [execOp, dx, convert, run_underlying hs, run_underlying ht, Conv.intToInt]
    · show Value.int k _ = Value.int k _
      rw [cvI_den]
theorem dMi {t : TypeId} {kd : IntKind} {x : Operand} {x' : X} (ht : P.underlying t = some (.int kd)) (hx : cvX x = some x') (h : pMi t x' Γ fr K = some out) : ∃ v, K v = some out ∧ PDoes P σ fr ⟨d, .makeInterface t x, ty, pos, af, g⟩ v := by
  obtain ⟨a, ha, g1⟩ := aK_some h
  obtain ⟨k, e, rfl, g2⟩ := iK_some g1
  refine ⟨_, g2, fun η f w hr => ⟨.iface t (.int k (e.den σ)), ?_, rfl⟩⟩
  have dx := hr.get (by simp [Op.operands]) hx
  rw [ha] at dx
  have dx : ev f x = .int k (e.den σ) := dx
  simp [execOp, dx, Instr.makeInterface, run_underlying ht]
theorem dTa {xt t : TypeId} {kd : IntKind} {i : TyI} {z : A} {x : Operand} {x' : X} (hi : i.Ok P t) (hD : i.D = .int kd) (hz : i.z = [z]) (hx : cvX x = some x') (h : pTa t z x' Γ fr K = some out) : ∃ v, K v = some out ∧ PDoes P σ fr ⟨d, .typeAssert x xt t true, ty, pos, af, g⟩ v := by
  obtain ⟨a, ha, g1⟩ := aK_some h
  obtain ⟨hu, zv, ⟨ti, ti1, ti2, ti3, ti4⟩, hzz, hza, hzo, _⟩ := hi
  rw [hD] at hu hzo
  have hzd : ∀ η, Da σ η z zv := by
    intro η
    have h1 := hzz σ η
    rw [cells_one (hzo rfl), hz] at h1
    obtain ⟨v, vs, e1, e2, e3⟩ := h1
    simp only [List.cons.injEq] at e1
    rw [e1.1]; exact e2
  have no : ∀ η, Dv σ η (.t [.a z, .a (.b false)]) (.tuple #[zv, .bool false]) := fun η => ⟨[zv, .bool false], ⟨zv, _, rfl, hzd η, .bool false, [], rfl, rfl, rfl⟩, rfl⟩
  rcases qK_some g1 with ⟨rfl, g2⟩ | ⟨t', k, e, rfl, g2⟩
  · refine ⟨_, g2, fun η f w hr => ⟨.tuple #[zv, .bool false], ?_, no η⟩⟩
    have dx := hr.get (by simp [Op.operands]) hx
    rw [ha] at dx
    have dx : ev f x = .nilIface := dx
    simp [execOp, dx, Instr.typeAssert, run_underlying hu, zeroValue, typeInfo, ti1, ti2]
  · cases hb : Nat.beq t' t with
    | false =>
      rw [hb] at g2
      have hne : t' ≠ t := fun e => by rw [e, Nat.beq_refl] at hb; cases hb
      refine ⟨_, g2, fun η f w hr => ⟨.tuple #[zv, .bool false], ?_, no η⟩⟩
      have dx := hr.get (by simp [Op.operands]) hx
      rw [ha] at dx
      have dx : ev f x = .iface t' (.int k (e.den σ)) := dx
      simp [execOp, dx, Instr.typeAssert, run_underlying hu, zeroValue, typeInfo, ti1, ti2, hne]
    | true =>
      rw [hb] at g2
      have he := Nat.eq_of_beq_eq_true hb
      subst he
      refine ⟨_, g2, fun η f w hr => ⟨.tuple #[.int k (e.den σ), .bool true], ?_, ⟨[.int k (e.den σ), .bool true], ⟨_, _, rfl, rfl, .bool true, [], rfl, rfl, rfl⟩, rfl⟩⟩⟩
      have dx := hr.get (by simp [Op.operands]) hx
      rw [ha] at dx
      have dx : ev f x = .iface t' (.int k (e.den σ)) := dx
      simp [execOp, dx, Instr.typeAssert, run_underlying hu]
theorem equalIn_nil {w : World} {t : TypeId} {ms : Array (String × TypeId)} (n : Nat) (ht : P.underlying t = some (.interface ms)) {v : Value} {b : Bool} (hv : (v = .nilIface ∧ b = true) ∨ (∃ t' u, v = .iface t' u ∧ b = false)) : (Op.equalIn (n + 1) t v .nilIface).run P w = .ok b w := by
  rcases hv with ⟨rfl, rfl⟩ | ⟨t', u, rfl, rfl⟩
  · simp only [Op.equalIn, Sem.run_bind, run_underlying ht, Result.andThen_ok]
    rfl
  · simp only [Op.equalIn, Sem.run_bind, run_underlying ht, Result.andThen_ok]
    rfl
theorem equal_nil {w : World} {t : TypeId} {ms : Array (String × TypeId)} (ht : P.underlying t = some (.interface ms)) {v : Value} {b : Bool} (hv : (v = .nilIface ∧ b = true) ∨ (∃ t' u, v = .iface t' u ∧ b = false)) : (Op.equal t v .nilIface).run P w = .ok b w :=
  equalIn_nil 9999 ht hv
theorem dQe {t t' : TypeId} {ms : Array (String × TypeId)} {x : Operand} {x' : X} {o : BinOp} {ng : Bool} (ho : (o = .eql ∧ ng = false) ∨ (o = .neq ∧ ng = true)) (ht : P.underlying t = some (.interface ms)) (hx : cvX x = some x') (h : pQe ng x' Γ fr K = some out) :
    ∃ v, K v = some out ∧ PDoes P σ fr ⟨d, .binOp o t x (.const .nilIface) t', ty, pos, af, g⟩ v := by
  obtain ⟨a, ha, g1⟩ := aK_some h
  have key : ∀ (f : Fr) (w : World) (v : Value) (b : Bool), ev f x = v → ((v = .nilIface ∧ b = true) ∨ (∃ t' u, v = .iface t' u ∧ b = false)) → (execOp (ev f) ⟨d, .binOp o t x (.const .nilIface) t', ty, pos, af, g⟩).run P w = .ok (.value (.bool (xor ng b))) w := by
    intro f w v b hv hb
    have heq := equal_nil (w := w) ht hb
    have hg : (eqGuard o t x (.const .nilIface) v .nilIface).run P w = .ok () w := by
      rcases ho with ⟨rfl, _⟩ | ⟨rfl, _⟩ <;> rcases hb with ⟨rfl, _⟩ | ⟨t', u, rfl, _⟩ <;> simp [eqGuard]
    have hbin : (binOp o t v .nilIface).run P w = .ok (.bool (xor ng b)) w := by
      rcases ho with ⟨rfl, rfl⟩ | ⟨rfl, rfl⟩
      · have : binOp .eql t v .nilIface = (do pure (.bool (← Op.equal t v .nilIface)) : Sem Value) := by
          rcases hb with ⟨rfl, _⟩ | ⟨t', u, rfl, _⟩ <;> rfl
        rw [this]
        simp only [Sem.run_bind, heq, Result.andThen_ok, Sem.run_pure, Bool.false_xor]
      · have : binOp .neq t v .nilIface = (do pure (.bool (!(← Op.equal t v .nilIface))) : Sem Value) := by
          rcases hb with ⟨rfl, _⟩ | ⟨t', u, rfl, _⟩ <;> rfl
        rw [this]
        simp only [Sem.run_bind, heq, Result.andThen_ok, Sem.run_pure, Bool.true_xor]
    have hc : ev f (.const .nilIface) = .nilIface := rfl
    unfold execOp
    simp only [hv, hc, Sem.run_bind, hg, hbin, Result.andThen_ok, Sem.run_pure]
  rcases qK_some g1 with ⟨rfl, g2⟩ | ⟨t'', k, e, rfl, g2⟩
  · rw [bol_eq] at g2
    refine ⟨_, g2, fun η f w hr => ⟨_, key f w .nilIface true ?_ (.inl ⟨rfl, rfl⟩), rfl⟩⟩
    have dx := hr.get (by simp [Op.operands]) hx
    rw [ha] at dx
    exact dx
  · rw [bol_eq] at g2
    refine ⟨_, g2, fun η f w hr => ⟨_, key f w (.iface t'' (.int k (e.den σ))) false ?_ (.inr ⟨_, _, rfl, rfl⟩), rfl⟩⟩
    have dx := hr.get (by simp [Op.operands]) hx
    rw [ha] at dx
    exact dx
theorem bound_ok {w : World} {k : IntKind} {j y : Nat} (h : j ≤ y) (code : BoundsCode) : (Instr.sliceBound (.int k ((j : Nat) : Int)) y code).run P w = .ok j w := by
  have h1 : (j : Int) ≤ (y : Int) := by omega
  simp [Instr.sliceBound, asIntOf, h]
/-- x[i:j] -/
theorem xSlcLH {w : World} {f : Fr} {t e : TypeId} {x l : Operand} {hi : Option Operand} {A : Option Addr} {n c : Nat} {k : IntKind} {z : Value} {s by_ : Nat} (i j : Nat) (ht : P.underlying t = some (.slice e)) (he : TI P e z s by_) (hx : ev f x = .slice A n c) (hl : ev f l = .int k ((i : Nat) : Int)) (hn : n ≤ c)
    (hj : (hi = none ∧ j = n) ∨ ∃ y k', hi = some y ∧ ev f y = .int k' ((j : Nat) : Int)) (hij : i ≤ j) (hjn : j ≤ n) :
    (execOp (ev f) ⟨d, .slice t x (some l) hi none, ty, pos, af, g⟩).run P w = .ok (.value (.slice (if c = i then A else A.map (·.add (i * s))) (j - i) (c - i))) w := by
  obtain ⟨q, hi1, hi2, hi3, hi4⟩ := he
  have h1 : (i : Int) ≤ (j : Int) := by omega
  have h2 : (j : Int) ≤ (c : Int) := by omega
  have hsz : (sizeOf e).run P w = .ok s w := by simp [sizeOf, typeInfo, hi1, hi3]
  have hb : (Instr.sliceBounds true n c (some (.int k ((i : Nat) : Int))) (hi.map (ev f)) none).run P w = .ok (i, j, c) w := by
    rcases hj with ⟨rfl, rfl⟩ | ⟨y, k', rfl, ey⟩
    · simp only [Instr.sliceBounds, Option.map_none, Sem.run_bind, Sem.run_pure, Result.andThen_ok, bound_ok hij]
    · simp only [Instr.sliceBounds, Option.map_some, ey, Sem.run_bind, Sem.run_pure, Result.andThen_ok, bound_ok hij, bound_ok (show j ≤ c by omega)]
  unfold execOp
  simp only [hx, hl, Instr.sliceAt, Instr.slice, Option.map_some, Option.map_none, Sem.run_bind, run_underlying ht, Result.andThen_ok, hb, hsz, Sem.run_pure]
theorem dS2 {t e : TypeId} {x l : Operand} {hi : Option Operand} {x' l' : X} {hi' : Option X} {j : TyI} (ht : P.underlying t = some (.slice e)) (hj : j.Ok P e) (hx : cvX x = some x') (hl : cvX l = some l') (hhi : cvO hi = some hi') (h : pS2 j.z.length x' l' hi' Γ fr K = some out) :
    ∃ v, K v = some out ∧ PDoes P σ fr ⟨d, .slice t x (some l) hi none, ty, pos, af, g⟩ v := by
  obtain ⟨a, ha, g1⟩ := aK_some h
  obtain ⟨k, i, hi0, g2⟩ := natK_some g1
  obtain ⟨hu, zv, hti, _⟩ := hj
  rcases sK_some g2 with ⟨rfl, g3⟩ | ⟨r, o, n, rfl, g3⟩
  · obtain ⟨m, g4, q⟩ := optN_some (σ := σ) hhi g3
    obtain ⟨g5, g6⟩ := bif_some g4
    obtain ⟨g7, g8⟩ := and_t g5
    have g7 := Nat.eq_of_beq_eq_true g7
    have g8 := Nat.eq_of_beq_eq_true g8
    subst g7; subst g8
    refine ⟨_, g6, fun η f w hr => ⟨.slice none 0 0, ?_, rfl⟩⟩
    have dx := hr.get (by simp [Op.operands]) hx
    have dl := hr.get (x := l) (by simp [Op.operands]) hl
    rw [ha] at dx
    rw [hi0] at dl
    have := xSlcLH (P := P) (w := w) (d := d) (ty := ty) (pos := pos) (af := af) (g := g) 0 0 ht hti dx (i_nat dl) (Nat.le_refl _) (q η f _ hr (fun y hy => by subst hy; simp [Op.operands])) (Nat.le_refl _) (Nat.le_refl _)
    simpa using this
  · obtain ⟨m, g4, q⟩ := optN_some (σ := σ) hhi g3
    obtain ⟨g5, g6⟩ := bif_some g4
    obtain ⟨g7, g8⟩ := and_t g5
    obtain ⟨g9, g10⟩ := and_t g8
    have g7 : 1 ≤ j.z.length := Nat.le_of_ble_eq_true g7
    have g9 : i ≤ m := Nat.le_of_ble_eq_true g9
    have g10 : m ≤ n := Nat.le_of_ble_eq_true g10
    rw [frc_eq, frc_eq] at g6
    refine ⟨_, g6, fun η f w hr => ?_⟩
    have dx := hr.get (by simp [Op.operands]) hx
    have dl := hr.get (x := l) (by simp [Op.operands]) hl
    rw [ha] at dx
    rw [hi0] at dl
    obtain ⟨b, c, c', o', h1, h2, h3, h4, h5⟩ := dx
    have hrun := xSlcLH (P := P) (w := w) (d := d) (ty := ty) (pos := pos) (af := af) (g := g) i m ht hti h2 (i_nat dl) h3 (q η f _ hr (fun y hy => by subst hy; simp [Op.operands])) g9 g10
    have hiz : i ≤ i * j.z.length := Nat.le_mul_of_pos_right i g7
    by_cases hc : c' = i
    · rw [if_pos hc] at hrun
      refine ⟨_, hrun, b, c, c' - i, o', h1, rfl, by simp only [Nat.sub_eq]; omega, fun h0 => ?_, ?_⟩
      · have h0 : o + i * j.z.length = 0 := h0
        have : c' = c := h4 (by omega)
        omega
      · by_cases hi1 : i = 0
        · subst hi1
          have e0 : Nat.add o (Nat.mul 0 j.z.length) = o := by show o + 0 * j.z.length = o; omega
          rw [e0]
          rcases h5 with h5 | ⟨h5, h6⟩
          · exact .inl h5
          · exact .inr ⟨by simp only [Nat.sub_eq]; omega, h6⟩
        · right
          exact ⟨by simp only [Nat.sub_eq]; omega, by show o + i * j.z.length ≠ 0; omega⟩
    · rw [if_neg hc] at hrun
      refine ⟨_, hrun, b, c, c' - i, o' + i * j.z.length, h1, by simp [Addr.add_lit], by simp only [Nat.sub_eq]; omega, fun h0 => ?_, ?_⟩
      · have h0 : o + i * j.z.length = 0 := h0
        have : c' = c := h4 (by omega)
        omega
      · rcases h5 with h5 | ⟨h5, h6⟩
        · left; show o' + i * j.z.length = o + i * j.z.length; omega
        · right; exact ⟨by simp only [Nat.sub_eq]; omega, by show o + i * j.z.length ≠ 0; omega⟩
theorem capsK_some {fr : T V} : ∀ {xs : List X} {K : List (Pp × Nat) → R} {out : Out}, capsK fr xs K = some out → ∃ l, K l = some out ∧ ∀ η vs, DVL σ η (xs.map (rdX fr)) vs → Dcaps η l vs
  | [], K, out, h => ⟨[], h, fun η vs hd => hd⟩
  | x :: xs, K, out, h => by
    obtain ⟨a, ha, g1⟩ := aK_some (show (rdX fr x).aK _ = some out from h)
    obtain ⟨r, o, rfl, g2⟩ := pK_some g1
    obtain ⟨l, g3, g4⟩ := capsK_some (xs := xs) (K := fun l => K ((r, o) :: l)) g2
    refine ⟨_, g3, fun η vs hd => ?_⟩
    obtain ⟨v, vs', rfl, d1, d2⟩ := hd
    rw [ha] at d1
    obtain ⟨b, c, h1, rfl⟩ := d1
    exact ⟨b, c, vs', h1, rfl, g4 η vs' d2⟩
theorem dMf {k : Nat} {first cs : Array Operand} {xs : List X} (hf : first = #[]) (hc : cvXs cs.toList = some xs) (h : pMf k xs Γ fr K = some out) : ∃ v, K v = some out ∧ PDoes P σ fr ⟨d, .makeFunc (.func k) first cs, ty, pos, af, g⟩ v := by
  subst hf
  obtain ⟨l, g1, g2⟩ := capsK_some (σ := σ) h
  refine ⟨_, g1, fun η f w hr => ?_⟩
  have := hr.list (l := cs.toList) (by intro x hx; simpa [Op.operands] using hx) hc
  refine ⟨.func (.func k) #[] (cs.toList.map (ev f)).toArray, ?_, _, g2 η _ this, rfl⟩
  have he : cs.map (ev f) = (cs.toList.map (ev f)).toArray := by apply Array.ext'; simp
  simp only [execOp, Instr.makeFunc, he]
  simp
include hΓ in
theorem dMn {x y : Operand} {x' y' : X} {mx : Bool} {t t' : TypeId} {c : Call} (hc : c.callee = .builtin (bif mx then .max else .min)) (hxs : c.args = #[x, y]) (hts : c.argTypes = #[t, t']) (hx : cvX x = some x') (hy : cvX y = some y') (h : pMn mx x' y' Γ fr K = some out) :
    ∃ v, K v = some out ∧ PDoes P σ fr ⟨d, .call c, ty, pos, af, g⟩ v := by
  obtain ⟨c1, c2, c3⟩ := c
  simp only at hc hxs hts
  subst hc; subst hxs; subst hts
  obtain ⟨a, ha, g1⟩ := aK_some h
  obtain ⟨k, e, rfl, g2⟩ := iK_some g1
  obtain ⟨b, hb, g3⟩ := aK_some g2
  obtain ⟨k', e', rfl, g4⟩ := iK_some g3
  obtain ⟨rfl, g5⟩ := sameK_some g4
  have get : ∀ (η : Eta) (f : Fr), XR σ η fr f (Op.call { callee := .builtin (bif mx then .max else .min), args := #[x, y], argTypes := #[t, t'] }).operands.toList → ev f x = .int k (e.den σ) ∧ ev f y = .int k (e'.den σ) := by
    intro η f hr
    have dx := hr.get (x := x) (by simp [Op.operands, Call.operands]) hx
    have dy := hr.get (x := y) (by simp [Op.operands, Call.operands]) hy
    rw [ha] at dx
    rw [hb] at dy
    exact ⟨dx, dy⟩
  cases mx with
  | true =>
    obtain ⟨s, g6, g7⟩ := cpK_some hΓ (show cpK Γ .lss e e' _ = some out from g5)
    have g7 : some (decide (e.den σ < e'.den σ)) = some s := g7
    injection g7 with g7
    subst g7
    by_cases hlt : e.den σ < e'.den σ
    · rw [decide_eq_true hlt] at g6
      refine ⟨_, g6, fun η f w hr => ⟨.int k (e'.den σ), ?_, rfl⟩⟩
      have := xMax (P := P) (w := w) (d := d) (ty := ty) (pos := pos) (af := af) (g := g) (t := t) (t' := t') (get η f hr).1 (get η f hr).2
      rwa [if_pos hlt] at this
    · rw [decide_eq_false hlt] at g6
      refine ⟨_, g6, fun η f w hr => ⟨.int k (e.den σ), ?_, rfl⟩⟩
      have := xMax (P := P) (w := w) (d := d) (ty := ty) (pos := pos) (af := af) (g := g) (t := t) (t' := t') (get η f hr).1 (get η f hr).2
      rwa [if_neg hlt] at this
  | false =>
    obtain ⟨s, g6, g7⟩ := cpK_some hΓ (show cpK Γ .lss e' e _ = some out from g5)
    have g7 : some (decide (e'.den σ < e.den σ)) = some s := g7
    injection g7 with g7
    subst g7
    by_cases hlt : e'.den σ < e.den σ
    · rw [decide_eq_true hlt] at g6
      refine ⟨_, g6, fun η f w hr => ⟨.int k (e'.den σ), ?_, rfl⟩⟩
      have := xMin (P := P) (w := w) (d := d) (ty := ty) (pos := pos) (af := af) (g := g) (t := t) (t' := t') (get η f hr).1 (get η f hr).2
      rwa [if_pos hlt] at this
    · rw [decide_eq_false hlt] at g6
      refine ⟨_, g6, fun η f w hr => ⟨.int k (e.den σ), ?_, rfl⟩⟩
      have := xMin (P := P) (w := w) (d := d) (ty := ty) (pos := pos) (af := af) (g := g) (t := t) (t' := t') (get η f hr).1 (get η f hr).2
      rwa [if_neg hlt] at this
end
end
end
end Go.Ev
