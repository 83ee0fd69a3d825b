/- IrChecks: E27. -/
import Derived.Test.YtbpccmnalhdpmaaJ40
set_option linter.unusedVariables false
namespace Go.Ev
open Go.RowKit Go.Fw
noncomputable section
def bodyOf (f : Func) : Code := f.body.getD .skip
def nav : List Nat → Code → Code
  | [], c => c
  | 0 :: l, .seq a _ => nav l a
  | _ :: l, .seq _ b => nav l b
  | 0 :: l, .cond _ a _ => nav l a
  | _ :: l, .cond _ _ b => nav l b
  | _ :: l, .block _ c => nav l c
  | _ :: l, .loop c => nav l c
  | 0 :: l, .rangeFunc _ _ a _ => nav l a
  | _ :: l, .rangeFunc _ _ _ b => nav l b
  | _ :: l, c => nav l c
def rfA : Code → Code
  | .rangeFunc _ _ a _ => a
  | c => c
def rfB : Code → Code
  | .rangeFunc _ _ _ b => b
  | c => c
theorem all_e {α : Type} {Q : Nat → α → Prop} : T.All Q (.e : T α) := trivial
theorem all_n {α : Type} {Q : Nat → α → Prop} {l r : T α} {v : α} (h : Q 0 v) (hl : T.All (fun k => Q (2 * k + 1)) l) (hr : T.All (fun k => Q (2 * k + 2)) r) : T.All Q (.n l v r) := ⟨h, hl, hr⟩
def undOf (o : Option TypeDesc) : TypeDesc := o.getD .bool
theorem und_ok {o : Option TypeDesc} {D : TypeDesc} (h : o = some D) : o = some (undOf o) := by rw [h]; rfl
def shapeOk (ag : Bool) (v : Value) : Bool := match ag, v with
  | true, .agg _ => true
  | true, _ => false
  | false, v => v.oneCell'
def namesOk : TypeDesc → Bool
  | .struct fs => fs.all fun f => f.name != "_"
  | _ => true
section
variable {P : Program} {Θ : T (Option TyI)} {CV : T (Option Site)}
theorem ty_mk {t : Nat} {D : TypeDesc} {zv : Value} {z : List A} {b : Nat} (h1 : P.underlying t = some D) (h2 : Option.map (fun i => (i.zero, i.size, i.bytes)) (P.info? t) = some (some zv, z.length, b)) (h3 : cvL zv.cells.toList = some z) (h4 : shapeOk (aggD D) zv = true) :
    TyQ P t (some ⟨D, z, b, false⟩) := by
  refine ⟨h1, zv, ti_of h2, fun σ η => cvL_ok h3, fun ha => ?_, fun ha => ?_, fun h => by cases h⟩
  · have ha : aggD D = true := ha
    rw [ha] at h4
    cases zv <;> first | exact ⟨_, rfl⟩ | cases h4
  · have ha : aggD D = false := ha
    rw [ha] at h4
    exact h4
theorem ty_mkE {t : Nat} {D : TypeDesc} {zv : Value} {z : List A} {b : Nat} (h1 : P.underlying t = some D) (h2 : Option.map (fun i => (i.zero, i.size, i.bytes)) (P.info? t) = some (some zv, z.length, b)) (h3 : cvL zv.cells.toList = some z) (h4 : shapeOk (aggD D) zv = true)
    (h5 : P.stoodInHeld t = false) (h6 : P.eqGuardType P.depth t = false) (h7 : namesOk D = true) : TyQ P t (some ⟨D, z, b, true⟩) := by
  obtain ⟨q1, zv', q2, q3, q4, q5, _⟩ := ty_mk h1 h2 h3 h4
  refine ⟨q1, zv', q2, q3, q4, q5, fun _ => ⟨h5, h6, fun fs hf => ?_⟩⟩
  have hf : D = .struct fs := hf
  rw [hf] at h7
  exact h7
def psOk : Nat → List Pp → Bool
  | _, [] => true
  | k, p :: l => Nat.beq p.toNat k && psOk (k + 1) l
theorem psOk_ok : ∀ {l : List Pp} {k : Nat}, psOk k l = true → ∀ (i : Nat) (p : Pp), l[i]? = some p → p.toNat = k + i
  | [], _, _, i, p, h => by simp at h
  | q :: l, k, hp, i, p, h => by
    obtain ⟨h1, h2⟩ := (Bool.and_eq_true _ _).mp hp
    cases i with
    | zero => simp at h; subst h; exact Nat.eq_of_beq_eq_true h1
    | succ i =>
      simp at h
      have := psOk_ok h2 i p h
      omega
def obOf (p : Pp) (s : Site) : Pp × Nat × Code × Code := (p, s.N, s.ca, s.cb)
def Sites (S : T (Option Site)) : List (Pp × Site) → Prop
  | [] => True
  | (p, s) :: l => S.get none p = some s ∧ Sites S l
theorem CVr.mk' {N : Nat} {c : Code} {rc : RC} (l : List (Pp × Site)) (h : cvC Θ N c rc = some rc) (ho : obs N c rc = l.map fun q => obOf q.1 q.2) (hl : Sites CV l) : CVr Θ CV N c rc := by
  refine ⟨h, ?_⟩
  rw [ho]
  clear ho h
  induction l with
  | nil => intro o h; cases h
  | cons a l ih =>
    obtain ⟨p, s⟩ := a
    intro o h
    rcases List.mem_cons.1 h with rfl | h
    · exact ⟨s, hl.1, rfl, rfl, rfl⟩
    · exact ih hl.2 o h
theorem fn_mk {k : Nat} {f : Func} {rf : RF} (h1 : P.funcs[k]? = some f) (h2 : Callable P k) (h3 : f.body = some (bodyOf f)) (h4 : psOk 0 rf.ps = true) (h5 : Nat.ble rf.ps.length f.ntmps = true) (h6 : CVr Θ CV f.ntmps (bodyOf f) rf.body) (h7 : cvRs Θ f.results.toList = some rf.res) :
    FnQ P Θ (CVr Θ CV) k (some rf) :=
  ⟨f, bodyOf f, h1, h2, h3, fun i p hp => by have := psOk_ok h4 i p hp; omega, Nat.le_of_ble_eq_true h5, h6, h7⟩
/-- an answer of true -/
def Yes (Γ : Env) (n : Nat) (fp : Pp) (vs : List V) : Prop := call Γ n fp vs ⟨.h, .e⟩ (fun v _ => v.aK fun a => a.bK fun t => some (.val (.a (.b t)) ⟨.h, .e⟩)) = some (.val (.a (.b true)) ⟨.h, .e⟩)
/-- a call from an empty memory -/
theorem call_top {Γ : Env} {σ : Nat → Int} (hm : P.follows .mixedOrders = true) (hΘ : Θ.All (TyQ P)) (hΓ : Γ.Ok σ) (hfn : Γ.fns.All (FnQ P Θ (CVr Θ CV))) (hcv : Γ.sites = CV) (hsi : CV.All (SiteQ (CVr Θ CV)))
    {n : Nat} {fp : Pp} {vs : List V} {args : List Value} (hd : DVL σ (fun _ => none) vs args) (hk : Yes Γ n fp vs) (w : World) :
    Calls P fp.toNat args.toArray w (Ret fun v w' => v = .bool true ∧ Below w.heap.size w w') := by
  obtain ⟨v, h', g1, g2, _⟩ := callK_some (P := P) (CV := CV) hΘ hfn (Good.toRn hcv hsi (good_run hm hΘ hΓ hfn hcv hsi n)) (show callK Γ (run Γ n) fp vs _ _ = _ from hk)
  obtain ⟨a, rfl, g3⟩ := aK_some g1
  obtain ⟨t, rfl, g4⟩ := bK_some g3
  cases g4
  have hh : HRel P CV σ (fun _ => none) ⟨.h, .e⟩ w := ⟨fun r r' b c c' _ _ h => (by cases h), fun r b c h => (by cases h), fun _ _ => rfl, fun r b c h => (by cases h), fun r _ => T.get_e Row.d r⟩
  refine callsIn_wide.1 ((g2 (fun _ => none) args w hd hh).mono fun e w' he => ?_)
  obtain ⟨v', rfl, η', d1, _, s⟩ := he
  exact ⟨v', rfl, d1, ⟨s.os, s.tape, s.output, s.size, fun k hk => s.keep k hk (fun r c _ h => by cases h)⟩⟩
end
end
end Go.Ev

