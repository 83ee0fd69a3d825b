/- IrChecks: E7. -/
import Derived.Test.YtbpccmnalhdpmaaJ20
set_option linter.unusedVariables false
namespace Go.Ev
open Go.RowKit Go.Fw
noncomputable section
section
variable {P : Program} {Θ : T (Option TyI)} (hΘ : Θ.All (TyQ P)) {σ : Nat → Int} {Γ : Env} (hΓ : Γ.Ok σ)
variable {fr : T V} {K : V → R} {out : Out} {d : Option Nat} {ty : TypeId} {pos : String} {af : Array Edge} {g : Option (Nat × Bool)}
theorem UL.shp {t : Nat} {D : TypeDesc} (hu : P.underlying t = some D) {v : Value} {vs : List Value} (h : UL (aggD D) v vs) : Shp P t v vs := ⟨D, hu, h⟩
include hΘ hΓ in
theorem dEq {o : BinOp} {t t' : TypeId} {x y : Operand} {x' y' : X} {ng : Bool} {i : TyI} {ks : List Nat} (ho : (o = .eql ∧ ng = false) ∨ (o = .neq ∧ ng = true)) (hi : i.Ok P t) (hni : ∀ k, i.D ≠ .int k) (hk : eqT Θ 10 t = some ks) (hti : tyOf Θ t = some i)
   (hx : cvX x = some x') (hy : cvX y = some y') (h : pEq ng (aggD i.D) ks x' y' Γ fr K = some out) : ∃ v, K v = some out ∧ PDoes P σ fr ⟨d, .binOp o t x y t', ty, pos, af, g⟩ v := by
 obtain ⟨u, hu, g1⟩ := uK_some h
 obtain ⟨u', hu', g2⟩ := uK_some g1
 obtain ⟨s, g3, g4⟩ := eqU_some hΓ g2
 rw [bol_eq] at g3
 refine ⟨_, g3, fun η f w hr => ⟨.bool (xor ng s), ?_, rfl⟩⟩
 have dx := hr.get (by simp [Op.operands]) hx
 have dy := hr.get (by simp [Op.operands]) hy
 rw [hu] at dx
 rw [hu'] at dy
 obtain ⟨vs, vs', u1, u2, l1, l2, le⟩ := g4 η _ _ (Du.v.1 dx) (Du.v.1 dy)
 have hrun := (run_eq hΘ 10 t ks hk).2 9990 w _ _ vs vs' s l1 l2 (UL.shp hi.1 u1) (UL.shp hi.1 u2) le
 have heq : (Op.equal t (ev f x) (ev f y)).run P w = .ok s w := hrun
 have hk2 : (∃ fs, i.D = .struct fs ∧ i.e = true) ∨ i.D = .bool ∨ i.D = .string := by
   have h2 := hk
   unfold eqT at h2
   rw [hti] at h2
   simp only [Option.bind_some] at h2
   cases hD : i.D with
   | struct fs =>
     rw [hD] at h2
     obtain ⟨ks', h3, h4⟩ := Option.bind_eq_some_iff.1 h2
     cases hb : and i.e (Nat.beq ks'.length i.z.length) with
     | false => rw [hb] at h4; cases h4
     | true => exact .inl ⟨fs, rfl, (and_t hb).1⟩
   | bool => exact .inr (.inl rfl)
   | string => exact .inr (.inr rfl)
   | int k => exact absurd hD (hni k)
   | _ => rw [hD] at h2; cases h2
 rcases hk2 with ⟨fs, hD, he⟩ | hD | hD
 · rw [hD] at u1 u2
   have u1 : ev f x = .agg vs.toArray := u1
   have u2 : ev f y = .agg vs'.toArray := u2
   obtain ⟨_, _, _, _, _, _, hflag⟩ := hi
   obtain ⟨f1, f2, f3⟩ := hflag he
   rw [u1, u2] at heq
   have hg := run_eqGuard_agg (P := P) w o t x y vs.toArray vs'.toArray f2
   rcases ho with ⟨rfl, rfl⟩ | ⟨rfl, rfl⟩
   · simp [execOp, u1, u2, hg, binOp, heq]
   · simp [execOp, u1, u2, hg, binOp, heq]
 · rw [hD] at u1 u2
   have u1 : vs = [ev f x] := u1
   have u2 : vs' = [ev f y] := u2
   subst u1; subst u2
   have hl : ∃ kd, LeafEq kd (ev f x) (ev f y) s ∧ ks = [kd] := by
     cases ks with
     | nil => cases le
     | cons kd l =>
       have : l = [] := by simpa using l1.symm
       subst this
       rcases le with ⟨h1, rfl⟩ | ⟨h1, h2⟩
       · exact ⟨kd, h1, rfl⟩
       · have h2 : s = true := h2
         rw [h2]; exact ⟨kd, h1, rfl⟩
   obtain ⟨kd, hl, rfl⟩ := hl
   have hkd : kd = 1 := by
     unfold eqT at hk
     rw [hti] at hk
     simp only [Option.bind_some, hD] at hk
     injection hk with hk
     injection hk with hk
     exact hk.symm
   rcases hl with ⟨h0, k', a, b, ea, eb, rfl⟩ | ⟨h0, a, b, ea, eb, rfl⟩ | ⟨h0, a, b, ea, eb, rfl⟩
   · omega
   · rw [ea, eb] at heq
     rcases ho with ⟨rfl, rfl⟩ | ⟨rfl, rfl⟩
     · simp [execOp, ea, eb, eqGuard, binOp, heq]
     · simp [execOp, ea, eb, eqGuard, binOp, heq]
   · omega
 · rw [hD] at u1 u2
   have u1 : vs = [ev f x] := u1
   have u2 : vs' = [ev f y] := u2
   subst u1; subst u2
   have hl : ∃ kd, LeafEq kd (ev f x) (ev f y) s ∧ ks = [kd] := by
     cases ks with
     | nil => cases le
     | cons kd l =>
       have : l = [] := by simpa using l1.symm
       subst this
       rcases le with ⟨h1, rfl⟩ | ⟨h1, h2⟩
       · exact ⟨kd, h1, rfl⟩
       · have h2 : s = true := h2
         rw [h2]; exact ⟨kd, h1, rfl⟩
   obtain ⟨kd, hl, rfl⟩ := hl
   have hkd : kd = 2 := by
     unfold eqT at hk
     rw [hti] at hk
     simp only [Option.bind_some, hD] at hk
     injection hk with hk
     injection hk with hk
     exact hk.symm
   rcases hl with ⟨h0, k', a, b, ea, eb, rfl⟩ | ⟨h0, a, b, ea, eb, rfl⟩ | ⟨h0, a, b, ea, eb, rfl⟩
   · omega
   · omega
   · rcases ho with ⟨rfl, rfl⟩ | ⟨rfl, rfl⟩
     · simp [execOp, ea, eb, eqGuard, binOp, Op.stringOp, beq_toListBytes]
     · simp [execOp, ea, eb, eqGuard, binOp, Op.stringOp, beq_toListBytes]
theorem cvPs_ok {η : Eta} {f : Fr} {xs : List Operand} (hr : XR σ η fr f xs) {place : Nat → Option (Nat × Nat)} : ∀ {ps : List (Nat × Operand)} {qs : List (Nat × Nat × X)}, cvPs place ps = some qs → (∀ p ∈ ps, p.2 ∈ xs) →
  PartsR σ η place fr (ps.map fun p => (p.1, ev f p.2)) qs
 | [], qs, h, _ => by cases h; trivial
 | (i, x) :: ps, qs, h, hm => by
  obtain ⟨p, h1, h2⟩ := Option.bind_eq_some_iff.1 h
  obtain ⟨x', h3, h4⟩ := Option.bind_eq_some_iff.1 h2
  obtain ⟨qs', h5, rfl⟩ := Option.map_eq_some_iff.1 h4
  exact ⟨h1, hr.get (hm (i, x) (by simp)) h3, cvPs_ok hr h5 fun p hp => hm p (by simp [hp])⟩
include hΘ in
theorem places_run (w : World) : ∀ (fs : List Field), known Θ fs = true → ∃ l : List (Nat × Nat), (fs.mapM fun f => (do pure (f.offset, ← sizeOf f.type) : Sem (Nat × Nat))).run P w = .ok l w ∧ ∀ k : Nat, ∀ f, fs[k]? = some f → ∃ j, tyOf Θ f.type = some j ∧ l[k]? = some (f.offset, j.z.length)
 | [], _ => ⟨[], by simp, fun k f h => by simp at h⟩
 | f :: fs, h => by
  obtain ⟨h1, h2⟩ := and_t (show and (tyOf Θ f.type).isSome (known Θ fs) = true from h)
  obtain ⟨j, hj⟩ := Option.isSome_iff_exists.1 h1
  obtain ⟨l, h3, h4⟩ := places_run w fs h2
  obtain ⟨hu, zv, ⟨ti, ti1, ti2, ti3, ti4⟩, _⟩ := tyOf_ok hΘ hj
  refine ⟨(f.offset, j.z.length) :: l, ?_, fun k f' hk => ?_⟩
  · have hs : (sizeOf f.type).run P w = .ok j.z.length w := by simp [sizeOf, typeInfo, ti1, ti3]
    rw [List.mapM_cons]
    simp only [Sem.run_bind, hs, h3, Result.andThen_ok, Sem.run_pure]
  · cases k with
    | zero => simp at hk; subst hk; exact ⟨j, hj, rfl⟩
    | succ k => simpa using h4 k f' (by simpa using hk)
theorem fill_congr {pl pl' : Nat → Option (Nat × Nat)} : ∀ (ps : List (Nat × Value)) (cs : Array Value), (∀ p ∈ ps, pl p.1 = pl' p.1) → Instr.fill pl cs ps = Instr.fill pl' cs ps
 | [], _, _ => rfl
 | (i, v) :: ps, cs, h => by
  unfold Instr.fill
  rw [h (i, v) (by simp)]
  cases pl' i with
  | none => rfl
  | some p =>
   obtain ⟨o, s⟩ := p
   simp only
   split
   · rfl
   · exact fill_congr ps _ fun q hq => h q (by simp [hq])
theorem cvPs_place {place : Nat → Option (Nat × Nat)} : ∀ {ps : List (Nat × Operand)} {qs : List (Nat × Nat × X)}, cvPs place ps = some qs → ∀ p ∈ ps, (place p.1).isSome = true
 | [], _, _, p, hp => by cases hp
 | (i, x) :: ps, qs, h, p, hp => by
  obtain ⟨q, h1, h2⟩ := Option.bind_eq_some_iff.1 h
  obtain ⟨x', h3, h4⟩ := Option.bind_eq_some_iff.1 h2
  obtain ⟨qs', h5, rfl⟩ := Option.map_eq_some_iff.1 h4
  rcases List.mem_cons.1 hp with rfl | hp
  · rw [h1]; rfl
  · exact cvPs_place h5 p hp
include hΘ in
theorem dBd {t : TypeId} {ps : Array (Nat × Operand)} {qs : List (Nat × Nat × X)} {i : TyI} {fs : Array Field} (hi : i.Ok P t) (hD : i.D = .struct fs) (hk : known Θ fs.toList = true) (hc : cvPs (fieldAt Θ fs) ps.toList = some qs) (h : pBd i.z qs Γ fr K = some out) :
  ∃ v, K v = some out ∧ PDoes P σ fr ⟨d, .build t ps, ty, pos, af, g⟩ v := by
 obtain ⟨l, g1, _, g2⟩ := fillK_some (σ := σ) h
 refine ⟨_, g1, fun η f w hr => ?_⟩
 obtain ⟨hu, zv, ⟨ti, ti1, ti2, ti3, ti4⟩, hz, hza, _⟩ := hi
 rw [hD] at hu hza
 obtain ⟨cs, rfl⟩ := hza rfl
 have hp := cvPs_ok hr (place := fieldAt Θ fs) hc (fun p hp => by simp [Op.operands]; exact ⟨p.1, by simpa using hp⟩)
 obtain ⟨ws, g3, g4⟩ := g2 η _ _ _ hp (hz σ η)
 obtain ⟨pl, p1, p2⟩ := places_run hΘ w fs.toList hk
 refine ⟨.agg ws, ?_, _, g4, by simp⟩
 have hpl : ∀ p ∈ ps.toList, pl.toArray[p.1]? = fieldAt Θ fs p.1 := by
  intro p hp
  have := cvPs_place hc p hp
  unfold fieldAt at this ⊢
  cases hf : fs[p.1]? with
  | none => rw [hf] at this; cases this
  | some f' =>
   obtain ⟨j, j1, j2⟩ := p2 p.1 f' (by simpa using hf)
   simp only [Option.bind_some, j1, Option.map_some]
   simpa using j2
 have hm : (fs.mapM fun f => (do pure (f.offset, ← sizeOf f.type) : Sem (Nat × Nat))).run P w = .ok pl.toArray w := by
  obtain ⟨fl⟩ := fs
  rw [List.mapM_toArray]
  have p1' : (fl.mapM fun f => (do pure (f.offset, ← sizeOf f.type) : Sem (Nat × Nat))).run P w = .ok pl w := p1
  rw [Sem.run_map, p1']
  rfl
 have hfill : Instr.fill (fun k => pl.toArray[k]?) cs (ps.toList.map fun p => (p.1, ev f p.2)) = some ws := by
  rw [fill_congr (pl' := fieldAt Θ fs) _ _ (fun p hp => by
   obtain ⟨q, hq, rfl⟩ := List.mem_map.1 hp
   exact hpl q hq)]
  simpa [Value.cells] using g3
 have hzv : (zeroValue t).run P w = .ok (.agg cs) w := by simp [zeroValue, typeInfo, ti1, ti2]
 have hps : (ps.map fun p => (p.1, ev f p.2)).toList = ps.toList.map fun p => (p.1, ev f p.2) := by simp
 show (execOp (ev f) ⟨d, .build t ps, ty, pos, af, g⟩).run P w = _
 unfold execOp
 simp only [Instr.build, Sem.run_bind, hzv, Result.andThen_ok, run_underlying hu, hm]
 rw [show (Array.map (fun x : Nat × Operand => (x.1, ev f x.2)) ps).toList = ps.toList.map fun p => (p.1, ev f p.2) from hps]
 simp only [Value.cells, hfill]
 rfl
theorem dBa {t e : TypeId} {m : Nat} {ps : Array (Nat × Operand)} {qs : List (Nat × Nat × X)} {i j : TyI} (hi : i.Ok P t) (hD : i.D = .array m e) (hj : j.Ok P e) (hc : cvPs (fun k => some (Nat.mul k j.z.length, j.z.length)) ps.toList = some qs) (h : pBd i.z qs Γ fr K = some out) :
  ∃ v, K v = some out ∧ PDoes P σ fr ⟨d, .build t ps, ty, pos, af, g⟩ v := by
 obtain ⟨l, g1, _, g2⟩ := fillK_some (σ := σ) h
 refine ⟨_, g1, fun η f w hr => ?_⟩
 obtain ⟨hu, zv, ⟨ti, ti1, ti2, ti3, ti4⟩, hz, hza, _⟩ := hi
 obtain ⟨_, _, ⟨tj, tj1, tj2, tj3, tj4⟩, _⟩ := hj
 rw [hD] at hu hza
 obtain ⟨cs, rfl⟩ := hza rfl
 have hp := cvPs_ok hr (place := fun k => some (Nat.mul k j.z.length, j.z.length)) hc (fun p hp => by simp [Op.operands]; exact ⟨p.1, by simpa using hp⟩)
 obtain ⟨ws, g3, g4⟩ := g2 η _ _ _ hp (hz σ η)
 refine ⟨.agg ws, ?_, _, g4, by simp⟩
 have hs : (sizeOf e).run P w = .ok j.z.length w := by simp [sizeOf, typeInfo, tj1, tj3]
 have hfill : Instr.fill (fun k => some (k * j.z.length, j.z.length)) cs (ps.toList.map fun p => (p.1, ev f p.2)) = some ws := by simpa [Value.cells] using g3
 have hzv : (zeroValue t).run P w = .ok (.agg cs) w := by simp [zeroValue, typeInfo, ti1, ti2]
 have hps : (ps.map fun p => (p.1, ev f p.2)).toList = ps.toList.map fun p => (p.1, ev f p.2) := by simp
 show (execOp (ev f) ⟨d, .build t ps, ty, pos, af, g⟩).run P w = _
 unfold execOp
 simp only [Instr.build, Sem.run_bind, hzv, Result.andThen_ok, run_underlying hu, hs]
 rw [show (Array.map (fun x : Nat × Operand => (x.1, ev f x.2)) ps).toList = ps.toList.map fun p => (p.1, ev f p.2) from hps]
 simp only [Value.cells, hfill]
 rfl
theorem arr1 {α : Type} {a : Array α} {x : α} (h : a.toList = [x]) : a = #[x] := by cases a; simp_all
theorem arr2 {α : Type} {a : Array α} {x y : α} (h : a.toList = [x, y]) : a = #[x, y] := by cases a; simp_all
include hΘ hΓ in
theorem sP (o : Oper) (op : OP) (hc : cvP Θ o.op = some op) (h : exP op Γ fr K = some out) : ∃ v, K v = some out ∧ PDoes P σ fr o v := by
 obtain ⟨d, p, ty, pos, af, g⟩ := o
 simp only at hc
 cases p
 case move x => obtain ⟨x', hx, rfl⟩ := Option.map_eq_some_iff.1 hc; exact dMv (Γ := Γ) hx h
 case assign x => obtain ⟨x', hx, rfl⟩ := Option.map_eq_some_iff.1 hc; exact dAs (Γ := Γ) hx h
 case pick c a b =>
  obtain ⟨c', h1, hc⟩ := Option.bind_eq_some_iff.1 hc
  obtain ⟨a', h2, hc⟩ := Option.bind_eq_some_iff.1 hc
  obtain ⟨b', h3, rfl⟩ := Option.map_eq_some_iff.1 hc
  exact dPk (Γ := Γ) h1 h2 h3 h
 case binOp o t x y t' =>
  obtain ⟨i, hi, hc⟩ := Option.bind_eq_some_iff.1 hc
  obtain ⟨x', hx, hc⟩ := Option.bind_eq_some_iff.1 hc
  have hok := tyOf_ok hΘ hi
  unfold cvBin at hc
  have eqcase : (∀ k, i.D ≠ .int k) → ((cvX y).bind fun y' => (eqT Θ 10 t).bind fun ks => match o with
      | .eql => some (.eq false (aggD i.D) ks x' y')
      | .neq => some (.eq true (aggD i.D) ks x' y')
      | _ => none) = some op → ∃ v, K v = some out ∧ PDoes P σ fr ⟨d, .binOp o t x y t', ty, pos, af, g⟩ v := by
    intro hni hc
    obtain ⟨y', hy, hc⟩ := Option.bind_eq_some_iff.1 hc
    obtain ⟨ks, hk, hc⟩ := Option.bind_eq_some_iff.1 hc
    cases o
    case eql => cases hc; exact dEq (Γ := Γ) hΘ hΓ (.inl ⟨rfl, rfl⟩) hok hni hk hi hx hy h
    case neq => cases hc; exact dEq (Γ := Γ) hΘ hΓ (.inr ⟨rfl, rfl⟩) hok hni hk hi hx hy h
    all_goals cases hc
  cases hD : i.D
  case int k =>
    rw [hD] at hc
    obtain ⟨y', hy, hc⟩ := Option.bind_eq_some_iff.1 hc
    cases hb : compares o with
    | true => rw [hb] at hc; cases hc; exact dCp (Γ := Γ) hΓ hx hy h
    | false => rw [hb] at hc; cases hc; exact dAr (Γ := Γ) hΓ hx hy h
  case slice e =>
    rw [hD] at hc
    have hu := hok.1
    rw [hD] at hu
    simp only at hc
    split at hc
    · cases hc; exact dNe (Γ := Γ) (.inl ⟨rfl, rfl⟩) hu hx h
    · cases hc; exact dNe (Γ := Γ) (.inr ⟨rfl, rfl⟩) hu hx h
    · cases hc
  all_goals (simp only [hD] at hc; rw [hD] at eqcase; exact eqcase (fun k e => by cases e) hc)
 case unOp o t x =>
  cases o
  case not => obtain ⟨x', hx, rfl⟩ := Option.map_eq_some_iff.1 hc; exact dNt (Γ := Γ) hx h
  all_goals cases hc
 case nilCheck x => obtain ⟨x', hx, rfl⟩ := Option.map_eq_some_iff.1 hc; exact dNc (Γ := Γ) hx h
 case fieldAddr t x n =>
  obtain ⟨i, hi, hc⟩ := Option.bind_eq_some_iff.1 hc
  have hok := tyOf_ok hΘ hi
  have hu := hok.1
  cases hD : i.D
  case struct fs =>
    rw [hD] at hc hu
    obtain ⟨f, hf, hc⟩ := Option.bind_eq_some_iff.1 hc
    obtain ⟨j, hj, hc⟩ := Option.bind_eq_some_iff.1 hc
    cases hb : Nat.beq j.z.length 0 with
    | true => rw [hb] at hc; cases hc
    | false =>
      rw [hb] at hc
      obtain ⟨x', hx, rfl⟩ := Option.map_eq_some_iff.1 hc
      exact dFa (Γ := Γ) hu hf (tyOf_ok hΘ hj) (fun e => by rw [e] at hb; cases hb) hx h
  all_goals (rw [hD] at hc; cases hc)
 case field t x n =>
  obtain ⟨i, hi, hc⟩ := Option.bind_eq_some_iff.1 hc
  have hok := tyOf_ok hΘ hi
  have hu := hok.1
  cases hD : i.D
  case struct fs =>
    rw [hD] at hc hu
    obtain ⟨f, hf, hc⟩ := Option.bind_eq_some_iff.1 hc
    obtain ⟨j, hj, hc⟩ := Option.bind_eq_some_iff.1 hc
    obtain ⟨x', hx, hc⟩ := Option.map_eq_some_iff.1 hc
    cases hb : aggD j.D with
    | true => rw [hb] at hc; subst hc; exact dFn (Γ := Γ) hu hf (tyOf_ok hΘ hj) hb hx h
    | false => rw [hb] at hc; subst hc; exact dFd (Γ := Γ) hu hf (tyOf_ok hΘ hj) hb hx h
  all_goals (rw [hD] at hc; cases hc)
 case indexAddr t x y =>
  obtain ⟨i, hi, hc⟩ := Option.bind_eq_some_iff.1 hc
  have hok := tyOf_ok hΘ hi
  have hu := hok.1
  cases hD : i.D
  case slice e =>
    rw [hD] at hc hu
    obtain ⟨j, hj, hc⟩ := Option.bind_eq_some_iff.1 hc
    obtain ⟨x', hx, hc⟩ := Option.bind_eq_some_iff.1 hc
    obtain ⟨y', hy, rfl⟩ := Option.map_eq_some_iff.1 hc
    exact dIx (Γ := Γ) hu (tyOf_ok hΘ hj) hx hy h
  case array m e =>
    rw [hD] at hc hu
    obtain ⟨j, hj, hc⟩ := Option.bind_eq_some_iff.1 hc
    obtain ⟨x', hx, hc⟩ := Option.bind_eq_some_iff.1 hc
    obtain ⟨y', hy, rfl⟩ := Option.map_eq_some_iff.1 hc
    exact dIa (Γ := Γ) hu (tyOf_ok hΘ hj) hx hy h
  all_goals (rw [hD] at hc; cases hc)
 case index t x y =>
  obtain ⟨i, hi, hc⟩ := Option.bind_eq_some_iff.1 hc
  have hok := tyOf_ok hΘ hi
  have hu := hok.1
  cases hD : i.D
  case array m e =>
    rw [hD] at hc hu
    obtain ⟨j, hj, hc⟩ := Option.bind_eq_some_iff.1 hc
    obtain ⟨x', hx, hc⟩ := Option.bind_eq_some_iff.1 hc
    obtain ⟨y', hy, hc⟩ := Option.map_eq_some_iff.1 hc
    cases hb : aggD j.D with
    | true => rw [hb] at hc; subst hc; exact dIg (Γ := Γ) hu (tyOf_ok hΘ hj) hb hx hy h
    | false => rw [hb] at hc; subst hc; exact dId (Γ := Γ) hu (tyOf_ok hΘ hj) hb hx hy h
  all_goals (rw [hD] at hc; cases hc)
 case build t ps =>
  obtain ⟨i, hi, hc⟩ := Option.bind_eq_some_iff.1 hc
  have hok := tyOf_ok hΘ hi
  cases hD : i.D
  case struct fs =>
    rw [hD] at hc
    cases hb : known Θ fs.toList with
    | false => simp only [hb] at hc; cases hc
    | true =>
      simp only [hb] at hc
      obtain ⟨qs, hq, rfl⟩ := Option.map_eq_some_iff.1 hc
      exact dBd (Γ := Γ) hΘ hok hD hb hq h
  case array m e =>
    rw [hD] at hc
    obtain ⟨j, hj, hc⟩ := Option.bind_eq_some_iff.1 hc
    obtain ⟨qs, hq, rfl⟩ := Option.map_eq_some_iff.1 hc
    exact dBa (Γ := Γ) hok hD (tyOf_ok hΘ hj) hq h
  all_goals (rw [hD] at hc; cases hc)
 case extract x n => obtain ⟨x', hx, rfl⟩ := Option.map_eq_some_iff.1 hc; exact dEx (Γ := Γ) hx h
 case slice t x lo hi mx =>
  cases lo <;> cases hi <;> cases mx <;> first | cases hc | skip
  rename_i y
  obtain ⟨i, hi, hc⟩ := Option.bind_eq_some_iff.1 hc
  have hok := tyOf_ok hΘ hi
  have hu := hok.1
  cases hD : i.D
  case slice e =>
    rw [hD] at hc hu
    obtain ⟨j, hj, hc⟩ := Option.bind_eq_some_iff.1 hc
    obtain ⟨x', hx, hc⟩ := Option.bind_eq_some_iff.1 hc
    obtain ⟨y', hy, rfl⟩ := Option.map_eq_some_iff.1 hc
    exact dSl (Γ := Γ) hu (tyOf_ok hΘ hj) hx hy h
  all_goals (rw [hD] at hc; cases hc)
 case makeFunc fn first cs =>
  cases fn
  case func k =>
    have hc : (bif first.isEmpty then (cvXs cs.toList).map fun xs => OP.mf k xs else none) = some op := hc
    cases hb : first.isEmpty with
    | false => rw [hb] at hc; cases hc
    | true =>
      rw [hb] at hc
      obtain ⟨xs, hx, rfl⟩ := Option.map_eq_some_iff.1 hc
      exact dMf (Γ := Γ) (by simpa using hb) hx h
  all_goals cases hc
 case call c =>
  have hc : cvCallP Θ c = some op := hc
  unfold cvCallP at hc
  split at hc
  · rename_i x t hcal hxs hts
    obtain ⟨i, hi, hc⟩ := Option.bind_eq_some_iff.1 hc
    have hu := (tyOf_ok hΘ hi).1
    cases hD : i.D
    case slice e =>
      rw [hD] at hc hu
      obtain ⟨x', hx, rfl⟩ := Option.map_eq_some_iff.1 hc
      exact dLn (Γ := Γ) (a2 := #[]) hcal (arr1 hxs) (arr1 hts) hu hx h
    case array n e =>
      rw [hD] at hc hu
      cases hc
      exact dLa (Γ := Γ) hcal (arr1 hxs) (arr1 hts) hu h
    all_goals (rw [hD] at hc; cases hc)
  · rename_i x y t t' hcal hxs hts
    obtain ⟨x', hx, hc⟩ := Option.bind_eq_some_iff.1 hc
    obtain ⟨y', hy, rfl⟩ := Option.map_eq_some_iff.1 hc
    exact dMn (Γ := Γ) (mx := false) hΓ hcal (arr2 hxs) (arr2 hts) hx hy h
  · rename_i x y t t' hcal hxs hts
    obtain ⟨x', hx, hc⟩ := Option.bind_eq_some_iff.1 hc
    obtain ⟨y', hy, rfl⟩ := Option.map_eq_some_iff.1 hc
    exact dMn (Γ := Γ) (mx := true) hΓ hcal (arr2 hxs) (arr2 hts) hx hy h
  · cases hc
 all_goals cases hc
end
end
end Go.Ev
