/- The evaluator: operations that read memory, lay rows and change them. -/
import Derived.Test.YtikafojlhinonaaE8
import Derived.Laws.CopyRow
import Derived.Laws.MakeOwn
set_option linter.unusedVariables false
namespace Go.Ev
open Go.RowKit Go.Fw
noncomputable section

def zU (i : TyI) : Option U := bif aggD i.D then some (.g i.z) else match i.z with | [a] => some (.a a) | _ => none
def cvR (Θ : T (Option TyI)) : Op → Option OR
  | .binOp o t x y _ => (tyOf Θ t).bind fun i => match i.D, o with
    | .pointer e, .eql => (tyOf Θ e).bind fun j => bif Nat.beq j.z.length 0 then none else (cvX x).bind fun x' => (cvX y).map fun y' => .pe false x' y'
    | .pointer e, .neq => (tyOf Θ e).bind fun j => bif Nat.beq j.z.length 0 then none else (cvX x).bind fun x' => (cvX y).map fun y' => .pe true x' y'
    | _, _ => none
  | .load t x => (tyOf Θ t).bind fun i => (cvX x).map fun x' => bif aggD i.D then .lg i.z.length x' else .ld x'
  | .lookup t x k ok => (tyOf Θ t).bind fun i => match i.D with
    | .map kt et => (tyOf Θ kt).bind fun ik => (tyOf Θ et).bind fun ie => (eqT Θ 10 kt).bind fun ks => (zU ie).bind fun z => (cvX x).bind fun x' => (cvX k).map fun k' => .lk ok (aggD ik.D) ks z x' k'
    | _ => none
  | .call c => match c.callee, c.args.toList, c.argTypes.toList with
    | .builtin .len, [x], [t] => (tyOf Θ t).bind fun i => match i.D with
      | .map _ _ => (cvX x).map .lm
      | _ => none
    | _, _, _ => none
  | .convert s t x => (tyOf Θ s).bind fun i => (tyOf Θ t).bind fun j => match i.D, j.D with
    | .slice e, .string => (tyOf Θ e).bind fun k => match k.D with
      | .int .u8 => (cvX x).map .bt
      | _ => none
    | _, _ => none
  | _ => none
def mkT (l : List A) : T A := (l.zipIdx).foldl (fun t p => match toPo 20 p.2 with | some q => T.set .u p.1 q t | none => t) .e
def repL (z : List A) : Nat → List A
  | 0 => []
  | n + 1 => z ++ repL z n
def cvAl (Θ : T (Option TyI)) : Op → Option OA
  | .alloc t => (tyOf Θ t).map fun i => .al t i.z.length (mkT i.z)
  | .box t x => (tyOf Θ t).bind fun i => (cvX x).map fun x' => .bx t i.z.length x'
  | .buildSlice t m ps => (tyOf Θ t).bind fun i => match i.D with
    | .slice e => (tyOf Θ e).bind fun j => bif and (Nat.ble (Nat.mul m j.z.length) 16777216) (Nat.ble m 16777216) then (cvPs (fun k => some (Nat.mul k j.z.length, j.z.length)) ps.toList).map fun qs => .bs e m (repL j.z m) qs else none
    | _ => none
  | .makeSlice t (.tmp x) (.tmp y) => (tyOf Θ t).bind fun i => match i.D with
    | .slice e => (tyOf Θ e).bind fun j => bif Nat.beq x y then (cvX (.tmp x)).map fun x' => .ms e j.b j.z x' else none
    | _ => none
  | .makeSlice t (.const x) (.const y) => (tyOf Θ t).bind fun i => match i.D, x, y with
    | .slice e, .int k a, .int k' b => (tyOf Θ e).bind fun j => bif decide (a = b ∧ k = k') then (cvX (.const (.int k a))).map fun x' => .ms e j.b j.z x' else none
    | _, _, _ => none
  | .makeMap _ none => some .mm
  | _ => none
def cvCh (Θ : T (Option TyI)) : Op → Option OC
  | .store t x y => (tyOf Θ t).bind fun i => (cvX x).bind fun x' => (cvX y).map fun y' => .st i.z.length x' y'
  | .mapUpdate t m k v => (tyOf Θ t).bind fun i => match i.D with
    | .map kt et => (tyOf Θ kt).bind fun ik => (eqT Θ 10 kt).bind fun ks => (cvX m).bind fun m' => (cvX k).bind fun k' => (cvX v).map fun v' => .mu (aggD ik.D) ks m' k' v'
    | _ => none
  | .call c => match c.callee, c.args.toList, c.argTypes.toList with
    | .builtin .append, [x, y], [t, t'] => (tyOf Θ t).bind fun i => match i.D with
      | .slice e => (tyOf Θ e).bind fun j => bif and (Nat.beq t t') (Nat.ble 1 j.z.length) then (cvX x).bind fun x' => (cvX y).map fun y' => .ap e j.z.length j.b x' y' else none
      | _ => none
    | .builtin .clear, [x], [t] => (tyOf Θ t).bind fun i => match i.D with
      | .slice e => (tyOf Θ e).bind fun j => (cvX x).map fun x' => .cl j.z x'
      | _ => none
    | _, _, _ => none
  | .convert s t x => (tyOf Θ s).bind fun i => (tyOf Θ t).bind fun j => match i.D, j.D with
    | .string, .slice e => (tyOf Θ e).bind fun k => match k.D with
      | .int .u8 => (cvX x).map .sb
      | _ => none
    | .slice e, .slice _ => (tyOf Θ e).bind fun k => match k.D with
      | .int .u8 => bif Nat.beq s t then (cvX x).map .sm else none
      | _ => none
    | _, _ => none
  | _ => none

section
variable {P : Program} {Θ : T (Option TyI)} (hΘ : Θ.All (TyQ P)) {CV : T (Option Site)} {σ : Sg} {Γ : Env} (hΓ : Γ.Ok σ)
variable {fr : T V} {out : Out} {d : Option Nat} {ty : TypeId} {pos : String} {af : Array Edge} {g : Option (Nat × Bool)}
/-- the names below a bound -/
def Eta.cut (η : Eta) (n : Pp) : Eta := fun r => if r.toNat < n.toNat then η r else none
theorem Eta.cut_le (η : Eta) (n : Pp) : (η.cut n).le η := fun r p h => by
  unfold Eta.cut at h
  split at h
  · exact h
  · cases h
theorem HRel.cut {η : Eta} {h : AH} {w : World} (hh : HRel P CV σ η h w) : η.cut h.nx = η := by
  funext r
  unfold Eta.cut
  split
  · rfl
  · exact (hh.dom r (by omega)).symm
theorem HRel.lt {η : Eta} {h : AH} {w : World} (hh : HRel P CV σ η h w) {r : Pp} (hl : h.row r ≠ .d) : r.toNat < h.nx.toNat := by
  rcases Nat.lt_or_ge r.toNat h.nx.toNat with h1 | h1
  · exact h1
  · exact absurd (hh.nix r h1) hl
/-- what an operation that reads does -/
def RDoes (P : Program) (CV : T (Option Site)) (σ : Sg) (fr : T V) (h : AH) (o : Oper) (v : V) : Prop :=
  ∀ (η : Eta) (f : Fr) (w : World), XR σ η fr f o.op.operands.toList → HRel P CV σ (η.cut h.nx) h w → ∃ v', (execOp (ev f) o).run P w = .ok (.value v') w ∧ Dv σ η v v'
/-- what an operation that lays a row does -/
def ADoes (P : Program) (CV : T (Option Site)) (σ : Sg) (fr : T V) (o : Oper) (row : Row) (mk : Pp → A) : Prop :=
  row ≠ .d ∧ ∀ (η : Eta) (f : Fr) (w : World), XR σ η fr f o.op.operands.toList → ∃ v' ob c, (execOp (ev f) o).run P w = .ok (.value v') (w.alloc ob) ∧ RowR P CV σ η c (some ob) row ∧ ∀ (η' : Eta) r, η' r = some (w.heap.size, c) → Da σ η' (mk r) v'
/-- what an operation that changes memory does -/
def CDoes (P : Program) (CV : T (Option Site)) (σ : Sg) (fr : T V) (h : AH) (o : Oper) (v : V) (h' : AH) : Prop :=
  ∀ (η : Eta) (f : Fr) (w : World), XR σ η fr f o.op.operands.toList → HRel P CV σ η h w →
    ∃ w' η', ((∃ v', (execOp (ev f) o).run P w = .ok (.value v') w' ∧ Dv σ η' v v') ∨ ((execOp (ev f) o).run P w = .ok .skip w' ∧ v = .x)) ∧ HRel P CV σ η' h' w' ∧ Stp η h w η' h' w'
theorem rowC_some {r : Row} {K : Nat → Nat → T A → R} (h : r.cK K = some out) : ∃ ty n t, r = .c ty n t ∧ K ty n t = some out := by
  cases r with
  | c ty n t => exact ⟨ty, n, t, rfl, h⟩
  | _ => cases h
theorem rowR_some {r : Row} {K : T A → R} (h : r.rK K = some out) : ∃ t, (r ≠ .d ∧ ∀ (η : Eta) c o, RowR P CV σ η c o r → ∃ cs ty mk n, o = some (.cells cs ty mk) ∧ CellsR σ η n t cs) ∧ K t = some out := by
  cases r with
  | c ty n t => exact ⟨t, ⟨fun e => Row.noConfusion e, fun η c o hR => by obtain ⟨cs, i, r1, _, _, _, r5⟩ := hR; exact ⟨cs, ty, _, n, r1, r5⟩⟩, h⟩
  | x n t => exact ⟨t, ⟨fun e => Row.noConfusion e, fun η c o hR => by obtain ⟨cs, ty, mk, r1, r5⟩ := hR; exact ⟨cs, ty, mk, n, r1, r5⟩⟩, h⟩
  | _ => cases h
theorem row_cell {w : World} {b i : Nat} {cs : Array Value} {ty : TypeId} {mk : Nat × Nat} {v : Value} (h : w.heap[b]? = some (.cells cs ty mk)) (hv : cs[i]? = some v) : w.cell? ⟨b, i, none⟩ = some v := by
  rw [cell_of_row w b i cs ty mk h]; exact hv
theorem rowW_some {r : Row} {K : T A → R} (h : r.wK K = some out) : ∃ t, r = .w t ∧ K t = some out := by
  cases r with
  | w t => exact ⟨t, rfl, h⟩
  | _ => cases h
theorem rowM_some {r : Row} {K : List (U × U) → R} (h : r.mK K = some out) : ∃ es, r = .m es ∧ K es = some out := by
  cases r with
  | m es => exact ⟨es, rfl, h⟩
  | _ => cases h
theorem CellsR.at {η : Eta} {n : Nat} {t : T A} {cs : Array Value} (hc : CellsR σ η n t cs) : ∀ {l : List A} {o : Nat}, CellsAt t o l → ∃ vs, DL σ η l vs ∧ ∀ j v, vs[j]? = some v → cs[o + j]? = some v
  | [], o, _ => ⟨[], rfl, fun j v h => by simp at h⟩
  | a :: l, o, ⟨⟨p, h1, h2, h3⟩, h4⟩ => by
    obtain ⟨vs, h5, h6⟩ := CellsR.at hc h4
    obtain ⟨_, v, h7, h8⟩ := hc.2 p (by rw [h2]; exact h3)
    rw [h2] at h8
    rw [h1] at h7
    refine ⟨v :: vs, ⟨v, vs, rfl, h8, h5⟩, fun j u hu => ?_⟩
    cases j with
    | zero => simp at hu; subst hu; exact h7
    | succ j => have := h6 j u (by simpa using hu); rwa [show o + (j + 1) = o + 1 + j by omega]
theorem rdLd {t : TypeId} {x : Operand} {x' : X} {i : TyI} {h : AH} {K : V → R} (hi : i.Ok P t) (hD : aggD i.D = false) (hx : cvX x = some x') (hk : rLd x' Γ fr h K = some out) : ∃ v, K v = some out ∧ RDoes P CV σ fr h ⟨d, .load t x, ty, pos, af, g⟩ v := by
  obtain ⟨a, ha, g0⟩ := aK_some hk
  rcases orP_some g0 with g1 | ⟨r, o, rfl, g1⟩
  case inr =>
    obtain ⟨tr, hrow, g3⟩ := rowW_some g1
    obtain ⟨p, hp, g4⟩ := cellK_some g3
    obtain ⟨hne, g5⟩ := knK_some g4
    refine ⟨_, g5, fun η f w hr hh => ?_⟩
    have dx := hr.get (by simp [Op.operands]) hx
    rw [ha] at dx
    obtain ⟨b, c, h1, h2⟩ := dx
    have hR := hh.rows r b c (by unfold Eta.cut; rw [if_pos (hh.lt (by rw [hrow]; exact fun e => Row.noConfusion e))]; exact h1)
    rw [hrow] at hR
    obtain ⟨_, cs, tt, mk, r1, r5⟩ := hR
    obtain ⟨v, h3, h4⟩ := r5 p hne
    rw [hp] at h3
    exact ⟨v, xLoad hi.1 hD h2 (row_cell r1 h3), h4.mono (Eta.cut_le _ _)⟩
  obtain ⟨r, o, rfl, g2⟩ := pK_some g1
  obtain ⟨tr, ⟨hrd, hrow⟩, g3⟩ := rowR_some (P := P) (CV := CV) (σ := σ) g2
  obtain ⟨p, hp, g4⟩ := cellK_some g3
  obtain ⟨hne, g5⟩ := knK_some g4
  refine ⟨_, g5, fun η f w hr hh => ?_⟩
  have dx := hr.get (by simp [Op.operands]) hx
  rw [ha] at dx
  obtain ⟨b, c, h1, h2⟩ := dx
  have hR := hh.rows r b c (by unfold Eta.cut; rw [if_pos (hh.lt hrd)]; exact h1)
  obtain ⟨cs, tt, mk, n, r1, r5⟩ := hrow _ _ _ hR
  obtain ⟨_, v, h3, h4⟩ := r5.2 p hne
  rw [hp] at h3
  exact ⟨v, xLoad hi.1 hD h2 (row_cell r1 h3), h4.mono (Eta.cut_le _ _)⟩
theorem rdLg {t : TypeId} {x : Operand} {x' : X} {i : TyI} {h : AH} {K : V → R} (hi : i.Ok P t) (hD : aggD i.D = true) (hx : cvX x = some x') (hk : rLg i.z.length x' Γ fr h K = some out) : ∃ v, K v = some out ∧ RDoes P CV σ fr h ⟨d, .load t x, ty, pos, af, g⟩ v := by
  obtain ⟨a, ha, g1⟩ := aK_some hk
  obtain ⟨r, o, rfl, g2⟩ := pK_some g1
  obtain ⟨tr, ⟨hrd, hrow⟩, g3⟩ := rowR_some (P := P) (CV := CV) (σ := σ) g2
  obtain ⟨l, hl, hc, g4⟩ := kcellsK_some g3
  refine ⟨_, g4, fun η f w hr hh => ?_⟩
  have dx := hr.get (by simp [Op.operands]) hx
  rw [ha] at dx
  obtain ⟨b, c, h1, h2⟩ := dx
  have hR := hh.rows r b c (by unfold Eta.cut; rw [if_pos (hh.lt hrd)]; exact h1)
  obtain ⟨cs, tt, mk, n, r1, r5⟩ := hrow _ _ _ hR
  obtain ⟨vs, h3, h4⟩ := r5.at hc
  obtain ⟨hu, zv, hti, _⟩ := hi
  exact ⟨_, xLoadS vs hu hD hti (by rw [h3.len, hl]) h2 (fun j v hv => row_cell r1 (h4 j v hv)), vs, h3.mono (Eta.cut_le _ _), rfl⟩
/-- the cells of a slice; names below a bound -/
theorem sliceK_rd {h : AH} {a : A} {z : Nat} {K : List A → Nat → R} (hk : sliceK h a z K = some out) : ∃ l m, K l m = some out ∧ l.length = m * z ∧ ∀ η v w, Da σ η a v → HRel P CV σ (η.cut h.nx) h w → ∃ A' c' ys, v = .slice A' m c' ∧ (0 < m → ∃ b o, A' = some ⟨b, o, none⟩ ∧ b < w.heap.size ∧ ∀ i v, ys[i]? = some v → w.cell? ⟨b, o + i, none⟩ = some v) ∧ DL σ η l ys ∧ (m = 0 ∨ m ≤ c') := by
  rcases sK_some hk with ⟨rfl, g1⟩ | ⟨r, o, n, rfl, g1⟩
  · exact ⟨[], 0, g1, by simp, fun η v w hd _ => ⟨none, 0, [], hd, fun h => by omega, rfl, .inl rfl⟩⟩
  · obtain ⟨t, ⟨hrd, hrow⟩, g2⟩ := rowR_some (P := P) (CV := CV) (σ := σ) g1
    obtain ⟨l, g3, g4, g5⟩ := kcellsK_some g2
    refine ⟨l, n, g5, g3, fun η v w hd hh => ?_⟩
    obtain ⟨b, c1, c', o', h1, h2, h3, h4, h5⟩ := hd
    have hcut : η.cut h.nx r = some (b, c1) := by unfold Eta.cut; rw [if_pos (hh.lt hrd)]; exact h1
    obtain ⟨cs, ty, mk, q, r1, r5⟩ := hrow _ _ _ (hh.rows r b c1 hcut)
    obtain ⟨vs, d1, d2⟩ := r5.at g4
    refine ⟨_, _, vs, h2, fun hpos => ⟨b, o, ?_, hh.bnd r b c1 hcut, fun i v hv => row_cell r1 (d2 i v hv)⟩, d1.mono (Eta.cut_le _ _), .inr h3⟩
    rcases h5 with h5 | ⟨h5, _⟩
    · rw [h5]
    · omega
theorem strK_some : ∀ {l : List A} {K : Nat → R}, strK l K = some out → ∃ v, K v = some out ∧ ∀ (η : Eta) (ys : List Value), DL σ η l ys → ∃ bs : List UInt8, enc bs = v ∧ ys = bs.map fun b => Value.int .u8 b.toNat
  | [], K, h => ⟨1, h, fun η ys hd => ⟨[], rfl, hd⟩⟩
  | a :: l, K, h => by
    obtain ⟨k, e, rfl, h1⟩ := iK_some (show a.iK (fun k e => e.nK (fun c => Bool.rec (motive := fun _ => R) none (strK l (fun v => frc (Nat.add c (Nat.mul 256 v)) K)) (and (Nat.beq (ikK k) (ikK .u8)) (Nat.ble c 255))) none) = some out from h)
    rcases nK_some h1 with ⟨c, rfl, h2⟩ | h2
    · obtain ⟨h3, h4⟩ := bif_some h2
      obtain ⟨h5, h6⟩ := and_t h3
      have h5 := ikK_inj h5
      subst h5
      have h6 : c ≤ 255 := Nat.le_of_ble_eq_true h6
      obtain ⟨v, h7, h8⟩ := strK_some (l := l) h4
      rw [frc_eq] at h7
      refine ⟨_, h7, fun η ys hd => ?_⟩
      obtain ⟨y, ys', rfl, d1, d2⟩ := hd
      obtain ⟨bs, e1, rfl⟩ := h8 η ys' d2
      have hb : (UInt8.ofNat c).toNat = c := by simp [UInt8.toNat_ofNat']; omega
      refine ⟨UInt8.ofNat c :: bs, ?_, ?_⟩
      · show (UInt8.ofNat c).toNat + 256 * enc bs = c + 256 * v
        rw [hb, e1]
      · have d1 : y = .int .u8 ((c : Nat) : Int) := d1
        simp only [List.map_cons, hb, d1]
    · cases h2
theorem bytes_push (bs : List UInt8) : ∀ acc : ByteArray, (bs.foldl (fun s b => s.push b) acc).data.toList = acc.data.toList ++ bs := by
  induction bs with
  | nil => intro acc; simp
  | cons b bs ih => intro acc; rw [List.foldl_cons, ih]; simp
theorem run_bytes {w : World} (bs : List UInt8) : ∀ acc : ByteArray, (forIn (bs.map fun b => Value.int .u8 ((b.toNat : Nat) : Int)) acc fun c (s : ByteArray) => (do
      let .int .u8 n := c | stuck "bytesToString: byte expected"
      pure (ForInStep.yield (s.push (UInt8.ofNat n.toNat))) : Sem (ForInStep ByteArray))).run P w = .ok (bs.foldl (fun s b => s.push b) acc) w := by
  induction bs with
  | nil => intro acc; simp
  | cons b bs ih =>
    intro acc
    rw [List.map_cons, List.forIn_cons]
    simp only [Sem.run_bind, Sem.run_pure, Result.andThen_ok, List.foldl_cons]
    have hb : UInt8.ofNat (((b.toNat : Nat) : Int)).toNat = b := by simp
    rw [hb]
    exact ih _
end
end
end Go.Ev
