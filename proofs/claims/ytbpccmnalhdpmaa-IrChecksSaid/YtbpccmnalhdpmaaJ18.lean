/- IrChecks: E4. -/
import Derived.Test.YtbpccmnalhdpmaaJ17
import Derived.Laws.StructEq
set_option linter.unusedVariables false
namespace Go.Ev
open Go.RowKit Go.Fw
noncomputable section
/-- two cells, the same or not -/
def LeafEq (kd : Nat) (v v' : Value) (t : Bool) : Prop :=
 (kd = 0 ∧ ∃ k a b, v = .int k a ∧ v' = .int k b ∧ t = decide (a = b)) ∨ (kd = 1 ∧ ∃ a b, v = .bool a ∧ v' = .bool b ∧ t = (a == b)) ∨ (kd = 2 ∧ ∃ a b : ByteArray, v = .string a ∧ v' = .string b ∧ t = (a == b))
/-- two lists of cells, looked at till two differ -/
def LEq : List Nat → List Value → List Value → Bool → Prop
 | [], [], [], t => t = true
 | k :: ks, v :: vs, v' :: vs', t => (LeafEq k v v' false ∧ t = false) ∨ (LeafEq k v v' true ∧ LEq ks vs vs' t)
 | _, _, _, _ => False
theorem LEq.split : ∀ {ks kt : List Nat} {a c b d : List Value} {t : Bool}, a.length = ks.length → c.length = ks.length → LEq (ks ++ kt) (a ++ b) (c ++ d) t → (LEq ks a c false ∧ t = false) ∨ (LEq ks a c true ∧ LEq kt b d t)
 | [], kt, [], [], b, d, t, _, _, h => .inr ⟨rfl, h⟩
 | [], _, [], _ :: _, _, _, _, _, hl, _ => by simp at hl
 | [], _, _ :: _, _, _, _, _, hl, _, _ => by simp at hl
 | _ :: _, _, [], _, _, _, _, hl, _, _ => by simp at hl
 | _ :: _, _, _ :: _, [], _, _, _, _, hl, _ => by simp at hl
 | k :: ks, kt, x :: a, y :: c, b, d, t, hl, hm, h => by
  rcases h with ⟨h1, h2⟩ | ⟨h1, h2⟩
  · exact .inl ⟨.inl ⟨h1, rfl⟩, h2⟩
  · rcases LEq.split (by simpa using hl) (by simpa using hm) h2 with ⟨h3, h4⟩ | ⟨h3, h4⟩
    · exact .inl ⟨.inr ⟨h1, h3⟩, h4⟩
    · exact .inr ⟨.inr ⟨h1, h3⟩, h4⟩
section
variable {σ : Nat → Int} {Γ : Env} (hΓ : Γ.Ok σ)
theorem eqbN_eq : ∀ {a b : List Nat}, eqbN a b = true → a = b
 | [], [], _ => rfl
 | [], _ :: _, h => by cases h
 | _ :: _, [], h => by cases h
 | x :: a, y :: b, h => by
  obtain ⟨h1, h2⟩ := and_t (show and (Nat.beq x y) (eqbN a b) = true from h)
  rw [Nat.eq_of_beq_eq_true h1, eqbN_eq h2]
theorem eqbN_self : ∀ a : List Nat, eqbN a a = true
 | [] => rfl
 | x :: a => by
  show and (Nat.beq x x) (eqbN a a) = true
  rw [Nat.beq_refl, eqbN_self a]; rfl
theorem bytes_inj {a b : ByteArray} (h : a.data.toList.map (·.toNat) = b.data.toList.map (·.toNat)) : a = b := by
 have h2 : a.data.toList = b.data.toList := by
  have hinj : ∀ {l m : List UInt8}, l.map (·.toNat) = m.map (·.toNat) → l = m := by
   intro l
   induction l with
   | nil => intro m h; cases m with | nil => rfl | cons _ _ => simp at h
   | cons x l ih =>
    intro m h
    cases m with
    | nil => simp at h
    | cons y m =>
     simp only [List.map_cons, List.cons.injEq] at h
     rw [ih h.2, UInt8.toNat_inj.1 h.1]
  exact hinj h
 obtain ⟨⟨x⟩⟩ := a
 obtain ⟨⟨y⟩⟩ := b
 simp only at h2
 rw [h2]
include hΓ
theorem eqA_some {kd : Nat} {a b : A} {K : Bool → R} {out : Out} (h : eqA Γ kd a b K = some out) : ∃ t, K t = some out ∧ ∀ η v v', Da σ η a v → Da σ η b v' → LeafEq kd v v' t := by
 cases a with
 | i k e =>
  obtain ⟨k', e', rfl, h1⟩ := iK_some (show b.iK _ = some out from h)
  obtain ⟨hk, h2⟩ := bif_some h1
  obtain ⟨h0, hk⟩ := and_t hk
  have h0 := Nat.eq_of_beq_eq_true h0
  have hk := ikK_inj hk
  subst hk
  cases hb : e.eqb e' with
  | true =>
   rw [hb] at h2
   have := SE.eqb_eq hb
   subst this
   exact ⟨true, h2, fun η v v' h3 h4 => .inl ⟨h0, k, _, _, h3, h4, by simp⟩⟩
  | false =>
   rw [hb] at h2
   obtain ⟨t, h3, h4⟩ := cpK_some hΓ h2
   have h5 : some (decide (e.den σ = e'.den σ)) = some t := h4
   injection h5 with h5
   exact ⟨t, h3, fun η v v' h6 h7 => .inl ⟨h0, k, _, _, h6, h7, h5.symm⟩⟩
 | b x =>
  obtain ⟨y, rfl, h1⟩ := bK_some (show b.bK _ = some out from h)
  obtain ⟨h0, h1⟩ := bif_some h1
  refine ⟨x == y, ?_, fun η v v' h3 h4 => .inr (.inl ⟨Nat.eq_of_beq_eq_true h0, x, y, h3, h4, rfl⟩)⟩
  cases x <;> cases y <;> exact h1
 | t l =>
  obtain ⟨m, rfl, h1⟩ := tKA_some (show b.tK _ = some out from h)
  obtain ⟨h0, h1⟩ := bif_some h1
  refine ⟨eqbN l m, by cases hq : eqbN l m <;> (rw [hq] at h1; exact h1), fun η v v' h3 h4 => ?_⟩
  obtain ⟨s, hs, rfl⟩ := h3
  obtain ⟨s', hs', rfl⟩ := h4
  refine .inr (.inr ⟨Nat.eq_of_beq_eq_true h0, s, s', rfl, rfl, ?_⟩)
  rw [beq_toListBytes, ByteArray.toList_eq, ByteArray.toList_eq]
  cases hq : eqbN l m with
  | true =>
   have := eqbN_eq hq
   rw [← hs, ← hs'] at this
   rw [bytes_inj this]
   simp
  | false =>
   symm
   rw [beq_eq_false_iff_ne]
   intro e
   rw [← hs, ← hs', e, eqbN_self] at hq
   cases hq
 | _ => cases h
theorem eqL_some : ∀ {ks : List Nat} {l m : List A} {K : Bool → R} {out : Out}, eqL Γ ks l m K = some out → ∃ t, K t = some out ∧ ∀ η vs vs', DL σ η l vs → DL σ η m vs' → LEq ks vs vs' t
 | [], [], [], K, out, h => ⟨true, h, fun η vs vs' h1 h2 => by cases h1; cases h2; rfl⟩
 | [], [], _ :: _, _, _, h => by cases h
 | [], _ :: _, _, _, _, h => by cases h
 | _ :: _, [], _, _, _, h => by cases h
 | _ :: _, _ :: _, [], _, _, h => by cases h
 | k :: ks, a :: l, b :: m, K, out, h => by
  obtain ⟨t, h1, h2⟩ := eqA_some (kd := k) (a := a) (b := b) (K := fun t => Bool.rec (motive := fun _ => R) (K false) (eqL Γ ks l m K) t) hΓ h
  cases t with
  | false => exact ⟨false, h1, fun η vs vs' ⟨v, us, e1, d1, r1⟩ ⟨v', us', e2, d2, r2⟩ => by rw [e1, e2]; exact .inl ⟨h2 η v v' d1 d2, rfl⟩⟩
  | true =>
   obtain ⟨t, h3, h4⟩ := eqL_some h1
   exact ⟨t, h3, fun η vs vs' ⟨v, us, e1, d1, r1⟩ ⟨v', us', e2, d2, r2⟩ => by rw [e1, e2]; exact .inr ⟨h2 η v v' d1 d2, h4 η us us' r1 r2⟩⟩
omit hΓ in
theorem lenA_eq : ∀ l : List A, lenA l = l.length
 | [] => rfl
 | _ :: l => congrArg Nat.succ (lenA_eq l)
omit hΓ in
theorem lenK_eq : ∀ l : List Nat, lenK l = l.length
 | [] => rfl
 | _ :: l => congrArg Nat.succ (lenK_eq l)
theorem eqG_some {ks : List Nat} {l m : List A} {K : Bool → R} {out : Out} (h : eqG Γ ks l m K = some out) : ∃ t, K t = some out ∧ l.length = ks.length ∧ m.length = ks.length ∧ ∀ η vs vs', DL σ η l vs → DL σ η m vs' → LEq ks vs vs' t := by
 obtain ⟨h1, h2⟩ := bif_some h
 obtain ⟨h3, h4⟩ := and_t h1
 obtain ⟨t, h5, h6⟩ := eqL_some hΓ h2
 have h3 := Nat.eq_of_beq_eq_true h3
 have h4 := Nat.eq_of_beq_eq_true h4
 rw [lenA_eq, lenK_eq] at h3 h4
 exact ⟨t, h5, h3, h4, h6⟩
/-- the cells of a value, as a list -/
def UL (ag : Bool) (v : Value) (vs : List Value) : Prop := bif ag then v = .agg vs.toArray else vs = [v]
theorem eqU_some {ag : Bool} {ks : List Nat} {u u' : U} {K : Bool → R} {out : Out} (h : eqU Γ ag ks u u' K = some out) : ∃ t, K t = some out ∧ ∀ η v v', Du σ η u v → Du σ η u' v' → ∃ vs vs', UL ag v vs ∧ UL ag v' vs' ∧ vs.length = ks.length ∧ vs'.length = ks.length ∧ LEq ks vs vs' t := by
 cases u with
 | a x =>
  cases u' with
  | g _ => cases h
  | a y =>
   cases ag with
   | true => cases h
   | false =>
    obtain ⟨t, h1, h3, h4, h2⟩ := eqG_some hΓ (show eqG Γ ks [x] [y] K = some out from h)
    exact ⟨t, h1, fun η v v' d1 d2 => ⟨[v], [v'], rfl, rfl, by simpa using h3, by simpa using h4, h2 η [v] [v'] ⟨v, [], rfl, d1, rfl⟩ ⟨v', [], rfl, d2, rfl⟩⟩⟩
 | g l =>
  cases u' with
  | a _ => cases h
  | g m =>
   cases ag with
   | false => cases h
   | true =>
    obtain ⟨t, h1, h3, h4, h2⟩ := eqG_some hΓ (show eqG Γ ks l m K = some out from h)
    exact ⟨t, h1, fun η v v' ⟨vs, d1, e1⟩ ⟨vs', d2, e2⟩ => ⟨vs, vs', e1, e2, by rw [d1.len]; exact h3, by rw [d2.len]; exact h4, h2 η vs vs' d1 d2⟩⟩
end
/-! the program's own equality -/
def eqFs (Q : Nat → Option (List Nat)) : List Field → Nat → Option (List Nat)
 | [], _ => some []
 | f :: fs, o => bif Nat.beq f.offset o then (Q f.type).bind fun k => (eqFs Q fs (Nat.add o k.length)).map (k ++ ·) else none
def eqT (Θ : T (Option TyI)) : Nat → Nat → Option (List Nat)
 | 0, _ => none
 | d + 1, t => (tyOf Θ t).bind fun i => match i.D with
  | .int _ => some [0]
  | .bool => some [1]
  | .string => some [2]
  | .struct fs => (eqFs (eqT Θ d) fs.toList 0).bind fun ks => bif and i.e (Nat.beq ks.length i.z.length) then some ks else none
  | _ => none
/-- a value of such a type, and its cells -/
def Shp (P : Program) (t : Nat) (x : Value) (xs : List Value) : Prop := ∃ D, P.underlying t = some D ∧ (bif aggD D then x = .agg xs.toArray else xs = [x])
section
variable {P : Program} {Θ : T (Option TyI)} (hΘ : Θ.All (TyQ P))
theorem leaf_run {w : World} {t : Nat} {D : TypeDesc} (hu : P.underlying t = some D) {kd : Nat} {x y : Value} {r : Bool} (h : LeafEq kd x y r) (hok : (∃ k, D = .int k ∧ kd = 0) ∨ (D = .bool ∧ kd = 1) ∨ (D = .string ∧ kd = 2)) (d : Nat) :
   (Op.equalIn (d + 1) t x y).run P w = .ok r w := by
 rcases hok with ⟨k, rfl, rfl⟩ | ⟨rfl, rfl⟩ | ⟨rfl, rfl⟩ <;> rcases h with ⟨h0, k', a, b, rfl, rfl, rfl⟩ | ⟨h0, a, b, rfl, rfl, rfl⟩ | ⟨h0, a, b, rfl, rfl, rfl⟩ <;> first | omega | skip
 · rw [run_equalIn_int w d t k' k a b hu]; rfl
 · exact run_equalIn_bool w d t a b hu
 · rw [run_equalIn_string w d t a b hu, beq_toListBytes]
theorem run_part {w : World} {t : Nat} {D : TypeDesc} (hu : P.underlying t = some D) {j : TypeInfo} (hj : P.info? t = some j) (xs ys zs : List Value) (hy : ys.length = j.size) (h1 : aggD D = false → j.size = 1) :
  ∃ x, (part t (xs ++ ys ++ zs).toArray xs.length).run P w = .ok x w ∧ Shp P t x ys := by
 have hagg : (isAgg t).run P w = .ok (aggD D) w := by
  unfold isAgg
  rw [Sem.run_bind, run_underlying hu w]
  cases D <;> simp [aggD]
 cases ha : aggD D with
 | true =>
  rw [ha] at hagg
  refine ⟨.agg ys.toArray, ?_, D, hu, by rw [ha]; rfl⟩
  simp only [part, Sem.run_bind, hagg, Result.andThen_ok, if_true]
  simp [sizeOf, typeInfo, hj, ← hy]
 | false =>
  rw [ha] at hagg
  have hl := h1 ha
  rw [hl] at hy
  obtain ⟨y, rfl⟩ : ∃ y, ys = [y] := by
   cases ys with
   | nil => simp at hy
   | cons y l => cases l with | nil => exact ⟨y, rfl⟩ | cons _ _ => simp at hy
  refine ⟨y, ?_, D, hu, by rw [ha]; rfl⟩
  simp only [part, Sem.run_bind, hagg, Result.andThen_ok, Bool.false_eq_true, if_false]
  simp
/-- what is known of a type that can be compared -/
def EqAt' (P : Program) (d t : Nat) (ks : List Nat) : Prop :=
 (∃ D j, P.underlying t = some D ∧ P.info? t = some j ∧ j.size = ks.length ∧ (aggD D = false → j.size = 1)) ∧
 ∀ (k : Nat) (w : World) (x y : Value) (xs ys : List Value) (r : Bool), xs.length = ks.length → ys.length = ks.length → Shp P t x xs → Shp P t y ys → LEq ks xs ys r → (Op.equalIn (d + k) t x y).run P w = .ok r w
theorem run_fields {d : Nat} (IH : ∀ t ks, eqT Θ d t = some ks → EqAt' P d t ks) : ∀ (fs : List Field) (o : Nat) (ks : List Nat), eqFs (eqT Θ d) fs o = some ks → (∀ f ∈ fs, f.name ≠ "_") →
  ∀ (k : Nat) (w : World) (us vs xs ys : List Value) (r : Bool), us.length = o → vs.length = o → xs.length = ks.length → ys.length = ks.length → LEq ks xs ys r → (Op.eqFields (d + k) (us ++ xs).toArray (vs ++ ys).toArray fs).run P w = .ok r w
 | [], o, ks, h, _, k, w, us, vs, xs, ys, r, _, _, hx, hy, he => by
  cases h
  have hx0 : xs = [] := List.eq_nil_of_length_eq_zero hx
  have hy0 : ys = [] := List.eq_nil_of_length_eq_zero hy
  subst hx0; subst hy0
  have he : r = true := he
  subst he
  rfl
 | f :: fs, o, ks, h, hn, k, w, us, vs, xs, ys, r, hu, hv, hx, hy, he => by
  unfold eqFs at h
  cases hb : Nat.beq f.offset o with
  | false => rw [hb] at h; cases h
  | true =>
   rw [hb] at h
   have ho : f.offset = o := Nat.eq_of_beq_eq_true hb
   obtain ⟨kf, h1, h2⟩ := Option.bind_eq_some_iff.1 (show ((eqT Θ d f.type).bind fun k => (eqFs (eqT Θ d) fs (Nat.add o k.length)).map (k ++ ·)) = some ks from h)
   obtain ⟨kt, h3, rfl⟩ := Option.map_eq_some_iff.1 h2
   obtain ⟨⟨D, j, hD, hj, hjs, hja⟩, hrun⟩ := IH f.type kf h1
   rw [List.length_append] at hx hy
   obtain ⟨x1, x2, rfl, hx1, hx2⟩ : ∃ x1 x2, xs = x1 ++ x2 ∧ x1.length = kf.length ∧ x2.length = kt.length := ⟨xs.take kf.length, xs.drop kf.length, by simp, by rw [List.length_take]; omega, by rw [List.length_drop]; omega⟩
   obtain ⟨y1, y2, rfl, hy1, hy2⟩ : ∃ x1 x2, ys = x1 ++ x2 ∧ x1.length = kf.length ∧ x2.length = kt.length := ⟨ys.take kf.length, ys.drop kf.length, by simp, by rw [List.length_take]; omega, by rw [List.length_drop]; omega⟩
   obtain ⟨a, ha, sa⟩ := run_part (w := w) hD hj us x1 x2 (by omega) hja
   obtain ⟨b, hb', sb⟩ := run_part (w := w) hD hj vs y1 y2 (by omega) hja
   rw [hu, List.append_assoc] at ha
   rw [hv, List.append_assoc] at hb'
   have hname := hn f (by simp)
   rcases LEq.split hx1 hy1 he with ⟨h4, rfl⟩ | ⟨h4, h5⟩
   · have h6 := hrun k w a b x1 y1 false hx1 hy1 sa sb h4
     simp [Op.eqFields, hname, ho, ha, hb', h6]
   · have h6 := hrun k w a b x1 y1 true hx1 hy1 sa sb h4
     have h7 := run_fields IH fs (o + kf.length) kt h3 (fun g hg => hn g (by simp [hg])) k w (us ++ x1) (vs ++ y1) x2 y2 r (by simp [hu, hx1]) (by simp [hv, hy1]) hx2 hy2 h5
     rw [List.append_assoc, List.append_assoc] at h7
     simp [Op.eqFields, hname, ho, ha, hb', h6]
     simpa using h7
include hΘ
theorem run_eq : ∀ (d t : Nat) (ks : List Nat), eqT Θ d t = some ks → EqAt' P d t ks
 | 0, _, _, h => by cases h
 | d + 1, t, ks, h => by
  obtain ⟨i, hi, h2⟩ := Option.bind_eq_some_iff.1 (show ((tyOf Θ t).bind fun i => match i.D with
   | .int _ => some [0]
   | .bool => some [1]
   | .string => some [2]
   | .struct fs => (eqFs (eqT Θ d) fs.toList 0).bind fun ks => bif and i.e (Nat.beq ks.length i.z.length) then some ks else none
   | _ => none) = some ks from h)
  obtain ⟨hu, zv, ⟨j, hj1, hj2, hj3, hj4⟩, hz, hza, hzo, he⟩ := tyOf_ok hΘ hi
  have hlen : aggD i.D = false → i.z.length = 1 := fun ha => by
   have h1 := (hz (fun _ => 0) (fun _ => none)).len
   rw [cells_one (hzo ha)] at h1
   simpa using h1.symm
  have leaf : ∀ kd, ks = [kd] → aggD i.D = false → (∃ k, i.D = .int k ∧ kd = 0) ∨ (i.D = .bool ∧ kd = 1) ∨ (i.D = .string ∧ kd = 2) → EqAt' P (d + 1) t ks := by
   intro kd hk ha hok
   subst hk
   refine ⟨⟨i.D, j, hu, hj1, by rw [hj3, hlen ha]; rfl, fun _ => by rw [hj3, hlen ha]⟩, fun k w x y xs ys r _ _ ⟨D, hD, sx⟩ ⟨D', hD', sy⟩ hq => ?_⟩
   rw [hu] at hD hD'
   cases hD; cases hD'
   rw [ha] at sx sy
   have sx : xs = [x] := sx
   have sy : ys = [y] := sy
   subst sx; subst sy
   rw [show d + 1 + k = (d + k) + 1 by omega]
   refine leaf_run hu ?_ hok (d + k)
   rcases hq with ⟨h1, rfl⟩ | ⟨h1, h2⟩
   · exact h1
   · have h2 : r = true := h2
     rw [h2]; exact h1
  cases hD : i.D with
  | int k => rw [hD] at h2; cases h2; exact leaf 0 rfl (by rw [hD]; rfl) (.inl ⟨k, hD, rfl⟩)
  | bool => rw [hD] at h2; cases h2; exact leaf 1 rfl (by rw [hD]; rfl) (.inr (.inl ⟨hD, rfl⟩))
  | string => rw [hD] at h2; cases h2; exact leaf 2 rfl (by rw [hD]; rfl) (.inr (.inr ⟨hD, rfl⟩))
  | struct fs =>
   rw [hD] at h2
   obtain ⟨ks', h3, h4⟩ := Option.bind_eq_some_iff.1 (show ((eqFs (eqT Θ d) fs.toList 0).bind fun ks => bif and i.e (Nat.beq ks.length i.z.length) then some ks else none) = some ks from h2)
   cases hb : and i.e (Nat.beq ks'.length i.z.length) with
   | false => rw [hb] at h4; cases h4
   | true =>
     rw [hb] at h4
     cases h4
     obtain ⟨hb1, hb2⟩ := and_t hb
     have hb2 := Nat.eq_of_beq_eq_true hb2
     obtain ⟨e1, e2, e3⟩ := he hb1
     have e3 := e3 fs hD
     have hnames : ∀ f ∈ fs.toList, f.name ≠ "_" := by
      intro f hf
      have := Array.all_eq_true_iff_forall_mem.1 e3 f (by simpa using hf)
      simpa using this
     rw [hD] at hu
     refine ⟨⟨_, j, hu, hj1, by rw [hj3, hb2], fun h => by cases h⟩, fun k w x y xs ys r hx hy ⟨D, hD1, sx⟩ ⟨D', hD2, sy⟩ hq => ?_⟩
     rw [hu] at hD1 hD2
     cases hD1; cases hD2
     have sx : x = .agg xs.toArray := sx
     have sy : y = .agg ys.toArray := sy
     subst sx; subst sy
     have hf : P.fieldsOf t = fs := by simp [Program.fieldsOf, hu]
     rw [show d + 1 + k = (d + k) + 1 by omega, run_equalIn_struct w (d + k) t _ _ (by rw [hf]; exact hu) e1, hf]
     have := run_fields (P := P) (Θ := Θ) (d := d) (fun t ks h => run_eq d t ks h) fs.toList 0 ks h3 hnames k w [] [] xs ys r rfl rfl hx hy hq
     simpa using this
  | _ => rw [hD] at h2; cases h2
end
end
end Go.Ev
