/- IrChecks: E2. -/
import Derived.Test.YtbpccmnalhdpmaaJ15
set_option linter.unusedVariables false
namespace Go.Ev
open Go.RowKit Go.Fw
noncomputable section
/-! paths -/
def Pp.toNat : Pp → Nat
 | .h => 0
 | .l p => 2 * p.toNat + 1
 | .r p => 2 * p.toNat + 2
theorem ppInj : ∀ {p q : Pp}, p.toNat = q.toNat → p = q
 | .h, .h, _ => rfl
 | .h, .l _, e => by simp [Pp.toNat] at e
 | .h, .r _, e => by simp [Pp.toNat] at e
 | .l _, .h, e => by simp [Pp.toNat] at e
 | .l p, .l q, e => by simp only [Pp.toNat] at e; rw [ppInj (p := p) (q := q) (by omega)]
 | .l p, .r q, e => by simp only [Pp.toNat] at e; omega
 | .r _, .h, e => by simp [Pp.toNat] at e
 | .r p, .l q, e => by simp only [Pp.toNat] at e; omega
 | .r p, .r q, e => by simp only [Pp.toNat] at e; rw [ppInj (p := p) (q := q) (by omega)]
instance : DecidableEq Pp := fun p q => if h : p.toNat = q.toNat then .isTrue (ppInj h) else .isFalse fun e => h (by rw [e])
def Pp.succ : Pp → Pp
 | .h => .l .h
 | .l p => .r p
 | .r p => .l p.succ
theorem Pp.toNat_succ : ∀ p : Pp, p.succ.toNat = p.toNat + 1
 | .h => rfl
 | .l _ => rfl
 | .r p => by simp only [Pp.succ, Pp.toNat, Pp.toNat_succ p]; omega
theorem Pp.succK_eq : ∀ (p : Pp) (k : Pp → R), p.succK k = k p.succ
 | .h, _ => rfl
 | .l _, _ => rfl
 | .r p, k => Pp.succK_eq p (fun q => k (.l q))
theorem toPK_some : ∀ (n o : Nat) (k : Pp → R) (out : Out), toPK n o k = some out → ∃ p : Pp, p.toNat = o ∧ k p = some out
 | 0, _, _, _, h => by cases h
 | n + 1, o, k, out, h => by
  have h' : (Bool.rec (motive := fun _ => R) (Bool.rec (motive := fun _ => R) (toPK n (Nat.sub (Nat.div o 2) 1) (fun p => k (.r p))) (toPK n (Nat.div o 2) (fun p => k (.l p))) (Nat.beq (Nat.mod o 2) 1)) (k .h) (Nat.beq o 0)) = some out := h
  cases h0 : Nat.beq o 0 with
  | true => rw [h0] at h'; exact ⟨.h, (Nat.eq_of_beq_eq_true h0).symm, h'⟩
  | false =>
   rw [h0] at h'
   have hne : o ≠ 0 := fun e => by rw [e] at h0; cases h0
   cases h1 : Nat.beq (Nat.mod o 2) 1 with
   | true =>
    have e1 : o % 2 = 1 := Nat.eq_of_beq_eq_true h1
    rw [h1] at h'
    obtain ⟨p, hp, hk⟩ := toPK_some n _ _ out h'
    have hp' : p.toNat = o / 2 := hp
    exact ⟨.l p, by simp only [Pp.toNat]; omega, hk⟩
   | false =>
    have e1 : o % 2 ≠ 1 := fun e => by rw [show Nat.mod o 2 = 1 from e] at h1; cases h1
    rw [h1] at h'
    obtain ⟨p, hp, hk⟩ := toPK_some n _ _ out h'
    have hp' : p.toNat = o / 2 - 1 := hp
    exact ⟨.r p, by simp only [Pp.toNat]; omega, hk⟩
/-! tries -/
def T.set {α : Type} (d v : α) : Pp → T α → T α
 | .h, .e => .n .e v .e
 | .h, .n l _ r => .n l v r
 | .l p, .e => .n (T.set d v p .e) d .e
 | .l p, .n l x r => .n (T.set d v p l) x r
 | .r p, .e => .n .e d (T.set d v p .e)
 | .r p, .n l x r => .n l x (T.set d v p r)
theorem T.setK_eq {α : Type} (d v : α) : ∀ (p : Pp) (t : T α) (k : T α → R), t.setK d v p k = k (T.set d v p t)
 | .h, .e, _ => rfl
 | .h, .n _ _ _, _ => rfl
 | .l p, .e, k => T.setK_eq d v p .e (fun s => k (.n s d .e))
 | .l p, .n l x r, k => T.setK_eq d v p l (fun s => k (.n s x r))
 | .r p, .e, k => T.setK_eq d v p .e (fun s => k (.n .e d s))
 | .r p, .n l x r, k => T.setK_eq d v p r (fun s => k (.n l x s))
theorem T.get_e {α : Type} (d : α) : ∀ p : Pp, (T.e : T α).get d p = d
 | .h => rfl
 | .l _ => rfl
 | .r _ => rfl
theorem T.get_set {α : Type} (d v : α) : ∀ (p q : Pp) (t : T α), (T.set d v p t).get d q = if q = p then v else t.get d q
 | .h, .h, .e => rfl
 | .h, .h, .n _ _ _ => rfl
 | .h, .l q, .e => by rw [if_neg (by simp)]; exact T.get_e d q
 | .h, .l q, .n _ _ _ => by rw [if_neg (by simp)]; rfl
 | .h, .r q, .e => by rw [if_neg (by simp)]; exact T.get_e d q
 | .h, .r q, .n _ _ _ => by rw [if_neg (by simp)]; rfl
 | .l p, .h, .e => by rw [if_neg (by simp)]; rfl
 | .l p, .h, .n _ _ _ => by rw [if_neg (by simp)]; rfl
 | .l p, .l q, .e => by
  have h := T.get_set d v p q .e
  show (T.set d v p .e).get d q = _
  rw [h, T.get_e]; simp only [Pp.l.injEq]; rfl
 | .l p, .l q, .n l x r => by
  have h := T.get_set d v p q l
  show (T.set d v p l).get d q = _
  rw [h]; simp only [Pp.l.injEq]; rfl
 | .l p, .r q, .e => by rw [if_neg (by simp)]; exact T.get_e d q
 | .l p, .r q, .n _ _ _ => by rw [if_neg (by simp)]; rfl
 | .r p, .h, .e => by rw [if_neg (by simp)]; rfl
 | .r p, .h, .n _ _ _ => by rw [if_neg (by simp)]; rfl
 | .r p, .l q, .e => by rw [if_neg (by simp)]; exact T.get_e d q
 | .r p, .l q, .n _ _ _ => by rw [if_neg (by simp)]; rfl
 | .r p, .r q, .e => by
  have h := T.get_set d v p q .e
  show (T.set d v p .e).get d q = _
  rw [h, T.get_e]; simp only [Pp.r.injEq]; rfl
 | .r p, .r q, .n l x r => by
  have h := T.get_set d v p q r
  show (T.set d v p r).get d q = _
  rw [h]; simp only [Pp.r.injEq]; rfl
theorem frc_eq (n : Nat) (k : Nat → R) : frc n k = k n := by cases n <;> rfl
/-! numbers -/
def bin (o : BinOp) (k : IntKind) (a b : Int) : Int := (binI o k a b).getD 0
def SE.den (σ : Nat → Int) : SE → Int
 | .n x => Int.ofNat x
 | .g x => Int.negSucc x
 | .v i => σ i
 | .b o k x y => bin o k (x.den σ) (y.den σ)
/-- what is assumed is true -/
structure Env.Ok (σ : Nat → Int) (Γ : Env) : Prop where
 vals : ∀ p ∈ Γ.vals, p.1.den σ = p.2.den σ
 conds : ∀ p ∈ Γ.conds, cmpI p.1 (p.2.1.den σ) (p.2.2.1.den σ) = some p.2.2.2
/-! values -/
abbrev Eta := Pp → Option (Nat × Nat)
def Eta.le (η η' : Eta) : Prop := ∀ r p, η r = some p → η' r = some p
theorem Eta.le.refl (η : Eta) : η.le η := fun _ _ h => h
theorem Eta.le.trans {a b c : Eta} (h : a.le b) (k : b.le c) : a.le c := fun r p hp => k r p (h r p hp)
def Dcaps (η : Eta) : List (Pp × Nat) → List Value → Prop
 | [], vs => vs = []
 | (r, o) :: l, vs => ∃ b c vs', η r = some (b, c) ∧ vs = .pointer (some ⟨b, o, none⟩) :: vs' ∧ Dcaps η l vs'
section
variable (σ : Nat → Int) (η : Eta)
def Da : A → Value → Prop
 | .i k e, v => v = .int k (e.den σ)
 | .b x, v => v = .bool x
 | .s0, v => v = .slice none 0 0
 | .s r o n, v => ∃ b c c', η r = some (b, c) ∧ v = .slice (some ⟨b, o, none⟩) n c' ∧ n ≤ c' ∧ (o = 0 → c' = c)
 | .p0, v => v = .pointer none
 | .p r o, v => ∃ b c, η r = some (b, c) ∧ v = .pointer (some ⟨b, o, none⟩)
 | .m0, v => v = .map none
 | .m r, v => ∃ b c, η r = some (b, c) ∧ v = .map (some b)
 | .f0, v => v = .nilFunc
 | .f k cs, v => ∃ vs, Dcaps η cs vs ∧ v = .func (.func k) #[] vs.toArray
 | .y r, v => ∃ b c, η r = some (b, c) ∧ v = .func (.yield b) #[] #[]
 | .t l, v => ∃ s : ByteArray, s.data.toList.map (·.toNat) = l ∧ v = .string s
 | .q0, v => v = .nilIface
 | .q t k e, v => v = .iface t (.int k (e.den σ))
 | .u, _ => False
def DL : List A → List Value → Prop
 | [], vs => vs = []
 | a :: l, vs => ∃ v vs', vs = v :: vs' ∧ Da σ η a v ∧ DL l vs'
def Du : U → Value → Prop
 | .a x, v => Da σ η x v
 | .g l, v => ∃ vs, DL σ η l vs ∧ v = .agg vs.toArray
def DUL : List U → List Value → Prop
 | [], vs => vs = []
 | x :: l, vs => ∃ v vs', vs = v :: vs' ∧ Du σ η x v ∧ DUL l vs'
def Dv : V → Value → Prop
 | .a x, v => Da σ η x v
 | .g l, v => ∃ vs, DL σ η l vs ∧ v = .agg vs.toArray
 | .t l, v => ∃ vs, DUL σ η l vs ∧ v = .tuple vs.toArray
 | .x, v => v = undef
def DVL : List V → List Value → Prop
 | [], vs => vs = []
 | a :: l, vs => ∃ v vs', vs = v :: vs' ∧ Dv σ η a v ∧ DVL l vs'
end
section
variable {σ : Nat → Int} {η η' : Eta}
theorem Dcaps.mono (h : η.le η') : ∀ {l : List (Pp × Nat)} {vs : List Value}, Dcaps η l vs → Dcaps η' l vs
 | [], _, hd => hd
 | (_, _) :: _, _, ⟨b, c, vs', h1, h2, h3⟩ => ⟨b, c, vs', h _ _ h1, h2, Dcaps.mono h h3⟩
theorem Da.mono (h : η.le η') : ∀ {a : A} {v : Value}, Da σ η a v → Da σ η' a v
 | .i .., _, hd => hd
 | .b _, _, hd => hd
 | .s0, _, hd => hd
 | .s .., _, ⟨b, c, c', h1, h2⟩ => ⟨b, c, c', h _ _ h1, h2⟩
 | .p0, _, hd => hd
 | .p .., _, ⟨b, c, h1, h2⟩ => ⟨b, c, h _ _ h1, h2⟩
 | .m0, _, hd => hd
 | .m _, _, ⟨b, c, h1, h2⟩ => ⟨b, c, h _ _ h1, h2⟩
 | .f0, _, hd => hd
 | .f .., _, ⟨vs, h1, h2⟩ => ⟨vs, Dcaps.mono h h1, h2⟩
 | .y _, _, ⟨b, c, h1, h2⟩ => ⟨b, c, h _ _ h1, h2⟩
 | .t _, _, hd => hd
 | .q0, _, hd => hd
 | .q .., _, hd => hd
 | .u, _, hd => hd
theorem DL.mono (h : η.le η') : ∀ {l : List A} {vs : List Value}, DL σ η l vs → DL σ η' l vs
 | [], _, hd => hd
 | _ :: _, _, ⟨v, vs', h1, h2, h3⟩ => ⟨v, vs', h1, h2.mono h, DL.mono h h3⟩
theorem Du.mono (h : η.le η') : ∀ {x : U} {v : Value}, Du σ η x v → Du σ η' x v
 | .a _, _, hd => Da.mono h hd
 | .g _, _, ⟨vs, h1, h2⟩ => ⟨vs, h1.mono h, h2⟩
theorem DUL.mono (h : η.le η') : ∀ {l : List U} {vs : List Value}, DUL σ η l vs → DUL σ η' l vs
 | [], _, hd => hd
 | _ :: _, _, ⟨v, vs', h1, h2, h3⟩ => ⟨v, vs', h1, h2.mono h, DUL.mono h h3⟩
theorem Dv.mono (h : η.le η') : ∀ {a : V} {v : Value}, Dv σ η a v → Dv σ η' a v
 | .a _, _, hd => Da.mono h hd
 | .g _, _, ⟨vs, h1, h2⟩ => ⟨vs, h1.mono h, h2⟩
 | .t _, _, ⟨vs, h1, h2⟩ => ⟨vs, h1.mono h, h2⟩
 | .x, _, hd => hd
theorem DVL.mono (h : η.le η') : ∀ {l : List V} {vs : List Value}, DVL σ η l vs → DVL σ η' l vs
 | [], _, hd => hd
 | _ :: _, _, ⟨v, vs', h1, h2, h3⟩ => ⟨v, vs', h1, h2.mono h, DVL.mono h h3⟩
theorem DL.len : ∀ {l : List A} {vs : List Value}, DL σ η l vs → vs.length = l.length
 | [], _, hd => by rw [show _ = _ from hd]; rfl
 | _ :: _, _, ⟨v, vs', h1, h2, h3⟩ => by rw [h1]; simp [DL.len h3]
theorem DL.append : ∀ {l r : List A} {vs us : List Value}, DL σ η l vs → DL σ η r us → DL σ η (l ++ r) (vs ++ us)
 | [], _, _, _, hd, h => by rw [show _ = _ from hd]; exact h
 | _ :: _, _, _, _, ⟨v, vs', h1, h2, h3⟩, h => by rw [h1]; exact ⟨v, _, rfl, h2, DL.append h3 h⟩
theorem Da.one : ∀ {a : A} {v : Value}, Da σ η a v → v.oneCell' = true
 | .i .., _, hd => by rw [show _ = _ from hd]; rfl
 | .b _, _, hd => by rw [show _ = _ from hd]; rfl
 | .s0, _, hd => by rw [show _ = _ from hd]; rfl
 | .s .., _, ⟨b, c, c', h1, h2, h3⟩ => by rw [h2]; rfl
 | .p0, _, hd => by rw [show _ = _ from hd]; rfl
 | .p .., _, ⟨b, c, h1, h2⟩ => by rw [h2]; rfl
 | .m0, _, hd => by rw [show _ = _ from hd]; rfl
 | .m _, _, ⟨b, c, h1, h2⟩ => by rw [h2]; rfl
 | .f0, _, hd => by rw [show _ = _ from hd]; rfl
 | .f .., _, ⟨vs, h1, h2⟩ => by rw [h2]; rfl
 | .y _, _, ⟨b, c, h1, h2⟩ => by rw [h2]; rfl
 | .t _, _, ⟨s, h1, h2⟩ => by rw [h2]; rfl
 | .q0, _, hd => by rw [show _ = _ from hd]; rfl
 | .q .., _, hd => by rw [show _ = _ from hd]; rfl
 | .u, _, hd => hd.elim
theorem cells_one {v : Value} (h : v.oneCell' = true) : v.cells = #[v] := by cases v <;> first | rfl | simp [Value.oneCell'] at h
theorem DL.one : ∀ {l : List A} {vs : List Value}, DL σ η l vs → ∀ u ∈ vs, u.oneCell' = true
 | [], _, hd, u, hu => by rw [show _ = _ from hd] at hu; cases hu
 | _ :: _, _, ⟨v, vs', h1, h2, h3⟩, u, hu => by
  rw [h1] at hu
  rcases List.mem_cons.1 hu with rfl | hu
  · exact h2.one
  · exact DL.one h3 u hu
theorem DL.get : ∀ {l : List A} {vs : List Value}, DL σ η l vs → ∀ {i : Nat} {a : A}, l[i]? = some a → ∃ v, vs[i]? = some v ∧ Da σ η a v
 | [], _, _, _, _, h => by simp at h
 | x :: l, _, ⟨v, vs', h1, h2, h3⟩, i, a, h => by
  subst h1
  cases i with
  | zero => simp at h; subst h; exact ⟨v, rfl, h2⟩
  | succ i => simp at h; obtain ⟨u, hu, hd⟩ := DL.get h3 h; exact ⟨u, by simpa using hu, hd⟩
theorem DL.take : ∀ {l : List A} {vs : List Value} (n : Nat), DL σ η l vs → DL σ η (l.take n) (vs.take n)
 | [], _, n, hd => by rw [show _ = _ from hd]; cases n <;> rfl
 | _ :: _, _, 0, _ => rfl
 | _ :: _, _, n + 1, ⟨v, vs', h1, h2, h3⟩ => by rw [h1]; exact ⟨v, _, rfl, h2, DL.take n h3⟩
theorem DL.drop : ∀ {l : List A} {vs : List Value} (n : Nat), DL σ η l vs → DL σ η (l.drop n) (vs.drop n)
 | [], _, n, hd => by rw [show _ = _ from hd]; cases n <;> rfl
 | _ :: _, _, 0, hd => hd
 | _ :: _, _, n + 1, ⟨v, vs', h1, h2, h3⟩ => by rw [h1]; exact DL.drop n h3
/-! taking values apart -/
theorem aK_some {v : V} {k : A → R} {out : Out} (h : v.aK k = some out) : ∃ a, v = .a a ∧ k a = some out := by
 cases v with
 | a a => exact ⟨a, rfl, h⟩
 | _ => cases h
theorem gK_some {v : V} {k : List A → R} {out : Out} (h : v.gK k = some out) : ∃ l, v = .g l ∧ k l = some out := by
 cases v with
 | g l => exact ⟨l, rfl, h⟩
 | _ => cases h
theorem tK_some {v : V} {k : List U → R} {out : Out} (h : v.tK k = some out) : ∃ l, v = .t l ∧ k l = some out := by
 cases v with
 | t l => exact ⟨l, rfl, h⟩
 | _ => cases h
theorem uK_some {v : V} {k : U → R} {out : Out} (h : v.uK k = some out) : ∃ u : U, v = u.v ∧ k u = some out := by
 cases v with
 | a a => exact ⟨.a a, rfl, h⟩
 | g l => exact ⟨.g l, rfl, h⟩
 | _ => cases h
theorem frc_V {v : V} {k : V → R} : v.frc k = k v := by cases v <;> rfl
/-- the cells of a value -/
theorem cK_some {v : V} {k : List A → R} {out : Out} (h : v.cK k = some out) : ∃ l, k l = some out ∧ ∀ σ η v', Dv σ η v v' → ∃ vs, DL σ η l vs ∧ v'.cells = vs.toArray := by
 cases v with
 | a a => exact ⟨[a], h, fun σ η v' hd => ⟨[v'], ⟨v', [], rfl, hd, rfl⟩, cells_one (Da.one hd)⟩⟩
 | g l => exact ⟨l, h, fun σ η v' ⟨vs, h1, h2⟩ => ⟨vs, h1, by rw [h2]; rfl⟩⟩
 | _ => cases h
theorem iK_some {a : A} {k : IntKind → SE → R} {out : Out} (h : a.iK k = some out) : ∃ i e, a = .i i e ∧ k i e = some out := by
 cases a with
 | i i e => exact ⟨i, e, rfl, h⟩
 | _ => cases h
theorem bK_some {a : A} {k : Bool → R} {out : Out} (h : a.bK k = some out) : ∃ t, a = .b t ∧ k t = some out := by
 cases a with
 | b t => exact ⟨t, rfl, h⟩
 | _ => cases h
theorem pK_some {a : A} {k : Pp → Nat → R} {out : Out} (h : a.pK k = some out) : ∃ r o, a = .p r o ∧ k r o = some out := by
 cases a with
 | p r o => exact ⟨r, o, rfl, h⟩
 | _ => cases h
theorem sK_some {a : A} {k0 : R} {k : Pp → Nat → Nat → R} {out : Out} (h : a.sK k0 k = some out) : (a = .s0 ∧ k0 = some out) ∨ ∃ r o n, a = .s r o n ∧ k r o n = some out := by
 cases a with
 | s0 => exact .inl ⟨rfl, h⟩
 | s r o n => exact .inr ⟨r, o, n, rfl, h⟩
 | _ => cases h
theorem mK_some {a : A} {k0 : R} {k : Pp → R} {out : Out} (h : a.mK k0 k = some out) : (a = .m0 ∧ k0 = some out) ∨ ∃ r, a = .m r ∧ k r = some out := by
 cases a with
 | m0 => exact .inl ⟨rfl, h⟩
 | m r => exact .inr ⟨r, rfl, h⟩
 | _ => cases h
theorem fK_some {a : A} {k : Nat → List (Pp × Nat) → R} {ky : Pp → R} {out : Out} (h : a.fK k ky = some out) : (∃ f c, a = .f f c ∧ k f c = some out) ∨ ∃ r, a = .y r ∧ ky r = some out := by
 cases a with
 | f f c => exact .inl ⟨f, c, rfl, h⟩
 | y r => exact .inr ⟨r, rfl, h⟩
 | _ => cases h
theorem tKA_some {a : A} {k : List Nat → R} {out : Out} (h : a.tK k = some out) : ∃ l, a = .t l ∧ k l = some out := by
 cases a with
 | t l => exact ⟨l, rfl, h⟩
 | _ => cases h
theorem knK_some {a : A} {k : A → R} {out : Out} (h : a.knK k = some out) : a ≠ .u ∧ k a = some out := by
 cases a with
 | u => cases h
 | _ => exact ⟨fun e => A.noConfusion e, h⟩
theorem nK_some {e : SE} {k : Nat → R} {f : R} {out : Out} (h : e.nK k f = some out) : (∃ n, e = .n n ∧ k n = some out) ∨ f = some out := by
 cases e with
 | n x => exact .inl ⟨x, rfl, h⟩
 | _ => exact .inr h
theorem natK_some {v : V} {k : Nat → R} {out : Out} (h : natK v k = some out) : ∃ i n, v = .a (.i i (.n n)) ∧ k n = some out := by
 obtain ⟨a, rfl, h⟩ := aK_some h
 obtain ⟨i, e, rfl, h⟩ := iK_some h
 rcases nK_some h with ⟨n, rfl, h⟩ | h
 · exact ⟨i, n, rfl, h⟩
 · cases h
theorem bif_some {t : Bool} {c : R} {out : Out} (h : (Bool.rec (motive := fun _ => R) none c t) = some out) : t = true ∧ c = some out := by
 cases t with
 | true => exact ⟨rfl, h⟩
 | false => cases h
theorem bol_eq (t : Bool) (k : V → R) : bol t k = k (.a (.b t)) := by cases t <;> rfl
theorem Du.v {u : U} {v : Value} : Dv σ η u.v v ↔ Du σ η u v := by cases u <;> exact Iff.rfl
end
end
end Go.Ev
