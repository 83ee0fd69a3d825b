/- IrChecks: E3. -/
import Derived.Test.YtbpccmnalhdpmaaJ16
set_option linter.unusedVariables false
namespace Go.Ev
open Go.RowKit Go.Fw
noncomputable section
/-! what the program's table says -/
structure TyI where
 D : TypeDesc
 z : List A
 b : Nat
 e : Bool
def TyI.Ok (P : Program) (t : Nat) (i : TyI) : Prop :=
 P.underlying t = some i.D ∧ ∃ zv, TI P t zv i.z.length i.b ∧ (∀ σ η, DL σ η i.z zv.cells.toList) ∧ (aggD i.D = true → ∃ cs, zv = .agg cs) ∧ (aggD i.D = false → zv.oneCell' = true) ∧ (i.e = true → P.stoodInHeld t = false ∧ P.eqGuardType P.depth t = false ∧ ∀ fs, i.D = .struct fs → (fs.all fun f => f.name != "_") = true)
/-- something holds of every entry -/
def T.All {α : Type} (Q : Nat → α → Prop) : T α → Prop
 | .e => True
 | .n l v r => Q 0 v ∧ T.All (fun k => Q (2 * k + 1)) l ∧ T.All (fun k => Q (2 * k + 2)) r
theorem T.All.get {α : Type} (d : α) : ∀ {Q : Nat → α → Prop} {t : T α} (h : t.All Q) (p : Pp), t.get d p = d ∨ Q p.toNat (t.get d p)
 | Q, .e, _, p => .inl (T.get_e d p)
 | Q, .n l v r, h, .h => .inr h.1
 | Q, .n l v r, h, .l p => T.All.get (Q := fun k => Q (2 * k + 1)) d (t := l) h.2.1 p
 | Q, .n l v r, h, .r p => T.All.get (Q := fun k => Q (2 * k + 2)) d (t := r) h.2.2 p
def TyQ (P : Program) (t : Nat) (o : Option TyI) : Prop := match o with | some i => i.Ok P t | none => True
def toPo (n : Nat) : Nat → Option Pp :=
 Nat.rec (motive := fun _ => Nat → Option Pp) (fun _ => none)
  (fun _ ih o => Bool.rec (motive := fun _ => Option Pp) (Bool.rec (motive := fun _ => Option Pp) ((ih (Nat.sub (Nat.div o 2) 1)).map .r) ((ih (Nat.div o 2)).map .l) (Nat.beq (Nat.mod o 2) 1)) (some .h) (Nat.beq o 0)) n
theorem toPo_some : ∀ {n o : Nat} {p : Pp}, toPo n o = some p → p.toNat = o
 | 0, _, _, h => by cases h
 | n + 1, o, p, h => by
  have h' : (Bool.rec (motive := fun _ => Option Pp) (Bool.rec (motive := fun _ => Option Pp) ((toPo n (Nat.sub (Nat.div o 2) 1)).map .r) ((toPo n (Nat.div o 2)).map .l) (Nat.beq (Nat.mod o 2) 1)) (some .h) (Nat.beq o 0)) = some p := h
  cases h0 : Nat.beq o 0 with
  | true => rw [h0] at h'; cases h'; exact (Nat.eq_of_beq_eq_true h0).symm
  | false =>
   rw [h0] at h'
   have hne : o ≠ 0 := fun e => by rw [e] at h0; cases h0
   cases h1 : Nat.beq (Nat.mod o 2) 1 with
   | true =>
    have e1 : o % 2 = 1 := Nat.eq_of_beq_eq_true h1
    rw [h1] at h'
    obtain ⟨q, hq, rfl⟩ := Option.map_eq_some_iff.1 h'
    have hp' : q.toNat = o / 2 := toPo_some hq
    simp only [Pp.toNat]; omega
   | false =>
    have e1 : o % 2 ≠ 1 := fun e => by rw [show Nat.mod o 2 = 1 from e] at h1; cases h1
    rw [h1] at h'
    obtain ⟨q, hq, rfl⟩ := Option.map_eq_some_iff.1 h'
    have hp' : q.toNat = o / 2 - 1 := toPo_some hq
    simp only [Pp.toNat]; omega
def tyOf (Θ : T (Option TyI)) (t : Nat) : Option TyI := (toPo 20 t).bind fun p => Θ.get none p
theorem tyOf_ok {P : Program} {Θ : T (Option TyI)} (h : Θ.All (TyQ P)) {t : Nat} {i : TyI} (ht : tyOf Θ t = some i) : i.Ok P t := by
 obtain ⟨p, h1, h2⟩ := Option.bind_eq_some_iff.1 ht
 rcases h.get none p with h3 | h3
 · rw [h3] at h2; cases h2
 · rw [h2, toPo_some h1] at h3; exact h3
/-! constants and operands -/
def cvI : Int → SE
 | .ofNat n => .n n
 | .negSucc n => .g n
def cvA : Value → Option A
 | .bool b => some (.b b)
 | .int k n => some (.i k (cvI n))
 | .slice none 0 0 => some .s0
 | .pointer none => some .p0
 | .map none => some .m0
 | .nilFunc => some .f0
 | .nilIface => some .q0
 | .string s => some (.t (s.data.toList.map (·.toNat)))
 | _ => none
def cvL : List Value → Option (List A)
 | [] => some []
 | v :: l => (cvA v).bind fun a => (cvL l).map (a :: ·)
def cvV : Value → Option V
 | .agg cs => (cvL cs.toList).map .g
 | v => (cvA v).map .a
def cvX : Operand → Option X
 | .tmp t => (toPo 20 t).map .s
 | .const v => (cvV v).map .c
 | .func k => some (.c (.a (.f k [])))
 | .global _ => none
def cvXs : List Operand → Option (List X)
 | [] => some []
 | x :: l => (cvX x).bind fun a => (cvXs l).map (a :: ·)
section
variable {σ : Nat → Int} {η : Eta}
theorem cvI_den (n : Int) : (cvI n).den σ = n := by cases n <;> rfl
theorem cvA_ok {v : Value} {a : A} (h : cvA v = some a) : Da σ η a v := by
 unfold cvA at h
 split at h <;> cases h
 · rfl
 · exact congrArg _ (cvI_den _).symm
 · rfl
 · rfl
 · rfl
 · rfl
 · rfl
 · exact ⟨_, rfl, rfl⟩
theorem cvL_ok : ∀ {l : List Value} {as : List A}, cvL l = some as → DL σ η as l
 | [], as, h => by cases h; rfl
 | v :: l, as, h => by
  obtain ⟨a, h1, h2⟩ := Option.bind_eq_some_iff.1 h
  obtain ⟨as', h3, rfl⟩ := Option.map_eq_some_iff.1 h2
  exact ⟨v, l, rfl, cvA_ok h1, cvL_ok h3⟩
theorem cvV_ok {v : Value} {a : V} (h : cvV v = some a) : Dv σ η a v := by
 unfold cvV at h
 split at h
 · obtain ⟨as, h3, rfl⟩ := Option.map_eq_some_iff.1 h
   exact ⟨_, cvL_ok h3, by simp⟩
 · obtain ⟨as, h3, rfl⟩ := Option.map_eq_some_iff.1 h
   exact cvA_ok h3
end
/-- what an operation looks at is as the evaluator has it -/
def XR (σ : Nat → Int) (η : Eta) (fr : T V) (f : Fr) (xs : List Operand) : Prop := ∀ t, Operand.tmp t ∈ xs → ∀ p : Pp, p.toNat = t → Dv σ η (fr.get .x p) (f t)
theorem XR.get {σ : Nat → Int} {η : Eta} {fr : T V} {f : Fr} {xs : List Operand} (h : XR σ η fr f xs) {x : Operand} {x' : X} (hm : x ∈ xs) (hx : cvX x = some x') : Dv σ η (rdX fr x') (ev f x) := by
 cases x with
 | tmp t =>
  obtain ⟨p, hp, rfl⟩ := Option.map_eq_some_iff.1 hx
  exact h t hm p (toPo_some hp)
 | const v =>
  obtain ⟨p, hp, rfl⟩ := Option.map_eq_some_iff.1 hx
  exact cvV_ok hp
 | func k => cases hx; exact ⟨[], rfl, rfl⟩
 | global g => cases hx
theorem XR.list {σ : Nat → Int} {η : Eta} {fr : T V} {f : Fr} {xs : List Operand} (h : XR σ η fr f xs) : ∀ {l : List Operand} {l' : List X}, (∀ x ∈ l, x ∈ xs) → cvXs l = some l' → DVL σ η (l'.map (rdX fr)) (l.map (ev f))
 | [], l', _, hc => by cases hc; rfl
 | x :: l, l', hm, hc => by
  obtain ⟨x', h1, h2⟩ := Option.bind_eq_some_iff.1 hc
  obtain ⟨l'', h3, rfl⟩ := Option.map_eq_some_iff.1 h2
  exact ⟨_, _, rfl, h.get (hm x (by simp)) h1, XR.list h (fun y hy => hm y (by simp [hy])) h3⟩
/-! numbers -/
section
variable {σ : Nat → Int} {Γ : Env} (hΓ : Γ.Ok σ)
theorem lit_den {e : SE} {i : Int} (h : e.lit = some i) : e.den σ = i := by cases e <;> cases h <;> rfl
theorem boK_inj {a b : BinOp} (h : Nat.beq (boK a) (boK b) = true) : a = b := by
 cases a <;> cases b <;> first | rfl | exact absurd h (by decide)
theorem ikK_inj {a b : IntKind} (h : Nat.beq (ikK a) (ikK b) = true) : a = b := by
 cases a <;> cases b <;> first | rfl | exact absurd h (by decide)
theorem and_t {a b : Bool} (h : and a b = true) : a = true ∧ b = true := by cases a <;> cases b <;> first | exact ⟨rfl, rfl⟩ | cases h
theorem SE.eqb_eq : ∀ {a b : SE}, a.eqb b = true → a = b
 | .n x, .n y, h => congrArg _ (Nat.eq_of_beq_eq_true h)
 | .n _, .g _, h => by cases h
 | .n _, .v _, h => by cases h
 | .n _, .b .., h => by cases h
 | .g x, .g y, h => congrArg _ (Nat.eq_of_beq_eq_true h)
 | .g _, .n _, h => by cases h
 | .g _, .v _, h => by cases h
 | .g _, .b .., h => by cases h
 | .v x, .v y, h => congrArg _ (Nat.eq_of_beq_eq_true h)
 | .v _, .n _, h => by cases h
 | .v _, .g _, h => by cases h
 | .v _, .b .., h => by cases h
 | .b .., .n _, h => by cases h
 | .b .., .g _, h => by cases h
 | .b .., .v _, h => by cases h
 | .b o k x y, .b o' k' x' y', h => by
  obtain ⟨h1, h2⟩ := and_t (show and (and (Nat.beq (boK o) (boK o')) (Nat.beq (ikK k) (ikK k'))) (and (x.eqb x') (y.eqb y')) = true from h)
  obtain ⟨h3, h4⟩ := and_t h1
  obtain ⟨h5, h6⟩ := and_t h2
  rw [boK_inj h3, ikK_inj h4, SE.eqb_eq h5, SE.eqb_eq h6]
theorem ofI_eq (i : Int) (k : SE → R) : ofI i k = k (cvI i) := by
 cases i with
 | ofNat n => exact frc_eq n (fun m => k (.n m))
 | negSucc n => exact frc_eq n (fun m => k (.g m))
include hΓ
theorem valOf_den (e : SE) : (valOf Γ.vals e).den σ = e.den σ := by
 have : ∀ l : List (SE × SE), (∀ p ∈ l, p.1.den σ = p.2.den σ) → (valOf l e).den σ = e.den σ := by
  intro l
  induction l with
  | nil => intro _; rfl
  | cons p l ih =>
   intro h
   show (Bool.rec (motive := fun _ => SE) (valOf l e) p.2 (p.1.eqb e)).den σ = _
   cases hb : p.1.eqb e with
   | true => show p.2.den σ = _; rw [← h p (by simp), SE.eqb_eq hb]
   | false => exact ih fun q hq => h q (by simp [hq])
 exact this _ hΓ.vals
theorem condOf_some {o : BinOp} {x y : SE} {k : Bool → R} {out : Out} (h : condOf Γ.conds o x y k = some out) : ∃ t, cmpI o (x.den σ) (y.den σ) = some t ∧ k t = some out := by
 have : ∀ l : List (BinOp × SE × SE × Bool), (∀ p ∈ l, cmpI p.1 (p.2.1.den σ) (p.2.2.1.den σ) = some p.2.2.2) → condOf l o x y k = some out → ∃ t, cmpI o (x.den σ) (y.den σ) = some t ∧ k t = some out := by
  intro l
  induction l with
  | nil => intro _ h; cases h
  | cons p l ih =>
   intro hl h
   have h' : (Bool.rec (motive := fun _ => R) (condOf l o x y k) (k p.2.2.2) (and (Nat.beq (boK p.1) (boK o)) (and (p.2.1.eqb x) (p.2.2.1.eqb y)))) = some out := h
   cases hb : and (Nat.beq (boK p.1) (boK o)) (and (p.2.1.eqb x) (p.2.2.1.eqb y)) with
   | true =>
    rw [hb] at h'
    obtain ⟨h1, h2⟩ := and_t hb
    obtain ⟨h3, h4⟩ := and_t h2
    have := hl p (by simp)
    rw [boK_inj h1, SE.eqb_eq h3, SE.eqb_eq h4] at this
    exact ⟨_, this, h'⟩
   | false => rw [hb] at h'; exact ih (fun q hq => hl q (by simp [hq])) h'
 exact this _ hΓ.conds h
omit hΓ in
theorem cmp_eql0 {i : Int} {t : Bool} (h : cmpI .eql i 0 = some t) : t = decide (i = 0) := by
 have : some (decide (i = 0)) = some t := h
 injection this with h; exact h.symm
/-- a term: what it stands for is what the operation yields -/
theorem symAr_some {o : BinOp} {k : IntKind} {x y : SE} {K : SE → R} {out : Out} (h : symAr Γ o k x y K = some out) : ∃ s, K s = some out ∧ binI o k (x.den σ) (y.den σ) = some (s.den σ) := by
 have fin : ∀ c, binI o k (x.den σ) (y.den σ) = some c → K (valOf Γ.vals (.b o k x y)) = some out → ∃ s, K s = some out ∧ binI o k (x.den σ) (y.den σ) = some (s.den σ) := by
  intro c hc hk
  refine ⟨_, hk, ?_⟩
  rw [valOf_den hΓ]
  simp only [SE.den, bin, hc, Option.getD_some]
 have h0 : Bool.rec (motive := fun _ => R) (K (valOf Γ.vals (.b o k x y)))
  (Bool.rec (motive := fun _ => R) none
    (Option.rec (motive := fun _ => R) (condOf Γ.conds .eql y (.n 0) (fun b => Bool.rec (motive := fun _ => R) (K (valOf Γ.vals (.b o k x y))) none b)) (fun i => Bool.rec (motive := fun _ => R) (K (valOf Γ.vals (.b o k x y))) none (decide (i = 0))) y.lit)
    (Bool.or (Nat.beq (boK o) 3) (Nat.beq (boK o) 4))) (divides o) = some out := h
 cases hd : divides o with
 | false =>
  rw [hd] at h0
  cases o <;> first | exact fin _ rfl h0 | cases hd
 | true =>
  rw [hd] at h0
  have hdiv : (Bool.or (Nat.beq (boK o) 3) (Nat.beq (boK o) 4)) = true := by
    cases hq : (Bool.or (Nat.beq (boK o) 3) (Nat.beq (boK o) 4)) with
    | true => rfl
    | false => rw [hq] at h0; cases h0
  rw [hdiv] at h0
  have hy : y.den σ ≠ 0 ∧ K (valOf Γ.vals (.b o k x y)) = some out := by
    cases hl : y.lit with
    | none =>
     rw [hl] at h0
     obtain ⟨t, h1, h2⟩ := condOf_some hΓ h0
     have h3 := cmp_eql0 h1
     cases t with
     | true => cases h2
     | false => exact ⟨by simpa using h3, h2⟩
    | some i =>
     rw [hl] at h0
     have hden : y.den σ = i := lit_den hl
     cases hz : decide (i = 0) with
     | true => simp only [hz] at h0; cases h0
     | false => simp only [hz] at h0; exact ⟨by rw [hden]; simpa using hz, h0⟩
  cases o <;> first | cases hd | skip
  all_goals first | (exact absurd hdiv (by decide)) | skip
  · refine fin (k.wrap ((x.den σ).tdiv (y.den σ))) ?_ hy.2
    show Bool.rec (motive := fun _ => Option Int) (some (k.wrap ((x.den σ).tdiv (y.den σ)))) none (decide (y.den σ = 0)) = _
    rw [decide_eq_false hy.1]
  · refine fin ((x.den σ).tmod (y.den σ)) ?_ hy.2
    show Bool.rec (motive := fun _ => Option Int) (some ((x.den σ).tmod (y.den σ))) none (decide (y.den σ = 0)) = _
    rw [decide_eq_false hy.1]
theorem slowAr_some {o : BinOp} {k : IntKind} {x y : SE} {K : SE → R} {out : Out} (h : slowAr Γ o k x y K = some out) : ∃ s, K s = some out ∧ binI o k (x.den σ) (y.den σ) = some (s.den σ) := by
 have h0 : Option.rec (motive := fun _ => R) (symAr Γ o k x y K) (fun a => Option.rec (motive := fun _ => R) (symAr Γ o k x y K) (fun b => Option.rec (motive := fun _ => R) none (fun i => ofI i K) (binI o k a b)) y.lit) x.lit = some out := h
 cases hx : x.lit with
 | none => rw [hx] at h0; exact symAr_some hΓ h0
 | some a =>
  rw [hx] at h0
  cases hy : y.lit with
  | none => simp only [hy] at h0; exact symAr_some hΓ h0
  | some b =>
   simp only [hy] at h0
   cases hb : binI o k a b with
   | none => simp only [hb] at h0; cases h0
   | some i =>
    simp only [hb, ofI_eq] at h0
    exact ⟨_, h0, by rw [lit_den hx, lit_den hy, hb, cvI_den]⟩
omit hΓ in
theorem wrap_small (k : IntKind) {n : Nat} (h : n ≤ 127) : k.wrap (n : Int) = n := by
 cases k <;> (simp only [IntKind.wrap, IntKind.signed, IntKind.bits]; first | omega | (simp; omega) | skip)
theorem arK_some {o : BinOp} {k : IntKind} {x y : SE} {K : SE → R} {out : Out} (h : arK Γ o k x y K = some out) : ∃ s, K s = some out ∧ binI o k (x.den σ) (y.den σ) = some (s.den σ) := by
 rcases nK_some h with ⟨a, rfl, h⟩ | h
 · rcases nK_some h with ⟨b, rfl, h⟩ | h
   · cases o <;> first | exact slowAr_some hΓ h | skip
     · have h0 : Bool.rec (motive := fun _ => R) (slowAr Γ .add k (.n a) (.n b) K) (frc (Nat.add a b) (fun c => K (.n c))) (Nat.ble (Nat.add a b) 127) = some out := h
       cases hb : Nat.ble (Nat.add a b) 127 with
       | false => rw [hb] at h0; exact slowAr_some hΓ h0
       | true =>
        rw [hb] at h0
        simp only [frc_eq] at h0
        refine ⟨_, h0, ?_⟩
        show some (k.wrap (((a : Nat) : Int) + ((b : Nat) : Int))) = some (((a + b : Nat) : Int))
        have hb' : a + b ≤ 127 := Nat.le_of_ble_eq_true hb
        rw [← Int.natCast_add, wrap_small k hb']
     · have h0 : Bool.rec (motive := fun _ => R) (slowAr Γ .sub k (.n a) (.n b) K) (frc (Nat.sub a b) (fun c => K (.n c))) (and (Nat.ble b a) (Nat.ble a 127)) = some out := h
       cases hb : and (Nat.ble b a) (Nat.ble a 127) with
       | false => rw [hb] at h0; exact slowAr_some hΓ h0
       | true =>
        rw [hb] at h0
        simp only [frc_eq] at h0
        obtain ⟨h1, h2⟩ := and_t hb
        have h1 := Nat.le_of_ble_eq_true h1
        have h2 := Nat.le_of_ble_eq_true h2
        refine ⟨_, h0, ?_⟩
        show some (k.wrap (((a : Nat) : Int) - ((b : Nat) : Int))) = some (((a - b : Nat) : Int))
        rw [← Int.natCast_sub h1, wrap_small k (by omega)]
   · exact slowAr_some hΓ h
 · exact slowAr_some hΓ h
theorem slowCp_some {o : BinOp} {x y : SE} {K : Bool → R} {out : Out} (h : slowCp Γ o x y K = some out) : ∃ t, K t = some out ∧ cmpI o (x.den σ) (y.den σ) = some t := by
 have h0 : Option.rec (motive := fun _ => R) (condOf Γ.conds o x y K) (fun a => Option.rec (motive := fun _ => R) (condOf Γ.conds o x y K) (fun b => Option.rec (motive := fun _ => R) none (fun t => Bool.rec (motive := fun _ => R) (K false) (K true) t) (cmpI o a b)) y.lit) x.lit = some out := h
 cases hx : x.lit with
 | none => rw [hx] at h0; obtain ⟨t, h1, h2⟩ := condOf_some hΓ h0; exact ⟨t, h2, h1⟩
 | some a =>
  rw [hx] at h0
  cases hy : y.lit with
  | none => simp only [hy] at h0; obtain ⟨t, h1, h2⟩ := condOf_some hΓ h0; exact ⟨t, h2, h1⟩
  | some b =>
   simp only [hy] at h0
   cases hb : cmpI o a b with
   | none => simp only [hb] at h0; cases h0
   | some t =>
    simp only [hb] at h0
    refine ⟨t, ?_, by rw [lit_den hx, lit_den hy, hb]⟩
    cases t <;> exact h0
theorem cpK_some {o : BinOp} {x y : SE} {K : Bool → R} {out : Out} (h : cpK Γ o x y K = some out) : ∃ t, K t = some out ∧ cmpI o (x.den σ) (y.den σ) = some t := by
 obtain ⟨hc, h⟩ := bif_some h
 rcases nK_some h with ⟨a, rfl, h⟩ | h
 · rcases nK_some h with ⟨b, rfl, h1⟩ | h
   · have h2 : Bool.rec (motive := fun _ => R) (K false) (K true) (fastCp o a b) = some out := h1
     refine ⟨fastCp o a b, by cases hf : fastCp o a b <;> (rw [hf] at h2; exact h2), ?_⟩
     have hbe : ∀ a b : Nat, Nat.beq a b = decide (((a : Nat) : Int) = ((b : Nat) : Int)) := fun a b => by
       by_cases hab : a = b
       · subst hab; simp [Nat.beq_refl]
       · rw [Fw.beq_ne hab]; simp; omega
     have hbl : ∀ a b : Nat, Nat.ble (Nat.succ a) b = decide (((a : Nat) : Int) < ((b : Nat) : Int)) := fun a b => by
       by_cases hab : a < b
       · rw [Nat.ble_eq_true_of_le hab]; simp; omega
       · rw [show Nat.ble (Nat.succ a) b = false by cases hq : Nat.ble (Nat.succ a) b with | false => rfl | true => exact absurd (Nat.le_of_ble_eq_true hq) (by omega)]; simp; omega
     have hbe2 : ∀ a b : Nat, Nat.ble a b = decide (((a : Nat) : Int) ≤ ((b : Nat) : Int)) := fun a b => by
       by_cases hab : a ≤ b
       · rw [Nat.ble_eq_true_of_le hab]; simp; omega
       · rw [show Nat.ble a b = false by cases hq : Nat.ble a b with | false => rfl | true => exact absurd (Nat.le_of_ble_eq_true hq) hab]; simp; omega
     cases o <;> first | cases hc | skip
     · show some (decide (((a : Nat) : Int) = ((b : Nat) : Int))) = some (Nat.beq a b); rw [hbe]
     · show some (!decide (((a : Nat) : Int) = ((b : Nat) : Int))) = some (not (Nat.beq a b)); rw [hbe]
     · show some (decide (((a : Nat) : Int) < ((b : Nat) : Int))) = some (Nat.ble (Nat.succ a) b); rw [hbl]
     · show some (decide (((a : Nat) : Int) ≤ ((b : Nat) : Int))) = some (Nat.ble a b); rw [hbe2]
     · show some (decide (((b : Nat) : Int) < ((a : Nat) : Int))) = some (Nat.ble (Nat.succ b) a); rw [hbl]
     · show some (decide (((b : Nat) : Int) ≤ ((a : Nat) : Int))) = some (Nat.ble b a); rw [hbe2]
   · exact slowCp_some hΓ h
 · exact slowCp_some hΓ h
end
end
end Go.Ev
