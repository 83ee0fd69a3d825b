/- IrChecks: E24. -/
import Derived.Test.YtbpccmnalhdpmaaJ37
set_option linter.unusedVariables false
namespace Go.Ev
open Go.RowKit Go.Fw
noncomputable section
def memN (i : Nat) : List Nat → Bool
  | [] => false
  | j :: l => or (Nat.beq i j) (memN i l)
theorem memN_mem : ∀ {i : Nat} {l : List Nat}, memN i l = true → i ∈ l
  | i, [], h => by cases h
  | i, j :: l, h => by
    have h0 : or (Nat.beq i j) (memN i l) = true := h
    cases hb : Nat.beq i j with
    | true => rw [Nat.eq_of_beq_eq_true hb]; simp
    | false => rw [hb] at h0; exact List.mem_cons_of_mem _ (memN_mem h0)
theorem mem_memN : ∀ {i : Nat} {l : List Nat}, i ∈ l → memN i l = true
  | i, j :: l, h => by
    show or (Nat.beq i j) (memN i l) = true
    rcases List.mem_cons.1 h with rfl | h
    · rw [Nat.beq_refl]; rfl
    · rw [mem_memN h]; cases Nat.beq i j <;> rfl
def edges (o : Oper) : List Nat := (o.after.toList.filter (Region.binds .any)).map (·.on)
def hasIx (i : Nat) : List Sta → Bool
  | [] => false
  | q :: l => or (Nat.beq q.ix i) (hasIx i l)
def viaN (es : List Nat) (i : Nat) : List Sta → Bool
  | [] => false
  | q :: l => or (and (memN q.ix es) (memN i q.an)) (viaN es i l)
def allNat (f : Nat → Bool) : List Nat → Bool
  | [] => true
  | i :: l => and (f i) (allNat f l)
def anOk (pre : List Sta) (s : Sta) : Bool := and (allNat (fun i => or (memN i (edges s.o)) (viaN (edges s.o) i pre)) s.an) (allNat (fun e => hasIx e pre) (edges s.o))
def ckAn (pre : List Sta) : List Sta → Bool
  | [] => true
  | s :: ss => and (anOk pre s) (ckAn (s :: pre) ss)
def eqD (p : Pp) : Option Pp → Bool
  | none => false
  | some q => q.eqb p
def slotNo (j k : Sta) : Bool :=
  and (match j.d with | none => true | some p => and (not (memN p.nat k.rd)) (not (eqD p k.d))) (match k.d with | none => true | some p => not (memN p.nat j.rd))
def chainNo (j k : Sta) : Bool := and (or (not (Nat.beq k.cls 3)) (not (or (Nat.beq j.cls 3) (Nat.beq j.cls 2)))) (or (not (Nat.beq j.cls 3)) (not (Nat.beq k.cls 1)))
def flag : List Bool → Nat → Bool
  | [], _ => false
  | b :: _, 0 => b
  | _ :: l, n + 1 => flag l n
theorem flag_get : ∀ {l : List Bool} {n : Nat}, flag l n = true → l[n]? = some true
  | [], _, h => by cases h
  | b :: _, 0, h => by have h : b = true := h; subst h; rfl
  | _ :: l, n + 1, h => by simpa using flag_get (l := l) (n := n) h
def againOk (j k : Sta) (r : Nat) : Bool := or (not (and (Nat.beq j.cls 1) (Nat.beq k.cls 3))) (flag k.chk r)
def pairOk (j k : Sta) (r : Nat) : Bool := and (not (Nat.beq j.ix k.ix)) (or (memN j.ix k.an) (and (slotNo j k) (and (chainNo j k) (againOk j k r))))
def ckTail (s : Sta) : List Sta → Nat → Bool
  | [], _ => true
  | q :: l, r => and (pairOk s q r) (ckTail s l ((bif Nat.beq q.cls 1 then 1 else 0) + r))
def ckAll : List Sta → Bool
  | [] => true
  | s :: ss => and (ckTail s ss 0) (ckAll ss)
def mkSta (N : Nat) (ops : Array Oper) : List D → Option (List Sta)
  | [] => some []
  | d :: l => (ops[d.ix]?).bind fun o => (cvD N o.dst).bind fun dd => (cvG ops o.guard).bind fun g => (mkSta N ops l).map (⟨o, d.ix, dd, g, clsI d.i, d.an, d.chk, reads ops o⟩ :: ·)
def cvDs (Θ : T (Option TyI)) (N : Nat) (ops : Array Oper) : List D → Option (List D)
  | [] => some []
  | d :: l => (ops[d.ix]?).bind fun o => (cvIt Θ N ops o).bind fun i => (cvDs Θ N ops l).map (⟨i, d.ix, d.an, d.chk⟩ :: ·)
def staOk (ops : Array Oper) (ss : List Sta) : Bool := and (ckAn [] ss) (and (ckAll ss) (allNat (fun i => hasIx i ss) (List.range ops.size)))
def cvDr (Θ : T (Option TyI)) (N : Nat) (ops : Array Oper) (l : List D) : Option (List D) := (mkSta N ops l).bind fun ss => bif staOk ops ss then cvDs Θ N ops l else none
section
theorem allNat_mem {f : Nat → Bool} : ∀ {l : List Nat}, allNat f l = true → ∀ i ∈ l, f i = true
  | j :: l, h, i, hi => by
    obtain ⟨h1, h2⟩ := and_t (show and (f j) (allNat f l) = true from h)
    rcases List.mem_cons.1 hi with rfl | hi
    · exact h1
    · exact allNat_mem h2 i hi
theorem or_t {a b : Bool} (h : or a b = true) : a = true ∨ b = true := by cases a <;> cases b <;> simp_all
theorem hasIx_mem {i : Nat} : ∀ {l : List Sta}, hasIx i l = true → ∃ q ∈ l, q.ix = i
  | [], h => by cases h
  | q :: l, h => by
    rcases or_t (show or (Nat.beq q.ix i) (hasIx i l) = true from h) with h | h
    · exact ⟨q, by simp, Nat.eq_of_beq_eq_true h⟩
    · obtain ⟨p, h1, h2⟩ := hasIx_mem h; exact ⟨p, by simp [h1], h2⟩
theorem viaN_mem {es : List Nat} {i : Nat} : ∀ {l : List Sta}, viaN es i l = true → ∃ q ∈ l, q.ix ∈ es ∧ i ∈ q.an
  | [], h => by cases h
  | q :: l, h => by
    rcases or_t (show or (and (memN q.ix es) (memN i q.an)) (viaN es i l) = true from h) with h | h
    · obtain ⟨h1, h2⟩ := and_t h
      exact ⟨q, by simp, memN_mem h1, memN_mem h2⟩
    · obtain ⟨p, h1, h2⟩ := viaN_mem h; exact ⟨p, by simp [h1], h2⟩
theorem mem_edges {o : Oper} {e : Edge} (he : e ∈ o.after) (hb : Region.binds .any e = true) : e.on ∈ edges o := List.mem_map.2 ⟨e, List.mem_filter.2 ⟨by simpa using he, hb⟩, rfl⟩
theorem edges_mem {o : Oper} {i : Nat} (h : i ∈ edges o) : ∃ e ∈ o.after, Region.binds .any e = true ∧ e.on = i := by
  obtain ⟨e, h1, rfl⟩ := List.mem_map.1 h
  obtain ⟨h2, h3⟩ := List.mem_filter.1 h1
  exact ⟨e, by simpa using h2, h3, rfl⟩
theorem ckAn_get : ∀ {ss pre : List Sta}, ckAn pre ss = true → ∀ {k : Nat} {s : Sta}, ss[k]? = some s → ∃ pr, anOk pr s = true ∧ ∀ q ∈ pr, q ∈ pre ∨ ∃ j, j < k ∧ ss[j]? = some q
  | [], _, _, k, s, hs => by simp at hs
  | t :: ss, pre, h, k, s, hs => by
    obtain ⟨h1, h2⟩ := and_t (show and (anOk pre t) (ckAn (t :: pre) ss) = true from h)
    cases k with
    | zero => simp at hs; subst hs; exact ⟨pre, h1, fun q hq => .inl hq⟩
    | succ k =>
      obtain ⟨pr, h3, h4⟩ := ckAn_get h2 (k := k) (by simpa using hs)
      refine ⟨pr, h3, fun q hq => ?_⟩
      rcases h4 q hq with h5 | ⟨j, h5, h6⟩
      · rcases List.mem_cons.1 h5 with rfl | h5
        · exact .inr ⟨0, by omega, rfl⟩
        · exact .inl h5
      · exact .inr ⟨j + 1, by omega, by simpa using h6⟩
theorem ckTail_get {s : Sta} : ∀ {l : List Sta} {r : Nat}, ckTail s l r = true → ∀ {k : Nat} {q : Sta}, l[k]? = some q → pairOk s q (nR l k + r) = true
  | [], _, _, k, q, hq => by simp at hq
  | t :: l, r, h, k, q, hq => by
    obtain ⟨h1, h2⟩ := and_t (show and (pairOk s t r) (ckTail s l ((bif Nat.beq t.cls 1 then 1 else 0) + r)) = true from h)
    cases k with
    | zero => simp at hq; subst hq; simpa [nR] using h1
    | succ k =>
      have := ckTail_get h2 (k := k) (q := q) (by simpa using hq)
      have e : nR (t :: l) (k + 1) + r = nR l k + ((bif Nat.beq t.cls 1 then 1 else 0) + r) := by simp only [nR]; omega
      rw [e]; exact this
theorem ckAll_get : ∀ {ss : List Sta}, ckAll ss = true → ∀ {j k : Nat} {s q : Sta}, j < k → ss[j]? = some s → ss[k]? = some q → pairOk s q (nR (ss.drop (j + 1)) (k - j - 1)) = true
  | [], _, j, k, s, q, _, hs, _ => by simp at hs
  | t :: ss, h, j, k, s, q, hjk, hs, hq => by
    obtain ⟨h1, h2⟩ := and_t (show and (ckTail t ss 0) (ckAll ss) = true from h)
    cases k with
    | zero => omega
    | succ k =>
      cases j with
      | zero =>
        simp at hs
        subst hs
        have := ckTail_get h1 (k := k) (q := q) (by simpa using hq)
        simpa using this
      | succ j =>
        have := ckAll_get h2 (j := j) (k := k) (s := s) (q := q) (by omega) (by simpa using hs) (by simpa using hq)
        rw [show k + 1 - (j + 1) - 1 = k - j - 1 by omega]
        simpa using this
theorem mkSta_al {Θ : T (Option TyI)} {N : Nat} {ops : Array Oper} : ∀ {l : List D} {ss : List Sta}, mkSta N ops l = some ss → cvDs Θ N ops l = some l → Al Θ l ss ∧ ∀ (k : Nat) (s : Sta), ss[k]? = some s → ops[s.ix]? = some s.o ∧ cvD N s.o.dst = some s.d ∧ cvG ops s.o.guard = some s.g ∧ s.rd = reads ops s.o ∧ s.cls ≤ 3 ∧ (s.cls ≠ 3 → ∀ c, s.o.op ≠ .defer c)
  | [], ss, h, _ => by cases h; exact ⟨trivial, fun k s hs => by simp at hs⟩
  | d :: l, ss, h, hc => by
    obtain ⟨o, h1, h2⟩ := Option.bind_eq_some_iff.1 h
    obtain ⟨dd, h3, h4⟩ := Option.bind_eq_some_iff.1 h2
    obtain ⟨g, h5, h6⟩ := Option.bind_eq_some_iff.1 h4
    obtain ⟨ss', h7, rfl⟩ := Option.map_eq_some_iff.1 h6
    obtain ⟨o', c1, c2⟩ := Option.bind_eq_some_iff.1 hc
    rw [h1] at c1
    cases c1
    obtain ⟨i, c3, c4⟩ := Option.bind_eq_some_iff.1 c2
    obtain ⟨l', c5, c6⟩ := Option.map_eq_some_iff.1 c4
    injection c6 with c6 c7
    subst c7
    have hi : i = d.i := by rw [← c6]
    subst hi
    obtain ⟨a1, a2⟩ := mkSta_al h7 c5
    obtain ⟨d', g', e1, e2, e3⟩ := cvIt_is c3
    rw [h3] at e1
    cases e1
    rw [h5] at e2
    cases e2
    refine ⟨⟨e3, rfl, rfl, a1⟩, fun k s hs => ?_⟩
    cases k with
    | zero =>
      simp at hs
      subst hs
      refine ⟨h1, h3, h5, rfl, ?_, fun hne => ?_⟩
      · show clsI d.i ≤ 3
        cases d.i <;> simp [clsI]
      · have hne : clsI d.i ≠ 3 := hne
        generalize d.i = di at e3 hne
        cases e3 with
        | p _ hc => exact cvP_nd hc
        | r _ hc => exact cvR_nd hc
        | a _ hc => exact cvAl_nd hc
        | c _ => exact absurd rfl hne
        | k _ _ _ _ => exact absurd rfl hne
        | v _ _ _ _ => exact absurd rfl hne
        | n => exact absurd rfl hne
    | succ k => exact a2 k s (by simpa using hs)
end
section
variable {P : Program} {Θ : T (Option TyI)} {CV : T (Option Site)} {σ : Nat → Int} {Γ : Env} (hΘ : Θ.All (TyQ P)) (hΓ : Γ.Ok σ) {CR : Nat → Code → RC → Prop} (hfn : Γ.fns.All (FnQ P Θ CR)) {rn : Rn} (hrn : RnOk P CV CR σ Γ rn)
theorem not_t {a : Bool} (h : not a = true) : a = false := by cases a <;> simp_all
theorem pairOk_slot {j k : Sta} {r : Nat} {ops : Array Oper} (hj : j.rd = reads ops j.o) (hk : k.rd = reads ops k.o) (h : pairOk j k r = true) {p : Pp} (hp : ((j.d = some p ∧ (p.toNat ∈ reads ops k.o ∨ k.d = some p)) ∨ (k.d = some p ∧ p.toNat ∈ reads ops j.o))) : j.ix ∈ k.an := by
  obtain ⟨_, h1⟩ := and_t h
  rcases or_t h1 with h2 | h2
  · exact memN_mem h2
  · exfalso
    obtain ⟨h3, _⟩ := and_t h2
    obtain ⟨h4, h5⟩ := and_t h3
    rw [← hj, ← hk] at hp
    rcases hp with ⟨q1, q2⟩ | ⟨q1, q2⟩
    · rw [q1] at h4
      obtain ⟨h6, h7⟩ := and_t h4
      rcases q2 with q2 | q2
      · have := not_t h6
        rw [Pp.nat_eq, mem_memN q2] at this; cases this
      · have := not_t h7
        rw [q2] at this
        have hself : ∀ q : Pp, q.eqb q = true := by
          intro q
          induction q with
          | h => rfl
          | l q ih => exact ih
          | r q ih => exact ih
        have h8 : eqD p (some p) = true := hself p
        rw [h8] at this; cases this
    · rw [q1] at h5
      have := not_t h5
      rw [Pp.nat_eq, mem_memN q2] at this; cases this
theorem pairOk_chain {j k : Sta} {r : Nat} (h : pairOk j k r = true) (hc : (k.cls = 3 ∧ (j.cls = 3 ∨ j.cls = 2)) ∨ (j.cls = 3 ∧ k.cls = 1)) : j.ix ∈ k.an := by
  obtain ⟨_, h1⟩ := and_t h
  rcases or_t h1 with h2 | h2
  · exact memN_mem h2
  · exfalso
    obtain ⟨_, h3⟩ := and_t h2
    obtain ⟨h4, _⟩ := and_t h3
    unfold chainNo at h4
    rcases hc with ⟨q1, q2 | q2⟩ | ⟨q1, q2⟩ <;> (rw [q1, q2] at h4; cases h4)
theorem pairOk_again {j k : Sta} {r : Nat} (h : pairOk j k r = true) (h1 : j.cls = 1) (h3 : k.cls = 3) (hn : j.ix ∉ k.an) : k.chk[r]? = some true := by
  obtain ⟨_, h4⟩ := and_t h
  rcases or_t h4 with h2 | h2
  · exact absurd (memN_mem h2) hn
  · obtain ⟨_, h5⟩ := and_t h2
    obtain ⟨_, h6⟩ := and_t h5
    unfold againOk at h6
    rw [h1, h3] at h6
    exact flag_get h6
include hΘ hΓ hfn hrn in
theorem drw_trace {N : Nat} {ops : Array Oper} {l : List D} {fr : T V} {h : AH} {K : T V → AH → R} {out : Out} (hc : cvDr Θ N ops l = some l) (hk : drwK l Γ rn [] fr h h K = some out) :
    ∃ n rc hA fA, TrOk P CV σ N ops n rc hA fA ∧ K (fA n) (hA n) = some out ∧ fA 0 = fr ∧ hA 0 = h := by
  obtain ⟨ss, h1, h2⟩ := Option.bind_eq_some_iff.1 hc
  cases hb : staOk ops ss with
  | false => rw [hb] at h2; cases h2
  | true =>
    rw [hb] at h2
    have h2 : cvDs Θ N ops l = some l := h2
    obtain ⟨b1, b2⟩ := and_t hb
    obtain ⟨b3, b4⟩ := and_t b2
    obtain ⟨al, sf⟩ := mkSta_al h1 h2
    obtain ⟨fA, hA, vA, rA, wA, HA, e1, e2, e3, e4, e5, e6, e7⟩ := drwK_some hΘ hΓ hfn hrn al (fun p hp => by cases hp) hk
    let rc : Nat → Rec := fun k => match ss[k]? with
      | some s => ⟨s.o, s.ix, s.d, s.g, s.cls, s.an, HA k, vA k, rA k, wA k⟩
      | none => ⟨default, 0, none, none, 0, [], h, .x, .d, false⟩
    have hrc : ∀ (k : Nat) (s : Sta), ss[k]? = some s → rc k = ⟨s.o, s.ix, s.d, s.g, s.cls, s.an, HA k, vA k, rA k, wA k⟩ := by
      intro k s hs
      show (match ss[k]? with | some s => (⟨s.o, s.ix, s.d, s.g, s.cls, s.an, HA k, vA k, rA k, wA k⟩ : Rec) | none => ⟨default, 0, none, none, 0, [], h, .x, .d, false⟩) = _
      rw [hs]
    have get : ∀ k, k < ss.length → ∃ s, ss[k]? = some s := fun k hk => ⟨_, List.getElem?_eq_getElem hk⟩
    have lt : ∀ {k : Nat} {s : Sta}, ss[k]? = some s → k < ss.length := fun hs => (List.getElem?_eq_some_iff.1 hs).1
    have ancD : ∀ (k : Nat) (s : Sta), ss[k]? = some s → ∀ L : Array Bool, Closed ops L → (∀ i ∈ edges s.o, L.getD i false = true) → ∀ i ∈ s.an, L.getD i false = true := by
      intro k
      induction k using Nat.strongRecOn with
      | _ k ih =>
        intro s hs L hcl hed i hi
        obtain ⟨pr, q1, q2⟩ := ckAn_get b1 hs
        obtain ⟨q3, q4⟩ := and_t q1
        rcases or_t (allNat_mem q3 i hi) with q5 | q5
        · exact hed i (memN_mem q5)
        · obtain ⟨q, q6, q7, q8⟩ := viaN_mem q5
          rcases q2 q q6 with q9 | ⟨j, q9, q10⟩
          · cases q9
          · have hdone := hed q.ix q7
            refine ih j q9 q q10 L hcl (fun i' hi' => ?_) i q8
            obtain ⟨e, he, hbe, rfl⟩ := edges_mem hi'
            exact hcl q.ix q.o (sf j q q10).1 hdone e he hbe
    refine ⟨ss.length, rc, hA, fA, ?_, e1, e2, e3⟩
    refine ⟨fun k hk => ?_, fun k hk => ?_, fun k hk => ?_, fun k hk => ?_, fun k hk => ?_, fun k hk => ?_, fun k hk => ?_, fun k hk => ?_, fun k hk => ?_, fun k hk => ?_, fun k hk => ?_, fun j k hjk hk p hp => ?_, fun j k hjk hk h3 hj => ?_, fun j k hjk hk hj h1' => ?_, fun j k hjk hk hj hw h3 hn => ?_, fun i hi => ?_, fun j k hj hk he => ?_, fun k hk L hcl hd i hi => ?_, fun k hk e he hbe => ?_, fun k hk L hcl hrd i hi => ?_⟩
    · obtain ⟨s, hs⟩ := get k hk; rw [hrc k s hs]; obtain ⟨f1, f2, f3, f4, f5, f6⟩ := sf k s hs; exact ⟨f1, f2, f3, f6⟩
    · obtain ⟨s, hs⟩ := get k hk; rw [hrc k s hs]; exact (e4 k s hs).fe
    · obtain ⟨s, hs⟩ := get k hk; exact (e4 k s hs).nx
    · obtain ⟨s, hs⟩ := get k hk; rw [hrc k s hs]; exact (e4 k s hs).no
    · obtain ⟨s, hs⟩ := get k hk; rw [hrc k s hs]; exact (e4 k s hs).yes
    · obtain ⟨s, hs⟩ := get k hk; rw [hrc k s hs]; exact (e4 k s hs).p
    · obtain ⟨s, hs⟩ := get k hk; rw [hrc k s hs]; exact (e4 k s hs).r
    · obtain ⟨s, hs⟩ := get k hk; rw [hrc k s hs]; exact (e4 k s hs).a
    · obtain ⟨s, hs⟩ := get k hk; rw [hrc k s hs]; exact (e4 k s hs).c
    · obtain ⟨s, hs⟩ := get k hk; rw [hrc k s hs]; exact (sf k s hs).2.2.2.2.1
    · obtain ⟨s, hs⟩ := get k hk
      rw [hrc k s hs]
      rcases e5 k s hs with ⟨q1, q2⟩ | ⟨m, q1, q2, q3, ⟨q0, q4, q5⟩, q6⟩
      · refine ⟨0, by omega, by show HA k = hA 0; rw [q1, e3], .inl rfl, fun j _ hj => ?_⟩
        obtain ⟨t, ht⟩ := get j (by omega)
        rw [hrc j t ht]; exact q2 j t hj ht
      · refine ⟨m, q2, q3, .inr (by rw [hrc _ _ q4]; exact q5), fun j hj1 hj2 => ?_⟩
        obtain ⟨t, ht⟩ := get j (by omega)
        rw [hrc j t ht]; exact q6 j t hj1 hj2 ht
    · obtain ⟨s, hs⟩ := get j (by omega)
      obtain ⟨t, ht⟩ := get k hk
      rw [hrc j s hs, hrc k t ht] at hp ⊢
      exact pairOk_slot (sf j s hs).2.2.2.1 (sf k t ht).2.2.2.1 (ckAll_get b3 hjk hs ht) hp
    · obtain ⟨s, hs⟩ := get j (by omega)
      obtain ⟨t, ht⟩ := get k hk
      rw [hrc j s hs] at hj ⊢
      rw [hrc k t ht] at h3 ⊢
      exact pairOk_chain (ckAll_get b3 hjk hs ht) (.inl ⟨h3, hj⟩)
    · obtain ⟨s, hs⟩ := get j (by omega)
      obtain ⟨t, ht⟩ := get k hk
      rw [hrc j s hs] at hj ⊢
      rw [hrc k t ht] at h1' ⊢
      exact pairOk_chain (ckAll_get b3 hjk hs ht) (.inr ⟨hj, h1'⟩)
    · obtain ⟨s, hs⟩ := get j (by omega)
      obtain ⟨t, ht⟩ := get k hk
      rw [hrc j s hs] at hj hw hn ⊢
      rw [hrc k t ht] at h3 hn
      exact e7 j k s t hjk hs hj hw ht h3 (pairOk_again (ckAll_get b3 hjk hs ht) hj h3 hn)
    · obtain ⟨q, q1, q2⟩ := hasIx_mem (allNat_mem b4 i (by simpa using hi))
      obtain ⟨k, hk⟩ := List.getElem?_of_mem q1
      exact ⟨k, lt hk, by rw [hrc k q hk]; exact q2⟩
    · obtain ⟨s, hs⟩ := get j hj
      obtain ⟨t, ht⟩ := get k hk
      rw [hrc j s hs, hrc k t ht] at he
      have he : s.ix = t.ix := he
      rcases Nat.lt_trichotomy j k with q | q | q
      · have := not_t (and_t (ckAll_get b3 q hs ht)).1
        rw [he, Nat.beq_refl] at this; cases this
      · exact q
      · have := not_t (and_t (ckAll_get b3 q ht hs)).1
        rw [he, Nat.beq_refl] at this; cases this
    · obtain ⟨s, hs⟩ := get k hk
      rw [hrc k s hs] at hd hi
      refine ancD k s hs L hcl (fun i' hi' => ?_) i hi
      obtain ⟨e, he, hbe, rfl⟩ := edges_mem hi'
      exact hcl s.ix s.o (sf k s hs).1 hd e he hbe
    · obtain ⟨s, hs⟩ := get k hk
      rw [hrc k s hs] at he
      obtain ⟨pr, q1, q2⟩ := ckAn_get b1 hs
      obtain ⟨_, q4⟩ := and_t q1
      obtain ⟨q, q5, q6⟩ := hasIx_mem (allNat_mem q4 e.on (mem_edges he hbe))
      rcases q2 q q5 with q7 | ⟨j, q7, q8⟩
      · cases q7
      · exact ⟨j, q7, by rw [hrc j q q8]; exact q6⟩
    · obtain ⟨s, hs⟩ := get k hk
      rw [hrc k s hs] at hrd hi
      refine ancD k s hs L hcl (fun i' hi' => ?_) i hi
      obtain ⟨e, he, hbe, rfl⟩ := edges_mem hi'
      exact hrd e he hbe
end
end
end Go.Ev

