/- The reference parser's looks at tokens, as known calls. -/
import Derived.Test.YtikafojlhinonaaLI
set_option linter.unusedVariables false
namespace Go.Proofs.Ytikafojlhinonaa
open Go.Ev Go.RowKit Go.Fw
noncomputable section
def arg1 (vs : List V) (k : V → R) : R := List.rec (motive := fun _ => R) none (fun a l _ => List.rec (motive := fun _ => R) (k a) (fun _ _ _ => none) l) vs
def arg3 (vs : List V) (k : V → V → V → R) : R := List.rec (motive := fun _ => R) none (fun a l _ => List.rec (motive := fun _ => R) none (fun b l _ => List.rec (motive := fun _ => R) none (fun c l _ => List.rec (motive := fun _ => R) (k a b c) (fun _ _ _ => none) l) l) l) vs
theorem arg1_some {vs : List V} {k : V → R} {out : Out} (h : arg1 vs k = some out) : ∃ a, vs = [a] ∧ k a = some out := by
  match vs, h with
  | [], h => cases h
  | [a], h => exact ⟨a, rfl, h⟩
  | _ :: _ :: _, h => cases h
theorem arg3_some {vs : List V} {k : V → V → V → R} {out : Out} (h : arg3 vs k = some out) : ∃ a b c, vs = [a, b, c] ∧ k a b c = some out := by
  match vs, h with
  | [], h => cases h
  | [_], h => cases h
  | [_, _], h => cases h
  | [a, b, c], h => exact ⟨a, b, c, rfl, h⟩
  | _ :: _ :: _ :: _ :: _, h => cases h
/-- a number of the kind int -/
def i64K (a : A) (k : SE → R) : R := a.iK (fun i e => Bool.rec (motive := fun _ => R) none (k e) (Nat.beq (ikK i) (ikK .i64)))
def i64N (a : A) (k : Nat → R) : R := i64K a (fun e => e.nK k none)
theorem i64K_some {a : A} {k : SE → R} {out : Out} (h : i64K a k = some out) : ∃ e, a = .i .i64 e ∧ k e = some out := by
  obtain ⟨i, e, rfl, h⟩ := iK_some h
  obtain ⟨h1, h2⟩ := bif_some h
  rw [ikK_inj h1]
  exact ⟨e, rfl, h2⟩
theorem i64N_some {a : A} {k : Nat → R} {out : Out} (h : i64N a k = some out) : ∃ n, a = .i .i64 (.n n) ∧ k n = some out := by
  obtain ⟨e, rfl, h⟩ := i64K_some h
  rcases nK_some h with ⟨n, rfl, h⟩ | h
  · exact ⟨n, rfl, h⟩
  · cases h
/-- the token k places ahead: its kind and its text -/
def tokK (h : AH) (r : Pp) (k : Nat) (kM : R) (K : Nat → Nat → R) : R :=
  (h.row r).cK (fun _ _ t => cellK t (nat_lit 0) (fun a0 => a0.sK none (fun rt o n => cellK t (nat_lit 1) (fun a1 => i64N a1 (fun at_ => Bool.rec (motive := fun _ => R) kM
    ((h.row rt).cK (fun _ _ t2 => frc (Nat.add o (Nat.mul (Nat.add at_ k) (nat_lit 4))) (fun q => cellK t2 q (fun b0 => i64N b0 (fun kd => cellK t2 (Nat.add q (nat_lit 1)) (fun b1 => i64K b1 (fun _ => cellK t2 (Nat.add q (nat_lit 2)) (fun b2 => b2.tK (fun x => cellK t2 (Nat.add q (nat_lit 3)) (fun b3 => i64K b3 (fun _ => K kd x)))))))))))
    (and (Nat.ble (Nat.succ (Nat.add at_ k)) n) (Nat.ble n (nat_lit 1000000))))))))
section
variable {CV : T (Option Site)} {σ : Sg}
theorem tokK_some {h : AH} {r : Pp} {k : Nat} {kM : R} {K : Nat → Nat → R} {out : Out} (hk : tokK h r k kM K = some out) : kM = some out ∨ ∃ kd x, K kd x = some out ∧ ∀ (η : Eta) (w : World) (b c : Nat), η r = some (b, c) → HRel Try.prog CV σ η h w →
    ∃ tb to n c' at_ ln num tx, w.cell? ⟨b, 0, none⟩ = some (.slice (some ⟨tb, to, none⟩) n c') ∧ w.cell? ⟨b, 1, none⟩ = some (.int .i64 (at_ : Nat)) ∧ at_ + k < n ∧ n ≤ 1000000 ∧
      (∀ j v, ([.int .i64 (kd : Nat), .int .i64 ln, .string tx, .int .i64 num] : List Value)[j]? = some v → w.cell? ⟨tb, to + (at_ + k) * 4 + j, none⟩ = some v) ∧ enc tx.data.toList = x := by
  obtain ⟨ty, m, t, hrow, g1⟩ := rowC_some hk
  obtain ⟨p0, hp0, g1⟩ := cellK_some g1
  rcases sK_some g1 with ⟨_, g1⟩ | ⟨rt, o, n, ha0, g1⟩
  · cases g1
  obtain ⟨p1, hp1, g1⟩ := cellK_some g1
  obtain ⟨at_, ha1, g1⟩ := i64N_some g1
  cases hb : and (Nat.ble (Nat.succ (Nat.add at_ k)) n) (Nat.ble n 1000000) with
  | false => exact .inl (by rw [hb] at g1; exact g1)
  | true =>
  rw [hb] at g1
  right
  obtain ⟨hb1, hb2⟩ := and_t hb
  have hb1 : at_ + k < n := Nat.le_of_ble_eq_true hb1
  have hb2 := Nat.le_of_ble_eq_true hb2
  obtain ⟨ty2, m2, t2, hrow2, g1⟩ := rowC_some g1
  rw [frc_eq] at g1
  obtain ⟨q0, hq0, g1⟩ := cellK_some g1
  obtain ⟨kd, hc0, g1⟩ := i64N_some g1
  obtain ⟨q1, hq1, g1⟩ := cellK_some g1
  obtain ⟨ln, hc1, g1⟩ := i64K_some g1
  obtain ⟨q2, hq2, g1⟩ := cellK_some g1
  obtain ⟨x, hc2, g1⟩ := tKA_some g1
  obtain ⟨q3, hq3, g1⟩ := cellK_some g1
  obtain ⟨num, hc3, g1⟩ := i64K_some g1
  refine ⟨kd, x, g1, fun η w b c hb hh => ?_⟩
  have R1 := hh.rows r b c hb
  rw [hrow] at R1
  obtain ⟨cs, i, e1, _, _, _, e2⟩ := R1
  obtain ⟨_, v0, f1, d0⟩ := e2.2 p0 (by rw [ha0]; exact fun e => A.noConfusion e)
  rw [ha0] at d0
  rw [hp0] at f1
  obtain ⟨tb, c2, c', o', k1, rfl, _, _, k4⟩ := d0
  have ho : o' = o := by rcases k4 with k4 | ⟨k4, _⟩ <;> omega
  subst ho
  obtain ⟨_, v1, f2, d1⟩ := e2.2 p1 (by rw [ha1]; exact fun e => A.noConfusion e)
  rw [ha1] at d1
  rw [hp1] at f2
  have d1 : v1 = .int .i64 (at_ : Nat) := d1
  subst d1
  have R2 := hh.rows rt tb c2 k1
  rw [hrow2] at R2
  obtain ⟨cs2, i2, y1, _, _, _, y2⟩ := R2
  obtain ⟨_, u0, z0, w0⟩ := y2.2 q0 (by rw [hc0]; exact fun e => A.noConfusion e)
  obtain ⟨_, u1, z1, w1⟩ := y2.2 q1 (by rw [hc1]; exact fun e => A.noConfusion e)
  obtain ⟨_, u2, z2, w2⟩ := y2.2 q2 (by rw [hc2]; exact fun e => A.noConfusion e)
  obtain ⟨_, u3, z3, w3⟩ := y2.2 q3 (by rw [hc3]; exact fun e => A.noConfusion e)
  rw [hc0] at w0; rw [hc1] at w1; rw [hc2] at w2; rw [hc3] at w3
  have w0 : u0 = .int .i64 (kd : Nat) := w0
  have w1 : u1 = .int .i64 (ln.den σ) := w1
  obtain ⟨tx, hx, w2⟩ := w2
  have w3 : u3 = .int .i64 (num.den σ) := w3
  subst w0; subst w1; subst w2; subst w3
  rw [hq0] at z0; rw [hq1] at z1; rw [hq2] at z2; rw [hq3] at z3
  refine ⟨tb, o', n, c', at_, ln.den σ, num.den σ, tx, row_cell e1 f1, row_cell e1 f2, hb1, hb2, fun j v hv => ?_, hx⟩
  match j, hv with
  | 0, hv => cases hv; exact row_cell y1 z0
  | 1, hv => cases hv; exact row_cell y1 z1
  | 2, hv => cases hv; exact row_cell y1 z2
  | 3, hv => cases hv; exact row_cell y1 z3
  | j + 4, hv => simp at hv
/-- a call that only lays new blocks leaves the memory as it was -/
theorem does_of {k : FuncId} {vs : List V} {h : AH} {v : V} (hc : ∀ (η : Eta) (args : List Value) (w : World), DVL σ η vs args → HRel Try.prog CV σ η h w → Calls Try.prog k args.toArray w (Ret fun v' w' => Dv σ η v v' ∧ Ext w w')) : CallDoes Try.prog CV σ k vs h (.inl v) h := by
  intro η args w hd hh
  refine (callsIn_wide.2 (hc η args w hd hh)).mono fun x w' hx => ?_
  obtain ⟨v', rfl, hv, b⟩ := hx
  have keep : ∀ k, k < w.heap.size → w'.heap[k]? = w.heap[k]? := b.block
  refine ⟨η, ⟨v', rfl, hv⟩, hh.same b.size (fun r k c _ he => keep k (hh.bnd r k c he)), ?_⟩
  exact ⟨Eta.le.refl _, Nat.le_refl _, fun _ _ h => h, b.size, fun k hk _ => keep k hk, fun r k c h1 h2 => (by rw [h1] at h2; cases h2), b.os, b.tape, b.output, fun k L hL => ⟨L, by rw [keep k (Array.getElem?_eq_some_iff.1 hL).1]; exact hL⟩⟩
def isF : KF := fun vs h kH kM => arg3 vs (fun p k s => p.aK (fun p => p.pK (fun r o => k.aK (fun k => i64N k (fun k => s.aK (fun s => s.tK (fun s => Bool.rec (motive := fun _ => R) none
  (tokK h r k kM (fun kd x => bol (and (or (Nat.beq kd (nat_lit 3)) (Nat.beq kd (nat_lit 4))) (Nat.beq x s)) (fun v => kH v h))) (Nat.beq o (nat_lit 0)))))))))
def kindF : KF := fun vs h kH kM => arg3 vs (fun p k s => p.aK (fun p => p.pK (fun r o => k.aK (fun k => i64N k (fun k => s.aK (fun s => i64N s (fun s => Bool.rec (motive := fun _ => R) none
  (tokK h r k kM (fun kd x => bol (Nat.beq kd s) (fun v => kH v h))) (Nat.beq o (nat_lit 0)))))))))
def encs : List Nat := signsL.map fun s => enc s.data.toList
def notIn (x : Nat) (l : List Nat) : Bool := List.rec (motive := fun _ => Bool) true (fun y _ ih => and (not (Nat.beq x y)) ih) l
def levelF : KF := fun vs h kH kM => arg1 vs (fun p => p.aK (fun p => p.pK (fun r o => Bool.rec (motive := fun _ => R) none
  (tokK h r (nat_lit 0) kM (fun kd x => Bool.rec (motive := fun _ => R) kM (kH (.t [.a (.i .i64 (.n (nat_lit 0))), .a (.i .i64 (.n (nat_lit 0)))]) h) (notIn x encs))) (Nat.beq o (nat_lit 0)))))
theorem notIn_ok {x : Nat} : ∀ {l : List Nat}, notIn x l = true → ∀ y ∈ l, x ≠ y
  | [], _, y, hy => by cases hy
  | z :: l, h, y, hy => by
    obtain ⟨h1, h2⟩ := and_t (show and (not (Nat.beq x z)) (notIn x l) = true from h)
    rcases List.mem_cons.1 hy with rfl | hy
    · intro e; subst e; rw [Nat.beq_refl] at h1; cases h1
    · exact notIn_ok h2 y hy
theorem isF_ok : KnQ Try.prog CV σ 29 (some isF) := by
  refine ⟨cal29, fun vs h kH kM out hk => ?_⟩
  obtain ⟨p0, k0, s0, rfl, g0⟩ := arg3_some hk
  obtain ⟨p, rfl, g1⟩ := aK_some (v := p0) g0
  obtain ⟨r, o, rfl, g2⟩ := pK_some (a := p) g1
  obtain ⟨k1, rfl, g3⟩ := aK_some (v := k0) g2
  obtain ⟨k, rfl, g4⟩ := i64N_some (a := k1) g3
  obtain ⟨s1, rfl, g5⟩ := aK_some (v := s0) g4
  obtain ⟨s, rfl, g6⟩ := tKA_some (a := s1) g5
  obtain ⟨ho, g⟩ := bif_some g6
  have ho := Nat.eq_of_beq_eq_true ho
  subst ho
  rcases tokK_some (CV := CV) (σ := σ) g with g | ⟨kd, x, g, hr⟩
  · exact .inl g
  rw [bol_eq] at g
  refine .inr ⟨_, h, g, does_of fun η args w hd hh => ?_⟩
  obtain ⟨v1, _, rfl, ⟨b, c, q1, rfl⟩, v2, _, rfl, d2, v3, _, rfl, ⟨s', hs, rfl⟩, d4⟩ := hd
  have d4 : _ = [] := d4
  subst d4
  have d2 : v2 = .int .i64 (k : Nat) := d2
  subst d2
  obtain ⟨tb, to, n, c', at_, ln, num, tx, h1, h2, h3, h4, h5, h6⟩ := hr η w b c q1 hh
  refine (is_spec b tb to n c' at_ k kd ln num tx s' w h1 h2 h3 h4 h5).mono fun e w' he => ?_
  obtain ⟨v, rfl, rfl, hx⟩ := he
  refine ⟨_, rfl, ?_, hx⟩
  show Value.bool _ = Value.bool _
  congr 1
  have e1 : ∀ m : Nat, decide ((kd : Int) = ((m : Nat) : Int)) = Nat.beq kd m := by
    intro m
    cases hb : Nat.beq kd m with
    | true => rw [Nat.eq_of_beq_eq_true hb]; simp
    | false => exact decide_eq_false fun e => by rw [show kd = m by omega, Nat.beq_refl] at hb; cases hb
  have e2 : (tx == s') = Nat.beq x s := by
    have h0 : (tx == s') = (tx.data == s'.data) := rfl
    rw [h0]
    cases hb : Nat.beq x s with
    | true =>
      have hb := Nat.eq_of_beq_eq_true hb
      rw [← h6, ← hs] at hb
      have := enc_inj hb
      have h7 : tx.data = s'.data := Array.toList_inj.1 this
      rw [h7]; simp
    | false =>
      refine beq_false_of_ne fun e => ?_
      rw [← h6, ← hs, e, Nat.beq_refl] at hb
      cases hb
  have e3 : decide ((kd : Int) = 3) = Nat.beq kd 3 := e1 3
  have e4 : decide ((kd : Int) = 4) = Nat.beq kd 4 := e1 4
  rw [e2, e3, e4]
theorem kindF_ok : KnQ Try.prog CV σ 34 (some kindF) := by
  refine ⟨⟨_, Try.func34, by kernel_rfl, by kernel_rfl⟩, fun vs h kH kM out hk => ?_⟩
  obtain ⟨p0, k0, s0, rfl, g0⟩ := arg3_some hk
  obtain ⟨p, rfl, g1⟩ := aK_some (v := p0) g0
  obtain ⟨r, o, rfl, g2⟩ := pK_some (a := p) g1
  obtain ⟨k1, rfl, g3⟩ := aK_some (v := k0) g2
  obtain ⟨k, rfl, g4⟩ := i64N_some (a := k1) g3
  obtain ⟨s1, rfl, g5⟩ := aK_some (v := s0) g4
  obtain ⟨s, rfl, g6⟩ := i64N_some (a := s1) g5
  obtain ⟨ho, g⟩ := bif_some g6
  have ho := Nat.eq_of_beq_eq_true ho
  subst ho
  rcases tokK_some (CV := CV) (σ := σ) g with g | ⟨kd, x, g, hr⟩
  · exact .inl g
  rw [bol_eq] at g
  refine .inr ⟨_, h, g, does_of fun η args w hd hh => ?_⟩
  obtain ⟨v1, _, rfl, ⟨b, c, q1, rfl⟩, v2, _, rfl, d2, v3, _, rfl, d3, d4⟩ := hd
  have d4 : _ = [] := d4
  subst d4
  have d2 : v2 = .int .i64 (k : Nat) := d2
  subst d2
  have d3 : v3 = .int .i64 (s : Nat) := d3
  subst d3
  obtain ⟨tb, to, n, c', at_, ln, num, tx, h1, h2, h3, h4, h5, h6⟩ := hr η w b c q1 hh
  refine (kind_spec b tb to n c' at_ k kd ln num s tx w h1 h2 h3 h4 h5).mono fun e w' he => ?_
  obtain ⟨v, rfl, rfl, hx⟩ := he
  refine ⟨_, rfl, ?_, hx⟩
  show Value.bool _ = Value.bool _
  congr 1
  cases hb : Nat.beq kd s with
  | true => rw [Nat.eq_of_beq_eq_true hb]; simp
  | false => exact decide_eq_false fun e => by rw [show kd = s by omega, Nat.beq_refl] at hb; cases hb
theorem levelF_ok : KnQ Try.prog CV σ 80 (some levelF) := by
  refine ⟨⟨_, Try.func80, by kernel_rfl, by kernel_rfl⟩, fun vs h kH kM out hk => ?_⟩
  obtain ⟨p0, rfl, g0⟩ := arg1_some hk
  obtain ⟨p, rfl, g1⟩ := aK_some (v := p0) g0
  obtain ⟨r, o, rfl, g2⟩ := pK_some (a := p) g1
  obtain ⟨ho, g⟩ := bif_some g2
  have ho := Nat.eq_of_beq_eq_true ho
  subst ho
  rcases tokK_some (CV := CV) (σ := σ) g with g | ⟨kd, x, g, hr⟩
  · exact .inl g
  cases hn : notIn x encs with
  | false => rw [hn] at g; exact .inl g
  | true =>
    rw [hn] at g
    refine .inr ⟨_, h, g, does_of fun η args w hd hh => ?_⟩
    obtain ⟨v1, _, rfl, ⟨b, c, q1, rfl⟩, d4⟩ := hd
    have d4 : _ = [] := d4
    subst d4
    obtain ⟨tb, to, n, c', at_, ln, num, tx, h1, h2, h3, h4, h5, h6⟩ := hr η w b c q1 hh
    refine (level_spec b tb to n c' at_ kd ln num tx w h1 h2 h3 h4 h5 fun sx hs e => ?_).mono fun e w' he => ?_
    · subst e
      exact notIn_ok hn _ (List.mem_map.2 ⟨_, hs, rfl⟩) h6.symm
    · obtain ⟨v, rfl, rfl, hx⟩ := he
      exact ⟨_, rfl, ⟨[.int .i64 0, .int .i64 0], ⟨_, _, rfl, rfl, _, _, rfl, rfl, rfl⟩, rfl⟩, hx⟩
end
end
end Go.Proofs.Ytikafojlhinonaa
