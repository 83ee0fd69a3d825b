/- IrChecks: E13. -/
import Derived.Test.YtbpccmnalhdpmaaJ26
set_option linter.unusedVariables false
namespace Go.Ev
open Go.RowKit Go.Fw
noncomputable section
section
variable {P : Program} {Θ : T (Option TyI)} (hΘ : Θ.All (TyQ P)) {CV : T (Option Site)} {σ : Nat → Int} {Γ : Env} (hΓ : Γ.Ok σ)
variable {fr : T V} {out : Out} {d : Option Nat} {ty : TypeId} {pos : String} {af : Array Edge} {g : Option (Nat × Bool)}
theorem TyI.size_eq {t : Nat} {i j : TyI} (hi : i.Ok P t) (hj : j.Ok P t) : i.z.length = j.z.length := by
  obtain ⟨_, _, ⟨a, a1, _, a3, _⟩, _⟩ := hi
  obtain ⟨_, _, ⟨b, b1, _, b3, _⟩, _⟩ := hj
  rw [a1] at b1
  injection b1 with b1
  subst b1
  rw [← a3, ← b3]
def AH.kill (h : AH) : Option Pp → AH
  | none => h
  | some r => ⟨h.nx, T.set .d .d r h.rows⟩
theorem AH.kill_row (h : AH) (k : Option Pp) (q : Pp) : (h.kill k).row q = if k = some q then .d else h.row q := by
  cases k with
  | none => simp [AH.kill]
  | some r =>
    show (AH.mk h.nx (T.set .d .d r h.rows)).row q = _
    rw [AH.row_set]
    by_cases e : q = r
    · rw [if_pos e, if_pos (by rw [e])]
    · rw [if_neg e, if_neg (fun e' => e (by injection e' with e'; exact e'.symm))]
theorem AH.kill_nx (h : AH) (k : Option Pp) : (h.kill k).nx = h.nx := by cases k <;> rfl
/-- a row that grows: its elder name dies, and a new one stands for what has become of it -/
theorem HRel.grow {η : Eta} {h : AH} {w w' : World} (hr : HRel P CV σ η h w) (kill : Option Pp) {row : Option Nat} (hg : w.grownBy w' row) (hrow : ∀ i, row = some i → ∃ r c, kill = some r ∧ η r = some (i, c) ∧ h.row r ≠ .d) (hkl : ∀ r, kill = some r → h.row r ≠ .d) (hnl : ∀ (i : Nat) (L : Loop), row = some i → w.heap[i]? ≠ some (Obj.loop L))
    {b c : Nat} (hb : row = some b ∨ w.heap.size ≤ b) (hlt : b < w'.heap.size) {R : Row} (hR : RowR P CV σ (η.add h.nx (b, c)) c w'.heap[b]? R) :
    HRel P CV σ (η.add h.nx (b, c)) ⟨h.nx.succ, T.set .d R h.nx (h.kill kill).rows⟩ w' ∧ Stp η h w (η.add h.nx (b, c)) ⟨h.nx.succ, T.set .d R h.nx (h.kill kill).rows⟩ w' := by
  have hle : η.le (η.add h.nx (b, c)) := Eta.le_add (hr.dom _ (Nat.le_refl _))
  have rw' : ∀ q : Pp, (AH.mk h.nx.succ (T.set .d R h.nx (h.kill kill).rows)).row q = if q = h.nx then R else if kill = some q then .d else h.row q := by
    intro q
    rw [AH.row_set (h := h.kill kill), AH.kill_row]
  have old : ∀ k, k < w.heap.size → row ≠ some k → w'.heap[k]? = w.heap[k]? := fun k hk hne => hg.block k hk (fun e => hne e.symm)
  have hkn : ∀ q, kill = some q → q ≠ h.nx := fun q hq e => by rw [e] at hq; exact hkl _ hq (hr.nix _ (Nat.le_refl _))
  have other : ∀ r1 b1 c1, h.row r1 ≠ .d → kill ≠ some r1 → η r1 = some (b1, c1) → row ≠ some b1 := by
    intro r1 b1 c1 h1 h2 h3 e
    obtain ⟨r0, c0, k1, k2, k3⟩ := hrow b1 e
    have := hr.inj r1 r0 b1 c1 c0 h1 k3 h3 k2
    rw [this] at h2
    exact h2 k1
  refine ⟨⟨?_, ?_, ?_, ?_, ?_⟩, ⟨hle, ?_, ?_, hg.size, ?_, ?_, hg.os, hg.tape, hg.output, fun k L hL => ⟨L, by rw [old k (Array.getElem?_eq_some_iff.1 hL).1 (fun e => hnl k L e hL)]; exact hL⟩⟩⟩
  · have one : ∀ r1 b1 c1, (if r1 = h.nx then R else if kill = some r1 then Row.d else h.row r1) ≠ .d → r1 ≠ h.nx → η r1 = some (b1, c1) → b1 ≠ b := by
      intro r1 b1 c1 h1 hne h2 e
      subst e
      rw [if_neg hne] at h1
      by_cases hk : kill = some r1
      · rw [if_pos hk] at h1; exact h1 rfl
      · rw [if_neg hk] at h1
        rcases hb with h3 | h3
        · exact other r1 b1 c1 h1 hk h2 h3
        · have := hr.bnd _ _ _ h2; omega
    intro r1 r2 b1 c1 c2 h1 h2 h3 h4
    rw [rw'] at h1 h2
    unfold Eta.add at h3 h4
    by_cases e1 : r1 = h.nx <;> by_cases e2 : r2 = h.nx
    · rw [e1, e2]
    · rw [if_pos e1] at h3
      rw [if_neg e2] at h4
      injection h3 with h3; injection h3 with h3
      exact absurd h3.symm (one r2 b1 c2 h2 e2 h4)
    · rw [if_neg e1] at h3
      rw [if_pos e2] at h4
      injection h4 with h4; injection h4 with h4
      exact absurd h4.symm (one r1 b1 c1 h1 e1 h3)
    · rw [if_neg e1] at h1 h3
      rw [if_neg e2] at h2 h4
      by_cases k1 : kill = some r1
      · rw [if_pos k1] at h1; exact absurd rfl h1
      · rw [if_neg k1] at h1
        by_cases k2 : kill = some r2
        · rw [if_pos k2] at h2; exact absurd rfl h2
        · rw [if_neg k2] at h2
          exact hr.inj r1 r2 b1 c1 c2 h1 h2 h3 h4
  · intro r1 b1 c1 he
    rw [rw']
    unfold Eta.add at he
    by_cases e1 : r1 = h.nx
    · rw [if_pos e1] at he ⊢
      injection he with he; injection he with he1 he2
      subst he1; subst he2
      exact hR
    · rw [if_neg e1] at he ⊢
      by_cases hk : kill = some r1
      · rw [if_pos hk]; trivial
      · rw [if_neg hk]
        cases hd : h.row r1 with
        | d => trivial
        | _ =>
          rw [old b1 (hr.bnd _ _ _ he) (other r1 b1 c1 (by rw [hd]; exact fun e => Row.noConfusion e) hk he), ← hd]
          exact (hr.rows r1 b1 c1 he).mono hle
  · intro r1 hge
    simp only [Pp.toNat_succ] at hge
    unfold Eta.add
    rw [if_neg (fun e => by rw [e] at hge; omega)]
    exact hr.dom r1 (by omega)
  · intro r1 b1 c1 he
    unfold Eta.add at he
    by_cases e1 : r1 = h.nx
    · rw [if_pos e1] at he; injection he with he; injection he with he1 he2; omega
    · rw [if_neg e1] at he; have := hr.bnd _ _ _ he; have := hg.size; omega
  · intro r1 hge
    simp only [Pp.toNat_succ] at hge
    rw [rw', if_neg (fun e => by rw [e] at hge; omega)]
    split
    · rfl
    · exact hr.nix r1 (by omega)
  · simp only [Pp.toNat_succ]; omega
  · intro r1 hlt hd
    rw [rw', if_neg (fun e => by rw [e] at hlt; omega)]
    split
    · rfl
    · exact hd
  · intro k hk hno
    refine old k hk fun e => ?_
    obtain ⟨r0, c0, k1, k2, k3⟩ := hrow k e
    exact hno r0 c0 k3 k2
  · intro r1 b1 c1 h1 h2
    unfold Eta.add at h2
    by_cases e1 : r1 = h.nx
    · rw [if_pos e1] at h2
      injection h2 with h2; injection h2 with h2
      refine ⟨by rw [e1]; exact Nat.le_refl _, ?_⟩
      rcases hb with h3 | h3
      · obtain ⟨r0, c0, k1, k2, k3⟩ := hrow b h3
        exact .inr ⟨r0, c0, k3, by rw [← h2]; exact k2⟩
      · exact .inl (by omega)
    · rw [if_neg e1, h1] at h2; cases h2
/-- the cells of a slice -/
theorem sliceK_some {h : AH} {a : A} {z : Nat} {K : List A → Nat → R} (hk : sliceK h a z K = some out) : ∃ l m, K l m = some out ∧ l.length = m * z ∧ ∀ η v w, Da σ η a v → HRel P CV σ η h w → ∃ A' c' ys, v = .slice A' m c' ∧ Sl w w.heap.size z A' m ys ∧ DL σ η l ys := by
  rcases sK_some hk with ⟨rfl, g1⟩ | ⟨r, o, n, rfl, g1⟩
  · exact ⟨[], 0, g1, by simp, fun η v w hd _ => ⟨none, 0, [], hd, Sl.nil, rfl⟩⟩
  · obtain ⟨tt, c, t, hrow, g2⟩ := rowC_some g1
    obtain ⟨l, g3, g4, g5⟩ := kcellsK_some g2
    refine ⟨l, n, g5, g3, fun η v w hd hh => ?_⟩
    obtain ⟨b, c1, c', h1, h2, h3, h4⟩ := hd
    have hR := hh.rows r b c1 h1
    rw [hrow] at hR
    obtain ⟨cs, j, r1, r2, r3, r4, r5⟩ := hR
    obtain ⟨vs, d1, d2⟩ := r5.at g4
    exact ⟨_, _, vs, h2, ⟨by rw [d1.len, g3]; rfl, fun _ => ⟨b, o, rfl, hh.bnd r b c1 h1, fun i v hv => Blk.cell (show Blk w b tt cs from r1) (d2 i v hv)⟩⟩, d1⟩
theorem run_append_zero {t e : TypeId} {i : TypeInfo} (ht : P.underlying t = some (.slice e)) (hi : P.info? e = some i) (w : World) (A A' : Option Addr) (n c c' : Nat) (hnc : n ≤ c) : (Builtin.append_ #[t, t] ty #[.slice A n c, .slice A' 0 c']).run P w = .ok (.slice A n c) w := by
  cases A' <;> cases A <;> simp [Builtin.append_, run_underlying ht, sizeOf, typeInfo, hi, Builtin.lenOf, Builtin.firstCells, hnc, storeCells, loadCells, loadCellsFrom]
/-- the first cells of a row, and a trie that speaks of them -/
def Fst (σ : Nat → Int) (η : Eta) (N : Nat) (t : T A) (xs : List Value) : Prop := ∀ p : Pp, t.get .u p ≠ .u → p.toNat < N ∧ ∃ v, xs[p.toNat]? = some v ∧ Da σ η (t.get .u p) v
theorem baseK_some {h : AH} {e z : Nat} {a : A} {j : TyI} {K : Nat → T A → AH → R} (hj : j.Ok P e) (hz : z = j.z.length) (hk : baseK h e z a K = some out) :
    ∃ n t0 kill, K n t0 (h.kill kill) = some out ∧ (∀ r, kill = some r → h.row r ≠ .d) ∧ ∀ η v w, Da σ η a v → HRel P CV σ η h w →
      ∃ A' c xs, v = .slice A' n c ∧ Own w 0 e z A' n c xs ∧ Fst σ η (n * z) t0 xs ∧ ∀ i, rowOf A' = some i → ∃ r c, kill = some r ∧ η r = some (i, c) ∧ h.row r ≠ .d := by
  rcases sK_some hk with ⟨rfl, g1⟩ | ⟨r, o, n, rfl, g1⟩
  · exact ⟨0, .e, none, g1, fun r e => (by cases e), fun η v w hd _ => ⟨none, 0, [], hd, Own.nil w 0 e z, fun p hp => absurd (T.get_e _ p) hp, fun i e => (by cases e)⟩⟩
  · obtain ⟨tt, c, t, hrow, g2⟩ := rowC_some g1
    obtain ⟨g3, g4⟩ := bif_some g2
    obtain ⟨g5, g6⟩ := and_t g3
    have g5 := Nat.eq_of_beq_eq_true g5
    have g6 := Nat.eq_of_beq_eq_true g6
    subst g5; subst g6
    rw [putH_eq] at g4
    have hlive : h.row r ≠ .d := by rw [hrow]; exact fun e => Row.noConfusion e
    have own : ∀ η v w, Da σ η (.s r 0 n) v → HRel P CV σ η h w → ∃ b c1 cs, v = .slice (some ⟨b, 0, none⟩) n c1 ∧ η r = some (b, c1) ∧ Own w 0 e z (some ⟨b, 0, none⟩) n c1 (cs.toList.take (n * z)) ∧ CellsR σ η c t cs ∧ n * z ≤ cs.size := by
      intro η v w hd hh
      obtain ⟨b, c1, c', h1, h2, h3, h4⟩ := hd
      have h4 := h4 rfl
      subst h4
      have hR := hh.rows r b c' h1
      rw [hrow] at hR
      obtain ⟨cs, i, r1, r2, r3, r4, r5⟩ := hR
      rw [TyI.size_eq r2 hj, ← hz] at r3
      have hle : n * z ≤ cs.size := by rw [r3]; exact Nat.mul_le_mul_right z h3
      exact ⟨b, c', cs, h2, h1, ⟨by rw [List.length_take]; simp; omega, .inr ⟨b, c', cs, rfl, Nat.zero_le _, r1, h3, r4, r3, rfl⟩⟩, r5, hle⟩
    have g4' : Bool.rec (motive := fun _ => R) (kcellsK t (Nat.mul n z) 0 (fun old => Ev.putK old .e 0 (fun t0 => K n t0 (h.kill (some r))))) (K n t (h.kill (some r))) (Nat.beq c (Nat.mul n z)) = some out := g4
    cases hb : Nat.beq c (Nat.mul n z) with
    | true =>
      rw [hb] at g4'
      have hc : c = n * z := Nat.eq_of_beq_eq_true hb
      exact ⟨n, t, some r, g4', fun r' e => by injection e with e; rw [← e]; exact hlive, fun η v w hd hh => by
        obtain ⟨b, c1, cs, o1, o2, o3, o4, o5⟩ := own η v w hd hh
        refine ⟨_, _, _, o1, o3, fun p hp => ?_, fun i e => ?_⟩
        · obtain ⟨q1, v, q2, q3⟩ := o4.2 p hp
          refine ⟨by omega, v, ?_, q3⟩
          rw [List.getElem?_take_of_lt (by omega)]
          simpa using q2
        · simp only [rowOf, Option.map_some, Option.some.injEq] at e
          exact ⟨r, c1, rfl, by rw [← e]; exact o2, hlive⟩⟩
    | false =>
      rw [hb] at g4'
      obtain ⟨l, q1, q2, q3⟩ := kcellsK_some g4'
      obtain ⟨t0, q4, q5⟩ := put_fresh q3
      exact ⟨n, t0, some r, q4, fun r' e => by injection e with e; rw [← e]; exact hlive, fun η v w hd hh => by
        obtain ⟨b, c1, cs, o1, o2, o3, o4, o5⟩ := own η v w hd hh
        refine ⟨_, _, _, o1, o3, fun p hp => ?_, fun i e => ?_⟩
        · obtain ⟨s1, s2⟩ := q5 p hp
          have q1 : l.length = n * z := q1
          obtain ⟨vs, d1, d2⟩ := o4.at q2
          have h3 : l[p.toNat]? = some (l.getD p.toNat .u) := by simp [List.getElem?_eq_getElem s1]
          obtain ⟨v, s3, s4⟩ := d1.get h3
          refine ⟨by omega, v, ?_, by rw [s2]; exact s4⟩
          rw [List.getElem?_take_of_lt (by omega)]
          have := d2 _ v s3
          simpa using this
        · simp only [rowOf, Option.map_some, Option.some.injEq] at e
          exact ⟨r, c1, rfl, by rw [← e]; exact o2, hlive⟩⟩
theorem cdAp {t e : TypeId} {x y : Operand} {x' y' : X} {j : TyI} {c : Call} {h : AH} {K : V → AH → R} (hc : c.callee = .builtin .append) (hxs : c.args = #[x, y]) (hts : c.argTypes = #[t, t]) (ht : P.underlying t = some (.slice e)) (hj : j.Ok P e) (h0 : 0 < j.z.length) (hx : cvX x = some x') (hy : cvX y = some y')
    (hk : cAp e j.z.length j.b x' y' Γ fr h K = some out) : ∃ v h', K v h' = some out ∧ CDoes P CV σ fr h ⟨d, .call c, ty, pos, af, g⟩ v h' := by
  obtain ⟨c1, c2, c3⟩ := c
  simp only at hc hxs hts
  subst hc; subst hxs; subst hts
  obtain ⟨a, ha, g1⟩ := aK_some hk
  obtain ⟨b, hb, g2⟩ := aK_some g1
  obtain ⟨l, m, g3, g4, g5⟩ := sliceK_some (P := P) (CV := CV) (σ := σ) g2
  have hj' := hj
  obtain ⟨hu, zv, ⟨tj, tj1, tj2, tj3, tj4⟩, hz, _⟩ := hj
  have g3' : Bool.rec (motive := fun _ => R) (baseK h e j.z.length a (fun n t0 h1 => Bool.rec (motive := fun _ => R) none (frc (Nat.add n m) (fun q => frc (Nat.mul q j.z.length) (fun c => Ev.putK l t0 (Nat.mul n j.z.length) (fun t' => h1.newK (.c e c t') (fun r' h' => K (.a (.s r' 0 q)) h'))))) (Nat.ble (Nat.mul (Nat.add n m) (Nat.succ j.b)) 140737488355328)))
      (a.sK (K (.a a) h) (fun _ _ _ => K (.a a) h)) (Nat.beq m 0) = some out := g3
  cases hm : Nat.beq m 0 with
  | true =>
    rw [hm] at g3'
    have hm : m = 0 := Nat.eq_of_beq_eq_true hm
    subst hm
    have hKa : K (.a a) h = some out := by
      rcases sK_some g3' with ⟨_, q⟩ | ⟨_, _, _, _, q⟩ <;> exact q
    refine ⟨_, _, hKa, fun η f w hX hh => ?_⟩
    have dx := hX.get (x := x) (by simp [Op.operands, Call.operands]) hx
    have dy := hX.get (x := y) (by simp [Op.operands, Call.operands]) hy
    rw [ha] at dx
    rw [hb] at dy
    obtain ⟨A', c', ys, e1, _, _⟩ := g5 η _ w dy hh
    have hsl : ∃ A n c, ev f x = .slice A n c ∧ n ≤ c := by
      rcases sK_some g3' with ⟨rfl, _⟩ | ⟨r, o, n, rfl, _⟩
      · exact ⟨none, 0, 0, dx, Nat.le_refl _⟩
      · obtain ⟨b, c1, c2, _, q2, q3, _⟩ := dx; exact ⟨_, _, _, q2, q3⟩
    obtain ⟨A, n, cc, e2, e3⟩ := hsl
    refine ⟨w, η, .inl ⟨ev f x, ?_, dx⟩, hh, Stp.refl η h w⟩
    have := run_append_zero (P := P) (ty := ty) ht tj1 w A A' n cc c' e3
    simp [execOp, resolve, invoke, builtin, e1, e2, this]
  | false =>
    rw [hm] at g3'
    obtain ⟨n, t0, kill, g6, g7, g8⟩ := baseK_some (P := P) (CV := CV) (σ := σ) hj' rfl g3'
    obtain ⟨g9, g10⟩ := bif_some g6
    have g9 : (n + m) * (j.b + 1) ≤ 140737488355328 := Nat.le_of_ble_eq_true g9
    have g9a : (n + m) * j.b + (n + m) ≤ 140737488355328 := by rw [Nat.mul_add, Nat.mul_one] at g9; exact g9
    rw [frc_eq, frc_eq] at g10
    obtain ⟨t', g11, g12⟩ := putK_some g10
    rw [newK_eq] at g11
    refine ⟨_, _, g11, fun η f w hX hh => ?_⟩
    have dx := hX.get (x := x) (by simp [Op.operands, Call.operands]) hx
    have dy := hX.get (x := y) (by simp [Op.operands, Call.operands]) hy
    rw [ha] at dx
    rw [hb] at dy
    obtain ⟨A', c', ys, e1, e2, e3⟩ := g5 η _ w dy hh
    obtain ⟨A1, cc, xs, e4, e5, e6, e7⟩ := g8 η _ w dx hh
    have hzl : zv.cells.size = j.z.length := by have := (hz σ η).len; simpa using this
    obtain ⟨v, w', q1, A2, c2, q2, q3, q4, q5⟩ := aAppend (P := P) (w := w) (ρ := ev f) (d := d) (ty := ty) (pos := pos) (af := af) (g := g) (s := x) (x := y) (z := zv) 0 (n + m) ht ⟨tj, tj1, tj2, tj3, tj4⟩ hzl h0 e4 e1 e5 e2 e3.one (Nat.zero_le _) (by omega) (by omega) rfl
    have hm' : m ≠ 0 := fun e => by rw [e] at hm; cases hm
    rcases q3.blk with ⟨_, q6, _⟩ | ⟨gb, cur, q6, _, q7, q8, q9, q10, q11⟩
    · omega
    · subst q6
      subst q2
      have hrowA2 : rowOf (some (⟨gb, 0, none⟩ : Addr)) = some gb := rfl
      rw [hrowA2] at q5
      have hgrow := hh.grow (c := c2) kill q4 e7 g7 (fun i L hi hL => by
        rcases e5.blk with ⟨z1, _⟩ | ⟨gi, ci, z1, _, z3, _⟩
        · rw [z1] at hi; cases hi
        · rw [z1] at hi
          injection hi with hi
          subst hi
          rw [show w.heap[gi]? = _ from z3] at hL; cases hL) (b := gb) (by
        rcases q5 with q5 | q5
        · exact .inl q5.symm
        · injection q5 with q5; exact .inr (by omega)) q7.lt (R := .c e (Nat.mul (Nat.add n m) j.z.length) t')
        ⟨cur, j, q7, hj', q10, q9, by
          refine ⟨?_, fun p hp => ?_⟩
          · show (n + m) * j.z.length ≤ cur.size
            rw [q10]; exact Nat.mul_le_mul_right _ q8
          · have hle : η.le (η.add h.nx (gb, c2)) := Eta.le_add (hh.dom _ (Nat.le_refl _))
            have hxl := e5.len
            have hyl := e3.len
            have hcur : ∀ (k : Nat) (v : Value), (xs ++ ys)[k]? = some v → cur[k]? = some v := by
              intro k v hv
              rw [← q11] at hv
              rw [List.getElem?_take] at hv
              split at hv
              · simpa using hv
              · cases hv
            have hmul : Nat.mul n j.z.length = n * j.z.length := rfl
            have hmul2 : Nat.mul (Nat.add n m) j.z.length = n * j.z.length + m * j.z.length := Nat.add_mul n m _
            rw [g12 p, hmul] at hp ⊢
            rw [hmul2]
            by_cases c1 : n * j.z.length ≤ p.toNat ∧ p.toNat < n * j.z.length + l.length
            · rw [if_pos c1] at hp ⊢
              have h3 : l[p.toNat - n * j.z.length]? = some (l.getD (p.toNat - n * j.z.length) .u) := by simp [List.getElem?_eq_getElem (show p.toNat - n * j.z.length < l.length by omega)]
              obtain ⟨v, s3, s4⟩ := e3.get h3
              refine ⟨by omega, v, hcur _ v ?_, s4.mono hle⟩
              rw [List.getElem?_append_right (by omega), hxl]
              exact s3
            · rw [if_neg c1] at hp ⊢
              obtain ⟨s1, v, s2, s3⟩ := e6 p hp
              refine ⟨by omega, v, hcur _ v ?_, s3.mono hle⟩
              rw [List.getElem?_append_left (by omega)]
              exact s2⟩
      have hnx : (h.kill kill).nx = h.nx := AH.kill_nx h kill
      rw [hnx]
      refine ⟨w', _, .inl ⟨_, q1, gb, c2, c2, by simp [Eta.add], rfl, q8, fun _ => rfl⟩, hgrow.1, hgrow.2⟩
include hΘ hΓ in
theorem sC (o : Oper) (op : OC) (h : AH) (K : V → AH → R) (hc : cvCh Θ o.op = some op) (hk : exC op Γ fr h K = some out) : ∃ v h', K v h' = some out ∧ CDoes P CV σ fr h o v h' := by
  obtain ⟨d, p, ty, pos, af, g⟩ := o
  simp only at hc
  cases p
  case store t x y =>
    obtain ⟨i, hi, hc⟩ := Option.bind_eq_some_iff.1 hc
    obtain ⟨x', hx, hc⟩ := Option.bind_eq_some_iff.1 hc
    obtain ⟨y', hy, rfl⟩ := Option.map_eq_some_iff.1 hc
    exact cdSt (Γ := Γ) (tyOf_ok hΘ hi) hx hy hk
  case mapUpdate t m k v =>
    obtain ⟨i, hi, hc⟩ := Option.bind_eq_some_iff.1 hc
    have hu := (tyOf_ok hΘ hi).1
    cases hD : i.D
    case map kt et =>
      rw [hD] at hc hu
      obtain ⟨ik, hik, hc⟩ := Option.bind_eq_some_iff.1 hc
      obtain ⟨ks, hks, hc⟩ := Option.bind_eq_some_iff.1 hc
      obtain ⟨m', hm, hc⟩ := Option.bind_eq_some_iff.1 hc
      obtain ⟨k', hk', hc⟩ := Option.bind_eq_some_iff.1 hc
      obtain ⟨v', hv, rfl⟩ := Option.map_eq_some_iff.1 hc
      exact cdMu hΘ hΓ hu hik hks hm hk' hv hk
    all_goals (rw [hD] at hc; cases hc)
  case call c =>
    unfold cvCh at hc
    simp only at hc
    split at hc
    · rename_i x y t t' hcal hxs hts
      obtain ⟨i, hi, hc⟩ := Option.bind_eq_some_iff.1 hc
      have hu := (tyOf_ok hΘ hi).1
      cases hD : i.D
      case slice e =>
        rw [hD] at hc hu
        obtain ⟨j, hj, hc⟩ := Option.bind_eq_some_iff.1 hc
        cases hb : and (Nat.beq t t') (Nat.ble 1 j.z.length) with
        | false => simp only [hb] at hc; cases hc
        | true =>
          simp only [hb, cond_true] at hc
          obtain ⟨x', hx, hc⟩ := Option.bind_eq_some_iff.1 hc
          obtain ⟨y', hy, rfl⟩ := Option.map_eq_some_iff.1 hc
          obtain ⟨b1, b2⟩ := and_t hb
          have b1 := Nat.eq_of_beq_eq_true b1
          subst b1
          exact cdAp (Γ := Γ) hcal (arr2 hxs) (arr2 hts) hu (tyOf_ok hΘ hj) (Nat.le_of_ble_eq_true b2) hx hy hk
      all_goals (rw [hD] at hc; cases hc)
    · cases hc
  all_goals cases hc
end
end
end Go.Ev

