/- IrChecks: E25. -/
import Derived.Test.YtbpccmnalhdpmaaJ38
set_option linter.unusedVariables false
namespace Go.Ev
open Go.RowKit Go.Fw
noncomputable section
def cvPps (N : Nat) : List Nat → Option (List Pp)
  | [] => some []
  | t :: l => (cvD N (some t)).bind fun q => q.bind fun p => (cvPps N l).map (p :: ·)
def cvC (Θ : T (Option TyI)) (N : Nat) : Code → RC → Option RC
  | .skip, _ => some .skip
  | .region _ ops false, _ => (cvIs Θ N ops ops.toList).map .reg
  | .region _ ops true, .drw l => (cvDr Θ N ops l).map .drw
  | .seq a b, .seq a' b' => (cvC Θ N a a').bind fun x => (cvC Θ N b b').map fun y => .seq x y
  | .cond x a b, .cond _ a' b' => (cvX x).bind fun x' => (cvC Θ N a a').bind fun y => (cvC Θ N b b').map fun z => .cond x' y z
  | .block i c, .blk _ c' => (cvC Θ N c c').map fun x => .blk i x
  | .loop c, .loop c' => (cvC Θ N c c').map .loop
  | .exit i, _ => some (.ex i)
  | .ret, _ => some .rt
  | .rangeFunc g ps a b, .rf _ _ id => (cvX g).bind fun x => (cvPps N ps.toList).map fun qs => .rf x qs id
  | _, _ => none
/-- the sites that a piece of code names, and their code -/
def obs (N : Nat) : Code → RC → List (Pp × Nat × Code × Code)
  | .seq a b, .seq a' b' => obs N a a' ++ obs N b b'
  | .cond _ a b, .cond _ a' b' => obs N a a' ++ obs N b b'
  | .block _ c, .blk _ c' => obs N c c'
  | .loop c, .loop c' => obs N c c'
  | .rangeFunc _ _ a b, .rf _ _ id => [(id, N, a, b)]
  | _, _ => []
def SiteIs (S : T (Option Site)) (o : Pp × Nat × Code × Code) : Prop := ∃ s, S.get none o.1 = some s ∧ s.N = o.2.1 ∧ s.ca = o.2.2.1 ∧ s.cb = o.2.2.2
def CVr (Θ : T (Option TyI)) (S : T (Option Site)) (N : Nat) (c : Code) (rc : RC) : Prop := cvC Θ N c rc = some rc ∧ ∀ o ∈ obs N c rc, SiteIs S o
section
variable {P : Program} {Θ : T (Option TyI)} {CV : T (Option Site)} {σ : Nat → Int}
theorem CQ.trans {N base : Nat} {η η1 : Eta} {h h1 : AH} {w w1 : World} {e : E} {fr' : T V} {h' : AH} {x : Exit} {a' : Act} {w' : World} (hh : HRel P CV σ η h w) (s : Stp η h w η1 h1 w1) (q : CQ P CV σ N base η1 h1 w1 e fr' h' x a' w') : CQ P CV σ N base η h w e fr' h' x a' w' := by
  obtain ⟨q1, η', q2, q3, q4, q5, q6⟩ := q
  exact ⟨q1, η', q2, q3, q4, q5, Stp.trans hh.dom s q6⟩
theorem then_of {N base : Nat} {η : Eta} {h : AH} {w : World} {e : E} {f1 : T V} {h1 : AH} {K : Act → World → Prop} {Q : Exit → Act → World → Prop}
    (hn : e = .nrm → ∀ a' w', CQ P CV σ N base η h w e f1 h1 .normal a' w' → K a' w') (ho : e ≠ .nrm → ∀ a' w', CQ P CV σ N base η h w e f1 h1 e.exit a' w' → Q e.exit a' w') :
    ∀ x a' w', CQ P CV σ N base η h w e f1 h1 x a' w' → Exit.then K Q x a' w' := by
  intro x a' w' q
  have hx : x = e.exit := q.1
  subst hx
  cases e with
  | nrm => exact hn rfl a' w' q
  | ex i => exact ho (fun e => by cases e) a' w' q
  | rt => exact ho (fun e => by cases e) a' w' q
/-- the rounds of a loop -/
def RoundsDoes (P : Program) (CV : T (Option Site)) (σ : Nat → Int) (N : Nat) (c : Code) (m : Nat) (fr : T V) (h : AH) (e : E) (fr' : T V) (h' : AH) : Prop :=
  ∀ (η0 η : Eta) (h0 : AH) (w0 : World) (a : Act) (w : World) (F : Fence) (base : Nat), HRel P CV σ η0 h0 w0 → Stp η0 h0 w0 η h w → Fok F w → HRel P CV σ η h w → FrR σ η fr a.tmps → a.tmps.size = N → DfR base w a.defers → base ≤ w.heap.size →
    Code.roundsIn F 0 P c (CQ P CV σ N base η0 h0 w0 e fr' h') m a w
def Good (P : Program) (Θ : T (Option TyI)) (CV : T (Option Site)) (σ : Nat → Int) (rn : Rn) : Prop :=
  ∀ c fr h k out, rn c fr h k = some out → ∀ N c', CVr Θ CV N c' c → ∃ e fr' h', k e fr' h' = some out ∧ CodeDoes P CV σ N c' fr h e fr' h' ∧
    ∀ body cb, c = .loop body → c' = .loop cb → e ≠ .nrm ∧ ∃ m, RoundsDoes P CV σ N cb m fr h e fr' h'
theorem map_inv {α β : Type} {f : α → β} {o : Option α} {b : β} (h : o.map f = some b) : ∃ a, o = some a ∧ f a = b := Option.map_eq_some_iff.1 h
variable {rn : Rn} (hg : Good P Θ CV σ rn)
include hg in
theorem gSeq {a b : RC} {fr : T V} {h : AH} {k : KE} {out : Out} (hk : rn a fr h (fun e f h => isN e (rn b f h k) (k e f h)) = some out) (N : Nat) (c' : Code) (hc : CVr Θ CV N c' (.seq a b)) :
    ∃ e fr' h', k e fr' h' = some out ∧ CodeDoes P CV σ N c' fr h e fr' h' := by
  have inv : ∃ x y, c' = .seq x y ∧ CVr Θ CV N x a ∧ CVr Θ CV N y b := by
    obtain ⟨hc, hob⟩ := hc
    cases c' with
    | seq x y =>
      obtain ⟨x', q1, q2⟩ := Option.bind_eq_some_iff.1 (show ((cvC Θ N x a).bind fun x => (cvC Θ N y b).map fun y => RC.seq x y) = some (.seq a b) from hc)
      obtain ⟨y', q3, q4⟩ := map_inv q2
      cases q4
      exact ⟨x, y, rfl, ⟨q1, fun o ho => hob o (List.mem_append_left _ ho)⟩, ⟨q3, fun o ho => hob o (List.mem_append_right _ ho)⟩⟩
    | region i ops d => cases d <;> simp [cvC] at hc
    | _ => simp [cvC] at hc
  obtain ⟨x, y, rfl, q1, q2⟩ := inv
  obtain ⟨e1, f1, h1, g1, g2, _⟩ := hg _ _ _ _ _ hk N x q1
  rcases isN_some g1 with ⟨rfl, g3⟩ | ⟨hne, g3⟩
  · obtain ⟨e2, f2, h2, g4, g5, _⟩ := hg _ _ _ _ _ g3 N y q2
    refine ⟨e2, f2, h2, g4, fun η ac w F base hF hh hfr hN hdf hb => ?_⟩
    refine wpIn_seq (wpIn_mono (g2 η ac w F base hF hh hfr hN hdf hb) (then_of (fun _ a' w' q => ?_) (fun e => absurd rfl e)))
    obtain ⟨_, η1, r1, r2, r3, r4, r5⟩ := q
    exact wpIn_mono (g5 η1 a' w' F base (hF.step r5) r1 r2 r3 r4 (by have := r5.size; omega)) fun x a'' w'' q' => q'.trans hh r5
  · exact ⟨e1, f1, h1, g3, fun η ac w F base hF hh hfr hN hdf hb => wpIn_seq (wpIn_mono (g2 η ac w F base hF hh hfr hN hdf hb) (then_of (fun e => absurd e hne) (fun _ a' w' q => q)))⟩
include hg in
theorem gCond {x : X} {a b : RC} {fr : T V} {h : AH} {k : KE} {out : Out} (hk : (rdX fr x).aK (fun v => v.bK (fun t => Bool.rec (motive := fun _ => R) (rn b fr h k) (rn a fr h k) t)) = some out) (N : Nat) (c' : Code) (hc : CVr Θ CV N c' (.cond x a b)) :
    ∃ e fr' h', k e fr' h' = some out ∧ CodeDoes P CV σ N c' fr h e fr' h' := by
  obtain ⟨q, hq, g1⟩ := aK_some hk
  obtain ⟨t, rfl, g2⟩ := bK_some g1
  have inv : ∃ o y z, c' = .cond o y z ∧ cvX o = some x ∧ CVr Θ CV N y a ∧ CVr Θ CV N z b := by
    obtain ⟨hc, hob⟩ := hc
    cases c' with
    | cond o y z =>
      obtain ⟨x', q1, q2⟩ := Option.bind_eq_some_iff.1 (show ((cvX o).bind fun x' => (cvC Θ N y a).bind fun y => (cvC Θ N z b).map fun z => RC.cond x' y z) = some (.cond x a b) from hc)
      obtain ⟨y', q3, q4⟩ := Option.bind_eq_some_iff.1 q2
      obtain ⟨z', q5, q6⟩ := map_inv q4
      cases q6
      exact ⟨o, y, z, rfl, q1, ⟨q3, fun o ho => hob o (List.mem_append_left _ ho)⟩, ⟨q5, fun o ho => hob o (List.mem_append_right _ ho)⟩⟩
    | region i ops d => cases d <;> simp [cvC] at hc
    | _ => simp [cvC] at hc
  obtain ⟨o, y, z, rfl, q1, q2, q3⟩ := inv
  have cnd : ∀ {η : Eta} {ac : Act}, FrR σ η fr ac.tmps → ac.eval o = .bool t := by
    intro η ac hfr
    rw [eval_eq]
    have := (hfr.xr [o]).get (by simp) q1
    rw [hq] at this
    exact this
  cases t with
  | true =>
    obtain ⟨e, f1, h1, g3, g4, _⟩ := hg _ _ _ _ _ g2 N y q2
    exact ⟨e, f1, h1, g3, fun η ac w F base hF hh hfr hN hdf hb => wpIn_cond_true (cnd hfr) (g4 η ac w F base hF hh hfr hN hdf hb)⟩
  | false =>
    obtain ⟨e, f1, h1, g3, g4, _⟩ := hg _ _ _ _ _ g2 N z q3
    exact ⟨e, f1, h1, g3, fun η ac w F base hF hh hfr hN hdf hb => wpIn_cond_false (cnd hfr) (g4 η ac w F base hF hh hfr hN hdf hb)⟩
include hg in
theorem gBlk {i : Nat} {c : RC} {fr : T V} {h : AH} {k : KE} {out : Out} (hk : rn c fr h (fun e f h => outOf i e f h k) = some out) (N : Nat) (c' : Code) (hc : CVr Θ CV N c' (.blk i c)) :
    ∃ e fr' h', k e fr' h' = some out ∧ CodeDoes P CV σ N c' fr h e fr' h' := by
  have inv : ∃ y, c' = .block i y ∧ CVr Θ CV N y c := by
    obtain ⟨hc, hob⟩ := hc
    cases c' with
    | block j y =>
      obtain ⟨y', q1, q2⟩ := map_inv (show ((cvC Θ N y c).map fun x => RC.blk j x) = some (.blk i c) from hc)
      cases q2
      exact ⟨y, rfl, q1, hob⟩
    | region i ops d => cases d <;> simp [cvC] at hc
    | _ => simp [cvC] at hc
  obtain ⟨y, rfl, q1⟩ := inv
  obtain ⟨e1, f1, h1, g1, g2, _⟩ := hg _ _ _ _ _ hk N y q1
  have fin : ∃ e, k e f1 h1 = some out ∧ ∀ N base η h w, ∀ x a' w', CQ P CV σ N base η h w e1 f1 h1 x a' w' → Exit.inBlock i (CQ P CV σ N base η h w e f1 h1) x a' w' := by
    cases e1 with
    | nrm => exact ⟨.nrm, g1, fun N base η h w x a' w' q => by obtain ⟨rfl, q⟩ := q; exact ⟨rfl, q⟩⟩
    | rt => exact ⟨.rt, g1, fun N base η h w x a' w' q => by obtain ⟨rfl, q⟩ := q; exact ⟨rfl, q⟩⟩
    | ex j =>
      have g1' : Bool.rec (motive := fun _ => R) (k (.ex j) f1 h1) (k .nrm f1 h1) (Nat.beq j i) = some out := g1
      cases hb : Nat.beq j i with
      | true =>
        rw [hb] at g1'
        have hb := Nat.eq_of_beq_eq_true hb
        subst hb
        refine ⟨.nrm, g1', fun N base η h w x a' w' q => ?_⟩
        obtain ⟨rfl, q⟩ := q
        show Exit.inBlock j _ (.exit j) a' w'
        simp only [Exit.inBlock, if_true]
        exact ⟨rfl, q⟩
      | false =>
        rw [hb] at g1'
        have hne : j ≠ i := fun e => by rw [e, Nat.beq_refl] at hb; cases hb
        refine ⟨.ex j, g1', fun N base η h w x a' w' q => ?_⟩
        obtain ⟨rfl, q⟩ := q
        show Exit.inBlock i _ (.exit j) a' w'
        simp only [Exit.inBlock, if_neg hne]
        exact ⟨rfl, q⟩
  obtain ⟨e, k1, k2⟩ := fin
  exact ⟨e, f1, h1, k1, fun η ac w F base hF hh hfr hN hdf hb => wpIn_block (wpIn_mono (g2 η ac w F base hF hh hfr hN hdf hb) (k2 N base η h w))⟩
include hg in
theorem gLoop {c : RC} {fr : T V} {h : AH} {k : KE} {out : Out} (hk : rn c fr h (fun e f h => isN e (rn (.loop c) f h k) (k e f h)) = some out) (N : Nat) (cb : Code) (hc : CVr Θ CV N cb c) (hl : CVr Θ CV N (.loop cb) (.loop c)) :
    ∃ e fr' h', k e fr' h' = some out ∧ e ≠ .nrm ∧ ∃ m, RoundsDoes P CV σ N cb m fr h e fr' h' := by
  obtain ⟨e1, f1, h1, g1, g2, _⟩ := hg _ _ _ _ _ hk N cb hc
  rcases isN_some g1 with ⟨rfl, g3⟩ | ⟨hne, g3⟩
  · obtain ⟨e2, f2, h2, g4, _, g5⟩ := hg _ _ _ _ _ g3 N (.loop cb) hl
    obtain ⟨g6, m, g8⟩ := g5 c cb rfl rfl
    refine ⟨e2, f2, h2, g4, g6, m + 1, fun η0 η h0 w0 ac w F base hh0 hs0 hF hh hfr hN hdf hb => ?_⟩
    rw [roundsIn_succ]
    refine wpIn_mono (g2 η ac w F base hF hh hfr hN hdf hb) (then_of (fun _ a' w' q => ?_) (fun e => absurd rfl e))
    obtain ⟨_, η1, r1, r2, r3, r4, r5⟩ := q
    exact g8 η0 η1 h0 w0 a' w' F base hh0 (Stp.trans hh0.dom hs0 r5) (hF.step r5) r1 r2 r3 r4 (by have := r5.size; omega)
  · refine ⟨e1, f1, h1, g3, hne, 1, fun η0 η h0 w0 ac w F base hh0 hs0 hF hh hfr hN hdf hb => ?_⟩
    rw [roundsIn_succ]
    exact wpIn_mono (g2 η ac w F base hF hh hfr hN hdf hb) (then_of (fun e => absurd e hne) (fun _ a' w' q => q.trans hh0 hs0))
end
end
end Go.Ev

