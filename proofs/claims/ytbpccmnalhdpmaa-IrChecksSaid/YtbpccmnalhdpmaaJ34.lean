/- IrChecks: E20. -/
import Derived.Test.YtbpccmnalhdpmaaJ33
set_option linter.unusedVariables false
namespace Go.Ev
open Go.RowKit Go.Fw
noncomputable section
section
variable {P : Program} {CV : T (Option Site)} {σ : Nat → Int} {N : Nat} {ops : Array Oper} {n : Nat} {rc : Nat → Rec} {hA : Nat → AH} {fA : Nat → T V}
variable (tk : TrOk P CV σ N ops n rc hA fA) {η0 : Eta} {w0 : World} {F : Fence} {base : Nat} {L : Array Bool} {a : Act} {w : World} {η : Eta} {m : Nat}
theorem Inv.putN (I : Inv P CV σ N n rc hA fA η0 w0 F base L a w η m) {k : Nat} (hk : k < n) (v' : Value) : (a.put (rc k).o.dst v').tmps.size = N ∧ (a.put (rc k).o.dst v').defers = a.defers := by
  cases hd : (rc k).o.dst with
  | none => exact ⟨I.N, rfl⟩
  | some q => exact ⟨by simp [Act.put, I.N], rfl⟩
include tk in
/-- an operation that changes nothing -/
theorem Inv.plain (I : Inv P CV σ N n rc hA fA η0 w0 F base L a w η m) (hs : L.size = ops.size) (hcl : Closed ops L) {k : Nat} (hk : k < n) (hun : ¬ dn rc L k) (h3 : (rc k).cls ≠ 3) (h2 : (rc k).cls = 2 → (rc k).wt = false) {v' : Value} (hv : Dv σ (η.cut (hA (k + 1)).nx) (rc k).v v') :
    Inv P CV σ N n rc hA fA η0 w0 F base (L.setIfInBounds (rc k).ix true) (a.put (rc k).o.dst v') w η m := by
  have lo : ∀ j, Loose n rc (L.setIfInBounds (rc k).ix true) m j → Loose n rc L m j := by
    rintro j ⟨l1, l2, l3, l4, l5⟩
    refine ⟨l1, l2, l3, l4, ?_⟩
    rcases (dn_set tk hs hk l1).1 l5 with e | e
    · subst e; rw [h2 l3] at l4; cases l4
    · exact e
  refine ⟨I.mle, fun j hj hc => ?_, I.mB, I.F, I.hh, I.st, fun r p hr => ?_, fun j hj => I.loose j (lo j hj), fun i j hi hj => I.dist i j (lo i hi) (lo j hj), I.slotN tk hs hcl hk hun (Eta.le.refl _) hv, (I.putN hk v').1, by rw [(I.putN hk v').2]; exact I.df⟩
  · rw [dn_set tk hs hk hj, ← I.chn j hj hc]
    constructor
    · rintro (e | e)
      · subst e; exact absurd hc h3
      · exact e
    · exact .inr
  · rcases I.nam r p hr with h4 | ⟨j, h4, h5, h6⟩
    · exact .inl h4
    · exact .inr ⟨j, h4, (dn_set tk hs hk h4).2 (.inr h5), h6⟩
include tk in
/-- an operation that lays a row -/
theorem Inv.lay (I : Inv P CV σ N n rc hA fA η0 w0 F base L a w η m) (hs : L.size = ops.size) (hcl : Closed ops L) {k : Nat} (hk : k < n) (hun : ¬ dn rc L k) (h2 : (rc k).cls = 2) (hw : (rc k).wt = true) {ob : Obj} {c : Nat} {mk : Pp → A} {v' : Value} (hne : (rc k).row ≠ .d)
    (hR : RowR P CV σ (η.cut (hA k).nx) c (some ob) (rc k).row) (hv : ∀ (η' : Eta) r, η' r = some (w.heap.size, c) → Da σ η' (mk r) v') (hvk : (rc k).v = .a (mk (hA k).nx)) (hnx : hA (k + 1) = ⟨(hA k).nx.succ, T.set .d (rc k).row (hA k).nx (hA k).rows⟩) :
    Inv P CV σ N n rc hA fA η0 w0 F base (L.setIfInBounds (rc k).ix true) (a.put (rc k).o.dst v') (w.alloc ob) (η.add (hA k).nx (w.heap.size, c)) m := by
  have hsucc : (hA (k + 1)).nx.toNat = (hA k).nx.toNat + 1 := by rw [hnx]; exact Pp.toNat_succ _
  have hnone : η (hA k).nx = none := I.range tk hk hun (Nat.le_refl _) (by omega)
  have hle : η.le (η.add (hA k).nx (w.heap.size, c)) := Eta.le_add hnone
  have hmk : m ≤ k := by
    rcases Nat.lt_or_ge k m with h1 | h1
    · exfalso
      rcases I.mB with e | e
      · omega
      · have hm1 : dn rc L (m - 1) := (I.chn (m - 1) (by have := I.mle; omega) e).2 (by omega)
        have hkm : k < m - 1 := by
          rcases Nat.lt_or_ge k (m - 1) with h4 | h4
          · exact h4
          · have : k = m - 1 := by omega
            rw [← this] at e; omega
        have := tk.chn k (m - 1) hkm (by have := I.mle; omega) e (.inr h2)
        exact hun (tk.anc (m - 1) (by have := I.mle; omega) L hcl hm1 _ this)
    · exact h1
  have hnm : (hA m).nx.toNat ≤ (hA k).nx.toNat := tk.nxm hmk (by omega)
  have hcut : (η.add (hA k).nx (w.heap.size, c)).cut (hA m).nx = η.cut (hA m).nx := by
    funext r
    unfold Eta.cut
    split
    · rename_i hlt
      unfold Eta.add
      rw [if_neg (fun e => by rw [e] at hlt; omega)]
    · rfl
  have old : ∀ b, b < w.heap.size → (w.alloc ob).heap[b]? = w.heap[b]? := fun b hb => heap_alloc_old w ob hb
  have hsz : (w.alloc ob).heap.size = w.heap.size + 1 := by simp
  have hbound : ∀ r b c', η r = some (b, c') → b < w.heap.size ∨ ∃ j, Loose n rc L m j ∧ (hA j).nx = r := by
    intro r b c' hr
    by_cases hlt : r.toNat < (hA m).nx.toNat
    · exact .inl (I.hh.bnd r b c' (by rw [cut_lt hlt]; exact hr))
    · rcases I.nam r _ hr with h4 | ⟨j, h4, h5, h6, h7⟩
      · have := tk.nxm (j := 0) (k := m) (by omega) I.mle; omega
      · have hmj : m ≤ j := by
          rcases Nat.lt_or_ge j m with h8 | h8
          · have := tk.nxm (j := j + 1) (k := m) (by omega) I.mle; omega
          · exact h8
        have hc3 : (rc j).cls ≠ 3 := fun e => by have := (I.chn j h4 e).1 h5; omega
        cases hwj : (rc j).wt with
        | false => rw [(tk.no j h4 hwj).2.2] at h7; omega
        | true =>
          have hcl' := tk.cls j h4
          rcases (show (rc j).cls = 0 ∨ (rc j).cls = 1 ∨ (rc j).cls = 2 by omega) with h0 | h0 | h0
          · rw [(tk.p j h4 hwj h0).2] at h7; omega
          · rw [(tk.r j h4 hwj h0).2] at h7; omega
          · obtain ⟨mk', _, _, e3⟩ := tk.a j h4 hwj h0
            have : (hA (j + 1)).nx.toNat = (hA j).nx.toNat + 1 := by rw [e3]; exact Pp.toNat_succ _
            exact .inr ⟨j, ⟨h4, hmj, h0, hwj, h5⟩, ppInj (by omega)⟩
  have lt_all : ∀ r b c', η r = some (b, c') → b < w.heap.size := by
    intro r b c' hr
    rcases hbound r b c' hr with h4 | ⟨j, h4, rfl⟩
    · exact h4
    · obtain ⟨b1, c1, e1, _, _, e4, _⟩ := I.loose j h4
      rw [hr] at e1
      injection e1 with e1; injection e1 with e1 e2
      omega
  have lo : ∀ j, Loose n rc (L.setIfInBounds (rc k).ix true) m j → j = k ∨ (j ≠ k ∧ Loose n rc L m j) := by
    rintro j ⟨l1, l2, l3, l4, l5⟩
    by_cases e : j = k
    · exact .inl e
    · refine .inr ⟨e, l1, l2, l3, l4, ?_⟩
      rcases (dn_set tk hs hk l1).1 l5 with e' | e'
      · exact absurd e' e
      · exact e'
  have nxne : ∀ j, j ≠ k → Loose n rc L m j → (hA j).nx ≠ (hA k).nx := by
    rintro j hne' hj e
    obtain ⟨b1, c1, e1, _⟩ := I.loose j hj
    rw [e, hnone] at e1; cases e1
  refine ⟨I.mle, fun j hj hc => ?_, I.mB, ?_, ?_, ?_, fun r p hr => ?_, fun j hj => ?_, fun i j hi hj => ?_, I.slotN tk hs hcl hk hun hle ?_, (I.putN hk v').1, ?_⟩
  · rw [dn_set tk hs hk hj, ← I.chn j hj hc]
    constructor
    · rintro (e | e)
      · subst e; omega
      · exact e
    · exact .inr
  · rcases I.F with h4 | ⟨l, L', h4, h5⟩
    · exact .inl h4
    · exact .inr ⟨l, L', h4, by rw [old l (Array.getElem?_eq_some_iff.1 h5).1]; exact h5⟩
  · rw [hcut]
    exact I.hh.same (by omega) (fun r b c' hl he => old b (I.hh.bnd r b c' he))
  · rw [hcut]
    have s := I.st
    refine ⟨s.le, s.nx, s.dead, by have := s.size; omega, fun b hb hno => ?_, s.new, s.os, s.tape, s.output, fun b L' hL => ?_⟩
    · rw [old b (by have := s.size; omega)]; exact s.keep b hb hno
    · obtain ⟨L2, h5⟩ := s.loops b L' hL
      exact ⟨L2, by rw [old b (Array.getElem?_eq_some_iff.1 h5).1]; exact h5⟩
  · unfold Eta.add at hr
    by_cases e : r = (hA k).nx
    · subst e
      exact .inr ⟨k, hk, (dn_set tk hs hk hk).2 (.inl rfl), Nat.le_refl _, by omega⟩
    · rw [if_neg e] at hr
      rcases I.nam r p hr with h4 | ⟨j, h4, h5, h6⟩
      · exact .inl h4
      · exact .inr ⟨j, h4, (dn_set tk hs hk h4).2 (.inr h5), h6⟩
  · rcases lo j hj with rfl | ⟨hne', hl⟩
    · refine ⟨w.heap.size, c, by simp [Eta.add], ?_, I.st.size, by omega, fun r c' hrow hη => ?_⟩
      · rw [heap_alloc_new]
        exact hR.mono (cut_mono ((Eta.cut_le _ _).trans hle) (Nat.le_refl _))
      · unfold Eta.add at hη
        have hr := I.hh.lt hrow
        rw [if_neg (fun e => by rw [e] at hr; omega)] at hη
        have := lt_all r _ _ hη
        omega
    · obtain ⟨b1, c1, e1, e2, e3, e4, e5⟩ := I.loose j hl
      refine ⟨b1, c1, hle _ _ e1, ?_, e3, by omega, fun r c' hrow hη => ?_⟩
      · rw [old b1 e4]
        exact e2.mono (cut_mono ((Eta.cut_le _ _).trans hle) (Nat.le_refl _))
      · unfold Eta.add at hη
        have hr := I.hh.lt hrow
        rw [if_neg (fun e => by rw [e] at hr; omega)] at hη
        exact e5 r c' hrow hη
  · intro b c1 c2 h4 h5
    have new : ∀ j, j ≠ k → Loose n rc L m j → ∀ b' c', (η.add (hA k).nx (w.heap.size, c)) (hA j).nx = some (b', c') → η (hA j).nx = some (b', c') ∧ b' < w.heap.size := by
      intro j hne' hl b' c' h6
      unfold Eta.add at h6
      rw [if_neg (nxne j hne' hl)] at h6
      exact ⟨h6, lt_all _ _ _ h6⟩
    have own : ∀ b' c', (η.add (hA k).nx (w.heap.size, c)) (hA k).nx = some (b', c') → b' = w.heap.size := by
      intro b' c' h6
      simp only [Eta.add, if_pos] at h6
      injection h6 with h6; injection h6 with h6
      exact h6.symm
    rcases lo i hi with rfl | ⟨ni, li⟩ <;> rcases lo j hj with rfl | ⟨nj, lj⟩
    · rfl
    · have := own _ _ h4; have := (new j nj lj _ _ h5).2; omega
    · have := own _ _ h5; have := (new i ni li _ _ h4).2; omega
    · exact I.dist i j li lj b c1 c2 (new i ni li _ _ h4).1 (new j nj lj _ _ h5).1
  · rw [hvk]
    exact hv _ _ (by rw [cut_lt (by omega)]; simp [Eta.add])
  · rw [(I.putN hk v').2]
    obtain ⟨rs, d1, d2, d3⟩ := I.df
    exact ⟨rs, d1, d2, fun r hr => ⟨(d3 r hr).1, by rw [old r (Array.getElem?_eq_some_iff.1 (d3 r hr).2).1]; exact (d3 r hr).2⟩⟩
include tk in
/-- all that lies before an operation that changes memory has come up -/
theorem Inv.before (I : Inv P CV σ N n rc hA fA η0 w0 F base L a w η m) {k : Nat} (hk : k < n) (hun : ¬ dn rc L k) (h3 : (rc k).cls = 3) (han : ∀ i ∈ (rc k).an, L.getD i false = true) :
    m ≤ k ∧ ∀ j, m ≤ j → j < k → (rc j).cls ≠ 3 ∧ ((rc j).cls = 2 → (rc j).wt = true → dn rc L j) := by
  have hmk : m ≤ k := by
    rcases Nat.lt_or_ge k m with h1 | h1
    · exact absurd ((I.chn k hk h3).2 h1) hun
    · exact h1
  refine ⟨hmk, fun j h1 h2 => ⟨fun e => ?_, fun e _ => ?_⟩⟩
  · have := han _ (tk.chn j k h2 hk h3 (.inl e))
    have := (I.chn j (by omega) e).1 this
    omega
  · exact han _ (tk.chn j k h2 hk h3 (.inr e))
include tk in
/-- the chain goes on: names and memory behind an operation that changes it -/
theorem Inv.chain (hdom : ∀ r : Pp, (hA 0).nx.toNat ≤ r.toNat → η0 r = none) (I : Inv P CV σ N n rc hA fA η0 w0 F base L a w η m) (hs : L.size = ops.size) (hcl : Closed ops L) {k : Nat} (hk : k < n) (hun : ¬ dn rc L k) (h3 : (rc k).cls = 3) (han : ∀ i ∈ (rc k).an, L.getD i false = true) {η' : Eta} {w' : World} {v' : Value}
    (hv : Dv σ η' (rc k).v v') (hh' : HRel P CV σ η' (hA (k + 1)) w') (hst : Stp (η.cut (hA k).nx) (hA k) w η' (hA (k + 1)) w') :
    ∃ η2, Inv P CV σ N n rc hA fA η0 w0 F base (L.setIfInBounds (rc k).ix true) (a.put (rc k).o.dst v') w' η2 (k + 1) := by
  obtain ⟨hmk, hbef⟩ := I.before tk hk hun h3 han
  obtain ⟨b1, b2, b3⟩ := I.absorb tk k hmk (by omega) hbef
  have hnx := tk.nx k hk
  let η2 : Eta := fun r => if r.toNat < (hA (k + 1)).nx.toNat then η' r else η r
  have hη2 : ∀ r : Pp, η2 r = if r.toNat < (hA (k + 1)).nx.toNat then η' r else η r := fun _ => rfl
  have hcut : η2.cut (hA (k + 1)).nx = η' := by
    funext r
    unfold Eta.cut
    split
    · rename_i h; rw [hη2, if_pos h]
    · exact (hh'.dom r (by omega)).symm
  have hle : η.le η2 := by
    intro r p hr
    rw [hη2]
    by_cases h1 : r.toNat < (hA (k + 1)).nx.toNat
    · rw [if_pos h1]
      by_cases h2 : r.toNat < (hA k).nx.toNat
      · exact hst.le r p (by rw [cut_lt h2]; exact hr)
      · rw [I.range tk hk hun (by omega) h1] at hr; cases hr
    · rw [if_neg h1]; exact hr
  have st' : Stp η0 (hA 0) w0 η' (hA (k + 1)) w' := Stp.trans hdom b2 hst
  have lo : ∀ j, Loose n rc (L.setIfInBounds (rc k).ix true) (k + 1) j → Loose n rc L m j ∧ k + 1 ≤ j := by
    rintro j ⟨l1, l2, l3, l4, l5⟩
    refine ⟨⟨l1, by omega, l3, l4, ?_⟩, l2⟩
    rcases (dn_set tk hs hk l1).1 l5 with e | e
    · omega
    · exact e
  have lnx : ∀ j, Loose n rc L m j → k + 1 ≤ j → (hA (k + 1)).nx.toNat ≤ (hA j).nx.toNat := fun j hj h1 => tk.nxm h1 (by have := hj.1; omega)
  have lη : ∀ j, Loose n rc L m j → k + 1 ≤ j → η2 (hA j).nx = η (hA j).nx := fun j hj h1 => by
    rw [hη2, if_neg (by have := lnx j hj h1; omega)]
  refine ⟨η2, by omega, fun j hj hc => ?_, .inr (by simpa using h3), I.F.step hst, by rw [hcut]; exact hh', by rw [hcut]; exact st', fun r p hr => ?_, fun j hj => ?_, fun i j hi hj b c c' h1 h2 => ?_, I.slotN tk hs hcl hk hun hle (by rw [hcut]; exact hv), (I.putN hk v').1, ?_⟩
  · rw [dn_set tk hs hk hj]
    constructor
    · rintro (e | e)
      · omega
      · have := (I.chn j hj hc).1 e; omega
    · intro h1
      rcases Nat.lt_or_ge j k with h2 | h2
      · exact .inr (han _ (tk.chn j k h2 hk h3 (.inl hc)))
      · exact .inl (by omega)
  · rw [hη2] at hr
    by_cases h1 : r.toNat < (hA (k + 1)).nx.toNat
    · rw [if_pos h1] at hr
      by_cases h2 : r.toNat < (hA k).nx.toNat
      · cases hq : η r with
        | some q =>
          rcases I.nam r q hq with h4 | ⟨j, h4, h5, h6⟩
          · exact .inl h4
          · exact .inr ⟨j, h4, (dn_set tk hs hk h4).2 (.inr h5), h6⟩
        | none =>
          obtain ⟨b, c⟩ := p
          have := (hst.new r b c (by rw [cut_lt h2]; exact hq) hr).1
          omega
      · exact .inr ⟨k, hk, (dn_set tk hs hk hk).2 (.inl rfl), by omega, h1⟩
    · rw [if_neg h1] at hr
      rcases I.nam r p hr with h4 | ⟨j, h4, h5, h6⟩
      · exact .inl h4
      · exact .inr ⟨j, h4, (dn_set tk hs hk h4).2 (.inr h5), h6⟩
  · obtain ⟨hl, hkj⟩ := lo j hj
    obtain ⟨b, c, e1, e2, e3, e4, e5⟩ := I.loose j hl
    have hun' : ∀ r c', (hA k).row r ≠ .d → η r ≠ some (b, c') := b3 j hl (by omega) b c e1
    have hkeep : w'.heap[b]? = w.heap[b]? := hst.keep b e4 (fun r c' hr he => hun' r c' hr (cut_some he).2)
    refine ⟨b, c, by rw [lη j hl hkj]; exact e1, ?_, e3, by have := hst.size; omega, fun r c' hr he => ?_⟩
    · rw [hkeep]
      exact e2.mono (cut_mono ((Eta.cut_le _ _).trans hle) (Nat.le_refl _))
    · have hlt := hh'.lt hr
      rw [hη2, if_pos hlt] at he
      cases hq : (η.cut (hA k).nx) r with
      | some q =>
        have h1 := hst.le r q hq
        rw [he] at h1
        injection h1 with h1
        subst h1
        obtain ⟨h2, h4⟩ := cut_some hq
        exact hun' r c' (fun hd => hr (hst.dead r h2 hd)) h4
      | none =>
        rcases (hst.new r b c' hq he).2 with h1 | ⟨r0, c0, h1, h2⟩
        · omega
        · exact hun' r0 c0 h1 (cut_some h2).2
  · obtain ⟨hl1, hk1⟩ := lo i hi
    obtain ⟨hl2, hk2⟩ := lo j hj
    rw [lη i hl1 hk1] at h1
    rw [lη j hl2 hk2] at h2
    exact I.dist i j hl1 hl2 b c c' h1 h2
  · rw [(I.putN hk v').2]
    exact I.df.step b1 hst
end
end
end Go.Ev

