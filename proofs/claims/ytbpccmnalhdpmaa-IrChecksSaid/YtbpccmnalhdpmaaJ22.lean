/- IrChecks: E8. -/
import Derived.Test.YtbpccmnalhdpmaaJ21
set_option linter.unusedVariables false
namespace Go.Ev
open Go.RowKit Go.Fw
noncomputable section
/-! cells -/
theorem cellK_some {t : T A} {o : Nat} {K : A → R} {out : Out} (h : cellK t o K = some out) : ∃ p : Pp, p.toNat = o ∧ K (t.get .u p) = some out := toPK_some _ _ _ _ h
/-- known cells of a row -/
def CellsAt (t : T A) (o : Nat) : List A → Prop
 | [] => True
 | a :: l => (∃ p : Pp, p.toNat = o ∧ t.get .u p = a ∧ a ≠ .u) ∧ CellsAt t (o + 1) l
theorem kcellsK_some {t : T A} : ∀ {n o : Nat} {K : List A → R} {out : Out}, kcellsK t n o K = some out → ∃ l, l.length = n ∧ CellsAt t o l ∧ K l = some out
 | 0, o, K, out, h => ⟨[], rfl, trivial, h⟩
 | n + 1, o, K, out, h => by
  have h0 : cellK t o (fun a => a.knK (fun a => kcellsK t n (Nat.succ o) (fun l => K (a :: l)))) = some out := h
  obtain ⟨p, hp, h1⟩ := cellK_some h0
  obtain ⟨h2, h3⟩ := knK_some h1
  obtain ⟨l, h4, h5, h6⟩ := kcellsK_some (n := n) (o := o + 1) h3
  exact ⟨_ :: l, by simp [h4], ⟨⟨p, hp, rfl, h2⟩, h5⟩, h6⟩
theorem putK_some : ∀ {l : List A} {t : T A} {o : Nat} {K : T A → R} {out : Out}, putK l t o K = some out →
  ∃ t', K t' = some out ∧ ∀ p : Pp, t'.get .u p = if o ≤ p.toNat ∧ p.toNat < o + l.length then l.getD (p.toNat - o) .u else t.get .u p
 | [], t, o, K, out, h => ⟨t, h, fun p => by rw [if_neg (by simp)]⟩
 | a :: l, t, o, K, out, h => by
  have h0 : toPK 20 o (fun p => t.setK .u a p (fun t' => putK l t' (Nat.succ o) K)) = some out := h
  obtain ⟨p, hp, h1⟩ := toPK_some _ _ _ _ h0
  rw [T.setK_eq] at h1
  obtain ⟨t', h2, h3⟩ := putK_some (l := l) (o := o + 1) h1
  refine ⟨t', h2, fun q => ?_⟩
  rw [h3 q, T.get_set]
  simp only [List.length_cons]
  by_cases hq : q = p
  · subst hq
    rw [if_pos rfl, if_neg (by omega), if_pos (by omega), hp]; simp
  · rw [if_neg hq]
    have hne : q.toNat ≠ o := fun e => hq (ppInj (by omega))
    by_cases h4 : o + 1 ≤ q.toNat ∧ q.toNat < o + 1 + l.length
    · rw [if_pos h4, if_pos (by omega), show q.toNat - o = (q.toNat - (o + 1)) + 1 by omega]; simp
    · rw [if_neg h4, if_neg (by omega)]
/-! rows -/
section
variable (P : Program) (CV : T (Option Site)) (σ : Nat → Int)
/-- a frame -/
def FrR (η : Eta) (fr : T V) (tmps : Array Value) : Prop := ∀ p : Pp, Dv σ η (fr.get .x p) (tmps.getD p.toNat undef)
def stOk : Nat → LoopState → Prop
 | 0, s => s = .ready
 | 1, s => s = .busy
 | 2, s => s = .done
 | _, _ => False
def E.code : E → Option Code
 | .nrm => none
 | .ex i => some (.exit i)
 | .rt => some .ret
def DE (η : Eta) : List (U × U) → List MapEntry → Prop
 | [], es => es = []
 | (k, v) :: l, es => ∃ e es', es = e :: es' ∧ Du σ η k e.key ∧ Du σ η v e.val ∧ DE η l es'
/-- cells that a trie speaks of -/
def CellsR (η : Eta) (n : Nat) (t : T A) (cs : Array Value) : Prop := n ≤ cs.size ∧ ∀ p : Pp, t.get .u p ≠ .u → p.toNat < n ∧ ∃ v, cs[p.toNat]? = some v ∧ Da σ η (t.get .u p) v
def RowR (η : Eta) (c : Nat) (o : Option Obj) : Row → Prop
 | .d => True
 | .c ty n t => ∃ cs i, o = some (.cells cs ty (0, 0)) ∧ TyI.Ok P ty i ∧ cs.size = c * i.z.length ∧ c ≤ maxLen ∧ CellsR σ η n t cs
 | .m es => ∃ ents clock, o = some (.map ents clock) ∧ DE σ η es ents.toList
 | .l st fr ps id pe => ∃ (L : Loop) (s : Site), CV.get none id = some s ∧ o = some (.loop L) ∧ stOk st L.state ∧ L.pending = pe.code ∧ FrR σ η fr L.tmps ∧ L.params.toList = ps.map Pp.toNat ∧ (∀ p ∈ ps, p.toNat < L.tmps.size) ∧ L.tmps.size = s.N ∧ L.assign = s.ca ∧ L.body = s.cb
structure HRel (η : Eta) (h : AH) (w : World) : Prop where
 inj : ∀ r r' b c c', h.row r ≠ .d → h.row r' ≠ .d → η r = some (b, c) → η r' = some (b, c') → r = r'
 rows : ∀ r b c, η r = some (b, c) → RowR P CV σ η c w.heap[b]? (h.row r)
 dom : ∀ r : Pp, h.nx.toNat ≤ r.toNat → η r = none
 bnd : ∀ r b c, η r = some (b, c) → b < w.heap.size
 nix : ∀ r : Pp, h.nx.toNat ≤ r.toNat → h.row r = .d
end
/-- what has turned -/
structure Stp (η : Eta) (h : AH) (w : World) (η' : Eta) (h' : AH) (w' : World) : Prop where
 le : η.le η'
 nx : h.nx.toNat ≤ h'.nx.toNat
 dead : ∀ r : Pp, r.toNat < h.nx.toNat → h.row r = .d → h'.row r = .d
 size : w.heap.size ≤ w'.heap.size
 keep : ∀ b, b < w.heap.size → (∀ r c, h.row r ≠ .d → η r ≠ some (b, c)) → w'.heap[b]? = w.heap[b]?
 new : ∀ r b c, η r = none → η' r = some (b, c) → h.nx.toNat ≤ r.toNat ∧ (w.heap.size ≤ b ∨ ∃ r0 c0, h.row r0 ≠ .d ∧ η r0 = some (b, c0))
 os : w'.os = w.os
 tape : w'.tape = w.tape
 output : w'.output = w.output
 loops : ∀ (b : Nat) (L : Loop), w.heap[b]? = some (Obj.loop L) → ∃ L' : Loop, w'.heap[b]? = some (Obj.loop L')
theorem Stp.refl (η : Eta) (h : AH) (w : World) : Stp η h w η h w := ⟨Eta.le.refl _, Nat.le_refl _, fun _ _ h => h, Nat.le_refl _, fun _ _ _ => rfl, fun r b c h1 h2 => (by rw [h1] at h2; cases h2), rfl, rfl, rfl, fun b L h => ⟨L, h⟩⟩
theorem Stp.trans {η η' η'' : Eta} {h h' h'' : AH} {w w' w'' : World} (nix : ∀ r : Pp, h.nx.toNat ≤ r.toNat → η r = none) (a : Stp η h w η' h' w') (b : Stp η' h' w' η'' h'' w'') : Stp η h w η'' h'' w'' := by
 have own : ∀ k, k < w.heap.size → (∀ r c, h.row r ≠ .d → η r ≠ some (k, c)) → ∀ r c, h'.row r ≠ .d → η' r ≠ some (k, c) := by
   intro k hk hno r c hl he
   cases hr : η r with
   | some q =>
    have h1 := a.le r q hr
    rw [he] at h1
    injection h1 with h1
    subst h1
    have hlt : r.toNat < h.nx.toNat := by
      rcases Nat.lt_or_ge r.toNat h.nx.toNat with h2 | h2
      · exact h2
      · rw [nix r h2] at hr; cases hr
    refine hno r c ?_ hr
    intro hd
    exact hl (a.dead r hlt hd)
   | none =>
    rcases (a.new r k c hr he).2 with h1 | ⟨r0, c0, h1, h2⟩
    · omega
    · exact hno r0 c0 h1 h2
 refine ⟨a.le.trans b.le, Nat.le_trans a.nx b.nx, fun r hr hd => b.dead r (Nat.lt_of_lt_of_le hr a.nx) (a.dead r hr hd), Nat.le_trans a.size b.size, fun k hk hno => ?_, fun r k c hn hs => ?_, b.os.trans a.os, b.tape.trans a.tape, b.output.trans a.output, fun k L hL => let ⟨L', h'⟩ := a.loops k L hL; b.loops k L' h'⟩
 · rw [b.keep k (Nat.lt_of_lt_of_le hk a.size) (own k hk hno), a.keep k hk hno]
 · cases hr : η' r with
   | some q =>
    have h1 := b.le r q hr
    rw [hs] at h1
    injection h1 with h1
    subst h1
    exact a.new r k c hn hr
   | none =>
    obtain ⟨h1, h2⟩ := b.new r k c hr hs
    refine ⟨Nat.le_trans a.nx h1, ?_⟩
    rcases h2 with h2 | ⟨r0, c0, h2, h3⟩
    · exact .inl (Nat.le_trans a.size h2)
    · rcases Nat.lt_or_ge k w.heap.size with hk | hk
      · right
        cases hd : Classical.propDecidable (∃ r0 c0, h.row r0 ≠ .d ∧ η r0 = some (k, c0)) with
        | isTrue h4 => exact h4
        | isFalse h4 => exact absurd h3 (own k hk (fun r c h5 h6 => h4 ⟨r, c, h5, h6⟩) r0 c0 h2)
      · exact .inl hk
section
variable {P : Program} {CV : T (Option Site)} {σ : Nat → Int} {η η' : Eta}
theorem FrR.mono (h : η.le η') {fr : T V} {tmps : Array Value} (hf : FrR σ η fr tmps) : FrR σ η' fr tmps := fun p => (hf p).mono h
theorem DE.mono (h : η.le η') : ∀ {l : List (U × U)} {es : List MapEntry}, DE σ η l es → DE σ η' l es
 | [], _, hd => hd
 | (_, _) :: _, _, ⟨e, es', h1, h2, h3, h4⟩ => ⟨e, es', h1, h2.mono h, h3.mono h, DE.mono h h4⟩
theorem CellsR.mono (h : η.le η') {n : Nat} {t : T A} {cs : Array Value} (hc : CellsR σ η n t cs) : CellsR σ η' n t cs :=
 ⟨hc.1, fun p hp => let ⟨h1, v, h2, h3⟩ := hc.2 p hp; ⟨h1, v, h2, h3.mono h⟩⟩
theorem RowR.mono (h : η.le η') {c : Nat} {o : Option Obj} : ∀ {row : Row}, RowR P CV σ η c o row → RowR P CV σ η' c o row
 | .d, _ => trivial
 | .c .., ⟨cs, i, h1, h2, h3, h4, h5⟩ => ⟨cs, i, h1, h2, h3, h4, h5.mono h⟩
 | .m _, ⟨e, k, h1, h2⟩ => ⟨e, k, h1, h2.mono h⟩
 | .l .., ⟨L, s, h0, h1, h2, h3, h4, h5⟩ => ⟨L, s, h0, h1, h2, h3, h4.mono h, h5⟩
theorem AH.row_set {h : AH} {q r : Pp} {row : Row} {n : Pp} : (AH.mk n (T.set .d row r h.rows)).row q = if q = r then row else h.row q := T.get_set _ _ _ _ _
theorem newK_eq (h : AH) (row : Row) (K : Pp → AH → R) : h.newK row K = K h.nx ⟨h.nx.succ, T.set .d row h.nx h.rows⟩ := by
 unfold AH.newK
 rw [T.setK_eq, Pp.succK_eq]
theorem putH_eq (h : AH) (r : Pp) (row : Row) (K : AH → R) : h.putK r row K = K ⟨h.nx, T.set .d row r h.rows⟩ := by
 unfold AH.putK
 rw [T.setK_eq]
/-- the names, and one more -/
def Eta.add (η : Eta) (r : Pp) (p : Nat × Nat) : Eta := fun q => if q = r then some p else η q
theorem Eta.le_add {η : Eta} {r : Pp} {p : Nat × Nat} (h : η r = none) : η.le (η.add r p) := by
 intro q x hq
 unfold Eta.add
 split
 · rename_i e; subst e; rw [h] at hq; cases hq
 · exact hq
/-- the drawing of an order turns nothing -/
theorem HRel.same {h : AH} {w w' : World} (hr : HRel P CV σ η h w) (hs : w.heap.size ≤ w'.heap.size) (hk : ∀ r b c, h.row r ≠ .d → η r = some (b, c) → w'.heap[b]? = w.heap[b]?) : HRel P CV σ η h w' := by
 refine ⟨hr.inj, fun r b c he => ?_, hr.dom, fun r b c he => Nat.lt_of_lt_of_le (hr.bnd r b c he) hs, hr.nix⟩
 cases hd : h.row r with
 | d => trivial
 | _ =>
  rw [hk r b c (by rw [hd]; exact fun e => Row.noConfusion e) he, ← hd]
  exact hr.rows r b c he
/-- a new row -/
theorem HRel.new {h : AH} {w : World} (hr : HRel P CV σ η h w) {o : Obj} {c : Nat} {row : Row} (ho : RowR P CV σ (η.add h.nx (w.heap.size, c)) c (some o) row) (hne : row ≠ .d) :
   HRel P CV σ (η.add h.nx (w.heap.size, c)) ⟨h.nx.succ, T.set .d row h.nx h.rows⟩ (w.alloc o) ∧ Stp η h w (η.add h.nx (w.heap.size, c)) ⟨h.nx.succ, T.set .d row h.nx h.rows⟩ (w.alloc o) := by
 have hle : η.le (η.add h.nx (w.heap.size, c)) := Eta.le_add (hr.dom _ (Nat.le_refl _))
 have hsz : (w.alloc o).heap.size = w.heap.size + 1 := by simp
 have old : ∀ b, b < w.heap.size → (w.alloc o).heap[b]? = w.heap[b]? := fun b hb => heap_alloc_old w o hb
 refine ⟨⟨?_, ?_, ?_, ?_, ?_⟩, ⟨hle, ?_, ?_, ?_, ?_, ?_, rfl, rfl, rfl, fun b L h => ⟨L, by rw [old b (Array.getElem?_eq_some_iff.1 h).1]; exact h⟩⟩⟩
 · intro r r' b c1 c2 h1 h2 h3 h4
   rw [AH.row_set] at h1 h2
   unfold Eta.add at h3 h4
   by_cases e1 : r = h.nx <;> by_cases e2 : r' = h.nx
   · rw [e1, e2]
   · rw [if_pos e1] at h3
     rw [if_neg e2] at h4
     have := hr.bnd _ _ _ h4
     injection h3 with h3; injection h3 with h3
     omega
   · rw [if_neg e1] at h3
     rw [if_pos e2] at h4
     have := hr.bnd _ _ _ h3
     injection h4 with h4; injection h4 with h4
     omega
   · rw [if_neg e1] at h1 h3
     rw [if_neg e2] at h2 h4
     exact hr.inj r r' b c1 c2 h1 h2 h3 h4
 · intro r b c1 he
   rw [AH.row_set]
   unfold Eta.add at he
   by_cases e1 : r = h.nx
   · rw [if_pos e1] at he ⊢
     injection he with he; injection he with he1 he2
     subst he1; subst he2
     rw [heap_alloc_new]
     exact ho
   · rw [if_neg e1] at he ⊢
     rw [old b (hr.bnd _ _ _ he)]
     exact (hr.rows r b c1 he).mono hle
 · intro r hge
   simp only [Pp.toNat_succ] at hge
   unfold Eta.add
   rw [if_neg (fun e => by rw [e] at hge; omega)]
   exact hr.dom r (by omega)
 · intro r b c1 he
   unfold Eta.add at he
   rw [hsz]
   by_cases e1 : r = h.nx
   · rw [if_pos e1] at he; injection he with he; injection he with he1 he2; omega
   · rw [if_neg e1] at he; have := hr.bnd _ _ _ he; omega
 · intro r hge
   simp only [Pp.toNat_succ] at hge
   rw [AH.row_set, if_neg (fun e => by rw [e] at hge; omega)]
   exact hr.nix r (by omega)
 · simp only [Pp.toNat_succ]; omega
 · intro r hlt hd
   rw [AH.row_set, if_neg (fun e => by rw [e] at hlt; omega)]; exact hd
 · rw [hsz]; omega
 · intro b hb _; exact old b hb
 · intro r b c1 h1 h2
   unfold Eta.add at h2
   by_cases e1 : r = h.nx
   · rw [if_pos e1] at h2
     injection h2 with h2; injection h2 with h2
     exact ⟨by rw [e1]; exact Nat.le_refl _, .inl (by omega)⟩
   · rw [if_neg e1, h1] at h2; cases h2
/-- a row that turns -/
theorem HRel.upd {h : AH} {w w' : World} (hr : HRel P CV σ η h w) {r : Pp} {b c : Nat} {row : Row} (hb : η r = some (b, c)) (hl : h.row r ≠ .d) (hC : Chg b w w') (ho : RowR P CV σ η c w'.heap[b]? row) (hlo : ∀ L : Loop, w.heap[b]? = some (Obj.loop L) → ∃ L' : Loop, w'.heap[b]? = some (Obj.loop L')) :
   HRel P CV σ η ⟨h.nx, T.set .d row r h.rows⟩ w' ∧ Stp η h w η ⟨h.nx, T.set .d row r h.rows⟩ w' := by
 have hlt : r.toNat < h.nx.toNat := by
   rcases Nat.lt_or_ge r.toNat h.nx.toNat with h2 | h2
   · exact h2
   · exact absurd (hr.nix r h2) hl
 have other : ∀ k, k < w.heap.size → k ≠ b → w'.heap[k]? = w.heap[k]? := fun k hk hne => hC.block k hk (by simpa using hne)
 refine ⟨⟨?_, ?_, hr.dom, ?_, ?_⟩, ⟨Eta.le.refl _, Nat.le_refl _, ?_, hC.size, ?_, ?_, hC.os, hC.tape, hC.output, ?_⟩⟩
 · intro r1 r2 b1 c1 c2 h1 h2 h3 h4
   rw [AH.row_set] at h1 h2
   have l1 : h.row r1 ≠ .d := by
     by_cases e1 : r1 = r
     · rw [e1]; exact hl
     · rw [if_neg e1] at h1; exact h1
   have l2 : h.row r2 ≠ .d := by
     by_cases e1 : r2 = r
     · rw [e1]; exact hl
     · rw [if_neg e1] at h2; exact h2
   exact hr.inj r1 r2 b1 c1 c2 l1 l2 h3 h4
 · intro r1 b1 c1 he
   rw [AH.row_set]
   by_cases e1 : r1 = r
   · subst e1
     rw [if_pos rfl]
     rw [hb] at he
     injection he with he; injection he with he1 he2
     subst he1; subst he2
     exact ho
   · rw [if_neg e1]
     cases hd : h.row r1 with
     | d => trivial
     | _ =>
       have hne : b1 ≠ b := fun e => by
        subst e
        exact e1 (hr.inj r1 r b1 c1 c (by rw [hd]; exact fun e => Row.noConfusion e) hl he hb)
       rw [other b1 (hr.bnd _ _ _ he) hne, ← hd]
       exact hr.rows r1 b1 c1 he
 · intro r1 b1 c1 he; exact Nat.lt_of_lt_of_le (hr.bnd _ _ _ he) hC.size
 · intro r1 hge
   rw [AH.row_set, if_neg (fun e => by rw [e] at hge; exact absurd hlt (by simp only at hge; omega))]
   exact hr.nix r1 hge
 · intro r1 h1 hd
   rw [AH.row_set, if_neg (fun e => by rw [e] at hd; exact hl hd)]; exact hd
 · intro k hk hno
   exact other k hk (fun e => hno r c hl (by rw [e]; exact hb))
 · intro r1 b1 c1 h1 h2; rw [h1] at h2; cases h2
 · intro k L hL
   by_cases e : k = b
   · subst e; exact hlo L hL
   · exact ⟨L, by rw [other k (Array.getElem?_eq_some_iff.1 hL).1 e]; exact hL⟩
end
end
end Go.Ev
