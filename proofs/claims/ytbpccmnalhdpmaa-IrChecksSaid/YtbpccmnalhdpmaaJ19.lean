/- IrChecks: E5. -/
import Derived.Test.YtbpccmnalhdpmaaJ18
set_option linter.unusedVariables false
namespace Go.Ev
open Go.RowKit Go.Fw
noncomputable section
/-! lists of cells -/
section
variable {σ : Nat → Int}
theorem nthK_some : ∀ {n : Nat} {l : List A} {K : A → R} {out : Out}, nthK l n K = some out → ∃ a, l[n]? = some a ∧ K a = some out
 | 0, [], _, _, h => by cases h
 | 0, a :: _, _, _, h => ⟨a, rfl, h⟩
 | n + 1, [], _, _, h => by cases h
 | n + 1, _ :: l, K, out, h => by
  obtain ⟨a, h1, h2⟩ := nthK_some (n := n) (l := l) h
  exact ⟨a, by simpa using h1, h2⟩
theorem nthU_some : ∀ {n : Nat} {l : List U} {K : U → R} {out : Out}, nthU l n K = some out → ∃ a, l[n]? = some a ∧ K a = some out
 | 0, [], _, _, h => by cases h
 | 0, a :: _, _, _, h => ⟨a, rfl, h⟩
 | n + 1, [], _, _, h => by cases h
 | n + 1, _ :: l, K, out, h => by
  obtain ⟨a, h1, h2⟩ := nthU_some (n := n) (l := l) h
  exact ⟨a, by simpa using h1, h2⟩
theorem takeK_some : ∀ {n : Nat} {l : List A} {K : List A → R} {out : Out}, takeK n l K = some out → n ≤ l.length ∧ K (l.take n) = some out
 | 0, _, _, _, h => ⟨Nat.zero_le _, h⟩
 | n + 1, [], _, _, h => by cases h
 | n + 1, a :: l, K, out, h => by
  obtain ⟨h1, h2⟩ := takeK_some (n := n) (l := l) (K := fun m => K (a :: m)) h
  exact ⟨by simpa using h1, h2⟩
theorem dropK_some : ∀ {n : Nat} {l : List A} {K : List A → R} {out : Out}, dropK n l K = some out → n ≤ l.length ∧ K (l.drop n) = some out
 | 0, _, _, _, h => ⟨Nat.zero_le _, h⟩
 | n + 1, [], _, _, h => by cases h
 | n + 1, a :: l, K, out, h => by
  obtain ⟨h1, h2⟩ := dropK_some (n := n) (l := l) (K := K) h
  exact ⟨by simpa using h1, h2⟩
theorem overK_some : ∀ {vs cs : List A} {K : List A → R} {out : Out}, overK vs cs K = some out → vs.length ≤ cs.length ∧ K (vs ++ cs.drop vs.length) = some out
 | [], cs, K, out, h => ⟨Nat.zero_le _, h⟩
 | _ :: _, [], _, _, h => by cases h
 | v :: vs, c :: cs, K, out, h => by
  obtain ⟨h1, h2⟩ := overK_some (vs := vs) (cs := cs) (K := fun m => K (v :: m)) h
  exact ⟨by simpa using h1, h2⟩
theorem setLK_some : ∀ {o : Nat} {vs cs : List A} {K : List A → R} {out : Out}, setLK vs o cs K = some out → o + vs.length ≤ cs.length ∧ K (cs.take o ++ vs ++ cs.drop (o + vs.length)) = some out
 | 0, vs, cs, K, out, h => by
  obtain ⟨h1, h2⟩ := overK_some (vs := vs) (cs := cs) (K := K) h
  exact ⟨by omega, by simpa using h2⟩
 | o + 1, vs, [], _, _, h => by cases h
 | o + 1, vs, c :: cs, K, out, h => by
  obtain ⟨h1, h2⟩ := setLK_some (o := o) (vs := vs) (cs := cs) (K := fun m => K (c :: m)) h
  refine ⟨by simp only [List.length_cons]; omega, ?_⟩
  rw [show o + 1 + vs.length = (o + vs.length) + 1 by omega]
  simpa using h2
theorem DUL.get {η : Eta} : ∀ {l : List U} {vs : List Value}, DUL σ η l vs → ∀ {i : Nat} {a : U}, l[i]? = some a → ∃ v, vs[i]? = some v ∧ Du σ η a v
 | [], _, _, _, _, h => by simp at h
 | x :: l, _, ⟨v, vs', h1, h2, h3⟩, i, a, h => by
  subst h1
  cases i with
  | zero => simp at h; subst h; exact ⟨v, rfl, h2⟩
  | succ i => simp at h; obtain ⟨u, hu, hd⟩ := DUL.get h3 h; exact ⟨u, by simpa using hu, hd⟩
/-- cells laid over others -/
theorem foldl_set (vs : List Value) : ∀ (off k : Nat) (cs : List Value), off + k + vs.length ≤ cs.length →
  ((vs.zipIdx k).foldl (fun (cs : Array Value) (p : Value × Nat) => cs.setIfInBounds (off + p.2) p.1) cs.toArray).toList = cs.take (off + k) ++ vs ++ cs.drop (off + k + vs.length) := by
 induction vs with
 | nil => intro off k cs h; simp
 | cons v vs ih =>
  intro off k cs h
  simp only [List.length_cons] at h
  rw [List.zipIdx_cons, List.foldl_cons]
  have h1 : (cs.toArray.setIfInBounds (off + k) v) = (cs.set (off + k) v).toArray := by simp
  rw [h1, ih off (k + 1) (cs.set (off + k) v) (by simp; omega)]
  rw [show off + (k + 1) = off + k + 1 by omega]
  have hlt : off + k < cs.length := by omega
  rw [List.take_succ_eq_append_getElem (by simpa using hlt)]
  simp only [List.length_cons, List.getElem_set_self]
  rw [List.take_set_of_le (by omega), List.drop_set_of_lt (by omega)]
  simp [Nat.add_assoc, Nat.add_comm, Nat.add_left_comm]
theorem cells_fold (v : Value) (vs : List Value) (hv : v.cells = vs.toArray) (off : Nat) (cs : List Value) (h : off + vs.length ≤ cs.length) :
  v.cells.zipIdx.foldl (fun cs (c, j) => cs.setIfInBounds (off + j) c) cs.toArray = (cs.take off ++ vs ++ cs.drop (off + vs.length)).toArray := by
 apply Array.ext'
 have := foldl_set vs off 0 cs (by omega)
 rw [hv]
 simpa using this
/-- the parts of a composite literal -/
def PartsR (σ : Nat → Int) (η : Eta) (place : Nat → Option (Nat × Nat)) (fr : T V) : List (Nat × Value) → List (Nat × Nat × X) → Prop
 | [], [] => True
 | (i, v) :: ps, (o, s, x) :: qs => place i = some (o, s) ∧ Dv σ η (rdX fr x) v ∧ PartsR σ η place fr ps qs
 | _, _ => False
theorem fillK_some {fr : T V} : ∀ {qs : List (Nat × Nat × X)} {cs : List A} {K : List A → R} {out : Out}, fillK fr qs cs K = some out →
  ∃ l, K l = some out ∧ l.length = cs.length ∧ ∀ η place ps us, PartsR σ η place fr ps qs → DL σ η cs us → ∃ ws, Instr.fill place us.toArray ps = some ws ∧ DL σ η l ws.toList
 | [], cs, K, out, h => ⟨cs, h, rfl, fun η place ps us hp hd => by
   cases ps with
   | nil => exact ⟨us.toArray, rfl, by simpa using hd⟩
   | cons _ _ => cases hp⟩
 | (o, s, x) :: qs, cs, K, out, h => by
  obtain ⟨vs, h1, h2⟩ := cK_some (show (rdX fr x).cK (fun vs => Bool.rec (motive := fun _ => R) none (setLK vs o cs (fun cs' => fillK fr qs cs' K)) (Nat.beq (lenA vs) s)) = some out from h)
  obtain ⟨h3, h4⟩ := bif_some h1
  have h3 := Nat.eq_of_beq_eq_true h3
  rw [lenA_eq] at h3
  obtain ⟨h5, h6⟩ := setLK_some h4
  obtain ⟨l, h7, h8, h9⟩ := fillK_some h6
  refine ⟨l, h7, by rw [h8]; simp; omega, fun η place ps us hp hd => ?_⟩
  cases ps with
  | nil => cases hp
  | cons p ps =>
   obtain ⟨i, v⟩ := p
   obtain ⟨p1, p2, p3⟩ := hp
   obtain ⟨ws, d1, d2⟩ := h2 σ η v p2
   have hl := d1.len
   have hl2 := hd.len
   have hd' : DL σ η (cs.take o ++ vs ++ cs.drop (o + vs.length)) (us.take o ++ ws ++ us.drop (o + ws.length)) := by
    rw [← hl]; exact DL.append (DL.append (hd.take o) d1) (hd.drop _)
   obtain ⟨ws', f1, f2⟩ := h9 η place ps _ p3 hd'
   refine ⟨ws', ?_, f2⟩
   have hsz : v.cells.size = s := by rw [d2]; simpa [hl] using h3
   unfold Instr.fill
   simp only [p1]
   rw [cells_fold v ws d2 o us (by omega)]
   rw [if_neg (by simp only [hsz, List.size_toArray, Bool.or_eq_true, decide_eq_true_eq]; simp; omega)]
   exact f1
end
end
end Go.Ev
