/- Arguments opened: what a reading of bytes, numbers, flights and fates says of memory. -/
import Derived.Test.YtnppmdhgelfloaaRS
import Derived.WalkKit
import Derived.ProofKit
import Derived.OpenShut
import Derived.ChangeOld
import Derived.SizedLaws
import Derived.Lib.SmallJoins
import Derived.Deep.Slices
import Derived.Deep.Fields
set_option linter.unusedVariables false
namespace Go.Proofs.Ytnppmdhgelfloaa
open Go.ChangeShapes Go.WideShapes Go.ChangeAt Go.RowKit Go.Fw Go.Joins

theorem Try.own : ownKnob Try.prog.godebug = none := by kernel_rfl
theorem Try.laidOut : laidOutB Try.prog = true := by kernel_rfl

theorem adr_none {w : World} {a : Addr} {v : Value} (h : w.cell? a = some v) : ∃ b o, a = ⟨b, o, none⟩ ∧ b < w.heap.size := by
  have h1 := World.cell?_spot h
  obtain ⟨b, o, s⟩ := a
  simp only at h1
  subst h1
  exact ⟨b, o, rfl, World.block_lt_of_cell? w _ h⟩

section
variable {H : Type} {enc : TypeId × Value → H} {w : World} {base : Nat} {spare : Nat → Bool} {held : Bool}
theorem open_num {t e : TypeId} {k : IntKind} {fuel : Nat} {cs : List Value} {x : DataW H × List MemPlace} (ht : Try.prog.underlying t = some (.slice e)) (he : Try.prog.underlying e = some (.int k)) (hc : Try.prog.cellsOf e = 1)
    (h : DataW.trod enc Try.prog w base spare held fuel t cs = some x) :
    ∃ A c zs, cs = [.slice A zs.length c] ∧ zs.length ≤ 9223372036854775807 ∧ Sl w w.heap.size 1 A zs.length (zs.map (Value.int k)) ∧ (∀ n ∈ zs, (Lit.int k n).wf = true) ∧
      (x.1 = .nil ∧ zs = [] ∨ ∃ sp, x.1 = .slice (lits k zs) sp) := by
  rcases open_ints ht he hc h with ⟨rfl, hx⟩ | ⟨a, len, cap, zs, rfl, hb, hl, hm, hz, hx, hcell, hwz⟩
  · exact ⟨none, 0, [], rfl, by simp, Sl.nil, by simp, .inl ⟨by rw [hx], rfl⟩⟩
  · have hlz : len ≤ zs.length := by rw [hz]; split <;> omega
    have hlt : (zs.take len).length = len := by rw [List.length_take]; omega
    refine ⟨some a, cap, zs.take len, by rw [hlt], by rw [hlt]; simp only [maxLen] at hm; omega, ?_, fun n hn => hwz n (List.mem_of_mem_take hn), .inr ⟨lits k (zs.drop len), by rw [hx]⟩⟩
    rw [hlt]
    refine ⟨by simp; omega, fun h0 => ?_⟩
    have h1 := hcell 0 (by omega)
    rw [Addr.add_zero'] at h1
    obtain ⟨b, o, rfl, hbb⟩ := adr_none h1
    refine ⟨b, o, rfl, hbb, fun j v hv => ?_⟩
    rw [List.getElem?_map, List.getElem?_take] at hv
    split at hv
    · rename_i hj
      have h2 := hcell j (by omega)
      rw [Addr.add_lit] at h2
      rw [h2]
      rw [List.getElem?_eq_getElem (by omega)] at hv
      rw [List.getD_eq_getElem?_getD, List.getElem?_eq_getElem (by omega)]
      exact hv
    · cases hv
theorem wf_u8 {n : Int} (h : (Lit.int .u8 n).wf = true) : 0 ≤ n ∧ n ≤ 255 := by
  simpa [Lit.wf, IntKind.min, IntKind.max, IntKind.signed, IntKind.bits] using h
theorem wf_i64 {n : Int} (h : (Lit.int .i64 n).wf = true) : -9223372036854775808 ≤ n ∧ n ≤ 9223372036854775807 := by
  simpa [Lit.wf, IntKind.min, IntKind.max, IntKind.signed, IntKind.bits] using h
theorem open_bytes {fuel : Nat} {cs : List Value} {x : DataW H × List MemPlace} (h : DataW.trod enc Try.prog w base spare held fuel 27 cs = some x) :
    ∃ A c bs, cs = [.slice A bs.length c] ∧ bs.length ≤ 9223372036854775807 ∧ Sl w w.heap.size 1 A bs.length (bys bs) ∧ Byte bs := by
  obtain ⟨A, c, zs, h1, h2, h3, h4, _⟩ := open_num Try.underlying27 Try.underlying5 (by kernel_rfl) h
  exact ⟨A, c, zs, h1, h2, h3, fun n hn => wf_u8 (h4 n hn)⟩
/-- the form's reach, of one datum -/
def Wt (t : TypeId) (d : DataW H) : Prop := ∀ n ∈ d.weights Try.prog t, n ≤ reachBytes
theorem wt_all {e : TypeId} {l : List (DataW H)} (h : ∀ n ∈ DataW.weightsAll Try.prog e l, n ≤ reachBytes) : ∀ d ∈ l, Wt e d := by
  induction l with
  | nil => intro d hd; cases hd
  | cons x l ih =>
    intro d hd n hn
    simp only [DataW.weightsAll] at h
    rcases List.mem_cons.1 hd with rfl | hd
    · exact h n (List.mem_append_left _ hn)
    · exact ih (fun n hn => h n (List.mem_append_right _ hn)) d hd n hn
theorem wt_slice {t e : TypeId} {elems sp : List (DataW H)} (ht : Try.prog.underlying t = some (.slice e)) (h : Wt t (.slice elems sp)) : elems.length * Try.prog.bytesOf e ≤ reachBytes ∧ ∀ d ∈ elems, Wt e d := by
  unfold Wt at h
  simp only [DataW.weights, ht] at h
  refine ⟨?_, wt_all fun n hn => h n (List.mem_cons_of_mem _ (List.mem_append_left _ hn))⟩
  have := h _ (List.mem_cons_self ..)
  exact Nat.le_trans (Nat.mul_le_mul_right _ (Nat.le_add_right _ _)) this
theorem wt_struct {t : TypeId} {fs : Array Field} {parts : List (DataW H)} (ht : Try.prog.underlying t = some (.struct fs)) (h : Wt t (.agg parts)) {j : Nat} {f : Field} {d : DataW H} (hf : (fs.toList.map (·.type))[j]? = some f.type) (hd : parts[j]? = some d) : Wt f.type d := by
  unfold Wt at h
  simp only [DataW.weights, ht] at h
  exact fun n hn => h n (DataW.weights_mem_each hf hd n hn)
theorem wt_arg {ts : List TypeId} {ds : List (DataW H)} (h : (DataW.weightsEach Try.prog ts ds).all (· ≤ reachBytes) = true) {j : Nat} {t : TypeId} {d : DataW H} (ht : ts[j]? = some t) (hd : ds[j]? = some d) : Wt t d := by
  intro n hn
  have := List.all_eq_true.1 h n (DataW.weights_mem_each ht hd n hn)
  simpa using this

theorem list_choice {α : Type} {p : Nat → α → Prop} : ∀ (n : Nat), (∀ i, i < n → ∃ x, p i x) → ∃ l : List α, l.length = n ∧ ∀ i x, l[i]? = some x → p i x
  | 0, _ => ⟨[], rfl, fun i x h => by cases h⟩
  | n + 1, h => by
    obtain ⟨l, hl, hp⟩ := list_choice n (fun i hi => h i (by omega))
    obtain ⟨x, hx⟩ := h n (by omega)
    refine ⟨l ++ [x], by simp [hl], fun i y hi => ?_⟩
    rcases Nat.lt_or_ge i l.length with h1 | h1
    · rw [List.getElem?_append_left h1] at hi; exact hp i y hi
    · rw [List.getElem?_append_right h1] at hi
      have h0 : i - l.length = 0 := by
        rcases Nat.eq_zero_or_pos (i - l.length) with h0 | h0
        · exact h0
        · rw [List.getElem?_eq_none (by simp; omega)] at hi; cases hi
      rw [h0] at hi
      simp only [List.getElem?_cons_zero, Option.some.injEq] at hi
      subst hi
      obtain rfl : i = n := by omega
      exact hx
theorem fl_inv {l : List G} {j : Nat} {v : Value} (h : (fl l)[j]? = some v) : ∃ g, l[j / 2]? = some g ∧ ((j % 2 = 0 ∧ v = .int .i64 g.1) ∨ (j % 2 = 1 ∧ v = g.2.1)) := by
  have hj : j < (fl l).length := (List.getElem?_eq_some_iff.1 h).1
  rw [fl_len] at hj
  have hk : j / 2 < l.length := by omega
  have hg : l[j / 2]? = some l[j / 2] := List.getElem?_eq_getElem hk
  have h1 := fl_at hg
  refine ⟨_, hg, ?_⟩
  rcases Nat.mod_two_eq_zero_or_one j with h0 | h0
  · left
    rw [show j / 2 * 2 = j by omega] at h1
    rw [h1.1] at h; injection h with h
    exact ⟨h0, h.symm⟩
  · right
    rw [show j / 2 * 2 + 1 = j by omega] at h1
    rw [h1.2] at h; injection h with h
    exact ⟨h0, h.symm⟩

theorem open_flights {fuel : Nat} {cs : List Value} {x : DataW H × List MemPlace} (h : DataW.trod enc Try.prog w base spare held fuel 22 cs = some x) (hwt : Wt 22 x.1) :
    ∃ A c fs, cs = [.slice A fs.length c] ∧ fs.length ≤ 4611686018427387904 ∧ FlR w w.heap.size A fs.length fs := by
  rcases Deep.open_slice Try.underlying22 h with ⟨rfl, hx⟩ | ⟨a, len, cap, m, n, D, Pl, rfl, hb, hl, hm, hmm, hx, hi⟩
  · exact ⟨none, 0, [], rfl, by simp, FlR.nil⟩
  · have hlm : len ≤ m := by rw [hmm]; split <;> omega
    have hlen : len ≤ 4611686018427387904 := by
      rw [hx] at hwt
      have := (wt_slice Try.underlying22 hwt).1
      rw [show Try.prog.bytesOf 37 = 32 by kernel_rfl] at this
      simp only [List.length_map, List.length_range, reachBytes] at this
      omega
    have hc2 : Try.prog.cellsOf 37 = 2 := by kernel_rfl
    rw [hc2] at hi
    obtain ⟨gs, hgl, hgs⟩ := list_choice (p := fun i (g : G) => w.cell? (a.add (i * 2)) = some (.int .i64 g.1) ∧ w.cell? (a.add (i * 2 + 1)) = some g.2.1 ∧ ∃ A' c', g.2.1 = .slice A' g.2.2.length c' ∧ Sl w w.heap.size 1 A' g.2.2.length (bys g.2.2)) len (fun i hil => by
      obtain ⟨cs', h1, h2⟩ := hi i (by omega)
      obtain ⟨y0, y1, k, _, _, h3, h4⟩ := trod_struct2 Try.underlying37 h2
      obtain ⟨_, hcl, hat⟩ := World.cells?_some h1
      match cs', hcl with
      | [v0, v1], _ =>
        simp only [show Try.prog.cellsOf 3 = 1 by kernel_rfl, show Try.prog.cellsOf 27 = 1 by kernel_rfl, List.drop_zero, List.drop_succ_cons, List.take_succ_cons, List.take_zero] at h3 h4
        obtain ⟨d, h5, _, _⟩ := DataW.trod_int Try.underlying3 h3
        obtain ⟨A', c', bs, h6, _, h7, _⟩ := open_bytes h4
        simp only [List.cons.injEq, and_true] at h5 h6
        subst h5 h6
        have e0 := hat 0 (by omega)
        have e1 := hat 1 (by omega)
        rw [Deep.add_add] at e0 e1
        exact ⟨(d, .slice A' bs.length c', bs), by simpa using e0, by simpa using e1, A', c', rfl, h7⟩)
    refine ⟨some a, cap, gs.map toF, by simp [hgl], by simpa [hgl] using hlen, rfl, fl gs, ?_, ?_⟩
    · refine ⟨by rw [fl_len]; simp; omega, fun h0 => ?_⟩
      simp only [List.length_map] at h0
      have e0 := (hgs 0 gs[0] (List.getElem?_eq_getElem h0)).1
      rw [Nat.zero_mul, Addr.add_zero'] at e0
      obtain ⟨b, o, rfl, hbb⟩ := adr_none e0
      refine ⟨b, o, rfl, hbb, fun j v hv => ?_⟩
      obtain ⟨g, hg, h1 | h1⟩ := fl_inv hv
      · have := (hgs _ g hg).1
        rw [show j / 2 * 2 = j by omega, Addr.add_lit] at this
        rw [this, h1.2]
      · have := (hgs _ g hg).2.1
        rw [show j / 2 * 2 + 1 = j by omega, Addr.add_lit] at this
        rw [this, h1.2]
    · refine ⟨by rw [fl_len]; simp, fun i d bs hi => ?_⟩
      rw [List.getElem?_map] at hi
      cases hg : gs[i]? with
      | none => rw [hg] at hi; cases hi
      | some g =>
        rw [hg] at hi
        simp only [Option.map_some, toF, Option.some.injEq, Prod.mk.injEq] at hi
        obtain ⟨rfl, rfl⟩ := hi
        obtain ⟨_, _, A', c', h1, h2⟩ := hgs i g hg
        have h3 := fl_at hg
        rw [h1, Nat.mul_comm] at h3
        exact ⟨A', c', h3.1, h3.2, h2⟩
theorem open_nums {fuel : Nat} {cs : List Value} {x : DataW H × List MemPlace} (h : DataW.trod enc Try.prog w base spare held fuel 23 cs = some x) (hwt : Wt 23 x.1) :
    ∃ A c zs, cs = [.slice A zs.length c] ∧ zs.length ≤ 17592186044416 ∧ Sl w w.heap.size 1 A zs.length (ins zs) ∧ ∀ n ∈ zs, -9223372036854775808 ≤ n ∧ n ≤ 9223372036854775807 := by
  obtain ⟨A, c, zs, h1, h2, h3, h4, h5⟩ := open_num Try.underlying23 Try.underlying3 (by kernel_rfl) h
  refine ⟨A, c, zs, h1, ?_, h3, fun n hn => wf_i64 (h4 n hn)⟩
  rcases h5 with ⟨_, rfl⟩ | ⟨sp, h5⟩
  · simp
  · rw [h5] at hwt
    have := (wt_slice Try.underlying23 hwt).1
    rw [show Try.prog.bytesOf 3 = 8 by kernel_rfl] at this
    simp only [lits, List.length_map, reachBytes] at this
    omega
theorem open_fates {fuel : Nat} {cs : List Value} {x : DataW H × List MemPlace} (h : DataW.trod enc Try.prog w base spare held fuel 26 cs = some x) (hwt : Wt 26 x.1) :
    ∃ A c fas, cs = [.slice A fas.length c] ∧ fas.length ≤ 4611686018427387904 ∧ FaR w w.heap.size A fas.length fas ∧ ∀ (k : Nat) (fa : Fate), fas[k]? = some fa → fa.1.length ≤ 17592186044416 := by
  rcases Deep.open_slice Try.underlying26 h with ⟨rfl, hx⟩ | ⟨a, len, cap, m, n, D, Pl, rfl, hb, hl, hm, hmm, hx, hi⟩
  · exact ⟨none, 0, [], rfl, by simp, FaR.nil, fun k fa h => by cases h⟩
  · have hlm : len ≤ m := by rw [hmm]; split <;> omega
    rw [hx] at hwt
    have hw2 := wt_slice Try.underlying26 hwt
    have hlen : len ≤ 4611686018427387904 := by
      have := hw2.1
      rw [show Try.prog.bytesOf 25 = 40 by kernel_rfl] at this
      simp only [List.length_map, List.length_range, reachBytes] at this
      omega
    have hc2 : Try.prog.cellsOf 25 = 3 := by kernel_rfl
    rw [hc2] at hi
    obtain ⟨fas, hgl, hgs⟩ := list_choice (p := fun i (fa : Fate) => ∃ Ad cd, w.cell? (a.add (i * 3)) = some (.slice Ad fa.1.length cd) ∧ w.cell? (a.add (i * 3 + 1)) = some (.int .i64 fa.2.1) ∧ w.cell? (a.add (i * 3 + 2)) = some (.int .i64 fa.2.2) ∧ Sl w w.heap.size 1 Ad fa.1.length (ins fa.1) ∧ fa.1.length ≤ 17592186044416) len (fun i hil => by
      obtain ⟨cs', h1, h2⟩ := hi i (by omega)
      have hwd : Wt 25 (D i) := hw2.2 (D i) (List.mem_map.2 ⟨i, List.mem_range.2 hil, rfl⟩)
      obtain ⟨ys, k, _, h3, hcl, hyl, hf⟩ := DataW.trod_struct Try.underlying25 h2
      obtain ⟨_, hcl', hat⟩ := World.cells?_some h1
      match cs', hcl', ys, hyl with
      | [v0, v1, v2], _, [y0, y1, y2], _ =>
        simp only [Prod.mk.injEq] at h3
        have g0 := hf 0 (Field.mk "Delays" 23 0 false "" "" 0) rfl
        have g1 := hf 1 (Field.mk "At" 3 1 false "" "" 24) rfl
        have g2 := hf 2 (Field.mk "Mask" 3 2 false "" "" 32) rfl
        simp only [show Try.prog.cellsOf 3 = 1 by kernel_rfl, show Try.prog.cellsOf 23 = 1 by kernel_rfl, List.drop_zero, List.drop_succ_cons, List.take_succ_cons, List.take_zero, List.getElem?_cons_zero, List.getElem?_cons_succ] at g0 g1 g2
        rw [h3.1] at hwd
        have hwd0 : Wt 23 y0.1 := wt_struct (f := Field.mk "Delays" 23 0 false "" "" 0) (j := 0) Try.underlying25 hwd rfl rfl
        obtain ⟨A', c', zs, h6, h7, h8, _⟩ := open_nums g0 hwd0
        obtain ⟨x1, h9, _, _⟩ := DataW.trod_int Try.underlying3 g1
        obtain ⟨x2, h10, _, _⟩ := DataW.trod_int Try.underlying3 g2
        simp only [List.cons.injEq, and_true] at h6 h9 h10
        subst h6 h9 h10
        have e0 := hat 0 (by omega)
        have e1 := hat 1 (by omega)
        have e2 := hat 2 (by omega)
        rw [Deep.add_add] at e0 e1 e2
        exact ⟨(zs, x1, x2), A', c', by simpa using e0, by simpa using e1, by simpa using e2, h8, h7⟩)
    refine ⟨some a, cap, fas, by simp [hgl], by simpa [hgl] using hlen, ⟨rfl, fun k fa hk => ?_⟩, fun k fa hk => by obtain ⟨_, _, _, _, _, _, h⟩ := hgs k fa hk; exact h⟩
    obtain ⟨Ad, cd, h1, h2, h3, h4, h5⟩ := hgs k fa hk
    have e0 : ∃ b o, a = ⟨b, o, none⟩ ∧ b < w.heap.size := by
      have hk0 : 0 < fas.length := by have := (List.getElem?_eq_some_iff.1 hk).1; omega
      obtain ⟨_, _, g1, _⟩ := hgs 0 fas[0] (List.getElem?_eq_getElem hk0)
      rw [Nat.zero_mul, Addr.add_zero'] at g1
      exact adr_none g1
    obtain ⟨b, o, rfl, hbb⟩ := e0
    simp only [Addr.add_lit] at h1 h2 h3
    exact ⟨b, o, Ad, cd, rfl, hbb, h1, by rw [Nat.add_assoc]; exact h2, by rw [Nat.add_assoc]; exact h3, h4⟩
theorem open_bytesW {fuel : Nat} {cs : List Value} {x : DataW H × List MemPlace} (h : DataW.trod enc Try.prog w base spare held fuel 27 cs = some x) (hwt : Wt 27 x.1) :
    ∃ A c bs, cs = [.slice A bs.length c] ∧ bs.length ≤ 140737488355328 ∧ Sl w w.heap.size 1 A bs.length (bys bs) ∧ Byte bs := by
  obtain ⟨A, c, zs, h1, h2, h3, h4, h5⟩ := open_num Try.underlying27 Try.underlying5 (by kernel_rfl) h
  refine ⟨A, c, zs, h1, ?_, h3, fun n hn => wf_u8 (h4 n hn)⟩
  rcases h5 with ⟨_, rfl⟩ | ⟨sp, h5⟩
  · simp
  · rw [h5] at hwt
    have := (wt_slice Try.underlying27 hwt).1
    rw [show Try.prog.bytesOf 5 = 1 by kernel_rfl] at this
    simp only [lits, List.length_map, reachBytes] at this
    omega
end
end Go.Proofs.Ytnppmdhgelfloaa
