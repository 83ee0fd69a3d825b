/- Arguments opened: what a reading of lists and structs says of memory. -/
import Derived.Test.YtbpccmnalhdpmaaGt
import Derived.WalkKit
import Derived.ProofKit
import Derived.OpenShut
import Derived.ChangeOld
import Derived.SizedLaws
import Derived.Lib.SmallJoins
import Derived.Deep.Slices
import Derived.Deep.Fields
set_option linter.unusedVariables false
namespace Go.Proofs.Ytbpccmnalhdpmaa
open Go.ChangeShapes Go.WideShapes Go.ChangeAt Go.RowKit Go.Fw Go.Joins

theorem Try.own : ownKnob Try.prog.godebug = none := by kernel_rfl
theorem Try.laidOut : laidOutB Try.prog = true := by kernel_rfl

theorem adr_none {w : World} {a : Addr} {v : Value} (h : w.cell? a = some v) : ∃ b o, a = ⟨b, o, none⟩ ∧ b < w.heap.size := by
  have h1 := World.cell?_spot h
  obtain ⟨b, o, s⟩ := a
  simp only at h1
  subst h1
  exact ⟨b, o, rfl, World.block_lt_of_cell? w _ h⟩
/-- the form's reach, of one datum -/
def Wt {H : Type} (t : TypeId) (d : DataW H) : Prop := ∀ n ∈ d.weights Try.prog t, n ≤ reachBytes
section
variable {H : Type}
theorem wt_all {e : TypeId} {l : List (DataW H)} (h : ∀ n ∈ DataW.weightsAll Try.prog e l, n ≤ reachBytes) : ∀ d ∈ l, Wt e d := by
  induction l with
  | nil => intro d hd; cases hd
  | cons x l ih =>
    intro d hd n hn
    simp only [DataW.weightsAll] at h
    rcases List.mem_cons.1 hd with rfl | hd
    · exact h n (List.mem_append_left _ hn)
    · exact ih (fun n hn => h n (List.mem_append_right _ hn)) d hd n hn
theorem wt_slice {t e : TypeId} {elems sp : List (DataW H)} (ht : Try.prog.underlying t = some (.slice e)) (h : Wt t (.slice elems sp)) : elems.length * Try.prog.bytesOf e ≤ reachBytes ∧ ∀ d ∈ elems, Wt e d := by
  unfold Wt at h
  simp only [DataW.weights, ht] at h
  refine ⟨?_, wt_all fun n hn => h n (List.mem_cons_of_mem _ (List.mem_append_left _ hn))⟩
  have := h _ (List.mem_cons_self ..)
  exact Nat.le_trans (Nat.mul_le_mul_right _ (Nat.le_add_right _ _)) this
theorem wt_struct {t : TypeId} {fs : Array Field} {parts : List (DataW H)} (ht : Try.prog.underlying t = some (.struct fs)) (h : Wt t (.agg parts)) {j : Nat} {f : Field} {d : DataW H} (hf : (fs.toList.map (·.type))[j]? = some f.type) (hd : parts[j]? = some d) : Wt f.type d := by
  unfold Wt at h
  simp only [DataW.weights, ht] at h
  exact fun n hn => h n (DataW.weights_mem_each hf hd n hn)
theorem wt_array {t e : TypeId} {k : Nat} {parts : List (DataW H)} (ht : Try.prog.underlying t = some (.array k e)) (h : Wt t (.agg parts)) : ∀ d ∈ parts, Wt e d := by
  unfold Wt at h
  simp only [DataW.weights, ht] at h
  exact wt_all h
theorem wt_arg {ts : List TypeId} {ds : List (DataW H)} (h : (DataW.weightsEach Try.prog ts ds).all (· ≤ reachBytes) = true) {j : Nat} {t : TypeId} {d : DataW H} (ht : ts[j]? = some t) (hd : ds[j]? = some d) : Wt t d := by
  intro n hn
  have := List.all_eq_true.1 h n (DataW.weights_mem_each ht hd n hn)
  simpa using this
end
theorem list_choice {α : Type} {p : Nat → α → Prop} : ∀ (n : Nat), (∀ i, i < n → ∃ x, p i x) → ∃ l : List α, l.length = n ∧ ∀ i x, l[i]? = some x → p i x
  | 0, _ => ⟨[], rfl, fun i x h => by cases h⟩
  | n + 1, h => by
    obtain ⟨l, hl, hp⟩ := list_choice n (fun i hi => h i (by omega))
    obtain ⟨x, hx⟩ := h n (by omega)
    refine ⟨l ++ [x], by simp [hl], fun i y hi => ?_⟩
    rcases Nat.lt_or_ge i l.length with h1 | h1
    · rw [List.getElem?_append_left h1] at hi; exact hp i y hi
    · rw [List.getElem?_append_right h1] at hi
      have h0 : i - l.length = 0 := by
        rcases Nat.eq_zero_or_pos (i - l.length) with h0 | h0
        · exact h0
        · rw [List.getElem?_eq_none (by simp; omega)] at hi; cases hi
      rw [h0] at hi
      simp only [List.getElem?_cons_zero, Option.some.injEq] at hi
      subst hi
      obtain rfl : i = n := by omega
      exact hx

/-- a reading of type t is one of α's -/
structure Opens (α : Type) [Dat α] (t : TypeId) : Prop where
  pos : 0 < Dat.sz α
  sz : Try.prog.cellsOf t = Dat.sz α
  bs : Try.prog.bytesOf t = Dat.bs α
  op : ∀ {H : Type} {enc : TypeId × Value → H} {w : World} {base : Nat} {spare : Nat → Bool} {held : Bool} {fuel : Nat} {cs : List Value} {x : DataW H × List MemPlace},
    DataW.trod enc Try.prog w base spare held fuel t cs = some x → Wt t x.1 → ∃ a : α, cs = Dat.cells a ∧ Dat.ok (fun _ => True) w a
theorem open_int {t : TypeId} (ht : Try.prog.underlying t = some (.int .i64)) (hs : Try.prog.cellsOf t = 1) (hb : Try.prog.bytesOf t = 8) : Opens Int t :=
  ⟨Nat.one_pos, hs, hb, fun h _ => by
    obtain ⟨n, rfl, _, _⟩ := DataW.trod_int ht h
    exact ⟨n, rfl, trivial⟩⟩
theorem open_lst {α : Type} [Dat α] {t e : TypeId} (he : Opens α e) (ht : Try.prog.underlying t = some (.slice e)) (hs : Try.prog.cellsOf t = 1) (hb : Try.prog.bytesOf t = 24) : Opens (Lst α) t :=
  ⟨Nat.one_pos, hs, hb, fun {H enc w base spare held fuel cs x} h hwt => by
    rcases Deep.open_slice ht h with ⟨rfl, hx⟩ | ⟨a, len, cap, m, n, D, Pl, rfl, hb, hl, hm, hmm, hx, hi⟩
    · exact ⟨⟨none, 0, []⟩, rfl, Lst.nil_ok⟩
    · have hlm : len ≤ m := by rw [hmm]; split <;> omega
      rw [hx] at hwt
      have hw2 := wt_slice ht hwt
      rw [he.sz] at hi
      obtain ⟨l, hll, hls⟩ := list_choice (p := fun i (y : α) => w.cells? base (a.add (i * Dat.sz α)) (Dat.sz α) = some (Dat.cells y) ∧ Dat.ok (fun _ => True) w y) len (fun i hil => by
        obtain ⟨cs', h1, h2⟩ := hi i (by omega)
        obtain ⟨y, rfl, hy⟩ := he.op h2 (hw2.2 (D i) (List.mem_map.2 ⟨i, List.mem_range.2 hil, rfl⟩))
        exact ⟨y, h1, hy⟩)
      subst hll
      refine ⟨⟨some a, cap, l⟩, rfl, ?_, fun h0 => ?_⟩
      · have := hw2.1
        rw [he.bs, List.length_map, List.length_range] at this
        exact Nat.le_trans this (by unfold reachBytes; omega)
      · have e0 := (hls 0 l[0] (List.getElem?_eq_getElem h0)).1
        have h1 := (World.cells?_some e0).2.2 0 he.pos
        rw [Nat.zero_mul, Addr.add_zero', Addr.add_zero', List.getElem?_eq_getElem (by rw [Dat.len]; exact he.pos)] at h1
        obtain ⟨b, o, rfl, hbb⟩ := adr_none h1
        refine ⟨rfl, trivial, hbb, fun i y hy => ⟨fun j v hv => ?_, (hls i y hy).2⟩⟩
        have hj : j < Dat.sz α := by rw [← Dat.len y]; exact (List.getElem?_eq_some_iff.1 hv).1
        have h2 := (World.cells?_some (hls i y hy).1).2.2 j hj
        rw [Deep.add_add, Addr.add_lit, hv] at h2
        simpa [Lst.blk, Lst.off, Nat.add_assoc] using h2⟩
theorem open_array2 {α : Type} [Dat α] {t e : TypeId} (he : Opens α e) (ht : Try.prog.underlying t = some (.array 2 e)) {H : Type} {enc : TypeId × Value → H} {w : World} {base : Nat} {spare : Nat → Bool} {held : Bool} {fuel : Nat} {cs : List Value} {x : DataW H × List MemPlace}
    (hc : Try.prog.cellsOf t = 2 * Dat.sz α) (h : DataW.trod enc Try.prog w base spare held fuel t cs = some x) (hwt : Wt t x.1) :
    ∃ a b : α, cs = Dat.cells a ++ Dat.cells b ∧ Dat.ok (fun _ => True) w a ∧ Dat.ok (fun _ => True) w b := by
  obtain ⟨xs, m, _, rfl, hl, hxl, hi⟩ := DataW.trod_array ht h
  have hw := wt_array ht hwt
  rcases xs with _ | ⟨x0, _ | ⟨x1, _ | ⟨x2, r⟩⟩⟩
  · cases hxl
  · cases hxl
  · have g0 := hi 0 (by omega)
    have g1 := hi 1 (by omega)
    rw [he.sz] at g0 g1
    simp only [List.getElem?_cons_zero, List.getElem?_cons_succ, Nat.zero_mul, Nat.one_mul, List.drop_zero] at g0 g1
    obtain ⟨a, ha, hao⟩ := he.op g0 (hw _ (by simp))
    obtain ⟨b, hb, hbo⟩ := he.op g1 (hw _ (by simp))
    refine ⟨a, b, ?_, hao, hbo⟩
    rw [← ha, ← hb, List.take_of_length_le (l := cs.drop _) (by rw [List.length_drop, hl, hc]; omega), List.take_append_drop]
  · simp at hxl
/-- one field of a struct -/
theorem open_field {α : Type} [Dat α] {t e : TypeId} (he : Opens α e) {fs : Array Field} (ht : Try.prog.underlying t = some (.struct fs)) {H : Type} {enc : TypeId × Value → H} {w : World} {base : Nat} {spare : Nat → Bool} {held : Bool} {n : Nat} {cs : List Value} {xs : List (DataW H × List MemPlace)}
    (hwt : Wt t (.agg (xs.map (·.1)))) (hxl : xs.length = fs.size) (hf : ∀ (i : Nat) (f : Field), fs[i]? = some f → DataW.trod enc Try.prog w base spare held n f.type ((cs.drop f.offset).take (Try.prog.cellsOf f.type)) = xs[i]?) (j : Nat) {f : Field} (hj : fs[j]? = some f) (hfe : f.type = e) {o : Nat} (ho : f.offset = o) :
    ∃ a : α, cs.drop o = Dat.cells a ++ cs.drop (o + Dat.sz α) ∧ Dat.ok (fun _ => True) w a := by
  subst hfe ho
  have hjl : j < xs.length := by rw [hxl]; exact (Array.getElem?_eq_some_iff.1 hj).1
  have g := hf j f hj
  rw [List.getElem?_eq_getElem hjl, he.sz] at g
  have hw := wt_struct (j := j) (f := f) (d := (xs[j]).1) ht hwt (by rw [List.getElem?_map, Array.getElem?_toList, hj]; rfl) (by rw [List.getElem?_map, List.getElem?_eq_getElem hjl]; rfl)
  obtain ⟨a, ha, hao⟩ := he.op g hw
  refine ⟨a, ?_, hao⟩
  rw [← ha, ← List.drop_drop, List.take_append_drop]
end Go.Proofs.Ytbpccmnalhdpmaa
