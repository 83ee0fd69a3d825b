/- Deep data: what slices, and structs that hold them, stand for; and what a walk knows of memory, thing by thing. Over any program. -/
import Derived.Test.YtbpccmnalhdpmaaSlc
import Derived.Laws.StructEq
set_option linter.unusedVariables false
namespace Go.Fw
open Go.RowKit

/-- a slice, and what lies in it -/
structure Lst (α : Type) where
  a : Option Addr
  c : Nat
  l : List α
def Lst.blk {α : Type} (s : Lst α) : Nat := match s.a with | some a => a.block | none => 0
def Lst.off {α : Type} (s : Lst α) : Nat := match s.a with | some a => a.off | none => 0
abbrev Lst.val {α : Type} (s : Lst α) : Value := .slice s.a s.l.length s.c

/-- data that lies in cells; 'ok F w x': what x reaches lies in w, in blocks of F -/
class Dat (α : Type) where
  sz : Nat
  bs : Nat
  cells : α → List Value
  ok : (Nat → Prop) → World → α → Prop
  len : ∀ x, (cells x).length = sz
  mv : ∀ {F G : Nat → Prop} {w w' : World} {x : α}, ok F w x → (∀ b, F b → b < w.heap.size → G b ∧ w'.heap[b]? = w.heap[b]?) → w.heap.size ≤ w'.heap.size → ok G w' x

theorem cell_same {w w' : World} {b o : Nat} (h : w'.heap[b]? = w.heap[b]?) : w'.cell? ⟨b, o, none⟩ = w.cell? ⟨b, o, none⟩ := by
  simp only [World.cell?, h]
theorem Cells.same {w w' : World} {b o : Nat} {xs : List Value} (h : Cells w b o xs) (e : w'.heap[b]? = w.heap[b]?) : Cells w' b o xs := fun j v hv => by
  rw [cell_same e]; exact h j v hv

def Lst.ok {α : Type} [Dat α] (F : Nat → Prop) (w : World) (s : Lst α) : Prop :=
  s.l.length * Dat.bs α ≤ 140737488355328 ∧ (0 < s.l.length → s.a = some ⟨s.blk, s.off, none⟩ ∧ F s.blk ∧ s.blk < w.heap.size ∧
    ∀ i x, s.l[i]? = some x → Cells w s.blk (s.off + i * Dat.sz α) (Dat.cells x) ∧ Dat.ok F w x)
theorem Lst.mv {α : Type} [Dat α] {F G : Nat → Prop} {w w' : World} {s : Lst α} (h : s.ok F w) (k : ∀ b, F b → b < w.heap.size → G b ∧ w'.heap[b]? = w.heap[b]?) (hs : w.heap.size ≤ w'.heap.size) : s.ok G w' := by
  refine ⟨h.1, fun h0 => ?_⟩
  obtain ⟨h1, h2, h3, h4⟩ := h.2 h0
  refine ⟨h1, (k _ h2 h3).1, by omega, fun i x hx => ?_⟩
  obtain ⟨h5, h6⟩ := h4 i x hx
  exact ⟨h5.same (k _ h2 h3).2, Dat.mv h6 k hs⟩
instance {α : Type} [Dat α] : Dat (Lst α) where
  sz := 1
  bs := 24
  cells s := [s.val]
  ok F w s := s.ok F w
  len _ := rfl
  mv h k hs := Lst.mv h k hs
instance : Dat Int := ⟨1, 8, fun n => [.int .i64 n], fun _ _ _ => True, fun _ => rfl, fun _ _ _ => trivial⟩
instance : Dat Bool := ⟨1, 1, fun n => [.bool n], fun _ _ _ => True, fun _ => rfl, fun _ _ _ => trivial⟩
instance : Dat ByteArray := ⟨1, 16, fun n => [.string n], fun _ _ _ => True, fun _ => rfl, fun _ _ _ => trivial⟩

section
variable {α : Type} [Dat α] {F : Nat → Prop} {w w' : World} {s : Lst α} {x : α} {i : Nat}
omit [Dat α] in
theorem lt_of_get {l : List α} (h : l[i]? = some x) : i < l.length := (List.getElem?_eq_some_iff.1 h).1
theorem Lst.adr (h : s.ok F w) (hx : s.l[i]? = some x) : s.a = some ⟨s.blk, s.off, none⟩ := (h.2 (by have := lt_of_get hx; omega)).1
theorem Lst.el (h : s.ok F w) (hx : s.l[i]? = some x) : Cells w s.blk (s.off + i * Dat.sz α) (Dat.cells x) := ((h.2 (by have := lt_of_get hx; omega)).2.2.2 i x hx).1
theorem Lst.elok (h : s.ok F w) (hx : s.l[i]? = some x) : Dat.ok F w x := ((h.2 (by have := lt_of_get hx; omega)).2.2.2 i x hx).2
theorem Dat.ext (h : Dat.ok F w x) (e : Ext w w') : Dat.ok F w' x := Dat.mv h (fun b hb hl => ⟨hb, e.block b hl⟩) e.size
theorem Dat.all (h : Dat.ok F w x) : Dat.ok (fun _ => True) w x := Dat.mv h (fun _ _ _ => ⟨trivial, rfl⟩) (Nat.le_refl _)
theorem Lst.bd (h : s.ok F w) : s.l.length * Dat.bs α ≤ 140737488355328 := h.1
theorem Lst.nil_ok : Lst.ok F w (⟨none, 0, []⟩ : Lst α) := ⟨by simp, fun h => by simp at h⟩
omit [Dat α] in
theorem get_ex {l : List α} {k : Nat} (h : k < l.length) : ∃ x, l[k]? = some x := ⟨_, List.getElem?_eq_getElem h⟩
end
theorem drop_map {α β : Type} {f : α → β} {l : List α} {x : α} {k : Nat} (h : l[k]? = some x) : (l.map f).drop k = f x :: (l.map f).drop (k + 1) := by
  obtain ⟨hk, rfl⟩ := List.getElem?_eq_some_iff.1 h
  rw [List.drop_eq_getElem_cons (by simpa using hk)]
  simp
theorem drop_id {α : Type} {l : List α} {x : α} {k : Nat} (h : l[k]? = some x) : l.drop k = x :: l.drop (k + 1) := by
  obtain ⟨hk, rfl⟩ := List.getElem?_eq_some_iff.1 h
  exact List.drop_eq_getElem_cons hk
theorem getD_of {α : Type} {l : List α} {x d : α} {k : Nat} (h : l[k]? = some x) : l[k]?.getD d = x := by rw [h]; rfl
theorem getD_map {α β : Type} {f : α → β} {l : List α} {x : α} {d : β} {k : Nat} (h : l[k]? = some x) : (l.map f)[k]?.getD d = f x := by rw [List.getElem?_map, h]; rfl
theorem get2 {α : Type} {p : α → Prop} {a b x : α} {k : Nat} (h0 : p a) (h1 : p b) (hx : [a, b][k]? = some x) : p x := by
  match k, hx with
  | 0, hx => cases hx; exact h0
  | 1, hx => cases hx; exact h1
  | k + 2, hx => simp at hx
theorem drop_end {α : Type} {l : List α} : l.drop l.length = [] := List.drop_length
theorem drop_endm {α β : Type} {f : α → β} {l : List α} : (l.map f).drop l.length = [] := by rw [← List.length_map (f := f)]; exact List.drop_length

/-! what a walk knows of memory -/
/-- a thing in memory: its blocks, and what is said of it -/
structure It where
  F : Nat → Prop
  p : World → Prop
  bd : ∀ w, p w → ∀ b, F b → b < w.heap.size
  st : ∀ w w', p w → (∀ b, F b → w'.heap[b]? = w.heap[b]?) → w.heap.size ≤ w'.heap.size → p w'
/-- a variable -/
def It.box (b : Nat) (t : TypeId) (cs : Array Value) : It where
  F k := k = b
  p w := Blk w b t cs
  bd w h k hk := by subst hk; exact h.lt
  st w w' h k _ := by unfold Blk at h ⊢; rw [k b rfl]; exact h
/-- a row that is being made -/
def It.own (A : Option Addr) (c : Nat) (e : TypeId) (size n : Nat) (xs : List Value) : It where
  F k := rowOf A = some k
  p w := Own w 0 e size A n c xs
  bd w h k hk := (h.row k hk).2
  st w w' h k hs := by
    refine ⟨h.1, ?_⟩
    rcases h.2 with h1 | ⟨g, cap, cur, h3, h4, h5, h6⟩
    · exact .inl h1
    · refine .inr ⟨g, cap, cur, h3, h4, ?_, h6⟩
      injection h3 with h3 _ _
      rw [k g (by rw [h3]; rfl)]
      exact h5
/-- a row of data that is being made -/
abbrev It.ownl {α : Type} [Dat α] (A : Option Addr) (c : Nat) (e : TypeId) (xs : List α) : It := .own A c e (Dat.sz α) xs.length (xs.flatMap Dat.cells)
/-- what has been made -/
def It.dat {α : Type} [Dat α] (lo hi : Nat) (x : α) : It where
  F k := lo ≤ k ∧ k < hi
  p w := hi ≤ w.heap.size ∧ Dat.ok (fun k => lo ≤ k ∧ k < hi) w x
  bd w h k hk := by have := h.1; omega
  st w w' h k hs := ⟨by have := h.1; omega, Dat.mv h.2 (fun b hb _ => ⟨hb, k b hb⟩) hs⟩

def Bx (w0 w : World) (L : List It) : Prop := Ext w0 w ∧ (∀ it ∈ L, it.p w ∧ ∀ b, it.F b → w0.heap.size ≤ b) ∧ L.Pairwise (fun a c => ∀ b, a.F b → ¬ c.F b)
section
variable {w0 w w' : World} {L : List It} {it it' : It} {i : Nat}
theorem Bx.nil : Bx w w [] := ⟨Ext.refl w, fun _ h => by (cases h), List.Pairwise.nil⟩
theorem Bx.ext (h : Bx w0 w L) (e : Ext w w') : Bx w0 w' L :=
  ⟨h.1.trans e, fun it hi => ⟨it.st w w' (h.2.1 it hi).1 (fun b hb => e.block b (it.bd w (h.2.1 it hi).1 b hb)) e.size, (h.2.1 it hi).2⟩, h.2.2⟩
theorem Bx.drew (h : Bx w0 w L) : Bx w0 w.drew L := h.ext (Ext.refl w).drew
theorem Bx.push (h : Bx w0 w L) (e : Ext w w') (hp : it.p w') (hn : ∀ b, it.F b → w.heap.size ≤ b) : Bx w0 w' (it :: L) := by
  refine ⟨h.1.trans e, fun x hx => ?_, List.pairwise_cons.2 ⟨fun x hx b hb hc => ?_, h.2.2⟩⟩
  · rcases List.mem_cons.1 hx with rfl | hx
    · exact ⟨hp, fun b hb => Nat.le_trans h.1.size (hn b hb)⟩
    · exact (h.ext e).2.1 x hx
  · have h1 := x.bd w (h.2.1 x hx).1 b hc
    have h2 := hn b hb
    omega
theorem Bx.at (h : Bx w0 w L) (i : Nat) (hi : L[i]? = some it) : it.p w := (h.2.1 it (List.mem_of_getElem? hi)).1
theorem Bx.bk (h : Bx w0 w L) (i : Nat) {b : Nat} {t : TypeId} {cs : Array Value} (hi : L[i]? = some (.box b t cs)) : Blk w b t cs := h.at i hi
theorem Bx.base (h : Bx w0 w L) (i : Nat) (hi : L[i]? = some it) : ∀ b, it.F b → w0.heap.size ≤ b := (h.2.1 it (List.mem_of_getElem? hi)).2
theorem Bx.sub {L' : List It} (h : Bx w0 w L) (hs : L'.Sublist L) : Bx w0 w L' := ⟨h.1, fun it hi => h.2.1 it (hs.subset hi), h.2.2.sublist hs⟩
theorem Bx.tl (h : Bx w0 w (it :: L)) : Bx w0 w L := h.sub (List.sublist_cons_self it L)
theorem pw_get {R : It → It → Prop} : ∀ {L : List It} {i j : Nat} {x y : It}, L.Pairwise R → i < j → L[i]? = some x → L[j]? = some y → R x y
  | a :: L, 0, j + 1, x, y, h, _, hx, hy => by
    simp only [List.getElem?_cons_zero, Option.some.injEq] at hx
    subst hx
    exact (List.pairwise_cons.1 h).1 y (List.mem_of_getElem? (by simpa using hy))
  | a :: L, i + 1, j + 1, x, y, h, hij, hx, hy => pw_get (i := i) (j := j) (List.pairwise_cons.1 h).2 (by omega) (by simpa using hx) (by simpa using hy)
theorem Bx.apart (h : Bx w0 w L) {j : Nat} {x y : It} (hij : i ≠ j) (hx : L[i]? = some x) (hy : L[j]? = some y) : ∀ b, x.F b → ¬ y.F b := by
  rcases Nat.lt_or_gt_of_ne hij with h1 | h1
  · exact pw_get h.2.2 h1 hx hy
  · exact fun b hb hc => pw_get h.2.2 h1 hy hx b hc hb
theorem pw_set {R : It → It → Prop} : ∀ {L : List It} {i : Nat} {y : It}, L.Pairwise R → (∀ j x, j ≠ i → L[j]? = some x → R x y ∧ R y x) → (L.set i y).Pairwise R
  | [], i, y, _, _ => by simp
  | a :: L, 0, y, h, k => by
    rw [List.set_cons_zero]
    refine List.pairwise_cons.2 ⟨fun x hx => ?_, (List.pairwise_cons.1 h).2⟩
    obtain ⟨j, hj⟩ := List.getElem?_of_mem hx
    exact (k (j + 1) x (by omega) (by simpa using hj)).2
  | a :: L, i + 1, y, h, k => by
    rw [List.set_cons_succ]
    refine List.pairwise_cons.2 ⟨fun x hx => ?_, pw_set (List.pairwise_cons.1 h).2 fun j x hj hx => k (j + 1) x (by omega) (by simpa using hx)⟩
    rcases List.mem_or_eq_of_mem_set hx with hx | rfl
    · exact (List.pairwise_cons.1 h).1 x hx
    · exact (k 0 a (by omega) (by simp)).1
theorem Bx.perm {L' : List It} (h : Bx w0 w L) (hp : L.Perm L') : Bx w0 w L' :=
  ⟨h.1, fun it hi => h.2.1 it (hp.mem_iff.2 hi), (hp.pairwise_iff (fun {a c} r b hb hc => r b hc hb)).1 h.2.2⟩
/-- one thing turns into another; nothing else that was there changes -/
theorem Bx.put (h : Bx w0 w L) (i : Nat) (hi : L[i]? = some it) (hs : w.heap.size ≤ w'.heap.size) (hw : w'.os = w.os ∧ w'.tape = w.tape ∧ w'.output = w.output)
    (hb : ∀ b, b < w.heap.size → ¬ it.F b → w'.heap[b]? = w.heap[b]?) (hp : it'.p w') (hF : ∀ b, it'.F b → it.F b ∨ w.heap.size ≤ b) : Bx w0 w' (L.set i it') := by
  have hbase := h.base i hi
  have hel : ∀ j x, j ≠ i → L[j]? = some x → x.p w' ∧ ∀ b, x.F b → w0.heap.size ≤ b := fun j x hj hx =>
    ⟨x.st w w' (h.at j hx) (fun b hb' => hb b (x.bd w (h.at j hx) b hb') (fun hc => h.apart hj hx hi b hb' hc)) hs, h.base j hx⟩
  refine ⟨⟨hw.1.trans h.1.os, hw.2.1.trans h.1.tape, hw.2.2.trans h.1.output, Nat.le_trans h.1.size hs, fun k hk => ?_⟩, fun x hx => ?_, pw_set h.2.2 fun j x hj hx => ?_⟩
  · rw [hb k (Nat.lt_of_lt_of_le hk h.1.size) (fun hc => by have := hbase k hc; omega)]
    exact h.1.block k hk
  · obtain ⟨j, hj⟩ := List.getElem?_of_mem hx
    by_cases hji : j = i
    · subst hji
      rw [List.getElem?_set_self (by exact (List.getElem?_eq_some_iff.1 hi).1)] at hj
      cases hj
      refine ⟨hp, fun b hb' => ?_⟩
      rcases hF b hb' with h1 | h1
      · exact hbase b h1
      · have := h.1.size; omega
    · rw [List.getElem?_set_ne (Ne.symm hji)] at hj
      exact hel j x hji hj
  · have key : ∀ b, x.F b → ¬ it'.F b := fun b hb1 hb2 => by
      rcases hF b hb2 with h1 | h1
      · exact h.apart hj hx hi b hb1 h1
      · have := x.bd w (h.at j hx) b hb1; omega
    exact ⟨key, fun b h1 h2 => key b h2 h1⟩
/-- a variable is made -/
theorem Bx.new (h : Bx w0 w L) {b : Nat} {t : TypeId} {cs : Array Value} (hge : w.heap.size ≤ b) (hB : Blk w' b t cs) (he : Ext w w') : Bx w0 w' (.box b t cs :: L) :=
  h.push he hB (fun k hk => by have hk : k = b := hk; omega)
/-- a variable is written -/
theorem Bx.wr (h : Bx w0 w L) (i : Nat) {b : Nat} {t t' : TypeId} {cs cs' : Array Value} (hi : L[i]? = some (.box b t cs)) (hc : Chg b w w') (hB : Blk w' b t' cs') : Bx w0 w' (L.set i (.box b t' cs')) :=
  h.put i hi hc.size ⟨hc.os, hc.tape, hc.output⟩ (fun k hk hn => hc.block k hk (by intro e; injection e with e; exact hn (show k = b from e))) hB (fun k hk => .inl hk)
/-- a row is begun -/
theorem Bx.owN (h : Bx w0 w L) (e : TypeId) (size : Nat) : Bx w0 w (.own none 0 e size 0 [] :: L) :=
  h.push (Ext.refl w) (Own.nil w 0 e size) (fun k hk => by (cases hk))
/-- a row grows -/
theorem Bx.app (h : Bx w0 w L) (i : Nat) {A A2 : Option Addr} {c c2 n n2 size : Nat} {e : TypeId} {xs ys : List Value} (hi : L[i]? = some (.own A c e size n xs)) (ho : Own w' 0 e size A2 n2 c2 ys) (hg : w.grownBy w' (rowOf A)) (hr : rowOf A2 = rowOf A ∨ rowOf A2 = some w.heap.size) :
    Bx w0 w' (L.set i (.own A2 c2 e size n2 ys)) :=
  h.put i hi hg.size ⟨hg.os, hg.tape, hg.output⟩ (fun k hk hn => hg.block k hk (fun e => hn e.symm)) ho (fun k hk => by
    have hk : rowOf A2 = some k := hk
    rcases hr with hr | hr
    · exact .inl (show rowOf A = some k by rw [← hr]; exact hk)
    · rw [hk] at hr; injection hr with hr; exact .inr (by omega))
theorem Bx.owL (h : Bx w0 w L) (α : Type) [Dat α] (e : TypeId) : Bx w0 w (.ownl none 0 e ([] : List α) :: L) := h.owN e (Dat.sz α)
theorem Bx.bo (h : Bx w0 w L) (i : Nat) {A : Option Addr} {c n size : Nat} {e : TypeId} {xs : List Value} (hi : L[i]? = some (.own A c e size n xs)) : Own w 0 e size A n c xs := h.at i hi
/-- what a call has made -/
theorem Bx.got (h : Bx w0 w L) {α : Type} [Dat α] {x : α} (e : Ext w w') (hx : Dat.ok (fun b => w.heap.size ≤ b) w' x) : Bx w0 w' (.dat w.heap.size w'.heap.size x :: L) :=
  h.push (it := .dat w.heap.size w'.heap.size x) e ⟨Nat.le_refl _, Dat.mv hx (fun b hb hl => ⟨⟨hb, hl⟩, rfl⟩) (Nat.le_refl _)⟩ (fun k hk => hk.1)
theorem Bx.got' (h : Bx w0 w L) {α : Type} [Dat α] {x : α} (e : Ext w w') (hx : Dat.ok (fun b => w.heap.size ≤ b) w' x) : ∃ lo hi, Bx w0 w' (.dat lo hi x :: L) := ⟨_, _, h.got e hx⟩
/-- a row that is made is data -/
theorem Own.lst {α : Type} [Dat α] {e : TypeId} {A : Option Addr} {n c : Nat} {xs : List α} (h : Own w 0 e (Dat.sz α) A n c (xs.flatMap Dat.cells)) (hz : 0 < Dat.sz α) : n = xs.length := by
  have h1 := h.len
  have h2 : ∀ l : List α, (l.flatMap Dat.cells).length = l.length * Dat.sz α := by
    intro l
    induction l with
    | nil => simp
    | cons a l ih => rw [List.flatMap_cons, List.length_append, ih, Dat.len, List.length_cons, Nat.add_mul]; omega
  rw [h2] at h1
  exact (Nat.mul_right_cancel hz h1).symm
end
theorem Own.okL {α : Type} [Dat α] {w : World} {e : TypeId} {A : Option Addr} {c : Nat} {xs : List α} {lo : Nat} (h : Own w 0 e (Dat.sz α) A xs.length c (xs.flatMap Dat.cells)) (hlo : ∀ b, rowOf A = some b → lo ≤ b)
    (hel : ∀ x ∈ xs, Dat.ok (fun b => lo ≤ b) w x) (hb : xs.length * Dat.bs α ≤ 140737488355328) : Lst.ok (fun b => lo ≤ b) w ⟨A, c, xs⟩ := by
  refine ⟨hb, fun h0 => ?_⟩
  obtain ⟨g, rfl⟩ := h.adr h0
  refine ⟨rfl, hlo g rfl, (h.row g rfl).2, fun i x hx => ⟨fun j v hv => ?_, hel x (List.mem_of_getElem? hx)⟩⟩
  refine h.cell ?_
  have hj : j < Dat.sz α := by rw [← Dat.len x]; exact (List.getElem?_eq_some_iff.1 hv).1
  show (xs.flatMap Dat.cells)[0 + i * Dat.sz α + j]? = some v
  rw [Nat.zero_add]
  have key : ∀ (l : List α) (i : Nat), l[i]? = some x → (l.flatMap Dat.cells)[i * Dat.sz α + j]? = some v := by
    intro l
    induction l with
    | nil => intro i hi; simp at hi
    | cons a l ih =>
      intro i hi
      rw [List.flatMap_cons]
      cases i with
      | zero =>
        simp only [List.getElem?_cons_zero, Option.some.injEq] at hi
        subst hi
        rw [List.getElem?_append_left (by rw [Dat.len]; omega), Nat.zero_mul, Nat.zero_add]; exact hv
      | succ i =>
        rw [List.getElem?_append_right (by rw [Dat.len, Nat.succ_mul]; omega), Dat.len, show (i + 1) * Dat.sz α + j - Dat.sz α = i * Dat.sz α + j by rw [Nat.succ_mul]; omega]
        exact ih i (by simpa using hi)
  exact key xs i hx
section
variable {P : Program} {w : World} {ρ : Operand → Value} {d : Option Nat} {ty : TypeId} {pos : String} {af : Array Edge} {g : Option (Nat × Bool)}
theorem aAppL {α : Type} [Dat α] {t e : TypeId} {s x : Operand} {z : Value} {by_ : Nat} {A A' : Option Addr} {c c' : Nat} {xs ys : List α} {B : Nat}
    (ht : P.underlying t = some (.slice e)) (hi : TI P e z (Dat.sz α) by_) (hz : z.cells.size = Dat.sz α) (h0 : 0 < Dat.sz α) (hs : ρ s = .slice A xs.length c) (hx : ρ x = .slice A' ys.length c')
    (ho : Own w 0 e (Dat.sz α) A xs.length c (xs.flatMap Dat.cells)) (hy : Sl w B (Dat.sz α) A' ys.length (ys.flatMap Dat.cells)) (h1 : ∀ u ∈ ys.flatMap Dat.cells, u.oneCell' = true) (hby : (xs.length + ys.length) * by_ ≤ 140737488355328) (hm : xs.length + ys.length ≤ 9223372036854775807) :
    To P ρ ⟨d, .call { callee := .builtin .append, args := #[s, x], argTypes := #[t, t] }, ty, pos, af, g⟩ w fun v w' =>
      ∃ A2 c2, v = .slice A2 (xs ++ ys).length c2 ∧ Own w' 0 e (Dat.sz α) A2 (xs ++ ys).length c2 ((xs ++ ys).flatMap Dat.cells) ∧ w.grownBy w' (rowOf A) ∧ (rowOf A2 = rowOf A ∨ rowOf A2 = some w.heap.size) := by
  have h := aAppend (P := P) (w := w) (d := d) (ty := ty) (pos := pos) (af := af) (g := g) 0 (xs ++ ys).length ht hi hz h0 hs hx ho hy h1 (Nat.zero_le _) hm hby (by simp)
  rw [← List.flatMap_append] at h
  exact h
theorem allOne {l : List Value} (h : l.all (fun v => v.oneCell') = true) : ∀ u ∈ l, u.oneCell' = true := fun u hu => List.all_eq_true.1 h u hu
theorem zv_of {t : TypeId} {z : Value} {s b : Nat} (h : TI P t z s b) : (zeroValue t).run P w = .ok z w := by
  obtain ⟨i, h1, h2, _, _⟩ := h
  simp [zeroValue, typeInfo, h1, h2]
/-- one more element, out of a row of its own -/
theorem Blk.sl1 {α : Type} [Dat α] {w : World} {b : Nat} {t : TypeId} {cs : Array Value} (h : Blk w b t cs) (ys : List α) (hc : cs.toList = ys.flatMap Dat.cells) (hn : (ys.flatMap Dat.cells).length = ys.length * Dat.sz α) : Sl w w.heap.size (Dat.sz α) (some ⟨b, 0, none⟩) ys.length (ys.flatMap Dat.cells) := by
  have := h.sl (n := ys.length) (size := Dat.sz α) (by rw [← hn, ← hc]; simp)
  rw [hc] at this; exact this
/-- an element of an array in hand -/
theorem xIdV {α : Type} [Dat α] {t e n : Nat} {x y : Operand} {k : IntKind} {i : Int} {z : Value} {by_ : Nat} {j : Nat} {v : α} {cs : Array Value} {l : List α} (ht : P.underlying t = some (.array n e)) (he : TI P e z (Dat.sz α) by_) (hj : l[j]? = some v) (hag : (P.underlying e).map aggD = some true)
    (hx : ρ x = .agg cs) (hc : cs.toList = l.flatMap Dat.cells) (hn : l.length = n) (hy : ρ y = .int k i) (hi : i = (j : Int)) : Yl P ρ (.index t x y) d ty pos af g w (.agg (Dat.cells v).toArray) := by
  subst hi
  have hj' : j < n := by rw [← hn]; exact (List.getElem?_eq_some_iff.1 hj).1
  obtain ⟨q, hi1, hi2, hi3, hi4⟩ := he
  have hagg : (isAgg e).run P w = .ok true w := by
    unfold isAgg
    cases hu : P.underlying e with
    | none => rw [hu] at hag; cases hag
    | some D =>
      rw [Sem.run_bind, run_underlying hu w]
      rw [hu] at hag
      cases D <;> simp_all [aggD]
  have hex : cs.extract (j * Dat.sz α) (j * Dat.sz α + Dat.sz α) = (Dat.cells v).toArray := by
    apply Array.ext'
    rw [Array.toList_extract, hc]
    have key : ∀ (l : List α) (j : Nat), l[j]? = some v → ((l.flatMap Dat.cells).drop (j * Dat.sz α)).take (Dat.sz α) = Dat.cells v := by
      intro l
      induction l with
      | nil => intro j h; simp at h
      | cons a l ih =>
        intro j h
        cases j with
        | zero =>
          simp only [List.getElem?_cons_zero, Option.some.injEq] at h
          subst h
          rw [List.flatMap_cons, Nat.zero_mul, List.drop_zero, List.take_append_of_le_length (by rw [Dat.len]; omega), List.take_of_length_le (by rw [Dat.len]; omega)]
        | succ j =>
          rw [List.flatMap_cons, show (j + 1) * Dat.sz α = (Dat.cells a).length + j * Dat.sz α by rw [Dat.len, Nat.succ_mul]; omega, ← List.drop_drop, List.drop_left]
          exact ih j (by simpa using h)
    have := key l j hj
    simp only [List.extract]
    rw [show j * Dat.sz α + Dat.sz α - j * Dat.sz α = Dat.sz α by omega]
    exact this
  have h2 : (0 : Int) ≤ j ∧ (j : Int) < n := by omega
  simp [Yl, execOp, hx, hy, Instr.index, run_underlying ht, asIntOf, part, hagg, sizeOf, typeInfo, hi1, hi3, hj', hex]
/-! structs of numbers, compared -/
def isI (P : Program) (f : Field) (o : Nat) : Bool := f.name != "_" && f.offset == o && (match P.underlying f.type with | some (.int _) => true | _ => false)
theorem eqF_step {f : Field} {fs : List Field} {o dp : Nat} {xs ys : Array Value} {a b : Int} (h : isI P f o = true) (hx : xs[o]? = some (.int .i64 a)) (hy : ys[o]? = some (.int .i64 b)) :
    (Op.eqFields (dp + 1) xs ys (f :: fs)).run P w = if a = b then (Op.eqFields (dp + 1) xs ys fs).run P w else .ok false w := by
  simp only [isI, Bool.and_eq_true, bne_iff_ne, ne_eq, beq_iff_eq] at h
  obtain ⟨⟨h1, rfl⟩, h3⟩ := h
  cases hu : P.underlying f.type with
  | none => rw [hu] at h3; cases h3
  | some D =>
    rw [hu] at h3
    cases D with
    | int k =>
      have hagg : (isAgg f.type).run P w = .ok false w := by
        unfold isAgg
        rw [Sem.run_bind, run_underlying hu w]
        simp
      have hp1 : (part f.type xs f.offset).run P w = .ok (.int .i64 a) w := by simp [part, hagg, hx]
      have hp2 : (part f.type ys f.offset).run P w = .ok (.int .i64 b) w := by simp [part, hagg, hy]
      have he := run_equalIn_int (P := P) w dp f.type .i64 k a b hu
      conv => lhs; unfold Op.eqFields
      rw [if_pos h1]
      simp only [Sem.run_bind, hp1, hp2, Result.andThen_ok, he]
      by_cases hab : a = b
      · subst hab; simp
      · have : (a == b) = false := beq_false_of_ne hab
        simp [this, hab]
    | _ => cases h3
theorem eq_ag3 {t : TypeId} {f0 f1 f2 : Field} {a b c a' b' c' : Int} (ht : P.underlying t = some (.struct #[f0, f1, f2])) (hf : (isI P f0 0 && isI P f1 1 && isI P f2 2) = true) (hp : P.stoodInHeld t = false) :
    (Op.equalIn 10000 t (.agg #[.int .i64 a, .int .i64 b, .int .i64 c]) (.agg #[.int .i64 a', .int .i64 b', .int .i64 c'])).run P w = .ok (decide ([a, b, c] = [a', b', c'])) w := by
  simp only [Bool.and_eq_true] at hf
  have hfs : P.fieldsOf t = #[f0, f1, f2] := by unfold Program.fieldsOf; rw [ht]
  rw [run_equalIn_struct (P := P) w 9999 t _ _ (by rw [hfs, ht]) hp, hfs]
  rw [show (#[f0, f1, f2] : Array Field).toList = [f0, f1, f2] from rfl]
  rw [eqF_step (P := P) (dp := 9998) hf.1.1 rfl rfl, eqF_step (P := P) (dp := 9998) hf.1.2 rfl rfl, eqF_step (P := P) (dp := 9998) hf.2 rfl rfl]
  by_cases h1 : a = a' <;> by_cases h2 : b = b' <;> by_cases h3 : c = c' <;> simp [h1, h2, h3, Op.eqFields]
theorem xAgNe3 {t t' : TypeId} {x y : Operand} {f0 f1 f2 : Field} {a b c a' b' c' : Int} (ht : P.underlying t = some (.struct #[f0, f1, f2])) (hf : (isI P f0 0 && isI P f1 1 && isI P f2 2) = true) (hp : P.stoodInHeld t = false) (hm : P.eqGuardType P.depth t = false)
    (hx : ρ x = .agg #[.int .i64 a, .int .i64 b, .int .i64 c]) (hy : ρ y = .agg #[.int .i64 a', .int .i64 b', .int .i64 c']) : Yl P ρ (.binOp .neq t x y t') d ty pos af g w (.bool (decide (¬ [a, b, c] = [a', b', c']))) := by
  have h1 := run_neq_struct (P := P) w t #[.int .i64 a, .int .i64 b, .int .i64 c] #[.int .i64 a', .int .i64 b', .int .i64 c']
  rw [eq_ag3 ht hf hp] at h1
  have h2 := run_eqGuard_agg (P := P) w .neq t x y #[.int .i64 a, .int .i64 b, .int .i64 c] #[.int .i64 a', .int .i64 b', .int .i64 c'] hm
  have e : decide (¬ [a, b, c] = [a', b', c']) = !decide ([a, b, c] = [a', b', c']) := by by_cases h : [a, b, c] = [a', b', c'] <;> simp [h]
  rw [e]
  simp only [Yl, execOp, hx, hy, Sem.run_bind, h2, Result.andThen_ok, h1]
  rfl
theorem xAgEq3 {t t' : TypeId} {x y : Operand} {f0 f1 f2 : Field} {a b c a' b' c' : Int} (ht : P.underlying t = some (.struct #[f0, f1, f2])) (hf : (isI P f0 0 && isI P f1 1 && isI P f2 2) = true) (hp : P.stoodInHeld t = false) (hm : P.eqGuardType P.depth t = false)
    (hx : ρ x = .agg #[.int .i64 a, .int .i64 b, .int .i64 c]) (hy : ρ y = .agg #[.int .i64 a', .int .i64 b', .int .i64 c']) : Yl P ρ (.binOp .eql t x y t') d ty pos af g w (.bool (decide ([a, b, c] = [a', b', c']))) := by
  have h1 := run_eql_struct (P := P) w t #[.int .i64 a, .int .i64 b, .int .i64 c] #[.int .i64 a', .int .i64 b', .int .i64 c']
  rw [eq_ag3 ht hf hp] at h1
  have h2 := run_eqGuard_agg (P := P) w .eql t x y #[.int .i64 a, .int .i64 b, .int .i64 c] #[.int .i64 a', .int .i64 b', .int .i64 c'] hm
  simp only [Yl, execOp, hx, hy, Sem.run_bind, h2, Result.andThen_ok, h1]
  rfl
/-- the address of an element -/
theorem xIdL {α : Type} [Dat α] {F : Nat → Prop} {w1 : World} {s : Lst α} {v : α} {t e : TypeId} {x y : Operand} {k : IntKind} {i : Int} {z : Value} {by_ : Nat} {j : Nat} (ht : P.underlying t = some (.slice e)) (he : TI P e z (Dat.sz α) by_) (hx : ρ x = s.val)
    (hy : ρ y = .int k i) (hi : i = (j : Int)) (hs : s.ok F w1) (hj : s.l[j]? = some v) : Yl P ρ (.indexAddr t x y) d ty pos af g w (.pointer (some ⟨s.blk, s.off + j * Dat.sz α, none⟩)) := by
  have h1 : ρ x = .slice (some ⟨s.blk, s.off, none⟩) s.l.length s.c := by rw [hx, Lst.val, s.adr hs hj]
  exact xIdx (P := P) (w := w) (d := d) (ty := ty) (pos := pos) (af := af) (g := g) j ht he h1 hy hi (lt_of_get hj)
/-- a slice's length -/
theorem xLnL {α : Type} {s : Lst α} {t e : TypeId} {x : Operand} (ht : P.underlying t = some (.slice e)) (hx : ρ x = s.val) :
    Yl P ρ (.call { callee := .builtin .len, args := #[x], argTypes := #[t] }) d ty pos af g w (.int .i64 (s.l.length : Nat)) := xLen ht hx
/-- a number is kept by the word's arithmetic -/
def wr (n : Int) : Int := IntKind.i64.wrap n
theorem xAddW {t t' : TypeId} {x y : Operand} {a b : Int} (hx : ρ x = .int .i64 a) (hy : ρ y = .int .i64 b) : Yl P ρ (.binOp .add t x y t') d ty pos af g w (.int .i64 (wr (a + b))) := xAdd hx hy
theorem xMulW {t t' : TypeId} {x y : Operand} {a b : Int} (hx : ρ x = .int .i64 a) (hy : ρ y = .int .i64 b) : Yl P ρ (.binOp .mul t x y t') d ty pos af g w (.int .i64 (wr (a * b))) := xMul hx hy
def bwAnd (a b : Int) : Int := IntKind.i64.wrap ((BitVec.ofInt 64 a &&& BitVec.ofInt 64 b).toNat)
def bwOr (a b : Int) : Int := IntKind.i64.wrap ((BitVec.ofInt 64 a ||| BitVec.ofInt 64 b).toNat)
def bwXor (a b : Int) : Int := IntKind.i64.wrap ((BitVec.ofInt 64 a ^^^ BitVec.ofInt 64 b).toNat)
theorem xAndW {t t' : TypeId} {x y : Operand} {a b : Int} (hx : ρ x = .int .i64 a) (hy : ρ y = .int .i64 b) : Yl P ρ (.binOp .and t x y t') d ty pos af g w (.int .i64 (bwAnd a b)) := xAnd hx hy
theorem xOrW {t t' : TypeId} {x y : Operand} {a b : Int} (hx : ρ x = .int .i64 a) (hy : ρ y = .int .i64 b) : Yl P ρ (.binOp .or t x y t') d ty pos af g w (.int .i64 (bwOr a b)) := xOr hx hy
theorem xXorW {t t' : TypeId} {x y : Operand} {a b : Int} (hx : ρ x = .int .i64 a) (hy : ρ y = .int .i64 b) : Yl P ρ (.binOp .xor t x y t') d ty pos af g w (.int .i64 (bwXor a b)) := xXor hx hy
theorem xNegW {t : TypeId} {x : Operand} {a : Int} (hx : ρ x = .int .i64 a) : Yl P ρ (.unOp .neg t x) d ty pos af g w (.int .i64 (wr (0 - a))) := xNeg hx
theorem xSubW {t t' : TypeId} {x y : Operand} {a b : Int} (hx : ρ x = .int .i64 a) (hy : ρ y = .int .i64 b) : Yl P ρ (.binOp .sub t x y t') d ty pos af g w (.int .i64 (wr (a - b))) := xSub hx hy
end
theorem Cells.part {w : World} {b o o2 : Nat} {cs xs : List Value} (h : Cells w b o cs) (hx : (cs.drop o2).take xs.length = xs) : Cells w b (o + o2) xs := fun j v hv => by
  rw [Nat.add_assoc]
  refine h (o2 + j) v ?_
  rw [← hx, List.getElem?_take] at hv
  split at hv
  · rw [List.getElem?_drop] at hv; exact hv
  · cases hv
/-- cells of a part of a variable -/
theorem Blk.part {w : World} {b : Nat} {t : TypeId} {cs : Array Value} (h : Blk w b t cs) {o : Nat} {xs : List Value} (hx : (cs.toList.drop o).take xs.length = xs) : Cells w b o xs := fun j v hv => by
  refine h.cell ?_
  rw [← hx, List.getElem?_take] at hv
  split at hv
  · rw [List.getElem?_drop] at hv; simpa using hv
  · cases hv

/-- the ways through x meet again in J -/
theorem wJ {P : Program} {N : Sz} {Q : Post} {f : Fr} {w : World} {x : Code} (J : Fr → World → Prop) (h : WP P N x { Q with n := J } f w) (k : ∀ f w, J f w → Q.n f w) : WP P N x Q f w :=
  h.mono (fun f w hj => k f w hj) (fun _ _ _ h => h) (fun _ _ h => h)
/-- how a loop ends: it goes on behind the loop, or leaves the function -/
inductive Lp (σ ρ : Type) where
  | go (s : σ)
  | out (r : ρ)
def Lp.el {σ ρ τ : Type} (f : σ → τ) (g : ρ → τ) : Lp σ ρ → τ
  | .go s => f s
  | .out r => g r
theorem Lp.el_go {σ ρ τ : Type} (f : σ → τ) (g : ρ → τ) (s : σ) : (Lp.go s : Lp σ ρ).el f g = f s := rfl
theorem Lp.el_out {σ ρ τ : Type} (f : σ → τ) (g : ρ → τ) (r : ρ) : (Lp.out r : Lp σ ρ).el f g = g r := rfl
theorem ne_t {b : Bool} (h : b = false) : ¬ b = true := by rw [h]; decide
end Go.Fw
