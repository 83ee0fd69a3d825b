/- Places in things: what a pointer into a thing points to, and what a store through it does; things brought to the front. Over any program. -/
import Derived.Test.YtbpccmnalhdpmaaMx
set_option linter.unusedVariables false
namespace Go.Fw
open Go.RowKit

theorem xQuoW {P : Program} {ρ : Operand → Value} {d : Option Nat} {ty : TypeId} {pos : String} {af : Array Edge} {g : Option (Nat × Bool)} {w : World} {t t' : TypeId} {x y : Operand} {a b : Int} (hx : ρ x = .int .i64 a) (hy : ρ y = .int .i64 b) (h0 : ¬ b = 0) : Yl P ρ (.binOp .quo t x y t') d ty pos af g w (.int .i64 (wr (a.tdiv b))) := xQuo hx hy h0
theorem xRemW {P : Program} {ρ : Operand → Value} {d : Option Nat} {ty : TypeId} {pos : String} {af : Array Edge} {g : Option (Nat × Bool)} {w : World} {t t' : TypeId} {x y : Operand} {a b : Int} (hx : ρ x = .int .i64 a) (hy : ρ y = .int .i64 b) (h0 : ¬ b = 0) : Yl P ρ (.binOp .rem t x y t') d ty pos af g w (.int .i64 (a.tmod b)) := xRem hx hy h0
/-- a word for what a call has answered -/
def lt {α β : Type} (a : α) (f : α → β) : β := f a
theorem lt_eq {α β : Type} (a : α) (f : α → β) : lt a f = f a := rfl
/-- cells at b, o, in a thing that is T cs when they are cs -/
structure Slot (T : List Value → It) (b o : Nat) : Prop where
  F : ∀ cs ds k, (T cs).F k → (T ds).F k
  hb : ∀ cs, (T cs).F b
  get : ∀ cs w, (T cs).p w → Cells w b o cs
  frz : ∀ cs w k, (T cs).p w → k < cs.length → w.frozen? ⟨b, o + k, none⟩ = false
  put : ∀ cs w k v, (T cs).p w → k < cs.length → (T (cs.set k v)).p (w.setCell ⟨b, o + k, none⟩ v)
/-- a part of such cells -/
def sub (T : List Value → It) (cs : List Value) (k m : Nat) : List Value → It := fun ds => T (cs.take k ++ (ds ++ cs.drop (k + m)))
section
variable {T : List Value → It} {b o : Nat} {w w' w0 : World} {L : List It} {cs : List Value}
theorem Slot.sub (h : Slot T b o) (k m : Nat) (hk : k ≤ cs.length) : Slot (Go.Fw.sub T cs k m) b (o + k) := by
  have hl : (cs.take k).length = k := by rw [List.length_take]; omega
  refine ⟨fun _ _ _ hf => h.F _ _ _ hf, fun _ => h.hb _, fun ds w hp j v hv => ?_, fun ds w j hp hj => ?_, fun ds w j v hp hj => ?_⟩
  · have := h.get _ w hp (k + j) v (by
      rw [List.getElem?_append_right (by omega), hl, Nat.add_sub_cancel_left, List.getElem?_append_left (List.getElem?_eq_some_iff.1 hv).1]; exact hv)
    rwa [← Nat.add_assoc] at this
  · have := h.frz _ w (k + j) hp (by simp only [List.length_append]; omega)
    rwa [← Nat.add_assoc] at this
  · have := h.put _ w (k + j) v hp (by simp only [List.length_append]; omega)
    rw [← Nat.add_assoc, List.set_append_right _ _ (by omega), hl, Nat.add_sub_cancel_left, List.set_append_left _ _ hj] at this
    exact this
theorem Slot.box (b : Nat) (t : TypeId) : Slot (fun cs => .box b t cs.toArray) b 0 := by
  refine ⟨fun _ _ _ h => h, fun _ => rfl, fun cs w hp => ?_, fun cs w k hp _ => ?_, fun cs w k v hp _ => ?_⟩
  · have := Blk.cells (show Blk w b t cs.toArray from hp); simpa using this
  · rw [Nat.zero_add]; exact Blk.frozen (show Blk w b t cs.toArray from hp) k
  · have := Blk.set (show Blk w b t cs.toArray from hp) k v
    rw [Nat.zero_add]
    simpa [It.box] using this
theorem Slot.own (g c : Nat) (e : TypeId) (size n : Nat) : Slot (fun cs => .own (some ⟨g, 0, none⟩) c e size n cs) g 0 := by
  refine ⟨fun _ _ _ h => h, fun _ => rfl, fun cs w hp => ?_, fun cs w k hp _ => ?_, fun cs w k v hp _ => ?_⟩
  · exact fun j v hv => by rw [Nat.zero_add]; exact Own.cell (show Own w 0 e size (some ⟨g, 0, none⟩) n c cs from hp) hv
  · rw [Nat.zero_add]; exact Own.frozen (show Own w 0 e size (some ⟨g, 0, none⟩) n c cs from hp) k
  · rw [Nat.zero_add]; exact Own.set (show Own w 0 e size (some ⟨g, 0, none⟩) n c cs from hp) k v

theorem Bx.sget (h : Bx w0 w L) (i : Nat) (hT : Slot T b o) (hi : L[i]? = some (T cs)) : Cells w b o cs := hT.get _ _ (h.at i hi)
theorem Bx.sput {ds : List Value} (h : Bx w0 w L) (i : Nat) (hT : Slot T b o) (hi : L[i]? = some (T cs)) (hc : Chg b w w') (hp : (T ds).p w') : Bx w0 w' (L.set i (T ds)) :=
  h.put i hi hc.size ⟨hc.os, hc.tape, hc.output⟩ (fun k hk hn => hc.block k hk (by intro e; injection e with e; subst e; exact hn (hT.hb _))) hp (fun k hk => .inl (hT.F _ _ _ hk))
theorem pw_erase {R : It → It → Prop} : ∀ {L : List It} {i : Nat} {y : It}, L.Pairwise R → (∀ a c, R a c → R c a) → L[i]? = some y → (y :: L.eraseIdx i).Pairwise R
  | [], _, _, _, _, hy => by simp at hy
  | a :: L, 0, y, h, _, hy => by
    simp only [List.getElem?_cons_zero, Option.some.injEq] at hy
    subst hy; exact h
  | a :: L, i + 1, y, h, hs, hy => by
    have h1 := pw_erase (List.pairwise_cons.1 h).2 hs (show L[i]? = some y by simpa using hy)
    have h2 := List.pairwise_cons.1 h1
    have h3 := (List.pairwise_cons.1 h).1
    rw [List.eraseIdx_cons_succ]
    refine List.pairwise_cons.2 ⟨fun x hx => ?_, List.pairwise_cons.2 ⟨fun x hx => h3 x (List.mem_of_mem_eraseIdx hx), h2.2⟩⟩
    rcases List.mem_cons.1 hx with rfl | hx
    · exact hs _ _ (h3 y (List.mem_of_getElem? (by simpa using hy)))
    · exact h2.1 x hx
/-- a thing is brought to the front -/
theorem Bx.front {it : It} (h : Bx w0 w L) (i : Nat) (hi : L[i]? = some it) : Bx w0 w (it :: L.eraseIdx i) :=
  ⟨h.1, fun x hx => by
    rcases List.mem_cons.1 hx with rfl | hx
    · exact h.2.1 _ (List.mem_of_getElem? hi)
    · exact h.2.1 _ (List.mem_of_mem_eraseIdx hx), pw_erase h.2.2 (fun a c r b hb hc => r b hc hb) hi⟩
end

section
variable {P : Program} {T : List Value → It} {b o : Nat}
theorem Slot.stores (hT : Slot T b o) : ∀ (ds : List Value) (k : Nat) (cs : List Value) (w : World) (i a : Nat), (∀ v ∈ ds, v.oneCell' = true) → (T cs).p w → k + ds.length ≤ cs.length → a + i = o + k →
    ∃ w', (storeCells ⟨b, a, none⟩ ds i).run P w = .ok () w' ∧ (T (cs.take k ++ (ds ++ cs.drop (k + ds.length)))).p w' ∧ Chg b w w'
  | [], k, cs, w, i, a, _, hp, _, _ => ⟨w, by simp [storeCells], by simpa using hp, Chg.refl b w⟩
  | v :: ds, k, cs, w, i, a, h1, hp, hk, ha => by
    rw [List.length_cons] at hk
    have hv := h1 v (by simp)
    have hkl : k < cs.length := by omega
    have hc := hT.get _ _ hp k cs[k] (List.getElem?_eq_getElem hkl)
    have hf := hT.frz _ _ k hp hkl
    obtain ⟨w', r1, r2, r3⟩ := Slot.stores hT ds (k + 1) (cs.set k v) (w.setCell ⟨b, o + k, none⟩ v) (i + 1) a (fun u hu => h1 u (by simp [hu])) (hT.put _ _ k v hp hkl) (by rw [List.length_set]; omega) (by omega)
    refine ⟨w', ?_, ?_, (Chg.setCell w b (o + k) v).trans r3⟩
    · have e : (⟨b, a, none⟩ : Addr).add i = ⟨b, o + k, none⟩ := by rw [Addr.add_lit, ha]
      simp [storeCells, e, run_store P w ⟨b, o + k, none⟩ v .plain hv, hc, hf, r1]
    · have e : (cs.set k v).take (k + 1) ++ (ds ++ (cs.set k v).drop (k + 1 + ds.length)) = cs.take k ++ (v :: ds ++ cs.drop (k + (v :: ds).length)) := by
        rw [List.drop_set_of_lt (by omega), List.take_succ_eq_append_getElem (by rw [List.length_set]; exact hkl), List.getElem_set_self, List.take_set, List.set_eq_of_length_le (by rw [List.length_take]; omega), List.length_cons, show k + 1 + ds.length = k + (ds.length + 1) by omega]
        simp
      rw [e] at r2; exact r2
variable {ρ : Operand → Value} {d : Option Nat} {ty : TypeId} {pos : String} {af : Array Edge} {g : Option (Nat × Bool)} {w : World}
/-- a struct stored into a part of a thing -/
theorem tStoreL {t : TypeId} {x y : Operand} {z : Value} {s by_ a k : Nat} {cs : List Value} {ds : Array Value} (hT : Slot T b o) (hi : TI P t z s by_) (hs : s = ds.size) (hx : ρ x = .pointer (some ⟨b, a, none⟩)) (ha : a = o + k) (hy : ρ y = .agg ds) (h1 : ds.all (·.oneCell') = true)
    (hp : (T cs).p w) (hk : k + ds.toList.length ≤ cs.length) : ∃ w', St P ρ (.store t x y) d ty pos af g w w' ∧ (T (cs.take k ++ (ds.toList ++ cs.drop (k + ds.toList.length)))).p w' ∧ Chg b w w' := by
  obtain ⟨i, hi1, hi2, hi3, hi4⟩ := hi
  obtain ⟨w', r1, r2, r3⟩ := hT.stores (P := P) ds.toList k cs w 0 a (fun v hv => by
    have := Array.all_eq_true_iff_forall_mem.1 h1 v (by simpa using hv)
    exact this) hp hk (by omega)
  refine ⟨w', ?_, r2, r3⟩
  have hcs : (Value.agg ds).cells = ds := rfl
  simp [St, execOp, hx, hy, Instr.storeAt, Instr.sureAddr, storeVar, sizeOf, typeInfo, hi1, hi3, hs, hcs, r1]
theorem tStoreL1 {t : TypeId} {x y : Operand} {z v : Value} {by_ a k : Nat} {cs : List Value} (hT : Slot T b o) (hi : TI P t z 1 by_) (hx : ρ x = .pointer (some ⟨b, a, none⟩)) (ha : a = o + k) (hy : ρ y = v) (hv : v.oneCell' = true)
    (hp : (T cs).p w) (hk : k < cs.length) : St P ρ (.store t x y) d ty pos af g w (w.setCell ⟨b, o + k, none⟩ v) := by
  subst ha
  exact tStore hi hx hy hv (hT.get _ _ hp k cs[k] (List.getElem?_eq_getElem hk)) (hT.frz _ _ k hp hk)
theorem xNilCk {x : Operand} {a : Addr} (hx : ρ x = .pointer (some a)) : Yl P ρ (.nilCheck x) d ty pos af g w (.pointer (some a)) := by
  simp [Yl, execOp, hx, Instr.sureAddr]
end
section
variable {P : Program} {N : Sz} {ops : Array Oper} {S : World → Prop} {U : List Nat} {K : Fr → World → Prop} {rest : List Oper} {f : Fr} {w w0 : World} {n : Nat} {L : Array Bool} {T : List Value → It} {b o : Nat} {d : Option Nat} {ty : TypeId} {pos : String} {af : Array Edge} {g : Option (Nat × Bool)} {M : List It}
theorem sSl1 {t : TypeId} {x y : Operand} {z v : Value} {by_ a k : Nat} {cs : List Value} (j : Nat) (hT : Slot T b o) (hi : TI P t z 1 by_) (hx : ev f x = .pointer (some ⟨b, a, none⟩)) (ha : a = o + k) (hy : ev f y = v) (hv : v.oneCell' = true)
    (hL : Bx w0 w M) (hj : M[j]? = some (T cs)) (hk : Nat.ble (k + 1) cs.length = true) (kk : ∀ w', Bx w0 w' (M.set j (T (cs.set k v))) → WPs P N ops K rest (updO f d undef) w') : WPs P N ops K (⟨d, .store t x y, ty, pos, af, none⟩ :: rest) f w :=
  sDo (tStoreL1 hT hi hx ha hy hv (hL.at j hj) (Nat.le_of_ble_eq_true hk)) (kk _ (hL.sput j hT hj (Chg.setCell w b (o + k) v) (hT.put _ _ k v (hL.at j hj) (Nat.le_of_ble_eq_true hk))))
theorem sSlS {t : TypeId} {x y : Operand} {z : Value} {s by_ a k : Nat} {cs : List Value} {ds : Array Value} (j : Nat) (hT : Slot T b o) (hi : TI P t z s by_) (hs : s = ds.size) (hx : ev f x = .pointer (some ⟨b, a, none⟩)) (ha : a = o + k) (hy : ev f y = .agg ds) (h1 : ds.all (·.oneCell') = true)
    (hL : Bx w0 w M) (hj : M[j]? = some (T cs)) (hk : Nat.ble (k + ds.toList.length) cs.length = true) (kk : ∀ w', Bx w0 w' (M.set j (T (cs.take k ++ (ds.toList ++ cs.drop (k + ds.toList.length))))) → WPs P N ops K rest (updO f d undef) w') : WPs P N ops K (⟨d, .store t x y, ty, pos, af, none⟩ :: rest) f w := by
  obtain ⟨w', r1, r2, r3⟩ := tStoreL (d := d) (ty := ty) (pos := pos) (af := af) (g := none) hT hi hs hx ha hy h1 (hL.at j hj) (Nat.le_of_ble_eq_true hk)
  exact sDo r1 (kk _ (hL.sput j hT hj r3 r2))
theorem oSl1 {i : Nat} {t : TypeId} {x y : Operand} {z v : Value} {by_ a k : Nat} {cs : List Value} (j : Nat) (hi : ops[i]? = some ⟨d, .store t x y, ty, pos, af, g⟩) (hw : wantF ops f g = true) (hT : Slot T b o) (ht : TI P t z 1 by_) (hx : ev f x = .pointer (some ⟨b, a, none⟩)) (ha : a = o + k) (hy : ev f y = v) (hv : v.oneCell' = true)
    (hL : Bx w0 w M) (hj : M[j]? = some (T cs)) (hk : Nat.ble (k + 1) cs.length = true) (kk : ∀ w', Bx w0 w' (M.set j (T (cs.set k v))) → SL U S (L.setIfInBounds i true) w' ∧ WPh P N ops S U K n (L.setIfInBounds i true) (updO f d undef) w') : One P N ops S U K n L f w i :=
  have h := kk _ (hL.sput j hT hj (Chg.setCell w b (o + k) v) (hT.put _ _ k v (hL.at j hj) (Nat.le_of_ble_eq_true hk)))
  oDo hi hw (tStoreL1 hT ht hx ha hy hv (hL.at j hj) (Nat.le_of_ble_eq_true hk)) h.1 h.2
theorem oSlS {i : Nat} {t : TypeId} {x y : Operand} {z : Value} {s by_ a k : Nat} {cs : List Value} {ds : Array Value} (j : Nat) (hi : ops[i]? = some ⟨d, .store t x y, ty, pos, af, g⟩) (hw : wantF ops f g = true) (hT : Slot T b o) (ht : TI P t z s by_) (hs : s = ds.size) (hx : ev f x = .pointer (some ⟨b, a, none⟩)) (ha : a = o + k) (hy : ev f y = .agg ds) (h1 : ds.all (·.oneCell') = true)
    (hL : Bx w0 w M) (hj : M[j]? = some (T cs)) (hk : Nat.ble (k + ds.toList.length) cs.length = true) (kk : ∀ w', Bx w0 w' (M.set j (T (cs.take k ++ (ds.toList ++ cs.drop (k + ds.toList.length))))) → SL U S (L.setIfInBounds i true) w' ∧ WPh P N ops S U K n (L.setIfInBounds i true) (updO f d undef) w') : One P N ops S U K n L f w i := by
  obtain ⟨w', r1, r2, r3⟩ := tStoreL (d := d) (ty := ty) (pos := pos) (af := af) (g := g) hT ht hs hx ha hy h1 (hL.at j hj) (Nat.le_of_ble_eq_true hk)
  have h := kk _ (hL.sput j hT hj r3 r2)
  exact oDo hi hw r1 h.1 h.2
/-- a map changed, in a region that draws -/
theorem oUpd {i : Nat} {κ ν : Type} [DecidableEq κ] {ek : κ → Value} {ev' : ν → Value} {t kt et : TypeId} {x y v : Operand} {m : Nat} {l : List (κ × ν)} {k : κ} {u : ν} (hi : ops[i]? = some ⟨d, .mapUpdate t x y v, ty, pos, af, g⟩) (hw : wantF ops f g = true)
    (ht : P.underlying t = some (.map kt et)) (hk : FK P kt ek) (hm : Mp ek ev' w m l) (hx : ev f x = .map (some m)) (hy : ev f y = ek k) (hv : ev f v = ev' u)
    (h : ∀ w', Mp ek ev' w' m (mput l k u) → Chg m w w' → SL U S (L.setIfInBounds i true) w' ∧ WPh P N ops S U K n (L.setIfInBounds i true) (updO f d undef) w') : One P N ops S U K n L f w i := by
  obtain ⟨w', h1, h2, h3⟩ := tUpd (P := P) (ρ := ev f) (d := d) (ty := ty) (pos := pos) (af := af) (g := g) ht hk hm hx hy hv
  exact oDo hi hw h1 (h w' h2 h3).1 (h w' h2 h3).2
end
end Go.Fw
