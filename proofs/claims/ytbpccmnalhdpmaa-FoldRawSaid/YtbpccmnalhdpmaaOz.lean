/- A function whose body holds one range over a function. Over any program. -/
import Derived.Test.YtbpccmnalhdpmaaOy
import Derived.LoopN
set_option linter.unusedVariables false
namespace Go.Fw
open Go.RowKit
abbrev mark (D : Nat) : Deferred := { target := .collected D, args := #[] }
abbrev rec0 (fn : FuncId) (tmps : Array Value) (ps : Array Tmp) (as bd : Code) (D : Nat) : Loop := { state := .ready, pending := none, fn, tmps, params := ps, assign := as, body := bd, defers := D }
theorem rf_bx {P : Program} {n : Nat} {w0 w : World} {X X' : List It} {f : Fr} {a : Act} {g : Operand} {ps : Array Tmp} {as bd : Code} {gf : FuncId} {lb : List Value} {Q : Exit → Act → World → Prop} (ha : Rep ⟨n, []⟩ f a) (hg : ev f g = .func (.func gf) #[] lb.toArray) (hc : Callable P gf) (hL : Bx w0 w X)
    (hcall : ∀ l D fn w1, Bx w0 w1 (.obj l (.loop (rec0 fn a.tmps ps as bd D)) :: .obj D (.deferred (some [])) :: X) →
      Calls P gf (.func (.yield l) #[] #[] :: lb).toArray w1 (Ret fun _ w2 => Bx w0 w2 (.obj l (.loop (rec0 fn a.tmps ps as bd D)) :: .obj D (.deferred (some [])) :: X')))
    (hQ : ∀ D w3, Bx w0 w3 (.obj D (.deferred (some [])) :: X') → Q .normal { a with defers := [mark D] } w3) : (Code.rangeFunc g ps as bd).wp P Q a w := by
  refine (wpIn_wide (n := 0)).1 (wpIn_rangeFunc fun fn _ => ?_)
  have hev : a.eval g = .func (.func gf) #[] lb.toArray := by rw [ha.ev_eq]; exact hg
  have h1 := (hL.alloc (.deferred (some []))).alloc (.loop (rec0 fn a.tmps ps as bd w.heap.size))
  rw [World.size_alloc] at h1
  have hdf : a.defers = [] := ha.dfr
  refine ⟨w.heap.size + 1, [mark w.heap.size], _, { target := .fn (.func gf) lb.toArray, args := #[.func (.yield (w.heap.size + 1)) #[] #[]] }, (w.alloc (.deferred (some []))).alloc (.loop (rec0 fn a.tmps ps as bd w.heap.size)), gf, (.func (.yield (w.heap.size + 1)) #[] #[] :: lb).toArray, (w.alloc (.deferred (some []))).alloc (.loop (rec0 fn a.tmps ps as bd w.heap.size)), run_enterLoop_outer fn a.tmps ps as bd, ?_, fun _ _ => trivial, ?_, fun h => (by cases h), ?_⟩
  · have hy : a.eval (.const (.func (.yield (w.heap.size + 1)) #[] #[])) = .func (.yield (w.heap.size + 1)) #[] #[] := rfl
    simp [resolve, hev, hy, Deferred.ofValue]
  · simp [invoke, run_callFunc hc]
  · refine callsIn_wide.2 ((hcall _ _ _ _ h1).mono fun e w2 he => ?_)
    obtain ⟨v, rfl, h2⟩ := he
    have hl := h2.at 0 rfl
    refine ⟨none, _, run_endLoop hl (by intro h; cases h), ?_⟩
    have h3 := hQ _ _ ((h2.putObj 0 (.loop { rec0 fn a.tmps ps as bd w.heap.size with state := .exhausted }) rfl).tl)
    rw [hdf]
    exact h3
theorem okc_ds {n : Nat} {ds es : List Deferred} : ∀ {c : Code}, okc ⟨n, ds⟩ c = true → okc ⟨n, es⟩ c = true
  | .region _ ops _, h => h
  | .seq a b, h => by
    simp only [okc, Bool.and_eq_true] at h ⊢; exact ⟨okc_ds h.1, okc_ds h.2⟩
  | .cond _ a b, h => by
    simp only [okc, Bool.and_eq_true] at h ⊢; exact ⟨okc_ds h.1, okc_ds h.2⟩
  | .block _ c, h => okc_ds (c := c) h
  | .loop c, h => okc_ds (c := c) h
  | .scope c, h => okc_ds (c := c) h
  | .skip, _ => rfl
  | .exit _, _ => rfl
  | .ret, _ => rfl
  | .label _, _ => rfl
  | .goto _, _ => rfl
  | .rangeFunc .., _ => rfl
  | .refuse _, _ => rfl
theorem rep_round {n d : Nat} {f : Fr} {a : Act} {v : Value} (ha : Rep ⟨n, []⟩ f a) (hd : d < n) : Rep ⟨n, []⟩ (upd f d v) { tmps := ((#[d] : Array Tmp).zip #[v]).foldl (fun tmps (t, a) => tmps.setIfInBounds t a) a.tmps, defers := [] } := by
  have h := ha.put (some d) (fun k hk => by injection hk with hk; subst hk; exact hd) v
  exact ⟨by have := h.size; simpa [Act.put] using this, fun t => by have := h.get t; simpa [Act.put, updO] using this, rfl⟩
/-- the function that is left with a mark -/
theorem calls_rfG {P : Program} {k : FuncId} {fn : Func} {A B R RF : Code} {args : Array Value} {w w0 : World} {G : List It → Prop} {KB : Fr → World → Prop} {KR : Nat → Fr → World → Prop}
    (hf : P.funcs[k]? = some fn) (hb : fn.body = some (.seq A (.seq (.seq B RF) R))) (hres : fn.results = #[]) (hs : args.size ≤ fn.ntmps) (hok : (okc ⟨fn.ntmps, []⟩ A && (okc ⟨fn.ntmps, []⟩ B && okc ⟨fn.ntmps, []⟩ R)) = true)
    (hA : WP P ⟨fn.ntmps, []⟩ A { n := fun f w => WP P ⟨fn.ntmps, []⟩ B { n := KB, x := fun _ _ _ => False, r := fun _ _ => False } f w, x := fun _ _ _ => False, r := fun _ _ => False } (frame0 args) w)
    (hRF : ∀ f w a, KB f w → Rep ⟨fn.ntmps, []⟩ f a → RF.wp P (fun e a' w' => e = .normal ∧ ∃ D, a' = { a with defers := [mark D] } ∧ KR D f w') a w)
    (hR : ∀ D f w, KR D f w → WP P ⟨fn.ntmps, [mark D]⟩ R { n := fun _ w => ∃ X, G X ∧ Bx w0 w (.obj D (.deferred (some [])) :: X), x := fun _ _ _ => False, r := fun _ w => ∃ X, G X ∧ Bx w0 w (.obj D (.deferred (some [])) :: X) } f w) :
    Calls P k args w (Ret fun v w => v = .tuple #[] ∧ ∃ X, G X ∧ Bx w0 w X) := by
  simp only [Bool.and_eq_true] at hok
  have fin : ∀ (a : Act) (w : World) (D : Nat), a.defers = [mark D] → (∃ X, G X ∧ Bx w0 w (.obj D (.deferred (some [])) :: X)) → LeavesInM Fence.wide 0 P fn a.tmps (Ret fun v w => v = .tuple #[] ∧ ∃ X, G X ∧ Bx w0 w X) a.defers .returning w := by
    rintro a w D hd ⟨X, hG, hL⟩
    rw [hd]
    have hk : w.heap[D]? = some (.deferred (some [])) := hL.at 0 rfl
    refine ⟨fun h => (by cases h), .inl ⟨D, _, rfl, run_takeDeferred hk, .tuple #[], results_none hres a.tmps P _, _, rfl, rfl, X, hG, (hL.putObj 0 (.deferred none) rfl).tl⟩⟩
  refine callsIn_wide.1 (callsIn_of_wp_marks (n := 0) hf hb trivial ((wpIn_wide (n := 0)).2 (wp_seq ?_)))
  unfold WP at hA hR
  refine Code.wp_mono (fun e a1 w1 q => ?_) (hA hok.1 _ ⟨by simp; omega, fun t => ?_, rfl⟩)
  · cases e with
    | normal =>
      obtain ⟨f1, h1, q1⟩ := q
      refine wp_seq (wp_seq (Code.wp_mono (fun e a2 w2 q2 => ?_) (q1 hok.2.1 a1 h1)))
      cases e with
      | normal =>
        obtain ⟨f2, h2, q3⟩ := q2
        refine Code.wp_mono (fun e a3 w3 q4 => ?_) (hRF f2 w2 a2 q3 h2)
        obtain ⟨rfl, D, rfl, q5⟩ := q4
        have h3 : Rep ⟨fn.ntmps, [mark D]⟩ f2 { a2 with defers := [mark D] } := ⟨h2.size, h2.get, rfl⟩
        have hokR : okc ⟨fn.ntmps, [mark D]⟩ R = true := okc_ds hok.2.2
        refine Code.wp_mono (fun e a4 w4 q6 => ?_) (hR D f2 w3 q5 hokR _ h3)
        cases e with
        | normal => obtain ⟨f4, h4, q7⟩ := q6; exact fin a4 w4 D h4.dfr q7
        | ret => obtain ⟨f4, h4, q7⟩ := q6; exact fin a4 w4 D h4.dfr q7
        | exit i => obtain ⟨f4, h4, q7⟩ := q6; exact q7.elim
        | _ => exact q6.elim
      | exit i => obtain ⟨f4, h4, q7⟩ := q2; exact q7.elim
      | ret => obtain ⟨f4, h4, q7⟩ := q2; exact q7.elim
      | _ => exact q2.elim
    | exit i => obtain ⟨f4, h4, q7⟩ := q; exact q7.elim
    | ret => obtain ⟨f4, h4, q7⟩ := q; exact q7.elim
    | _ => exact q.elim
  · unfold frame0
    simp only [Array.getD_eq_getD_getElem?]
    rw [Array.getElem?_append]
    split
    · rfl
    · rename_i hlt
      rw [Array.getElem?_replicate]
      split
      · rw [Array.getElem?_eq_none (by omega)]; rfl
      · rw [Array.getElem?_eq_none (by omega)]
theorem calls_rf {P : Program} {k : FuncId} {fn : Func} {A B R RF : Code} {args : Array Value} {w w0 : World} {X : List It} {KB : Fr → World → Prop} {KR : Nat → Fr → World → Prop}
    (hf : P.funcs[k]? = some fn) (hb : fn.body = some (.seq A (.seq (.seq B RF) R))) (hres : fn.results = #[]) (hs : args.size ≤ fn.ntmps) (hok : (okc ⟨fn.ntmps, []⟩ A && (okc ⟨fn.ntmps, []⟩ B && okc ⟨fn.ntmps, []⟩ R)) = true)
    (hA : WP P ⟨fn.ntmps, []⟩ A { n := fun f w => WP P ⟨fn.ntmps, []⟩ B { n := KB, x := fun _ _ _ => False, r := fun _ _ => False } f w, x := fun _ _ _ => False, r := fun _ _ => False } (frame0 args) w)
    (hRF : ∀ f w a, KB f w → Rep ⟨fn.ntmps, []⟩ f a → RF.wp P (fun e a' w' => e = .normal ∧ ∃ D, a' = { a with defers := [mark D] } ∧ KR D f w') a w)
    (hR : ∀ D f w, KR D f w → WP P ⟨fn.ntmps, [mark D]⟩ R { n := fun _ w => Bx w0 w (.obj D (.deferred (some [])) :: X), x := fun _ _ _ => False, r := fun _ w => Bx w0 w (.obj D (.deferred (some [])) :: X) } f w) :
    Calls P k args w (Ret fun v w => v = .tuple #[] ∧ Bx w0 w X) := by
  have h := calls_rfG (G := fun Y => Y = X) hf hb hres hs hok hA hRF (fun D f w hk => (hR D f w hk).mono (fun _ _ h => ⟨X, rfl, h⟩) (fun _ _ _ h => h) (fun _ _ h => ⟨X, rfl, h⟩))
  exact h.mono fun e w he => by
    obtain ⟨v, hv, hv2, Y, hY, h2⟩ := he
    subst hY
    exact ⟨v, hv, hv2, h2⟩

/-! loops by rounds -/
def WPr (P : Program) (N : Sz) (c : Code) (Q : Post) : Nat → Fr → World → Prop
  | 0 => fun _ _ => False
  | m + 1 => fun f w => WP P N c { Q with n := WPr P N c Q m } f w
theorem wRnd {P : Program} {N : Sz} {c : Code} {Q : Post} {m : Nat} {f : Fr} {w : World} (h : WP P N c { Q with n := WPr P N c Q m } f w) : WPr P N c Q (m + 1) f w := h
theorem wLoopN {P : Program} {N : Sz} {c : Code} {Q : Post} (m : Nat) {f : Fr} {w : World} (h : WPr P N c Q m f w) : WP P N (.loop c) Q f w := by
  unfold WP
  intro hok a ha
  have hokc : okc N c = true := hok
  refine wp_loop_rounds m ?_
  induction m generalizing f w a with
  | zero => exact h.elim
  | succ m ih =>
    rw [rounds_succ]
    have h1 : WP P N c { Q with n := WPr P N c Q m } f w := h
    unfold WP at h1
    refine Code.wp_mono (fun e a1 w1 q => ?_) (h1 hokc a ha)
    cases e with
    | normal => obtain ⟨f1, g1, g2⟩ := q; exact ih g2 a1 g1
    | _ => exact q
/-- a sum that is known -/
theorem xAddK {P : Program} {ρ : Operand → Value} {d : Option Nat} {ty : TypeId} {pos : String} {af : Array Edge} {g : Option (Nat × Bool)} {w : World} {t t' : TypeId} {x y : Operand} {a b c : Int} (hx : ρ x = .int .i64 a) (hy : ρ y = .int .i64 b) (h : a + b = c) (h1 : -9223372036854775808 ≤ c) (h2 : c ≤ 9223372036854775807) : Yl P ρ (.binOp .add t x y t') d ty pos af g w (.int .i64 c) := by
  subst h; exact xAdd64 hx hy h1 h2
/-! a row of numbers, turned one by one -/
def cur (φ : Int → Int) (l : List Int) (k : Nat) : List Int := (l.map φ).take k ++ l.drop k
theorem cur_zero (φ : Int → Int) (l : List Int) : cur φ l 0 = l := by simp [cur]
theorem cur_end (φ : Int → Int) (l : List Int) : cur φ l l.length = l.map φ := by
  have : (l.map φ).take l.length = l.map φ := List.take_of_length_le (by simp)
  simp [cur, this]
theorem cur_len (φ : Int → Int) (l : List Int) {k : Nat} (h : k ≤ l.length) : (cur φ l k).length = l.length := by simp [cur]; omega
/-- a row of numbers of one's own -/
abbrev It.ints (A : Option Addr) (c : Nat) (e : TypeId) (n : Nat) (l : List Int) : It := .own A c e 1 n (l.map (Value.int .i64))
abbrev ownT (g c : Nat) (e : TypeId) (n : Nat) : List Value → It := fun cs => .own (some ⟨g, 0, none⟩) c e 1 n cs
theorem cur_take (φ : Int → Int) (l : List Int) {k : Nat} (h : k < l.length) : (cur φ l k).take k = (l.map φ).take k := by
  unfold cur; rw [List.take_append_of_le_length (by simp; omega), List.take_take, Nat.min_self]
theorem cur_drop (φ : Int → Int) (l : List Int) {k : Nat} (h : k < l.length) : (cur φ l k).drop (k + 1) = l.drop (k + 1) := by
  unfold cur
  have e : ((l.map φ).take k).length = k := by simp; omega
  rw [List.drop_append, e, List.drop_of_length_le (by omega), List.nil_append, List.drop_drop]
  congr 1; omega
theorem cur_foc {φ : Int → Int} {l : List Int} {k : Nat} {v : Int} (hv : l[k]? = some v) (g c : Nat) (e : TypeId) (n : Nat) : sub (ownT g c e n) ((cur φ l k).map (Value.int .i64)) k 1 [.int .i64 v] = It.ints (some ⟨g, 0, none⟩) c e n (cur φ l k) := by
  have hk := (List.getElem?_eq_some_iff.1 hv).1
  unfold sub
  show It.own _ _ _ _ _ _ = It.own _ _ _ _ _ _
  congr 1
  rw [← List.map_take, ← List.map_drop, cur_take φ l hk, cur_drop φ l hk]
  unfold cur
  obtain ⟨_, rfl⟩ := List.getElem?_eq_some_iff.1 hv
  simp only [List.map_append, List.map_take, List.map_drop]
  rw [List.drop_eq_getElem_cons (l := List.map (Value.int .i64) l) (i := k) (by simpa using hk)]
  simp
theorem cur_unf {φ : Int → Int} {l : List Int} {k : Nat} {v : Int} (hv : l[k]? = some v) (g c : Nat) (e : TypeId) (n : Nat) : sub (ownT g c e n) ((cur φ l k).map (Value.int .i64)) k 1 [.int .i64 (φ v)] = It.ints (some ⟨g, 0, none⟩) c e n (cur φ l (k + 1)) := by
  have hk := (List.getElem?_eq_some_iff.1 hv).1
  unfold sub
  show It.own _ _ _ _ _ _ = It.own _ _ _ _ _ _
  congr 1
  rw [← List.map_take, ← List.map_drop, cur_take φ l hk, cur_drop φ l hk]
  unfold cur
  obtain ⟨_, rfl⟩ := List.getElem?_eq_some_iff.1 hv
  rw [List.take_succ_eq_append_getElem (by simpa using hk)]
  simp
theorem flat_int (l : List Int) : l.flatMap Dat.cells = l.map (Value.int .i64) := by
  induction l with
  | nil => rfl
  | cons a l ih => rw [List.flatMap_cons, ih]; rfl
theorem ownl_ints (A : Option Addr) (c : Nat) (e : TypeId) (l : List Int) : It.ownl A c e l = It.ints A c e l.length l := by
  unfold It.ownl; rw [flat_int]; rfl
/-- one element in the middle -/
theorem flat_mid {α : Type} [Dat α] (p : List α) (x y : α) (q : List α) : ((p ++ x :: q).flatMap Dat.cells).take (p.length * Dat.sz α) ++ (Dat.cells y ++ ((p ++ x :: q).flatMap Dat.cells).drop (p.length * Dat.sz α + Dat.sz α)) = (p ++ y :: q).flatMap Dat.cells := by
  have h1 := flat_len p
  have h2 := Dat.len x
  rw [List.flatMap_append, List.flatMap_append, List.flatMap_cons, List.flatMap_cons]
  rw [List.take_append_of_le_length (by omega), List.take_of_length_le (by omega), List.drop_append, List.drop_of_length_le (by omega), List.nil_append, h1,
    show p.length * Dat.sz α + Dat.sz α - p.length * Dat.sz α = (Dat.cells x).length by omega, List.drop_left]
theorem row_foc {α : Type} [Dat α] (p : List α) (x y : α) (q : List α) (g c : Nat) (e : TypeId) (n : Nat) : sub (fun cs => .own (some ⟨g, 0, none⟩) c e (Dat.sz α) n cs) ((p ++ x :: q).flatMap Dat.cells) (p.length * Dat.sz α) (Dat.sz α) (Dat.cells y) = .own (some ⟨g, 0, none⟩) c e (Dat.sz α) n ((p ++ y :: q).flatMap Dat.cells) := by
  unfold sub
  rw [flat_mid]
theorem take_map_succ {α β : Type} {l : List α} {f : α → β} {x : α} {k : Nat} (hx : l[k]? = some x) : (l.map f).take (k + 1) = (l.map f).take k ++ [f x] := by
  obtain ⟨hk, rfl⟩ := List.getElem?_eq_some_iff.1 hx
  rw [List.take_succ_eq_append_getElem (by simpa using hk)]; simp
theorem loop_eq {α β : Type} {l : List α} {f : α → β} {g : β → β} {xs : List α} {y x : α} {k : Nat} (hE : xs.map f = ((l.map f).take k).map g) (hx : l[k]? = some x) (hy : f y = g (f x)) : (xs ++ [y]).map f = ((l.map f).take (k + 1)).map g := by
  rw [List.map_append, hE, take_map_succ hx, List.map_append]; simp [hy]
theorem take_end {α β : Type} (l : List α) (f : α → β) : (l.map f).take l.length = l.map f := List.take_of_length_le (by simp)
/-- a row of constants is data -/
theorem Blk.lst {α : Type} [Dat α] {w : World} {b : Nat} {t : TypeId} {cs : Array Value} {F : Nat → Prop} (h : Blk w b t cs) (xs : List α) (hc : cs.toList = xs.flatMap Dat.cells) (hel : ∀ x ∈ xs, Dat.ok F w x) (hF : F b) (hm : xs.length ≤ maxLen) (hb : xs.length * Dat.bs α ≤ 140737488355328) : Lst.ok F w ⟨some ⟨b, 0, none⟩, xs.length, xs⟩ := by
  have hs : cs.size = xs.length * Dat.sz α := by rw [← flat_len, ← hc]; simp
  have ho : Own w 0 t (Dat.sz α) (some ⟨b, 0, none⟩) xs.length xs.length (xs.flatMap Dat.cells) := by rw [← hc]; exact h.own (Nat.zero_le _) hm hs
  exact Own.okF ho (fun k hk => by simp only [rowOf, Option.map_some, Option.some.injEq] at hk; subst hk; exact hF) hel hb
theorem yield_mono {P : Program} {l : Nat} {args : Array Value} {w : World} {R R' : Value → World → Prop} (h : YieldAt Fence.wide 0 P l args w (Ret R)) (k : ∀ v w, R v w → R' v w) : YieldAt Fence.wide 0 P l args w (Ret R') := by
  obtain ⟨fn, t, a, b, hy, hr⟩ := h
  exact ⟨fn, t, a, b, hy, hr.mono fun e w he => by obtain ⟨v, rfl, hv⟩ := he; exact ⟨v, rfl, k v w hv⟩⟩
theorem calls_mono {P : Program} {k : FuncId} {args : Array Value} {w : World} {R R' : Value → World → Prop} (h : Calls P k args w (Ret R)) (m : ∀ v w, R v w → R' v w) : Calls P k args w (Ret R') :=
  h.mono fun e w he => by obtain ⟨v, rfl, hv⟩ := he; exact ⟨v, rfl, m v w hv⟩
/-- a row of numbers of one's own is data -/
theorem ints_ok {w : World} {e : TypeId} {A : Option Addr} {c n : Nat} {l : List Int} {F : Nat → Prop} (h : (It.ints A c e n l).p w) (hn : l.length = n) (hF : ∀ b, rowOf A = some b → F b) (hb : n * 8 ≤ 140737488355328) : Lst.ok F w ⟨A, c, l⟩ := by
  subst hn
  refine Own.okF (e := e) ?_ hF (fun _ _ => trivial) hb
  rw [flat_int]; exact h
end Go.Fw
