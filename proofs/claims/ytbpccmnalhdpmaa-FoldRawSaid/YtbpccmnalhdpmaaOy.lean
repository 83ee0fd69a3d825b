/- Ranges over functions, their rounds and marks; rows that are made of what came in; things joined. Over any program. -/
import Derived.Test.YtbpccmnalhdpmaaOx
import Derived.RangeFuncLeaves
import Derived.RangeFuncRecord
import Derived.RangeFuncCalls
import Derived.TacticsIn
set_option linter.unusedVariables false
namespace Go.Fw
open Go.RowKit

/-! things -/
/-- an object of the model's own -/
def It.obj (b : Nat) (o : Obj) : It where
  F k := k = b
  p w := w.heap[b]? = some o
  bd w h k hk := by subst hk; exact (Array.getElem?_eq_some_iff.1 h).1
  st w w' h k _ := by rw [k b rfl]; exact h
/-- data that reaches these blocks -/
def It.datF {α : Type} [Dat α] (F : Nat → Prop) (x : α) : It where
  F := F
  p w := (∀ b, F b → b < w.heap.size) ∧ Dat.ok F w x
  bd w h k hk := h.1 k hk
  st w w' h k hs := ⟨fun b hb => Nat.lt_of_lt_of_le (h.1 b hb) hs, Dat.mv h.2 (fun b hb _ => ⟨hb, k b hb⟩) hs⟩
/-- two things as one -/
def It.two (a c : It) : It where
  F k := a.F k ∨ c.F k
  p w := a.p w ∧ c.p w
  bd w h k hk := hk.elim (a.bd w h.1 k) (c.bd w h.2 k)
  st w w' h k hs := ⟨a.st w w' h.1 (fun b hb => k b (.inl hb)) hs, c.st w w' h.2 (fun b hb => k b (.inr hb)) hs⟩
section
variable {w0 w w' : World} {L : List It} {it it' a c : It}
theorem Bx.two (h : Bx w0 w (a :: c :: L)) : Bx w0 w (It.two a c :: L) := by
  obtain ⟨h1, h2, h3⟩ := h
  have p1 := List.pairwise_cons.1 h3
  have p2 := List.pairwise_cons.1 p1.2
  refine ⟨h1, fun x hx => ?_, List.pairwise_cons.2 ⟨fun x hx b hb => ?_, p2.2⟩⟩
  · rcases List.mem_cons.1 hx with rfl | hx
    · exact ⟨⟨(h2 a (by simp)).1, (h2 c (by simp)).1⟩, fun b hb => hb.elim ((h2 a (by simp)).2 b) ((h2 c (by simp)).2 b)⟩
    · exact h2 x (by simp [hx])
  · rcases hb with hb | hb
    · exact p1.1 x (by simp [hx]) b hb
    · exact p2.1 x hx b hb
/-- less is said of a thing -/
theorem Bx.weak (h : Bx w0 w (it :: L)) (hF : ∀ b, it'.F b → it.F b) (hp : it.p w → it'.p w) : Bx w0 w (it' :: L) := by
  obtain ⟨h1, h2, h3⟩ := h
  have p1 := List.pairwise_cons.1 h3
  refine ⟨h1, fun x hx => ?_, List.pairwise_cons.2 ⟨fun x hx b hb => p1.1 x hx b (hF b hb), p1.2⟩⟩
  rcases List.mem_cons.1 hx with rfl | hx
  · exact ⟨hp (h2 it (by simp)).1, fun b hb => (h2 it (by simp)).2 b (hF b hb)⟩
  · exact h2 x (by simp [hx])
/-- an object is put in place of another -/
theorem Bx.putObj (h : Bx w0 w L) (i : Nat) {b : Nat} {o : Obj} (o' : Obj) (hi : L[i]? = some (.obj b o)) : Bx w0 (w.putObj b o') (L.set i (.obj b o')) := by
  have hb : w.heap[b]? = some o := h.at i hi
  have hlt := (Array.getElem?_eq_some_iff.1 hb).1
  exact h.put i hi (by simp) ⟨rfl, rfl, rfl⟩ (fun k hk hn => World.putObj_heap_other (fun e => hn e)) (World.putObj_heap_same hlt) (fun k hk => .inl hk)
theorem Bx.alloc (h : Bx w0 w L) (o : Obj) : Bx w0 (w.alloc o) (.obj w.heap.size o :: L) :=
  h.push ((Ext.refl w).alloc o) (World.alloc_heap_new w o) (fun k hk => by have hk : k = w.heap.size := hk; omega)
/-- a variable's block as a row of one's own -/
theorem Bx.boxOwn {b n size : Nat} {t : TypeId} {cs : Array Value} (h : Bx w0 w (.box b t cs :: L)) (hn : n ≤ maxLen) (hs : cs.size = n * size) : Bx w0 w (.own (some ⟨b, 0, none⟩) n t size n cs.toList :: L) :=
  h.put (it' := .own (some ⟨b, 0, none⟩) n t size n cs.toList) 0 rfl (Nat.le_refl _) ⟨rfl, rfl, rfl⟩ (fun _ _ _ => rfl) (Blk.own (h.bk 0 rfl) (Nat.zero_le _) hn hs) (fun k hk => .inl (by
    have hk : rowOf (some ⟨b, 0, none⟩) = some k := hk
    simp only [rowOf, Option.map_some, Option.some.injEq] at hk
    exact hk.symm))
end
theorem flat_len {α : Type} [Dat α] : ∀ l : List α, (l.flatMap Dat.cells).length = l.length * Dat.sz α
  | [] => by simp
  | a :: l => by rw [List.flatMap_cons, List.length_append, flat_len l, Dat.len, List.length_cons, Nat.add_mul]; omega
theorem Lst.sl {α : Type} [Dat α] {F : Nat → Prop} {w : World} {s : Lst α} (h : s.ok F w) : Sl w w.heap.size (Dat.sz α) s.a s.l.length (s.l.flatMap Dat.cells) := by
  refine ⟨flat_len _, fun hn => ?_⟩
  obtain ⟨h1, h2, h3, h4⟩ := h.2 hn
  refine ⟨s.blk, s.off, h1, h3, ?_⟩
  have key : ∀ (l : List α) (o : Nat), (∀ i x, l[i]? = some x → Cells w s.blk (o + i * Dat.sz α) (Dat.cells x)) → Cells w s.blk o (l.flatMap Dat.cells) := by
    intro l
    induction l with
    | nil => intro o _ j v hv; simp at hv
    | cons a l ih =>
      intro o hl j v hv
      rw [List.flatMap_cons] at hv
      rcases Nat.lt_or_ge j (Dat.cells a).length with hj | hj
      · rw [List.getElem?_append_left hj] at hv
        have := hl 0 a rfl j v hv
        rwa [Nat.zero_mul, Nat.add_zero] at this
      · rw [List.getElem?_append_right hj, Dat.len] at hv
        have := ih (o + Dat.sz α) (fun i x hx => by
          have := hl (i + 1) x (by simpa using hx)
          rwa [show o + (i + 1) * Dat.sz α = o + Dat.sz α + i * Dat.sz α by rw [Nat.add_mul]; omega] at this) _ v hv
        rw [Dat.len] at hj
        rwa [show o + Dat.sz α + (j - Dat.sz α) = o + j by omega] at this
  exact key s.l s.off (fun i x hx => (h4 i x hx).1)
/-- a row of one's own is data -/
theorem Own.okF {α : Type} [Dat α] {w : World} {e : TypeId} {A : Option Addr} {c : Nat} {xs : List α} {F : Nat → Prop} (h : Own w 0 e (Dat.sz α) A xs.length c (xs.flatMap Dat.cells)) (hF : ∀ b, rowOf A = some b → F b)
    (hel : ∀ x ∈ xs, Dat.ok F w x) (hb : xs.length * Dat.bs α ≤ 140737488355328) : Lst.ok F w ⟨A, c, xs⟩ := by
  have h0 := Own.okL (lo := 0) h (fun _ _ => Nat.zero_le _) (fun x hx => Dat.mv (hel x hx) (fun b _ _ => ⟨Nat.zero_le _, rfl⟩) (Nat.le_refl _)) hb
  refine ⟨hb, fun hn => ?_⟩
  obtain ⟨g, rfl⟩ := h.adr hn
  obtain ⟨k1, k2, k3, k4⟩ := h0.2 hn
  exact ⟨k1, hF g rfl, k3, fun i x hx => ⟨(k4 i x hx).1, hel x (List.mem_of_getElem? hx)⟩⟩
/-- a row of data that reaches more blocks -/
def It.rowd {α : Type} [Dat α] (F : Nat → Prop) (A : Option Addr) (c : Nat) (e : TypeId) (xs : List α) : It where
  F k := rowOf A = some k ∨ F k
  p w := Own w 0 e (Dat.sz α) A xs.length c (xs.flatMap Dat.cells) ∧ (∀ b, F b → b < w.heap.size) ∧ (∀ b, rowOf A = some b → ¬ F b) ∧ ∀ x ∈ xs, Dat.ok F w x
  bd w h k hk := hk.elim (fun hk => (h.1.row k hk).2) (h.2.1 k)
  st w w' h k hs := ⟨(It.ownl A c e xs).st w w' h.1 (fun b hb => k b (.inl hb)) hs, fun b hb => Nat.lt_of_lt_of_le (h.2.1 b hb) hs, h.2.2.1, fun x hx => Dat.mv (h.2.2.2 x hx) (fun b hb _ => ⟨hb, k b (.inr hb)⟩) hs⟩
section
variable {α : Type} [Dat α] {w0 w w' : World} {L : List It}
theorem Bx.rowd0 (h : Bx w0 w L) (e : TypeId) : Bx w0 w (.rowd (fun _ => False) none 0 e ([] : List α) :: L) :=
  h.push (it := .rowd (fun _ => False) none 0 e ([] : List α)) (Ext.refl w) ⟨Own.nil w 0 e _, fun _ h => h.elim, fun _ h => (by cases h), fun _ h => (by cases h)⟩ (fun b hb => by rcases hb with hb | hb <;> cases hb)
/-- the row of such data grows by one that was made -/
theorem Bx.rowdApp {F G : Nat → Prop} {A A2 : Option Addr} {c c2 : Nat} {e : TypeId} {xs : List α} {y : α} (h : Bx w0 w (.rowd F A c e xs :: .datF G y :: L)) (ho : Own w' 0 e (Dat.sz α) A2 (xs ++ [y]).length c2 ((xs ++ [y]).flatMap Dat.cells)) (hg : w.grownBy w' (rowOf A)) (hr : rowOf A2 = rowOf A ∨ rowOf A2 = some w.heap.size) :
    Bx w0 w' (.rowd (fun b => F b ∨ G b) A2 c2 e (xs ++ [y]) :: L) := by
  have hx := h.at 0 rfl
  have hy := h.at 1 rfl
  have hap := h.apart (i := 0) (j := 1) (by decide) rfl rfl
  have hxb := h.base 0 rfl
  have keepF : ∀ b, F b → w'.heap[b]? = w.heap[b]? := fun b hb => hg.block b (hx.2.1 b hb) (fun e => hx.2.2.1 b e.symm hb)
  have keepG : ∀ b, G b → w'.heap[b]? = w.heap[b]? := fun b hb => hg.block b (hy.1 b hb) (fun e => hap b (.inl e.symm) hb)
  have h2 := h.two
  have hp : (It.rowd (fun b => F b ∨ G b) A2 c2 e (xs ++ [y])).p w' := by
    refine ⟨ho, fun b hb => ?_, fun b hb hfg => ?_, fun x hx' => ?_⟩
    · have : b < w.heap.size := hb.elim (hx.2.1 b) (hy.1 b)
      have := hg.size; omega
    · rcases hr with hr | hr
      · rw [hr] at hb
        rcases hfg with hf | hf
        · exact hx.2.2.1 b hb hf
        · exact hap b (.inl hb) hf
      · rw [hr] at hb; injection hb with hb
        have : b < w.heap.size := hfg.elim (hx.2.1 b) (hy.1 b)
        omega
    · rcases List.mem_append.1 hx' with hx' | hx'
      · exact Dat.mv (hx.2.2.2 x hx') (fun b hb _ => ⟨.inl hb, keepF b hb⟩) hg.size
      · rw [List.mem_singleton] at hx'; subst hx'
        exact Dat.mv hy.2 (fun b hb _ => ⟨.inr hb, keepG b hb⟩) hg.size
  exact h2.put (it' := .rowd (fun b => F b ∨ G b) A2 c2 e (xs ++ [y])) 0 rfl hg.size ⟨hg.os, hg.tape, hg.output⟩ (fun k hk hn => hg.block k hk (fun e => hn (.inl (.inl e.symm)))) hp (fun k hk => by
    rcases hk with hk | hk | hk
    · rcases hr with hr | hr
      · rw [hr] at hk; exact .inl (.inl (.inl hk))
      · rw [hr] at hk; injection hk with hk; exact .inr (by omega)
    · exact .inl (.inl (.inr hk))
    · exact .inl (.inr hk))
/-- such a row is data -/
theorem Bx.rowdDat {F : Nat → Prop} {A : Option Addr} {c : Nat} {e : TypeId} {xs : List α} (h : Bx w0 w (.rowd F A c e xs :: L)) (hb : xs.length * Dat.bs α ≤ 140737488355328) : Bx w0 w (.datF (fun b => rowOf A = some b ∨ F b) (⟨A, c, xs⟩ : Lst α) :: L) := by
  have hx := h.at 0 rfl
  refine h.weak (fun b hb => hb) fun _ => ⟨fun b hb => hb.elim (fun hb => (hx.1.row b hb).2) (hx.2.1 b), ?_⟩
  exact Own.okF hx.1 (fun b hb => .inl hb) (fun x hx' => Dat.mv (hx.2.2.2 x hx') (fun b hb _ => ⟨.inr hb, rfl⟩) (Nat.le_refl _)) hb
end

/-! regions inside a fence -/
/-- a fence that lets all in -/
structure Wd (F : Fence) : Prop where
  fn : ∀ f, F.fn f
  dp : F.depth = none
  cal : ∀ {P g args w R}, Calls P g args w R → CallsIn F 0 P g args w R
theorem Wd.wide : Wd Fence.wide := ⟨fun _ => trivial, rfl, fun h => callsIn_wide.2 h⟩
theorem Wd.rnd (l : Nat) : Wd (Fence.wide.inRound l) := ⟨fun _ => trivial, rfl, fun h => CallsIn.inRound l (callsIn_wide.2 h)⟩
def WPy (F : Fence) (P : Program) (N : Sz) (ops : Array Oper) (K : Fr → World → Prop) (l : List Oper) (f : Fr) (w : World) : Prop :=
  (∀ o ∈ l, dstOk N o = true) → ∀ a, Rep N f a → wpListIn F 0 P ops (liftN N K) l a w
section
variable {F : Fence} {P : Program} {N : Sz} {ops : Array Oper} {K : Fr → World → Prop} {rest : List Oper} {f : Fr} {w w' : World} {d : Option Nat} {op : Op} {ty : TypeId} {pos : String} {af : Array Edge}
theorem yNil (h : K f w) : WPy F P N ops K [] f w := fun _ _ ha => wpListIn_nil ⟨f, ha, h⟩
theorem yRun {v : Value} (hF : Wd F) (hn : ∀ c, op ≠ .defer c) (h : (execOp (ev f) ⟨d, op, ty, pos, af, none⟩).run P w = .ok (.value v) w') (k : WPy F P N ops K rest (updO f d v) w') : WPy F P N ops K (⟨d, op, ty, pos, af, none⟩ :: rest) f w := by
  intro hok a ha
  have h1 := hok _ (List.mem_cons_self ..)
  refine wpListIn_plain rfl fun K' hK => ?_
  unfold Oper.wpIn
  refine ⟨fun f _ => hF.fn f, ?_⟩
  rw [Oper.semAt_eq _ _ _ hn, ha.ev_eq, h]
  exact hK _ _ (k (fun o ho => hok o (List.mem_cons_of_mem _ ho)) _ (ha.put d (dstOk_lt h1) v))
theorem yCall {g : FuncId} {args : Array Value} {R : Value → World → Prop} (hF : Wd F) (hn : ∀ c, op ≠ .defer c) (h : (execOp (ev f) ⟨d, op, ty, pos, af, none⟩).run P w = .ok (.enter g args) w') (hc : Calls P g args w' (Ret R))
    (k : ∀ v w'', R v w'' → WPy F P N ops K rest (updO f d v) w'') : WPy F P N ops K (⟨d, op, ty, pos, af, none⟩ :: rest) f w := by
  intro hok a ha
  have h1 := hok _ (List.mem_cons_self ..)
  refine wpListIn_plain rfl fun K' hK => ?_
  unfold Oper.wpIn
  refine ⟨fun f _ => hF.fn f, ?_⟩
  rw [Oper.semAt_eq _ _ _ hn, ha.ev_eq, h]
  refine ⟨fun h => (by rw [hF.dp] at h; cases h), hF.cal (hc.mono fun e w'' he => ?_)⟩
  obtain ⟨v, rfl, hR⟩ := he
  exact hK _ _ (k v w'' hR (fun o ho => hok o (List.mem_cons_of_mem _ ho)) _ (ha.put d (dstOk_lt h1) v))
/-- yield is called -/
theorem yYield {l : Nat} {args : Array Value} {R : Value → World → Prop} {xs : List Operand} {ts : Array TypeId} {x : Operand} (hx : ev f x = .func (.yield l) #[] #[]) (ha' : (xs.map (ev f)).toArray = args) (hc : YieldAt Fence.wide 0 P l args w (Ret R))
    (k : ∀ v w'', R v w'' → WPy Fence.wide P N ops K rest (updO f d v) w'') : WPy Fence.wide P N ops K (⟨d, .call { callee := .value x, args := xs.toArray, argTypes := ts }, ty, pos, af, none⟩ :: rest) f w := by
  intro hok a ha
  have h1 := hok _ (List.mem_cons_self ..)
  refine wpListIn_plain rfl fun K' hK => ?_
  unfold Oper.wpIn
  refine ⟨fun f _ => trivial, ?_⟩
  rw [Oper.semAt_eq _ _ _ (fun c => by intro h; cases h), ha.ev_eq]
  obtain ⟨fn, tmps, as, bd, hy, hr⟩ := hc
  have he : (execOp (ev f) ⟨d, .call { callee := .value x, args := xs.toArray, argTypes := ts }, ty, pos, af, none⟩).run P w = .ok (.round l fn tmps as bd) w := by
    subst ha'
    simp [execOp, resolve, hx, invoke, Deferred.ofValue, hy]
  rw [he]
  refine ⟨fun h => (by cases h), hr.mono fun e w'' he => ?_⟩
  obtain ⟨v, rfl, hR⟩ := he
  exact hK _ _ (k v w'' hR (fun o ho => hok o (List.mem_cons_of_mem _ ho)) _ (ha.put d (dstOk_lt h1) v))
theorem yGo {g : Option (Nat × Bool)} (h : wantF ops f g = true) (k : WPy F P N ops K (⟨d, op, ty, pos, af, none⟩ :: rest) f w) : WPy F P N ops K (⟨d, op, ty, pos, af, g⟩ :: rest) f w := by
  intro hok a ha
  have h2 := k (by
    intro o ho
    rcases List.mem_cons.1 ho with rfl | ho
    · exact hok ⟨d, op, ty, pos, af, g⟩ (List.mem_cons_self ..)
    · exact hok o (List.mem_cons_of_mem _ ho)) a ha
  unfold wpListIn at h2 ⊢
  rw [if_pos (by rw [wanted_eq ha]; exact h)]
  rw [if_pos (by rw [wanted_eq ha]; rfl)] at h2
  exact h2
theorem yNo {g : Option (Nat × Bool)} (hF : Wd F) (h : wantF ops f g = false) (k : WPy F P N ops K rest (updO f d undef) w) : WPy F P N ops K (⟨d, op, ty, pos, af, g⟩ :: rest) f w := by
  intro hok a ha
  have h1 := hok _ (List.mem_cons_self ..)
  unfold wpListIn
  rw [if_neg (by rw [wanted_eq ha, h]; simp)]
  exact ⟨fun f _ => hF.fn f, k (fun o ho => hok o (List.mem_cons_of_mem _ ho)) _ (ha.put d (dstOk_lt h1) undef)⟩
theorem wRegY {Q : Post} {i : Nat} {l : List Oper} (h : WPy Fence.wide P N l.toArray Q.n l f w) : WP P N (.region i l.toArray false) Q f w := by
  unfold WP
  intro hok a ha
  have hl : ∀ o ∈ l, dstOk N o = true := by
    simpa [okc, Array.all_eq_true_iff_forall_mem] using hok
  refine Code.wp_mono (fun e a w q => ?_) (wpIn_wide.1 (wpIn_region_lit (n := 0) (h hl a ha)))
  cases e with
  | normal => exact q
  | _ => exact q.elim
end
/-- a round: what yield does, out of the walk of the body -/
theorem yield_bx {P : Program} {w0 w : World} {l n ia ib jb : Nat} {la lb : List Oper} {r : Loop} {args : Array Value} {f f' : Fr} {X X' : List It} (hL : Bx w0 w (.obj l (.loop r) :: X)) (hr : r.state = .ready) (hp : r.pending = none) (hs : args.size = r.params.size)
    (hf : Rep ⟨n, []⟩ f { tmps := (r.params.zip args).foldl (fun tmps (t, a) => tmps.setIfInBounds t a) r.tmps, defers := [] }) (ha : r.assign = .region ia la.toArray false) (hb : r.body = .block jb (.region ib lb.toArray false))
    (oka : la.all (dstOk ⟨n, []⟩) = true) (okb : lb.all (dstOk ⟨n, []⟩) = true)
    (hA : WPy (Fence.wide.inRound l) P ⟨n, []⟩ la.toArray (fun f1 w1 => f1 = f' ∧ w1 = w) la f w)
    (hB : ∀ w1, Bx w0 w1 (.obj l (.loop { r with state := .busy }) :: X) → WPy (Fence.wide.inRound l) P ⟨n, []⟩ lb.toArray (fun f2 w2 => Bx w0 w2 (.obj l (.loop { r with state := .busy }) :: X')) lb f' w1) :
    YieldAt Fence.wide 0 P l args w (Ret fun v w' => v = .bool true ∧ Bx w0 w' (.obj l (.loop r) :: X')) := by
  have hl : w.heap[l]? = some (.loop r) := hL.at 0 rfl
  refine ⟨r.fn, _, r.assign, r.body, run_yield hl hs, roundIn_of_wpIn trivial ?_⟩
  rw [ha, hb]
  refine wpIn_mono (wpIn_region_lit (hA (List.all_eq_true.1 oka) _ hf)) ?_
  rintro e a1 w1 hq
  cases e with
  | normal =>
    obtain ⟨f1, h1, rfl, rfl⟩ := hq
    refine ⟨_, run_beginRound hl hr, wpIn_block (wpIn_mono (wpIn_region_lit (hB _ (hL.putObj 0 _ rfl) (List.all_eq_true.1 okb) _ h1)) ?_)⟩
    rintro e a2 w2 hq
    cases e with
    | normal =>
      obtain ⟨f2, h2, h3⟩ := hq
      have hl2 : w2.heap[l]? = some (.loop { r with state := .busy }) := h3.at 0 rfl
      refine ⟨_, _, run_endRound none hl2, _, rfl, rfl, ?_⟩
      have := h3.putObj 0 (.loop r) rfl
      obtain ⟨st, pe, fn, tm, ps, as, bd, df⟩ := r
      simp only at hr hp
      subst hr; subst hp
      exact this
    | _ => exact hq.elim
  | _ => exact hq.elim
end Go.Fw
