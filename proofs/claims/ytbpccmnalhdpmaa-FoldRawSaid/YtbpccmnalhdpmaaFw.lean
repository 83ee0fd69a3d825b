/- A small calculus of weakest preconditions in which a frame is a function from slots to values; nothing in it speaks of a given program. -/
import Derived.OrdersHeld
import Derived.Tactics
import Derived.Below
import Derived.KernelRfl
set_option linter.unusedVariables false
namespace Go.Fw
open Go.RowKit

/-- a frame: what each slot holds -/
abbrev Fr := Nat → Value
theorem beq_ne {t k : Nat} (h : t ≠ k) : Nat.beq t k = false := by
  cases hb : Nat.beq t k with
  | false => rfl
  | true => exact absurd (Nat.eq_of_beq_eq_true hb) h
def upd (f : Fr) (d : Nat) (v : Value) : Fr := fun t => bif Nat.beq t d then v else f t
def updO (f : Fr) (d : Option Nat) (v : Value) : Fr := match d with | some d => upd f d v | none => f
def ev (f : Fr) : Operand → Value
  | .tmp t => f t
  | .const v => v
  | .global g => .pointer (some ⟨g, 0, none⟩)
  | .func k => .func (.func k) #[] #[]

/-- the size of a frame, and the marks that loops over functions have left in it -/
structure Sz where
  n : Nat
  ds : List Deferred
/-- the model's frame of N slots that this function stands for -/
structure Rep (N : Sz) (f : Fr) (a : Act) : Prop where
  size : a.tmps.size = N.n
  get : ∀ t, a.tmps.getD t undef = f t
  dfr : a.defers = N.ds

theorem Rep.ev_eq {N : Sz} {f : Fr} {a : Act} (h : Rep N f a) : a.eval = ev f := by
  funext x
  cases x with
  | tmp t => exact h.get t
  | const v => rfl
  | global g => rfl
  | func k => rfl

theorem Rep.put {N : Sz} {f : Fr} {a : Act} (h : Rep N f a) (d : Option Nat) (hd : ∀ k, d = some k → k < N.n) (v : Value) : Rep N (updO f d v) (a.put d v) := by
  cases d with
  | none => exact h
  | some k =>
    have hk := hd k rfl
    refine ⟨by simp [Act.put, h.size], fun t => ?_, h.dfr⟩
    simp only [Act.put, updO, upd]
    have hs : k < a.tmps.size := by rw [h.size]; exact hk
    by_cases htk : t = k
    · subst htk
      simp [hs]
    · rw [beq_ne htk]
      have := h.get t
      simp only [Array.getD_eq_getD_getElem?] at this ⊢
      rw [Array.getElem?_setIfInBounds_ne (Ne.symm htk)]
      exact this

theorem Rep.uniq {N : Sz} {f g : Fr} {a : Act} (h : Rep N f a) (k : Rep N g a) : f = g := by
  funext t
  rw [← h.get t, ← k.get t]

/-- what a guard reads off the frame -/
def gv (ops : Array Oper) (f : Fr) (j : Nat) : Option Bool :=
  match (ops[j]?).bind (·.dst) with
  | some t => match f t with | .bool b => some b | _ => none
  | none => none

theorem gv_eq {N : Sz} {ops : Array Oper} {f : Fr} {a : Act} (h : Rep N f a) (j : Nat) : yielded ops a.tmps j = gv ops f j := by
  unfold yielded gv
  cases hd : (ops[j]?).bind (·.dst) with
  | none => rfl
  | some t =>
    simp only [Option.bind_some]
    have hg := h.get t
    rw [Array.getD_eq_getD_getElem?] at hg
    cases hc : a.tmps[t]? with
    | some v =>
      rw [hc] at hg
      have hg' : v = f t := hg
      rw [hg']
      cases f t <;> rfl
    | none =>
      rw [hc] at hg
      have hg' : undef = f t := hg
      rw [← hg']
      rfl

def wantF (ops : Array Oper) (f : Fr) : Option (Nat × Bool) → Bool
  | none => true
  | some (j, b) => gv ops f j == some b

theorem wanted_eq {N : Sz} {ops : Array Oper} {f : Fr} {a : Act} (h : Rep N f a) (o : Oper) : Region.wanted o (yielded ops a.tmps) = wantF ops f o.guard := by
  unfold Region.wanted wantF
  cases o.guard with
  | none => rfl
  | some p => obtain ⟨j, b⟩ := p; simp only [gv_eq h]

/-- what is asked of the ways out -/
structure Post where
  n : Fr → World → Prop
  x : Nat → Fr → World → Prop
  r : Fr → World → Prop

def lift (N : Sz) (Q : Post) : Exit → Act → World → Prop
  | .normal, a, w => ∃ f, Rep N f a ∧ Q.n f w
  | .exit i, a, w => ∃ f, Rep N f a ∧ Q.x i f w
  | .ret, a, w => ∃ f, Rep N f a ∧ Q.r f w
  | _, _, _ => False

def liftN (N : Sz) (K : Fr → World → Prop) : Exit → Act → World → Prop
  | .normal, a, w => ∃ f, Rep N f a ∧ K f w
  | _, _, _ => False

def dstOk (N : Sz) (o : Oper) : Bool := match o.dst with | some d => Nat.blt d N.n | none => true
def okc (N : Sz) : Code → Bool
  | .region _ ops _ => ops.all (dstOk N)
  | .seq a b => okc N a && okc N b
  | .cond _ a b => okc N a && okc N b
  | .block _ c => okc N c
  | .loop c => okc N c
  | .scope c => okc N c
  | _ => true

def WP (P : Program) (N : Sz) (c : Code) (Q : Post) (f : Fr) (w : World) : Prop :=
  okc N c = true → ∀ a, Rep N f a → c.wp P (lift N Q) a w

def WPs (P : Program) (N : Sz) (ops : Array Oper) (K : Fr → World → Prop) (l : List Oper) (f : Fr) (w : World) : Prop :=
  (∀ o ∈ l, dstOk N o = true) → ∀ a, Rep N f a → wpList P ops (liftN N K) l a w

theorem dstOk_lt {N : Sz} {o : Oper} (h : dstOk N o = true) : ∀ k, o.dst = some k → k < N.n := by
  intro k hk
  simp only [dstOk, hk] at h
  exact Nat.blt_eq.mp h

section
variable {P : Program} {N : Sz} {Q : Post} {f : Fr} {w : World}

theorem WP.mono {c : Code} {Q' : Post} (h : WP P N c Q f w) (hn : ∀ f w, Q.n f w → Q'.n f w) (hx : ∀ i f w, Q.x i f w → Q'.x i f w) (hr : ∀ f w, Q.r f w → Q'.r f w) : WP P N c Q' f w :=
  fun hok a ha => Code.wp_mono (fun e a w q => by
    cases e with
    | normal => obtain ⟨f, h1, h2⟩ := q; exact ⟨f, h1, hn _ _ h2⟩
    | exit i => obtain ⟨f, h1, h2⟩ := q; exact ⟨f, h1, hx _ _ _ h2⟩
    | ret => obtain ⟨f, h1, h2⟩ := q; exact ⟨f, h1, hr _ _ h2⟩
    | _ => exact q) (h hok a ha)

theorem wSeq {x y : Code} (h : WP P N x { Q with n := fun f w => WP P N y Q f w } f w) : WP P N (.seq x y) Q f w := by
  intro hok a ha
  simp only [okc, Bool.and_eq_true] at hok
  refine wp_seq (Code.wp_mono (fun e a w q => ?_) (h hok.1 a ha))
  cases e with
  | normal => obtain ⟨f, h1, h2⟩ := q; exact h2 hok.2 a h1
  | _ => exact q

theorem wSkip (h : Q.n f w) : WP P N .skip Q f w := fun _ _ ha => wp_skip ⟨f, ha, h⟩
theorem wExit {i : Nat} (h : Q.x i f w) : WP P N (.exit i) Q f w := fun _ _ ha => wp_exit ⟨f, ha, h⟩
theorem wRet (h : Q.r f w) : WP P N .ret Q f w := fun _ _ ha => wp_ret ⟨f, ha, h⟩

theorem wIf {c : Operand} {x y : Code} (b : Bool) (hc : ev f c = .bool b) (ht : b = true → WP P N x Q f w) (hf : b = false → WP P N y Q f w) : WP P N (.cond c x y) Q f w := by
  intro hok a ha
  simp only [okc, Bool.and_eq_true] at hok
  refine wp_cond_split (t := b) (by rw [ha.ev_eq]; exact hc) (fun h => ht h hok.1 a ha) (fun h => hf h hok.2 a ha)
theorem wIfT {c : Operand} {x y : Code} (hc : ev f c = .bool true) (h : WP P N x Q f w) : WP P N (.cond c x y) Q f w :=
  wIf true hc (fun _ => h) (fun h => by cases h)
theorem wIfF {c : Operand} {x y : Code} (hc : ev f c = .bool false) (h : WP P N y Q f w) : WP P N (.cond c x y) Q f w :=
  wIf false hc (fun h => by cases h) (fun _ => h)

theorem wBlock {i : Nat} {c : Code} (h : WP P N c { n := Q.n, x := fun j => bif Nat.beq j i then Q.n else Q.x j, r := Q.r } f w) : WP P N (.block i c) Q f w := by
  intro hok a ha
  refine wp_block (Code.wp_mono (fun e a w q => ?_) (h hok a ha))
  cases e with
  | exit j =>
    obtain ⟨f, h1, h2⟩ := q
    simp only [Exit.inBlock]
    by_cases hji : j = i
    · subst hji
      simp only [if_true]
      refine ⟨f, h1, ?_⟩
      have : Nat.beq j j = true := Nat.beq_refl j
      simp only [this] at h2
      exact h2
    · rw [if_neg hji]
      refine ⟨f, h1, ?_⟩
      have : Nat.beq j i = false := beq_ne hji
      simp only [this] at h2
      exact h2
  | _ => exact q

theorem wLoop {c : Code} (I : Fr → World → Prop) (m : Fr → World → Nat) (h0 : I f w)
    (hr : ∀ f w, I f w → WP P N c { Q with n := fun f' w' => I f' w' ∧ m f' w' < m f w } f w) : WP P N (.loop c) Q f w := by
  intro hok a ha
  have hokc : okc N c = true := hok
  refine wp_loop (fun a w => ∃ f, Rep N f a ∧ I f w) (fun a w => m (fun t => a.tmps.getD t undef) w) ⟨f, ha, h0⟩ ?_
  rintro a w ⟨f, ha, hI⟩
  refine Code.wp_mono (fun e a' w' q => ?_) (hr f w hI hokc a ha)
  have hfa : (fun t => a.tmps.getD t undef) = f := funext ha.get
  cases e with
  | normal =>
    obtain ⟨f', h1, h2, h3⟩ := q
    have hfa' : (fun t => a'.tmps.getD t undef) = f' := funext h1.get
    refine ⟨⟨f', h1, h2⟩, ?_⟩
    show m (fun t => a'.tmps.getD t undef) w' < m (fun t => a.tmps.getD t undef) w
    rw [hfa', hfa]
    exact h3
  | _ => exact q

theorem wp_loopG {P : Program} {c : Code} {Q : Exit → Act → World → Prop} {a : Act} {w : World} (I : Nat → Act → World → Prop) (n0 : Nat) (h0 : I n0 a w)
    (round : ∀ n a w, I n a w → c.wp P (Exit.then (fun a' w' => ∃ n', n' < n ∧ I n' a' w') Q) a w) : (Code.loop c).wp P Q a w := by
  intro b k cs
  have key : ∀ n a w, I n a w → ∃ e a' w', Q e a' w' ∧ Arrives P (lone (b.at a (.code c :: .inLoop c :: k)) cs w) b k cs e a' w' := by
    intro n
    induction n using Nat.strongRecOn with
    | _ n ih =>
      intro a w hI
      obtain ⟨e, a1, w1, hq, harr⟩ := round n a w hI b (.inLoop c :: k) cs
      cases e with
      | normal =>
        obtain ⟨n', hlt, hI1⟩ := hq
        obtain ⟨e2, a2, w2, hq2, harr2⟩ := ih n' hlt a1 w1 hI1
        exact ⟨e2, a2, w2, hq2, .of_steps (Steps.trans harr (.one step_inLoop)) harr2⟩
      | exit id => exact ⟨_, a1, w1, hq, .pass (x := .inLoop c) rfl (fun _ _ => .inl (by simp)) harr⟩
      | goto l => exact ⟨_, a1, w1, hq, .pass (x := .inLoop c) rfl (fun _ _ => .inl (by simp)) harr⟩
      | ret => exact ⟨_, a1, w1, hq, .pass (x := .inLoop c) rfl (fun _ _ => .inl (by simp)) harr⟩
      | panic ch => exact ⟨_, a1, w1, hq, .pass (x := .inLoop c) rfl (fun _ _ => .inl (by simp)) harr⟩
      | outgrown => exact ⟨_, a1, w1, hq, .pass (x := .inLoop c) rfl (fun _ _ => .inl (by simp)) harr⟩
  obtain ⟨e, a', w', hq, harr⟩ := key n0 a w h0
  exact ⟨e, a', w', hq, .of_steps (.one step_loop) harr⟩

/-- a loop, its measure a number of one's own -/
theorem wLoopG {c : Code} (I : Nat → Fr → World → Prop) (n0 : Nat) (h0 : I n0 f w)
    (hr : ∀ n f w, I n f w → WP P N c { Q with n := fun f' w' => ∃ n', n' < n ∧ I n' f' w' } f w) : WP P N (.loop c) Q f w := by
  intro hok a ha
  have hokc : okc N c = true := hok
  refine wp_loopG (fun n a w => ∃ f, Rep N f a ∧ I n f w) n0 ⟨f, ha, h0⟩ ?_
  rintro n a w ⟨f, ha, hI⟩
  refine Code.wp_mono (fun e a' w' q => ?_) (hr n f w hI hokc a ha)
  cases e with
  | normal =>
    obtain ⟨f', h1, n', h2, h3⟩ := q
    exact ⟨n', h2, f', h1, h3⟩
  | _ => exact q

/-- the ways through x meet again in J -/
theorem wSeqJ {x y : Code} (J : Fr → World → Prop) (h : WP P N x { Q with n := J } f w) (k : ∀ f w, J f w → WP P N y Q f w) : WP P N (.seq x y) Q f w :=
  wSeq (h.mono (fun f w hj => k f w hj) (fun _ _ _ h => h) (fun _ _ h => h))

theorem wReg {i : Nat} {l : List Oper} (h : WPs P N l.toArray Q.n l f w) : WP P N (.region i l.toArray false) Q f w := by
  intro hok a ha
  have hl : ∀ o ∈ l, dstOk N o = true := by
    simpa [okc, Array.all_eq_true_iff_forall_mem] using hok
  refine Code.wp_mono (fun e a w q => ?_) (wp_region_lit (h hl a ha))
  cases e with
  | normal => exact q
  | _ => exact q.elim

/-- forget all of the frame but what is listed -/
def Has (f : Fr) : List (Nat × Value) → Prop
  | [] => True
  | (d, v) :: l => f d = v ∧ Has f l
def updL (g : Fr) : List (Nat × Value) → Fr
  | [] => g
  | (d, v) :: l => upd (updL g l) d v
theorem updL_has {f : Fr} : ∀ {l : List (Nat × Value)}, Has f l → updL f l = f
  | [], _ => rfl
  | (d, v) :: l, h => by
    simp only [updL]
    rw [updL_has h.2]
    funext t
    unfold upd
    cases hb : Nat.beq t d with
    | true => rw [Nat.eq_of_beq_eq_true hb]; exact h.1.symm
    | false => rfl
theorem has_updL (l : List (Nat × Value)) (f : Fr) (h : Has f l) : ∃ g, f = updL g l := ⟨f, (updL_has h).symm⟩
theorem wCut (l : List (Nat × Value)) {c : Code} (h : Has f l) (k : ∀ g, WP P N c Q (updL g l) w) : WP P N c Q f w := by
  rw [← updL_has h]; exact k f

end

section
variable {P : Program} {N : Sz} {ops : Array Oper} {K : Fr → World → Prop} {rest : List Oper} {f : Fr} {w : World}

theorem sNil (h : K f w) : WPs P N ops K [] f w := fun _ _ ha => wpList_nil ⟨f, ha, h⟩

/-- an operation that yields a value -/
theorem sRun {d : Option Nat} {op : Op} {ty : TypeId} {pos : String} {af : Array Edge} {v : Value} {w' : World}
    (h : (execOp (ev f) ⟨d, op, ty, pos, af, none⟩).run P w = .ok (.value v) w') (k : WPs P N ops K rest (updO f d v) w') :
    WPs P N ops K (⟨d, op, ty, pos, af, none⟩ :: rest) f w := by
  intro hok a ha
  have h1 := hok _ (List.mem_cons_self ..)
  refine wpList_plain rfl fun K' hK => ?_
  unfold Oper.wp
  rw [ha.ev_eq, h]
  exact hK _ _ (k (fun o ho => hok o (List.mem_cons_of_mem _ ho)) _ (ha.put d (dstOk_lt h1) v))

/-- an operation that yields none -/
theorem sDo {d : Option Nat} {op : Op} {ty : TypeId} {pos : String} {af : Array Edge} {w' : World}
    (h : (execOp (ev f) ⟨d, op, ty, pos, af, none⟩).run P w = .ok .skip w') (k : WPs P N ops K rest (updO f d undef) w') :
    WPs P N ops K (⟨d, op, ty, pos, af, none⟩ :: rest) f w := by
  intro hok a ha
  have h1 := hok _ (List.mem_cons_self ..)
  refine wpList_plain rfl fun K' hK => ?_
  unfold Oper.wp
  rw [ha.ev_eq, h]
  exact hK _ _ (k (fun o ho => hok o (List.mem_cons_of_mem _ ho)) _ (ha.put d (dstOk_lt h1) undef))

/-- what a contract says: it returns, and of the value and the world behind it this holds -/
def Ret (R : Value → World → Prop) : Ending → World → Prop := fun e w => ∃ v, e = .returned v ∧ R v w

theorem sCall {d : Option Nat} {op : Op} {ty : TypeId} {pos : String} {af : Array Edge} {w' : World} {g : FuncId} {args : Array Value} {R : Value → World → Prop}
    (h : (execOp (ev f) ⟨d, op, ty, pos, af, none⟩).run P w = .ok (.enter g args) w') (hc : Calls P g args w' (Ret R))
    (k : ∀ v w'', R v w'' → WPs P N ops K rest (updO f d v) w'') :
    WPs P N ops K (⟨d, op, ty, pos, af, none⟩ :: rest) f w := by
  intro hok a ha
  have h1 := hok _ (List.mem_cons_self ..)
  refine wpList_plain rfl fun K' hK => ?_
  unfold Oper.wp
  rw [ha.ev_eq, h]
  refine hc.mono fun e w'' he => ?_
  obtain ⟨v, rfl, hR⟩ := he
  exact hK _ _ (k v w'' hR (fun o ho => hok o (List.mem_cons_of_mem _ ho)) _ (ha.put d (dstOk_lt h1) v))

/-- a test: both ways -/
theorem sSplit {d : Option Nat} {op : Op} {ty : TypeId} {pos : String} {af : Array Edge} {p : Prop} [Decidable p]
    (h : (execOp (ev f) ⟨d, op, ty, pos, af, none⟩).run P w = .ok (.value (.bool (decide p))) w) (kt : p → WPs P N ops K rest (updO f d (.bool true)) w) (kf : ¬ p → WPs P N ops K rest (updO f d (.bool false)) w) :
    WPs P N ops K (⟨d, op, ty, pos, af, none⟩ :: rest) f w := by
  by_cases hp : p
  · rw [decide_eq_true hp] at h; exact sRun h (kt hp)
  · rw [decide_eq_false hp] at h; exact sRun h (kf hp)

theorem sGo {d : Option Nat} {op : Op} {ty : TypeId} {pos : String} {af : Array Edge} {g : Option (Nat × Bool)}
    (h : wantF ops f g = true) (k : WPs P N ops K (⟨d, op, ty, pos, af, none⟩ :: rest) f w) : WPs P N ops K (⟨d, op, ty, pos, af, g⟩ :: rest) f w := by
  intro hok a ha
  have h2 := k (by
    intro o ho
    rcases List.mem_cons.1 ho with rfl | ho
    · exact hok ⟨d, op, ty, pos, af, g⟩ (List.mem_cons_self ..)
    · exact hok o (List.mem_cons_of_mem _ ho)) a ha
  unfold wpList at h2 ⊢
  rw [if_pos (by rw [wanted_eq ha]; exact h)]
  rw [if_pos (by rw [wanted_eq ha]; rfl)] at h2
  exact h2
theorem sNo {d : Option Nat} {op : Op} {ty : TypeId} {pos : String} {af : Array Edge} {g : Option (Nat × Bool)}
    (h : wantF ops f g = false) (k : WPs P N ops K rest (updO f d undef) w) : WPs P N ops K (⟨d, op, ty, pos, af, g⟩ :: rest) f w := by
  intro hok a ha
  have h1 := hok _ (List.mem_cons_self ..)
  unfold wpList
  rw [if_neg (by rw [wanted_eq ha, h]; simp)]
  exact k (fun o ho => hok o (List.mem_cons_of_mem _ ho)) _ (ha.put d (dstOk_lt h1) undef)
end

/-! a region that draws its order -/
/-- what has come up is closed: whatever has come up, all that it waits for has come up too -/
def Closed (ops : Array Oper) (L : Array Bool) : Prop := ∀ j o, ops[j]? = some o → L.getD j false = true → ∀ e ∈ o.after, Region.binds .any e = true → L.getD e.on false = true
/-- t waits for i, at no more than n removes -/
def anc (ops : Array Oper) : Nat → Nat → Nat → Bool
  | 0, _, _ => false
  | n + 1, t, i => match ops[t]? with
    | some o => o.after.any fun e => Region.binds .any e && (Nat.beq e.on i || anc ops n e.on i)
    | none => false
theorem Closed.anc {ops : Array Oper} {L : Array Bool} (h : Closed ops L) (i : Nat) : ∀ n t, anc ops n t i = true → L.getD t false = true → L.getD i false = true
  | 0, t, ha, _ => by simp [Fw.anc] at ha
  | n + 1, t, ha, ht => by
    unfold Fw.anc at ha
    cases ho : ops[t]? with
    | none => rw [ho] at ha; simp at ha
    | some o =>
      rw [ho] at ha
      obtain ⟨e, he, hb⟩ := Array.any_eq_true'.1 ha
      simp only [Bool.and_eq_true, Bool.or_eq_true] at hb
      have h1 := h t o ho ht e he hb.1
      rcases hb.2 with h2 | h2
      · rw [Nat.eq_of_beq_eq_true h2] at h1; exact h1
      · exact Closed.anc h i n e.on h2 h1
theorem getD_set_any {L : Array Bool} {i j : Nat} (d : Bool) (h : i ≠ j) : (L.setIfInBounds i true).getD j d = L.getD j d := by
  simp [Array.getElem?_setIfInBounds_ne h]
theorem Closed.step {ops : Array Oper} {L : Array Bool} (h : Closed ops L) {j : Nat} (hj : j ∈ Region.ready .any ops L) : Closed ops (L.setIfInBounds j true) := by
  intro k o hk hl e he hb
  by_cases hjk : j = k
  · subst hjk
    obtain ⟨_, o', ho', hall⟩ := mem_ready.1 hj
    rw [hk] at ho'
    injection ho' with ho'
    subst ho'
    exact getD_set_true (hall e he hb)
  · rw [getD_set_any false hjk] at hl
    exact getD_set_true (h k o hk hl e he hb)
theorem Closed.start (ops : Array Oper) (n : Nat) : Closed ops (Array.replicate n false) := by
  intro j o _ hl
  simp [Array.getD_eq_getD_getElem?, Array.getElem?_replicate] at hl
  split at hl <;> simp at hl

/-- S holds as long as none of T has come up -/
def SL (T : List Nat) (S : World → Prop) (L : Array Bool) (w : World) : Prop := (∀ t ∈ T, L.getD t false = false) → S w

/-- whatever order is picked from here on, while S holds till one of T comes up -/
def anyT (P : Program) (ops : Array Oper) (Q : Exit → Act → World → Prop) (S : World → Prop) (T : List Nat) : Nat → Array Bool → Act → World → Prop
  | 0, L, a, w => Region.ready .any ops L = [] ∧ Q .normal a w
  | n + 1, L, a, w => (Region.ready .any ops L = [] → Q .normal a w) ∧
    ∀ i ∈ Region.ready .any ops L, wpOp P ops Q i (fun a' w' => SL T S (L.setIfInBounds i true) w' ∧ anyT P ops Q S T n (L.setIfInBounds i true) a' w') a w
theorem any_of_T {P : Program} {ops : Array Oper} {Q : Exit → Act → World → Prop} {S : World → Prop} {T : List Nat} : ∀ (n : Nat) (L : Array Bool) (a : Act) (w : World), anyT P ops Q S T n L a w → wpAny P .any ops Q n L a w
  | 0, _, _, _, h => h
  | n + 1, _, _, _, h => ⟨h.1, fun i hi => wpOp_mono (fun a' w' h' => any_of_T n _ a' w' h'.2) (h.2 i hi)⟩

theorem anyT_first {P : Program} {ops : Array Oper} {Q : Exit → Act → World → Prop} {S S2 : World → Prop} {T : List Nat} {i : Nat} {oi : Oper} {v : Value} (hi : ops[i]? = some oi)
    (hsel : ∀ (j : Nat) (o : Oper) cs b, ops[j]? = some o → o.op ≠ .select cs b) (hQ : ∀ c a w, Q (.panic c) (a.put oi.dst v) w → Q (.panic c) a w) (hT : i ∉ T)
    (hS2 : ∀ L w, Closed ops L → L.getD i false = false → SL T S L w → S2 w) :
    ∀ (n : Nat) (L : Array Bool) (a : Act) (w : World), Closed ops L →
      (∀ j oj, ops[j]? = some oj → j ≠ i → L.getD j true = false → (∀ e ∈ oj.after, Region.binds .any e = true → e.on ≠ i) → oi.apart ops oj = true) →
      i ∈ Region.ready .any ops L → YieldsIf P ops S2 oi v a → SL T S L w →
      anyT P ops Q S T n (L.setIfInBounds i true) (a.put oi.dst v) w → anyT P ops Q S T (n + 1) L a w := by
  have unl : ∀ L, i ∈ Region.ready .any ops L → L.getD i false = false := by
    intro L hr
    have h0 := (mem_ready.1 hr).1
    rcases Nat.lt_or_ge i L.size with h' | h'
    · simp [h'] at h0 ⊢; exact h0
    · simp [Array.getElem?_eq_none h']
  have sl : ∀ L w, SL T S (L.setIfInBounds i true) w → SL T S L w := by
    intro L w h ht
    refine h fun t hm => ?_
    rw [getD_set_any false (fun e => hT (by rw [e]; exact hm))]
    exact ht t hm
  have sl' : ∀ L w, SL T S L w → SL T S (L.setIfInBounds i true) w := by
    intro L w h ht
    refine h fun t hm => ?_
    have := ht t hm
    rwa [getD_set_any false (fun e => hT (by rw [e]; exact hm))] at this
  intro n
  induction n with
  | zero =>
    intro L a w hcl _ hr hy hS H
    refine ⟨fun h => (by rw [h] at hr; cases hr), fun j hj => ?_⟩
    by_cases hji : j = i
    · subst hji; exact hy.wpOp hi (hS2 L w hcl (unl L hr) hS) ⟨sl' L w hS, H⟩
    · have := ready_mono hj hji
      rw [H.1] at this
      cases this
  | succ n ih =>
    intro L a w hcl hfree hr hy hS H
    refine ⟨fun h => (by rw [h] at hr; cases hr), fun j hj => ?_⟩
    by_cases hji : j = i
    · subst hji; exact hy.wpOp hi (hS2 L w hcl (unl L hr) hS) ⟨sl' L w hS, H⟩
    · have h1 := H.2 j (ready_mono hj hji)
      obtain ⟨hjun, oj, hoj, hall⟩ := mem_ready.1 hj
      have hnot : ∀ e ∈ oj.after, Region.binds .any e = true → e.on ≠ i := fun e he hb heq => by
        have h1 := hall e he hb
        have h0 := unl L hr
        rw [heq, h0] at h1
        cases h1
      have h2 := wpOp_putIf hoj (hfree j oj hoj hji hjun hnot) (fun cs b => hsel i oi cs b hi) (fun cs b => hsel j oj cs b hoj) hQ hy h1
      have hfree' : ∀ k ok, ops[k]? = some ok → k ≠ i → (L.setIfInBounds j true).getD k true = false →
          (∀ e ∈ ok.after, Region.binds .any e = true → e.on ≠ i) → oi.apart ops ok = true := fun k ok hk hki hun hno => by
        refine hfree k ok hk hki ?_ hno
        by_cases hjk : j = k
        · subst hjk; exact hjun
        · rw [getD_set_any true hjk] at hun; exact hun
      have hcomm : (L.setIfInBounds i true).setIfInBounds j true = (L.setIfInBounds j true).setIfInBounds i true := Array.setIfInBounds_comm _ _ (Ne.symm hji)
      refine wpOp_mono (fun a' w' h3 => ?_) h2
      have h4 := h3.2.1
      rw [hcomm] at h4
      have h5 := sl _ _ h4
      refine ⟨h5, ih (L.setIfInBounds j true) a' w' (hcl.step hj) hfree' (ready_mono hr (Ne.symm hji)) h3.1 h5 ?_⟩
      rw [← hcomm]
      exact h3.2.2

/-- the same of a frame that is a function -/
def WPh (P : Program) (N : Sz) (ops : Array Oper) (S : World → Prop) (T : List Nat) (K : Fr → World → Prop) (n : Nat) (L : Array Bool) (f : Fr) (w : World) : Prop :=
  (∀ o ∈ ops.toList, dstOk N o = true) → Closed ops L → ∀ a, Rep N f a → anyT P ops (liftN N K) S T n L a w

section
variable {P : Program} {N : Sz} {ops : Array Oper} {S : World → Prop} {T : List Nat} {K : Fr → World → Prop} {f : Fr} {w : World} {n : Nat} {L : Array Bool}

theorem wDraw {Q : Post} {i : Nat} (S : World → Prop) (T : List Nat) (hm : P.follows .mixedOrders = true) (h : WPh P N ops S T Q.n ops.size (Array.replicate ops.size false) f w.drew) : WP P N (.region i ops true) Q f w := by
  intro hok a ha
  have hl : ∀ o ∈ ops.toList, dstOk N o = true := by
    intro o ho
    have := Array.all_eq_true_iff_forall_mem.1 (show ops.all (dstOk N) = true from hok)
    exact this o (by simpa using ho)
  refine Code.wp_mono (fun e a w q => ?_) (wp_region_any hm (any_of_T _ _ _ _ (h hl (Closed.start ops _) a ha)))
  cases e with
  | normal => exact q
  | _ => exact q.elim

theorem hDone (hr : Region.ready .any ops L = []) (h : K f w) : WPh P N ops S T K n L f w := by
  intro _ _ a ha
  cases n with
  | zero => exact ⟨hr, f, ha, h⟩
  | succ n => exact ⟨fun _ => ⟨f, ha, h⟩, by rw [hr]; simp⟩

/-- what is asked ahead of taking operation i -/
def may (ops : Array Oper) (T : List Nat) (L : Array Bool) (i : Nat) : Bool := Region.noSelect ops && Region.free .any ops L i && (Region.ready .any ops L).contains i && !T.contains i
/-- all of T wait for i -/
def waits (ops : Array Oper) (T : List Nat) (i : Nat) : Bool := T.all fun t => anc ops 3 t i

theorem hTake0 (S2 : World → Prop) (i : Nat) {oi : Oper} {v : Value} (hi : ops[i]? = some oi) (hc : may ops T L i = true) (hS2 : ∀ L w, Closed ops L → L.getD i false = false → SL T S L w → S2 w)
    (hw : (wantF ops f oi.guard = true ∧ ∀ w, S2 w → (execOp (ev f) oi).run P w = .ok (.value v) w) ∨ (wantF ops f oi.guard = false ∧ v = undef)) (hS : SL T S L w)
    (k : WPh P N ops S T K n (L.setIfInBounds i true) (updO f oi.dst v) w) : WPh P N ops S T K (n + 1) L f w := by
  intro hok hcl a ha
  simp only [may, Bool.and_eq_true, Bool.not_eq_true', List.contains_eq_mem] at hc
  have hd : dstOk N oi = true := hok oi (by have := Array.mem_of_getElem? hi; simpa using this)
  have hr : i ∈ Region.ready .any ops L := by simpa using hc.1.2
  have hT : i ∉ T := by simpa using hc.2
  refine anyT_first (S2 := S2) (v := v) hi (Region.noSelect_spec hc.1.1.1) (fun _ _ _ h => h) hT hS2 n L a w hcl (Region.free_spec hi hc.1.1.2) hr ?_ hS (k hok (hcl.step hr) _ (ha.put _ (dstOk_lt hd) v))
  rcases hw with ⟨h1, h2⟩ | ⟨h1, h2⟩
  · exact .inl ⟨by rw [wanted_eq ha]; exact h1, fun w hw => by rw [ha.ev_eq]; exact h2 w hw⟩
  · exact .inr ⟨by rw [wanted_eq ha]; exact h1, h2⟩

/-- take operation i first: it yields v in whatever world -/
theorem hTake (i : Nat) {oi : Oper} {v : Value} (hi : ops[i]? = some oi) (hc : may ops T L i = true) (hw : wantF ops f oi.guard = true) (hy : ∀ w, (execOp (ev f) oi).run P w = .ok (.value v) w) (hS : SL T S L w)
    (k : WPh P N ops S T K n (L.setIfInBounds i true) (updO f oi.dst v) w) : WPh P N ops S T K (n + 1) L f w :=
  hTake0 (fun _ => True) i hi hc (fun _ _ _ _ _ => trivial) (.inl ⟨hw, fun w _ => hy w⟩) hS k
/-- take operation i first: it yields v in every world that meets S, and all of T wait for it -/
theorem hTakeS (i : Nat) {oi : Oper} {v : Value} (hi : ops[i]? = some oi) (hc : may ops T L i = true) (hT : waits ops T i = true) (hw : wantF ops f oi.guard = true) (hy : ∀ w, S w → (execOp (ev f) oi).run P w = .ok (.value v) w) (hS : SL T S L w)
    (k : WPh P N ops S T K n (L.setIfInBounds i true) (updO f oi.dst v) w) : WPh P N ops S T K (n + 1) L f w :=
  hTake0 S i hi hc (fun L w hcl hu hs => hs fun t ht => by
    have h1 := List.all_eq_true.1 hT t ht
    cases hl : L.getD t false with
    | false => rfl
    | true => rw [hcl.anc i 3 t h1 hl] at hu; cases hu) (.inl ⟨hw, hy⟩) hS k
theorem hSkip (i : Nat) {oi : Oper} (hi : ops[i]? = some oi) (hc : may ops T L i = true) (hw : wantF ops f oi.guard = false) (hS : SL T S L w)
    (k : WPh P N ops S T K n (L.setIfInBounds i true) (updO f oi.dst undef) w) : WPh P N ops S T K (n + 1) L f w :=
  hTake0 (fun _ => True) i hi hc (fun _ _ _ _ _ => trivial) (.inr ⟨hw, rfl⟩) hS k
theorem hSplit (i : Nat) {oi : Oper} {p : Prop} [Decidable p] (hi : ops[i]? = some oi) (hc : may ops T L i = true) (hw : wantF ops f oi.guard = true) (hy : ∀ w, (execOp (ev f) oi).run P w = .ok (.value (.bool (decide p))) w) (hS : SL T S L w)
    (kt : p → WPh P N ops S T K n (L.setIfInBounds i true) (updO f oi.dst (.bool true)) w) (kf : ¬ p → WPh P N ops S T K n (L.setIfInBounds i true) (updO f oi.dst (.bool false)) w) : WPh P N ops S T K (n + 1) L f w := by
  by_cases hp : p
  · rw [decide_eq_true hp] at hy; exact hTake i hi hc hw hy hS (kt hp)
  · rw [decide_eq_false hp] at hy; exact hTake i hi hc hw hy hS (kf hp)

/-- one of those that may come up comes up -/
def One (P : Program) (N : Sz) (ops : Array Oper) (S : World → Prop) (T : List Nat) (K : Fr → World → Prop) (n : Nat) (L : Array Bool) (f : Fr) (w : World) (i : Nat) : Prop :=
  (∀ o ∈ ops.toList, dstOk N o = true) → Closed ops (L.setIfInBounds i true) → ∀ a, Rep N f a → wpOp P ops (liftN N K) i (fun a' w' => SL T S (L.setIfInBounds i true) w' ∧ anyT P ops (liftN N K) S T n (L.setIfInBounds i true) a' w') a w

theorem hOne (i : Nat) (hr : Region.ready .any ops L = [i]) (h : One P N ops S T K n L f w i) : WPh P N ops S T K (n + 1) L f w := fun hok hcl a ha =>
  ⟨fun h0 => (by rw [hr] at h0; cases h0), fun j hj => by
    have hcl' := hcl.step hj
    rw [hr] at hj
    have hj' : j = i := by simpa using hj
    subst hj'
    exact h hok hcl' a ha⟩
theorem hTwo (i j : Nat) (hr : Region.ready .any ops L = [i, j]) (h : One P N ops S T K n L f w i) (h' : One P N ops S T K n L f w j) : WPh P N ops S T K (n + 1) L f w := fun hok hcl a ha =>
  ⟨fun h0 => (by rw [hr] at h0; cases h0), fun k hk => by
    have hcl' := hcl.step hk
    rw [hr] at hk
    have hk' : k = i ∨ k = j := by simpa using hk
    rcases hk' with rfl | rfl
    · exact h hok hcl' a ha
    · exact h' hok hcl' a ha⟩

theorem oRun {i : Nat} {oi : Oper} {v : Value} {w' : World} (hi : ops[i]? = some oi) (hw : wantF ops f oi.guard = true) (h : (execOp (ev f) oi).run P w = .ok (.value v) w')
    (hS : SL T S (L.setIfInBounds i true) w') (k : WPh P N ops S T K n (L.setIfInBounds i true) (updO f oi.dst v) w') : One P N ops S T K n L f w i := by
  intro hok hcl a ha
  have hd : dstOk N oi = true := hok oi (by have := Array.mem_of_getElem? hi; simpa using this)
  unfold wpOp
  simp only [hi]
  rw [if_pos (by rw [wanted_eq ha]; exact hw)]
  left
  unfold Oper.wp
  rw [ha.ev_eq, h]
  exact ⟨hS, k hok hcl _ (ha.put _ (dstOk_lt hd) v)⟩
theorem oDo {i : Nat} {oi : Oper} {w' : World} (hi : ops[i]? = some oi) (hw : wantF ops f oi.guard = true) (h : (execOp (ev f) oi).run P w = .ok .skip w')
    (hS : SL T S (L.setIfInBounds i true) w') (k : WPh P N ops S T K n (L.setIfInBounds i true) (updO f oi.dst undef) w') : One P N ops S T K n L f w i := by
  intro hok hcl a ha
  have hd : dstOk N oi = true := hok oi (by have := Array.mem_of_getElem? hi; simpa using this)
  unfold wpOp
  simp only [hi]
  rw [if_pos (by rw [wanted_eq ha]; exact hw)]
  left
  unfold Oper.wp
  rw [ha.ev_eq, h]
  exact ⟨hS, k hok hcl _ (ha.put _ (dstOk_lt hd) undef)⟩
theorem oCall {i : Nat} {oi : Oper} {w' : World} {g : FuncId} {args : Array Value} {R : Value → World → Prop} (hi : ops[i]? = some oi) (hw : wantF ops f oi.guard = true)
    (h : (execOp (ev f) oi).run P w = .ok (.enter g args) w') (hc : Calls P g args w' (Ret R))
    (k : ∀ v w'', R v w'' → SL T S (L.setIfInBounds i true) w'' ∧ WPh P N ops S T K n (L.setIfInBounds i true) (updO f oi.dst v) w'') : One P N ops S T K n L f w i := by
  intro hok hcl a ha
  have hd : dstOk N oi = true := hok oi (by have := Array.mem_of_getElem? hi; simpa using this)
  unfold wpOp
  simp only [hi]
  rw [if_pos (by rw [wanted_eq ha]; exact hw)]
  left
  unfold Oper.wp
  rw [ha.ev_eq, h]
  refine hc.mono fun e w'' he => ?_
  obtain ⟨v, rfl, hR⟩ := he
  exact ⟨(k v w'' hR).1, (k v w'' hR).2 hok hcl _ (ha.put _ (dstOk_lt hd) v)⟩
theorem sl_of {w : World} (h : S w) : SL T S L w := fun _ => h
/-- one of T has come up -/
theorem sl_late (t : Nat) {w : World} (h : (T.contains t && L.getD t false) = true) : SL T S L w := fun ht => by
  simp only [Bool.and_eq_true, List.contains_eq_mem] at h
  have := ht t (by simpa using h.1)
  rw [this] at h
  cases h.2
end

/-! a function's body -/
/-- the frame in which a function begins -/
def frame0 (args : Array Value) (t : Nat) : Value := args.getD t undef

/-- the results are read off -/
def Reads (P : Program) (fn : Func) (R : Value → World → Prop) (f : Fr) (w : World) : Prop := ∀ a : Array Value, (∀ t, a.getD t undef = f t) → ∃ v, (results fn a).run P w = .ok v w ∧ R v w
theorem calls_of {P : Program} {g : FuncId} {fn : Func} {c : Code} {args : Array Value} {w : World} {R : Value → World → Prop}
    (hf : P.funcs[g]? = some fn) (hb : fn.body = some c) (hs : args.size ≤ fn.ntmps) (hok : okc ⟨fn.ntmps, []⟩ c = true)
    (h : WP P ⟨fn.ntmps, []⟩ c { n := Reads P fn R, x := fun _ _ _ => False, r := Reads P fn R } (frame0 args) w) : Calls P g args w (Ret R) := by
  refine calls_of_wp hf hb (Code.wp_mono (fun e a w q => ?_) (h hok _ ⟨by simp; omega, fun t => ?_, rfl⟩))
  · cases e with
    | normal =>
      obtain ⟨f, h1, h2⟩ := q
      obtain ⟨v, hv, hR⟩ := h2 a.tmps h1.get
      exact ⟨h1.dfr, v, hv, v, rfl, hR⟩
    | ret =>
      obtain ⟨f, h1, h2⟩ := q
      obtain ⟨v, hv, hR⟩ := h2 a.tmps h1.get
      exact ⟨h1.dfr, v, hv, v, rfl, hR⟩
    | exit i => obtain ⟨f, h1, h2⟩ := q; exact h2.elim
    | _ => exact q.elim
  · unfold frame0
    simp only [Array.getD_eq_getD_getElem?]
    rw [Array.getElem?_append]
    split
    · rfl
    · rename_i hlt
      rw [Array.getElem?_replicate]
      split
      · rw [Array.getElem?_eq_none (by omega)]; rfl
      · rw [Array.getElem?_eq_none (by omega)]

theorem res0 {P : Program} {fn : Func} {R : Value → World → Prop} {f : Fr} {w : World} (hr : fn.results = #[]) (h : R (.tuple #[]) w) : Reads P fn R f w :=
  fun a _ => ⟨_, results_none hr a P w, h⟩
theorem res1 {P : Program} {fn : Func} {R : Value → World → Prop} {f : Fr} {w : World} {t : Nat} (hr : fn.results = #[.tmp t]) (h : R (f t) w) : Reads P fn R f w :=
  fun a ha => ⟨_, results_tmp hr a P w, by rw [ha]; exact h⟩
theorem res2 {P : Program} {fn : Func} {R : Value → World → Prop} {f : Fr} {w : World} {t u : Nat} (hr : fn.results = #[.tmp t, .tmp u]) (h : R (.tuple #[f t, f u]) w) : Reads P fn R f w :=
  fun a ha => ⟨_, results_tmp2 hr a P w, by rw [ha, ha]; exact h⟩
attribute [irreducible] Reads WP WPs WPh One
end Go.Fw
