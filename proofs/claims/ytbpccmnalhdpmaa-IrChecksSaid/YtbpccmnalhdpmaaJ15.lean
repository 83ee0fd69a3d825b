/- IrChecks: Dw+E1. -/
import Derived.Test.YtbpccmnalhdpmaaJ1
import Derived.Test.YtbpccmnalhdpmaaJ2
import Derived.RangeFuncLeaves
import Derived.OrdersIn
import Derived.LoopNIn
set_option linter.unusedVariables false
namespace Go.Fw
open Go.RowKit
section
variable {P : Program} {N : Nat} {ops : Array Oper} {K : Fr → World → Prop} {f : Fr} {w : World}
/-- what one operation must do -/
def Does (P : Program) (ops : Array Oper) (oi : Oper) (f : Fr) (w : World) (J : Fr → World → Prop) : Prop :=
 (wantF ops f oi.guard = false ∧ J (updO f oi.dst undef) w) ∨
 (wantF ops f oi.guard = true ∧ ((∃ v w', (execOp (ev f) oi).run P w = .ok (.value v) w' ∧ J (updO f oi.dst v) w') ∨ (∃ w', (execOp (ev f) oi).run P w = .ok .skip w' ∧ J (updO f oi.dst undef) w') ∨
  ∃ g args w' R, (execOp (ev f) oi).run P w = .ok (.enter g args) w' ∧ Calls P g args w' (Ret R) ∧ ∀ v w'', R v w'' → J (updO f oi.dst v) w''))
theorem oSkip {S : World → Prop} {T : List Nat} {n : Nat} {L : Array Bool} {i : Nat} {oi : Oper} (hi : ops[i]? = some oi) (hw : wantF ops f oi.guard = false)
  (hS : SL T S (L.setIfInBounds i true) w) (k : WPh P N ops S T K n (L.setIfInBounds i true) (updO f oi.dst undef) w) : One P N ops S T K n L f w i := by
 unfold One
 unfold WPh at k
 intro hok hcl a ha
 have hd : dstOk N oi = true := hok oi (by have := Array.mem_of_getElem? hi; simpa using this)
 unfold wpOp
 simp only [hi]
 rw [if_neg (by rw [wanted_eq ha, hw]; simp)]
 exact ⟨hS, k hok hcl _ (ha.put _ (dstOk_lt hd) undef)⟩
def cntF (L : Array Bool) : Nat := L.toList.count false
theorem cntF_set {L : Array Bool} {i : Nat} (h : L.getD i true = false) : cntF (L.setIfInBounds i true) + 1 = cntF L := by
 have hi : i < L.size := by
  rcases Nat.lt_or_ge i L.size with h' | h'
  · exact h'
  · rw [Array.getD_eq_getD_getElem?, Array.getElem?_eq_none h'] at h; cases h
 have hv : L.toList[i]'(by simpa using hi) = false := by
  rw [Array.getD_eq_getD_getElem?, Array.getElem?_eq_getElem hi] at h
  simpa using h
 unfold cntF
 rw [Array.toList_setIfInBounds, List.count_set (by simpa using hi)]
 have hpos : 0 < L.toList.count false := List.count_pos_iff.2 (by rw [← hv]; exact List.getElem_mem _)
 rw [hv, if_pos (by rfl), if_neg (by decide)]
 omega
theorem ready_lt {L : Array Bool} {i : Nat} (h : i ∈ Region.ready .any ops L) : L.getD i true = false := (mem_ready.1 h).1
theorem cntF_zero {L : Array Bool} (h : cntF L = 0) : Region.ready .any ops L = [] := by
 cases hr : Region.ready .any ops L with
 | nil => rfl
 | cons i l =>
  have hm : i ∈ Region.ready .any ops L := by rw [hr]; simp
  have := cntF_set (ready_lt hm)
  omega
theorem anyI (Inv : Array Bool → Fr → World → Prop) (hstep : ∀ L f w i oi, L.size = ops.size → Closed ops L → i ∈ Region.ready .any ops L → ops[i]? = some oi → Inv L f w → Does P ops oi f w (Inv (L.setIfInBounds i true)))
  (hend : ∀ L f w, L.size = ops.size → Closed ops L → Region.ready .any ops L = [] → Inv L f w → K f w) :
  ∀ (n : Nat) (L : Array Bool) (f : Fr) (w : World), L.size = ops.size → cntF L ≤ n → Inv L f w → WPh P N ops (fun _ => True) [] K n L f w := by
 intro n
 induction n with
 | zero =>
  intro L f w hs hc hI
  have hr := cntF_zero (ops := ops) (by omega : cntF L = 0)
  unfold WPh
  intro hok hcl a ha
  exact ⟨hr, f, ha, hend L f w hs hcl hr hI⟩
 | succ n ih =>
  intro L f w hs hc hI
  unfold WPh
  intro hok hcl a ha
  refine ⟨fun hr => ⟨f, ha, hend L f w hs hcl hr hI⟩, fun i hi => ?_⟩
  obtain ⟨hun, oi, hoi, _⟩ := mem_ready.1 hi
  have hcs := cntF_set hun
  have key : One P N ops (fun _ => True) [] K n L f w i := by
   have go : ∀ f' w', Inv (L.setIfInBounds i true) f' w' → WPh P N ops (fun _ => True) [] K n (L.setIfInBounds i true) f' w' := fun f' w' h' => ih _ f' w' (by simpa using hs) (by omega) h'
   rcases hstep L f w i oi hs hcl hi hoi hI with ⟨hw, hj⟩ | ⟨hw, ⟨v, w', h1, hj⟩ | ⟨w', h1, hj⟩ | ⟨g, args, w', R, h1, h2, hj⟩⟩
   · exact oSkip hoi hw (sl_of trivial) (go _ _ hj)
   · exact oRun hoi hw h1 (sl_of trivial) (go _ _ hj)
   · exact oDo hoi hw h1 (sl_of trivial) (go _ _ hj)
   · exact oCall hoi hw h1 h2 fun v w'' hR => ⟨sl_of trivial, go _ _ (hj v w'' hR)⟩
  unfold One at key
  exact key hok (hcl.step hi) a ha
/-- a region that draws: an invariant that every operation keeps, whenever it comes up -/
theorem wDrawI {Q : Post} {ri : Nat} (Inv : Array Bool → Fr → World → Prop) (hm : P.follows .mixedOrders = true) (h0 : Inv (Array.replicate ops.size false) f w.drew)
  (hstep : ∀ L f w i oi, L.size = ops.size → Closed ops L → i ∈ Region.ready .any ops L → ops[i]? = some oi → Inv L f w → Does P ops oi f w (Inv (L.setIfInBounds i true)))
  (hend : ∀ L f w, L.size = ops.size → Closed ops L → Region.ready .any ops L = [] → Inv L f w → Q.n f w) : WP P N (.region ri ops true) Q f w :=
 wDraw (fun _ => True) [] hm (anyI Inv hstep hend _ _ _ _ (by simp) (by unfold cntF; simp) h0)
end
end Go.Fw
namespace Go.Ev
noncomputable section
/-! paths and tries -/
inductive Pp where
 | h
 | l (p : Pp)
 | r (p : Pp)
inductive T (α : Type) where
 | e
 | n (l : T α) (v : α) (r : T α)
/-! numbers as terms over unknowns -/
inductive SE where
 | n (x : Nat)
 | g (x : Nat)
 | v (i : Nat)
 | b (o : BinOp) (k : IntKind) (x y : SE)
/-! values -/
inductive A where
 | i (k : IntKind) (e : SE)
 | b (x : Bool)
 | s0
 | s (r : Pp) (o n : Nat)
 | p0
 | p (r : Pp) (o : Nat)
 | m0
 | m (r : Pp)
 | f0
 | f (k : Nat) (c : List (Pp × Nat))
 | y (r : Pp)
 | t (l : List Nat)
 | q0
 | q (ty : Nat) (k : IntKind) (e : SE)
 | u
inductive U where
 | a (x : A)
 | g (l : List A)
inductive V where
 | a (x : A)
 | g (l : List A)
 | t (l : List U)
 | x
/-! code -/
inductive X where
 | s (p : Pp)
 | c (v : V)
/-- operations that look at no memory -/
inductive OP where
 | mv (x : X)
 | pk (c a b : X)
 | ar (o : BinOp) (x y : X)
 | cp (o : BinOp) (x y : X)
 | nt (x : X)
 | eq (ng ag : Bool) (ks : List Nat) (x y : X)
 | ne (ng : Bool) (x : X)
 | nc (x : X)
 | fa (o : Nat) (x : X)
 | fd (o : Nat) (x : X)
 | fn (o n : Nat) (x : X)
 | ix (z : Nat) (x i : X)
 | ia (m z : Nat) (x i : X)
 | bd (z : List A) (ps : List (Nat × Nat × X))
 | ln (x : X)
 | ex (i : Nat) (x : X)
 | sl (x : X) (hi : X)
 | mf (f : Nat) (cs : List X)
 | mn (mx : Bool) (x y : X)
 | id (m : Nat) (x i : X)
 | ig (m z : Nat) (x i : X)
/-- operations that read memory -/
inductive OR where
 | ld (x : X)
 | lg (n : Nat) (x : X)
 | lk (ok ag : Bool) (ks : List Nat) (z : U) (x k : X)
 | lm (x : X)
/-- operations that lay a new row -/
inductive OA where
 | al (ty n : Nat) (z : T A)
 | bx (ty z : Nat) (x : X)
 | bs (ty m : Nat) (z : List A) (ps : List (Nat × Nat × X))
 | ms (ty by_ : Nat) (z : List A) (x : X)
 | mm
/-- operations that change memory -/
inductive OC where
 | st (z : Nat) (x y : X)
 | ap (ty z by_ : Nat) (x y : X)
 | mu (ag : Bool) (ks : List Nat) (x k v : X)
 | no
inductive I where
 | p (d : Pp) (g : Option (Pp × Bool)) (o : OP)
 | r (d : Pp) (g : Option (Pp × Bool)) (o : OR)
 | a (d : Pp) (g : Option (Pp × Bool)) (o : OA)
 | c (d : Option Pp) (g : Option (Pp × Bool)) (o : OC)
 | k (d : Option Pp) (g : Option (Pp × Bool)) (f : Nat) (fp : Pp) (xs : List X)
 | v (d : Option Pp) (g : Option (Pp × Bool)) (x : X) (xs : List X)
structure D where
 i : I
 ix : Nat
 an : List Nat
 chk : List Bool
inductive RC where
 | skip
 | reg (l : List I)
 | drw (l : List D)
 | seq (a b : RC)
 | cond (x : X) (a b : RC)
 | blk (i : Nat) (c : RC)
 | loop (c : RC)
 | ex (i : Nat)
 | rt
 | rf (x : X) (ps : List Pp) (id : Pp)
/-- a range over a function: its slots, its code, and the code's form -/
structure Site where
 N : Nat
 ca : Code
 cb : Code
 a : RC
 b : RC
inductive E where
 | nrm
 | ex (i : Nat)
 | rt
inductive RR where
 | s (p : Pp)
 | c (p : Pp)
 | g (p : Pp) (n : Nat)
structure RF where
 ps : List Pp
 res : List RR
 body : RC
/-! memory -/
inductive Row where
 | d
 | c (ty n : Nat) (t : T A)
 | m (es : List (U × U))
 | l (st : Nat) (fr : T V) (ps : List Pp) (id : Pp) (pend : E)
structure AH where
 nx : Pp
 rows : T Row
structure Env where
 fns : T (Option RF)
 sites : T (Option Site)
 vals : List (SE × SE)
 conds : List (BinOp × SE × SE × Bool)
inductive Out where
 | val (v : V) (h : AH)
 | st (e : E) (fr : T V) (h : AH)
abbrev R := Option Out
/-! paths and tries -/
def Pp.succK (p : Pp) : (Pp → R) → R := Pp.rec (motive := fun _ => (Pp → R) → R) (fun k => k (.l .h)) (fun p _ k => k (.r p)) (fun p ih k => ih (fun q => k (.l q))) p
def toPK (n : Nat) : Nat → (Pp → R) → R :=
 Nat.rec (motive := fun _ => Nat → (Pp → R) → R) (fun _ _ => none)
  (fun _ ih o k => Bool.rec (motive := fun _ => R) (Bool.rec (motive := fun _ => R) (ih (Nat.sub (Nat.div o (nat_lit 2)) (nat_lit 1)) (fun p => k (.r p))) (ih (Nat.div o (nat_lit 2)) (fun p => k (.l p))) (Nat.beq (Nat.mod o (nat_lit 2)) (nat_lit 1))) (k .h) (Nat.beq o (nat_lit 0))) n
def T.get {α : Type} (d : α) (p : Pp) : T α → α :=
 Pp.rec (motive := fun _ => T α → α) (fun t => T.rec (motive := fun _ => α) d (fun _ v _ _ _ => v) t) (fun _ ih t => T.rec (motive := fun _ => α) d (fun l _ _ _ _ => ih l) t) (fun _ ih t => T.rec (motive := fun _ => α) d (fun _ _ r _ _ => ih r) t) p
def T.setK {α : Type} (d v : α) (p : Pp) : T α → (T α → R) → R :=
 Pp.rec (motive := fun _ => T α → (T α → R) → R)
  (fun t k => T.rec (motive := fun _ => R) (k (.n .e v .e)) (fun l _ r _ _ => k (.n l v r)) t)
  (fun _ ih t k => T.rec (motive := fun _ => R) (ih .e (fun s => k (.n s d .e))) (fun l x r _ _ => ih l (fun s => k (.n s x r))) t)
  (fun _ ih t k => T.rec (motive := fun _ => R) (ih .e (fun s => k (.n .e d s))) (fun l x r _ _ => ih r (fun s => k (.n l x s))) t) p
def frc (n : Nat) (k : Nat → R) : R := Nat.rec (motive := fun _ => R) (k (nat_lit 0)) (fun m _ => k (Nat.succ m)) n
/-- a cell of a row -/
def cellK (t : T A) (o : Nat) (k : A → R) : R := toPK (nat_lit 20) o (fun p => k (t.get .u p))
def cellsK (t : T A) (n : Nat) : Nat → (List A → R) → R :=
 Nat.rec (motive := fun _ => Nat → (List A → R) → R) (fun _ k => k []) (fun _ ih o k => cellK t o (fun a => ih (Nat.succ o) (fun l => k (a :: l)))) n
def putK (l : List A) : T A → Nat → (T A → R) → R :=
 List.rec (motive := fun _ => T A → Nat → (T A → R) → R) (fun t _ k => k t) (fun a _ ih t o k => toPK (nat_lit 20) o (fun p => t.setK .u a p (fun t' => ih t' (Nat.succ o) k))) l
/-! operands -/
def rdX (fr : T V) (x : X) : V := X.rec (motive := fun _ => V) (fun p => fr.get .x p) (fun v => v) x
def V.aK (v : V) (k : A → R) : R := V.rec (motive := fun _ => R) (fun a => k a) (fun _ => none) (fun _ => none) none v
def V.cK (v : V) (k : List A → R) : R := V.rec (motive := fun _ => R) (fun a => k [a]) (fun l => k l) (fun _ => none) none v
def V.gK (v : V) (k : List A → R) : R := V.rec (motive := fun _ => R) (fun _ => none) (fun l => k l) (fun _ => none) none v
def V.tK (v : V) (k : List U → R) : R := V.rec (motive := fun _ => R) (fun _ => none) (fun _ => none) (fun l => k l) none v
def V.uK (v : V) (k : U → R) : R := V.rec (motive := fun _ => R) (fun a => k (.a a)) (fun l => k (.g l)) (fun _ => none) none v
def U.v (u : U) : V := U.rec (motive := fun _ => V) (fun a => .a a) (fun l => .g l) u
def A.iK (a : A) (k : IntKind → SE → R) : R := A.rec (motive := fun _ => R) k (fun _ => none) none (fun _ _ _ => none) none (fun _ _ => none) none (fun _ => none) none (fun _ _ => none) (fun _ => none) (fun _ => none) none (fun _ _ _ => none) none a
def A.bK (a : A) (k : Bool → R) : R := A.rec (motive := fun _ => R) (fun _ _ => none) k none (fun _ _ _ => none) none (fun _ _ => none) none (fun _ => none) none (fun _ _ => none) (fun _ => none) (fun _ => none) none (fun _ _ _ => none) none a
def A.pK (a : A) (k : Pp → Nat → R) : R := A.rec (motive := fun _ => R) (fun _ _ => none) (fun _ => none) none (fun _ _ _ => none) none k none (fun _ => none) none (fun _ _ => none) (fun _ => none) (fun _ => none) none (fun _ _ _ => none) none a
/-- a slice: nil, or a part of a row -/
def A.sK (a : A) (k0 : R) (k : Pp → Nat → Nat → R) : R := A.rec (motive := fun _ => R) (fun _ _ => none) (fun _ => none) k0 k none (fun _ _ => none) none (fun _ => none) none (fun _ _ => none) (fun _ => none) (fun _ => none) none (fun _ _ _ => none) none a
def A.mK (a : A) (k0 : R) (k : Pp → R) : R := A.rec (motive := fun _ => R) (fun _ _ => none) (fun _ => none) none (fun _ _ _ => none) none (fun _ _ => none) k0 k none (fun _ _ => none) (fun _ => none) (fun _ => none) none (fun _ _ _ => none) none a
def A.fK (a : A) (k : Nat → List (Pp × Nat) → R) (ky : Pp → R) : R := A.rec (motive := fun _ => R) (fun _ _ => none) (fun _ => none) none (fun _ _ _ => none) none (fun _ _ => none) none (fun _ => none) none k ky (fun _ => none) none (fun _ _ _ => none) none a
def A.tK (a : A) (k : List Nat → R) : R := A.rec (motive := fun _ => R) (fun _ _ => none) (fun _ => none) none (fun _ _ _ => none) none (fun _ _ => none) none (fun _ => none) none (fun _ _ => none) (fun _ => none) k none (fun _ _ _ => none) none a
/-- a number that is known and not below (nat_lit 0) -/
def SE.nK (e : SE) (k : Nat → R) (f : R) : R := SE.rec (motive := fun _ => R) k (fun _ => f) (fun _ => f) (fun _ _ _ _ _ _ => f) e
/-! numbers -/
def SE.lit (e : SE) : Option Int := SE.rec (motive := fun _ => Option Int) (fun x => some (Int.ofNat x)) (fun x => some (Int.negSucc x)) (fun _ => none) (fun _ _ _ _ _ _ => none) e
def boK : BinOp → Nat := fun o => BinOp.rec (motive := fun _ => Nat) (nat_lit 0) (nat_lit 1) (nat_lit 2) (nat_lit 3) (nat_lit 4) (nat_lit 5) (nat_lit 6) (nat_lit 7) (nat_lit 8) (nat_lit 9) (nat_lit 10) (nat_lit 11) (nat_lit 12) (nat_lit 13) (nat_lit 14) (nat_lit 15) (nat_lit 16) o
def ikK : IntKind → Nat := fun o => IntKind.rec (motive := fun _ => Nat) (nat_lit 0) (nat_lit 1) (nat_lit 2) (nat_lit 3) (nat_lit 4) (nat_lit 5) (nat_lit 6) (nat_lit 7) o
def SE.eqb (a : SE) : SE → Bool :=
 SE.rec (motive := fun _ => SE → Bool)
  (fun x b => SE.rec (motive := fun _ => Bool) (fun y => Nat.beq x y) (fun _ => false) (fun _ => false) (fun _ _ _ _ _ _ => false) b)
  (fun x b => SE.rec (motive := fun _ => Bool) (fun _ => false) (fun y => Nat.beq x y) (fun _ => false) (fun _ _ _ _ _ _ => false) b)
  (fun x b => SE.rec (motive := fun _ => Bool) (fun _ => false) (fun _ => false) (fun y => Nat.beq x y) (fun _ _ _ _ _ _ => false) b)
  (fun o k _ _ ihx ihy b => SE.rec (motive := fun _ => Bool) (fun _ => false) (fun _ => false) (fun _ => false) (fun o' k' x' y' _ _ => and (and (Nat.beq (boK o) (boK o')) (Nat.beq (ikK k) (ikK k'))) (and (ihx x') (ihy y'))) b) a
def ofI (i : Int) (k : SE → R) : R := Int.rec (motive := fun _ => R) (fun n => frc n (fun m => k (.n m))) (fun n => frc n (fun m => k (.g m))) i
def binI (o : BinOp) (k : IntKind) (a b : Int) : Option Int :=
 BinOp.rec (motive := fun _ => Option Int) (some (k.wrap (a + b))) (some (k.wrap (a - b))) (some (k.wrap (a * b)))
  (Bool.rec (motive := fun _ => Option Int) (some (k.wrap (a.tdiv b))) none (decide (b = 0))) (Bool.rec (motive := fun _ => Option Int) (some (a.tmod b)) none (decide (b = 0)))
  (some (k.wrap ((BitVec.ofInt k.bits a &&& BitVec.ofInt k.bits b).toNat))) (some (k.wrap ((BitVec.ofInt k.bits a ||| BitVec.ofInt k.bits b).toNat))) (some (k.wrap ((BitVec.ofInt k.bits a ^^^ BitVec.ofInt k.bits b).toNat)))
  none none none none none none none none none o
def valOf (l : List (SE × SE)) (e : SE) : SE := List.rec (motive := fun _ => SE) e (fun p _ ih => Bool.rec (motive := fun _ => SE) ih p.2 (p.1.eqb e)) l
/-- a division is a term only where the divisor is known not to be (nat_lit 0) -/
def divides (o : BinOp) : Bool := BinOp.rec (motive := fun _ => Bool) false false false true true false false false true true true true true true true true true o
def condOf (l : List (BinOp × SE × SE × Bool)) (o : BinOp) (x y : SE) (k : Bool → R) : R :=
 List.rec (motive := fun _ => R) none (fun p _ ih => Bool.rec (motive := fun _ => R) ih (k p.2.2.2) (and (Nat.beq (boK p.1) (boK o)) (and (p.2.1.eqb x) (p.2.2.1.eqb y)))) l
def symAr (Γ : Env) (o : BinOp) (k : IntKind) (x y : SE) (K : SE → R) : R :=
 Bool.rec (motive := fun _ => R) (K (valOf Γ.vals (.b o k x y)))
  (Bool.rec (motive := fun _ => R) none
   (Option.rec (motive := fun _ => R) (condOf Γ.conds .eql y (.n (nat_lit 0)) (fun b => Bool.rec (motive := fun _ => R) (K (valOf Γ.vals (.b o k x y))) none b)) (fun i => Bool.rec (motive := fun _ => R) (K (valOf Γ.vals (.b o k x y))) none (decide (i = 0))) y.lit)
   (Bool.or (Nat.beq (boK o) (nat_lit 3)) (Nat.beq (boK o) (nat_lit 4)))) (divides o)
def slowAr (Γ : Env) (o : BinOp) (k : IntKind) (x y : SE) (K : SE → R) : R :=
 Option.rec (motive := fun _ => R) (symAr Γ o k x y K) (fun a => Option.rec (motive := fun _ => R) (symAr Γ o k x y K) (fun b => Option.rec (motive := fun _ => R) none (fun i => ofI i K) (binI o k a b)) y.lit) x.lit
/-- the fast ways, for numbers that are known and not below (nat_lit 0) -/
def fastAr (o : BinOp) (a b : Nat) (slow : R) (K : SE → R) : R :=
 BinOp.rec (motive := fun _ => R)
  (Bool.rec (motive := fun _ => R) slow (frc (Nat.add a b) (fun c => K (.n c))) (Nat.ble (Nat.add a b) (nat_lit 127)))
  (Bool.rec (motive := fun _ => R) slow (frc (Nat.sub a b) (fun c => K (.n c))) (and (Nat.ble b a) (Nat.ble a (nat_lit 127))))
  slow slow slow slow slow slow slow slow slow slow slow slow slow slow slow o
def arK (Γ : Env) (o : BinOp) (k : IntKind) (x y : SE) (K : SE → R) : R :=
 x.nK (fun a => y.nK (fun b => fastAr o a b (slowAr Γ o k x y K) K) (slowAr Γ o k x y K)) (slowAr Γ o k x y K)
def cmpI (o : BinOp) (a b : Int) : Option Bool :=
 BinOp.rec (motive := fun _ => Option Bool) none none none none none none none none none none none
  (some (decide (a = b))) (some (!decide (a = b))) (some (decide (a < b))) (some (decide (a ≤ b))) (some (decide (b < a))) (some (decide (b ≤ a))) o
def slowCp (Γ : Env) (o : BinOp) (x y : SE) (K : Bool → R) : R :=
 Option.rec (motive := fun _ => R) (condOf Γ.conds o x y K) (fun a => Option.rec (motive := fun _ => R) (condOf Γ.conds o x y K) (fun b => Option.rec (motive := fun _ => R) none (fun t => Bool.rec (motive := fun _ => R) (K false) (K true) t) (cmpI o a b)) y.lit) x.lit
def fastCp (o : BinOp) (a b : Nat) : Bool :=
 BinOp.rec (motive := fun _ => Bool) false false false false false false false false false false false
  (Nat.beq a b) (not (Nat.beq a b)) (Nat.ble (Nat.succ a) b) (Nat.ble a b) (Nat.ble (Nat.succ b) a) (Nat.ble b a) o
def compares (o : BinOp) : Bool := BinOp.rec (motive := fun _ => Bool) false false false false false false false false false false false true true true true true true o
def cpK (Γ : Env) (o : BinOp) (x y : SE) (K : Bool → R) : R :=
 Bool.rec (motive := fun _ => R) none (x.nK (fun a => y.nK (fun b => Bool.rec (motive := fun _ => R) (K false) (K true) (fastCp o a b)) (slowCp Γ o x y K)) (slowCp Γ o x y K)) (compares o)
def eqbN (l : List Nat) : List Nat → Bool :=
 List.rec (motive := fun _ => List Nat → Bool) (fun m => List.rec (motive := fun _ => Bool) true (fun _ _ _ => false) m) (fun a _ ih m => List.rec (motive := fun _ => Bool) false (fun b m' _ => and (Nat.beq a b) (ih m')) m) l
/-- two values, the same or not -/
def eqA (Γ : Env) (kd : Nat) (a b : A) (K : Bool → R) : R :=
 A.rec (motive := fun _ => R) (fun k e => b.iK (fun k' e' => Bool.rec (motive := fun _ => R) none (Bool.rec (motive := fun _ => R) (cpK Γ .eql e e' K) (K true) (e.eqb e')) (and (Nat.beq kd (nat_lit 0)) (Nat.beq (ikK k) (ikK k'))))) (fun x => b.bK (fun y => Bool.rec (motive := fun _ => R) none (Bool.rec (motive := fun _ => R) (Bool.rec (motive := fun _ => R) (K true) (K false) y) (Bool.rec (motive := fun _ => R) (K false) (K true) y) x) (Nat.beq kd (nat_lit 1)))) none (fun _ _ _ => none) none (fun _ _ => none) none (fun _ => none) none (fun _ _ => none) (fun _ => none) (fun l => b.tK (fun m => Bool.rec (motive := fun _ => R) none (Bool.rec (motive := fun _ => R) (K false) (K true) (eqbN l m)) (Nat.beq kd (nat_lit 2)))) none (fun _ _ _ => none) none a
def eqL (Γ : Env) (ks : List Nat) : List A → List A → (Bool → R) → R :=
 List.rec (motive := fun _ => List A → List A → (Bool → R) → R) (fun l m K => List.rec (motive := fun _ => R) (List.rec (motive := fun _ => R) (K true) (fun _ _ _ => none) m) (fun _ _ _ => none) l)
  (fun k _ ih l m K => List.rec (motive := fun _ => R) none (fun a l' _ => List.rec (motive := fun _ => R) none (fun b m' _ => eqA Γ k a b (fun t => Bool.rec (motive := fun _ => R) (K false) (ih l' m' K) t)) m) l) ks
def lenA (es : List A) : Nat := List.rec (motive := fun _ => Nat) (nat_lit 0) (fun _ _ n => Nat.succ n) es
def lenK (es : List Nat) : Nat := List.rec (motive := fun _ => Nat) (nat_lit 0) (fun _ _ n => Nat.succ n) es
def eqG (Γ : Env) (ks : List Nat) (l m : List A) (K : Bool → R) : R := Bool.rec (motive := fun _ => R) none (eqL Γ ks l m K) (and (Nat.beq (lenA l) (lenK ks)) (Nat.beq (lenA m) (lenK ks)))
def eqU (Γ : Env) (ag : Bool) (ks : List Nat) (u v : U) (K : Bool → R) : R :=
 U.rec (motive := fun _ => R) (fun a => U.rec (motive := fun _ => R) (fun b => Bool.rec (motive := fun _ => R) (eqG Γ ks [a] [b] K) none ag) (fun _ => none) v) (fun l => U.rec (motive := fun _ => R) (fun _ => none) (fun m => Bool.rec (motive := fun _ => R) none (eqG Γ ks l m K) ag) v) u
/-! operations -/
def V.frc (v : V) (K : V → R) : R := V.rec (motive := fun _ => R) (fun a => K (.a a)) (fun l => K (.g l)) (fun l => K (.t l)) (K .x) v
def bol (t : Bool) (K : V → R) : R := Bool.rec (motive := fun _ => R) (K (.a (.b false))) (K (.a (.b true))) t
def nthK (l : List A) (n : Nat) (K : A → R) : R :=
 Nat.rec (motive := fun _ => List A → R) (fun l => List.rec (motive := fun _ => R) none (fun a _ _ => K a) l) (fun _ ih l => List.rec (motive := fun _ => R) none (fun _ r _ => ih r) l) n l
def nthU (l : List U) (n : Nat) (K : U → R) : R :=
 Nat.rec (motive := fun _ => List U → R) (fun l => List.rec (motive := fun _ => R) none (fun a _ _ => K a) l) (fun _ ih l => List.rec (motive := fun _ => R) none (fun _ r _ => ih r) l) n l
def takeK (n : Nat) : List A → (List A → R) → R :=
 Nat.rec (motive := fun _ => List A → (List A → R) → R) (fun _ K => K []) (fun _ ih l K => List.rec (motive := fun _ => R) none (fun a r _ => ih r (fun m => K (a :: m))) l) n
def dropK (n : Nat) : List A → (List A → R) → R :=
 Nat.rec (motive := fun _ => List A → (List A → R) → R) (fun l K => K l) (fun _ ih l K => List.rec (motive := fun _ => R) none (fun _ r _ => ih r K) l) n
/-- vs in place of the first cells -/
def overK (vs : List A) : List A → (List A → R) → R :=
 List.rec (motive := fun _ => List A → (List A → R) → R) (fun cs K => K cs) (fun v _ ih cs K => List.rec (motive := fun _ => R) none (fun _ r _ => ih r (fun m => K (v :: m))) cs) vs
def setLK (vs : List A) (o : Nat) : List A → (List A → R) → R :=
 Nat.rec (motive := fun _ => List A → (List A → R) → R) (overK vs) (fun _ ih cs K => List.rec (motive := fun _ => R) none (fun c r _ => ih r (fun m => K (c :: m))) cs) o
def fillK (fr : T V) (ps : List (Nat × Nat × X)) : List A → (List A → R) → R :=
 List.rec (motive := fun _ => List A → (List A → R) → R) (fun cs K => K cs) (fun p _ ih cs K => (rdX fr p.2.2).cK (fun vs => Bool.rec (motive := fun _ => R) none (setLK vs p.1 cs (fun cs' => ih cs' K)) (Nat.beq (lenA vs) p.2.1))) ps
def pMv (x : X) (Γ : Env) (fr : T V) (K : V → R) : R := (rdX fr x).frc K
def pPk (c a b : X) (Γ : Env) (fr : T V) (K : V → R) : R := (rdX fr c).aK (fun v => v.bK (fun t => Bool.rec (motive := fun _ => R) ((rdX fr b).frc K) ((rdX fr a).frc K) t))
def sameK (k k' : IntKind) (c : R) : R := Bool.rec (motive := fun _ => R) none c (Nat.beq (ikK k) (ikK k'))
def pAr (o : BinOp) (x y : X) (Γ : Env) (fr : T V) (K : V → R) : R := (rdX fr x).aK (fun a => a.iK (fun k e => (rdX fr y).aK (fun a' => a'.iK (fun k' e' => sameK k k' (arK Γ o k e e' (fun s => K (.a (.i k s))))))))
def pCp (o : BinOp) (x y : X) (Γ : Env) (fr : T V) (K : V → R) : R := (rdX fr x).aK (fun a => a.iK (fun k e => (rdX fr y).aK (fun a' => a'.iK (fun k' e' => sameK k k' (cpK Γ o e e' (fun t => K (.a (.b t))))))))
def pNt (x : X) (Γ : Env) (fr : T V) (K : V → R) : R := (rdX fr x).aK (fun a => a.bK (fun t => bol (not t) K))
def pEq (ng ag : Bool) (ks : List Nat) (x y : X) (Γ : Env) (fr : T V) (K : V → R) : R := (rdX fr x).uK (fun u => (rdX fr y).uK (fun v => eqU Γ ag ks u v (fun t => bol (xor ng t) K)))
def pNe (ng : Bool) (x : X) (Γ : Env) (fr : T V) (K : V → R) : R := (rdX fr x).aK (fun a => a.sK (bol (xor ng true) K) (fun _ _ _ => bol (xor ng false) K))
def pNc (x : X) (Γ : Env) (fr : T V) (K : V → R) : R := (rdX fr x).aK (fun a => a.pK (fun r o => K (.a (.p r o))))
def pFa (o : Nat) (x : X) (Γ : Env) (fr : T V) (K : V → R) : R := (rdX fr x).aK (fun a => a.pK (fun r b => frc (Nat.add b o) (fun n => K (.a (.p r n)))))
def pFd (o : Nat) (x : X) (Γ : Env) (fr : T V) (K : V → R) : R := (rdX fr x).gK (fun l => nthK l o (fun a => K (.a a)))
def pFn (o n : Nat) (x : X) (Γ : Env) (fr : T V) (K : V → R) : R := (rdX fr x).gK (fun l => dropK o l (fun m => takeK n m (fun q => K (.g q))))
def natK (v : V) (K : Nat → R) : R := v.aK (fun a => a.iK (fun _ e => e.nK K none))
def pIx (z : Nat) (x i : X) (Γ : Env) (fr : T V) (K : V → R) : R := (rdX fr x).aK (fun a => a.sK none (fun r o n => natK (rdX fr i) (fun j => Bool.rec (motive := fun _ => R) none (frc (Nat.add o (Nat.mul j z)) (fun q => K (.a (.p r q)))) (Nat.ble (Nat.succ j) n))))
def pIa (m z : Nat) (x i : X) (Γ : Env) (fr : T V) (K : V → R) : R := (rdX fr x).aK (fun a => a.pK (fun r o => natK (rdX fr i) (fun j => Bool.rec (motive := fun _ => R) none (frc (Nat.add o (Nat.mul j z)) (fun q => K (.a (.p r q)))) (Nat.ble (Nat.succ j) m))))
def pBd (z : List A) (ps : List (Nat × Nat × X)) (Γ : Env) (fr : T V) (K : V → R) : R := fillK fr ps z (fun l => K (.g l))
def pLn (x : X) (Γ : Env) (fr : T V) (K : V → R) : R := (rdX fr x).aK (fun a => a.sK (K (.a (.i .i64 (.n (nat_lit 0))))) (fun _ _ n => K (.a (.i .i64 (.n n)))))
def pEx (i : Nat) (x : X) (Γ : Env) (fr : T V) (K : V → R) : R := (rdX fr x).tK (fun l => nthU l i (fun u => K u.v))
def pSl (x hi : X) (Γ : Env) (fr : T V) (K : V → R) : R := (rdX fr x).aK (fun a => natK (rdX fr hi) (fun j => a.sK (Bool.rec (motive := fun _ => R) none (K (.a .s0)) (Nat.beq j (nat_lit 0))) (fun r o n => Bool.rec (motive := fun _ => R) none (K (.a (.s r o j))) (Nat.ble j n))))
def capsK (fr : T V) (cs : List X) : (List (Pp × Nat) → R) → R :=
 List.rec (motive := fun _ => (List (Pp × Nat) → R) → R) (fun K => K []) (fun x _ ih K => (rdX fr x).aK (fun a => a.pK (fun r o => ih (fun l => K ((r, o) :: l))))) cs
def pMf (f : Nat) (cs : List X) (Γ : Env) (fr : T V) (K : V → R) : R := capsK fr cs (fun l => K (.a (.f f l)))
def pMn (mx : Bool) (x y : X) (Γ : Env) (fr : T V) (K : V → R) : R := (rdX fr x).aK (fun a => a.iK (fun k e => (rdX fr y).aK (fun a' => a'.iK (fun k' e' => sameK k k'
 (Bool.rec (motive := fun _ => R) (cpK Γ .lss e' e (fun t => Bool.rec (motive := fun _ => R) (K (.a (.i k e))) (K (.a (.i k e'))) t)) (cpK Γ .lss e e' (fun t => Bool.rec (motive := fun _ => R) (K (.a (.i k e))) (K (.a (.i k e'))) t)) mx)))))
def pId (m : Nat) (x i : X) (Γ : Env) (fr : T V) (K : V → R) : R := (rdX fr x).gK (fun l => natK (rdX fr i) (fun j => Bool.rec (motive := fun _ => R) none (nthK l j (fun a => K (.a a))) (Nat.ble (Nat.succ j) m)))
def pIg (m z : Nat) (x i : X) (Γ : Env) (fr : T V) (K : V → R) : R := (rdX fr x).gK (fun l => natK (rdX fr i) (fun j => Bool.rec (motive := fun _ => R) none (dropK (Nat.mul j z) l (fun q => takeK z q (fun q => K (.g q)))) (Nat.ble (Nat.succ j) m)))
def exP (o : OP) : Env → T V → (V → R) → R := OP.rec (motive := fun _ => Env → T V → (V → R) → R) pMv pPk pAr pCp pNt pEq pNe pNc pFa pFd pFn pIx pIa pBd pLn pEx pSl pMf pMn pId pIg o
def Row.cK (r : Row) (K : Nat → Nat → T A → R) : R := Row.rec (motive := fun _ => R) none K (fun _ => none) (fun _ _ _ _ _ => none) r
def Row.mK (r : Row) (K : List (U × U) → R) : R := Row.rec (motive := fun _ => R) none (fun _ _ _ => none) K (fun _ _ _ _ _ => none) r
def AH.row (h : AH) (r : Pp) : Row := h.rows.get .d r
def A.knK (a : A) (k : A → R) : R := A.rec (motive := fun _ => R) (fun i e => k (.i i e)) (fun b => k (.b b)) (k .s0) (fun r o n => k (.s r o n)) (k .p0) (fun r o => k (.p r o)) (k .m0) (fun r => k (.m r)) (k .f0) (fun i c => k (.f i c)) (fun r => k (.y r)) (fun l => k (.t l)) (k .q0) (fun t i e => k (.q t i e)) none a
def kcellsK (t : T A) (n : Nat) : Nat → (List A → R) → R :=
 Nat.rec (motive := fun _ => Nat → (List A → R) → R) (fun _ k => k []) (fun _ ih o k => cellK t o (fun a => a.knK (fun a => ih (Nat.succ o) (fun l => k (a :: l))))) n
def rLd (x : X) (Γ : Env) (fr : T V) (h : AH) (K : V → R) : R := (rdX fr x).aK (fun a => a.pK (fun r o => (h.row r).cK (fun _ _ t => cellK t o (fun a => a.knK (fun a => K (.a a))))))
def rLg (n : Nat) (x : X) (Γ : Env) (fr : T V) (h : AH) (K : V → R) : R := (rdX fr x).aK (fun a => a.pK (fun r o => (h.row r).cK (fun _ _ t => kcellsK t n o (fun l => K (.g l)))))
def lookK (Γ : Env) (ag : Bool) (ks : List Nat) (u : U) (es : List (U × U)) (K0 : R) (K : U → R) : R :=
 List.rec (motive := fun _ => R) K0 (fun p _ ih => eqU Γ ag ks u p.1 (fun t => Bool.rec (motive := fun _ => R) ih (K p.2) t)) es
def found (ok : Bool) (u : U) (is : Bool) (K : V → R) : R := Bool.rec (motive := fun _ => R) (K u.v) (K (.t [u, .a (.b is)])) ok
def keyOk (ag : Bool) (ks : List Nat) (u : U) : Bool := U.rec (motive := fun _ => Bool) (fun _ => and (not ag) (Nat.beq (lenK ks) (nat_lit 1))) (fun l => and ag (Nat.beq (lenA l) (lenK ks))) u
def rLk (ok ag : Bool) (ks : List Nat) (z : U) (x k : X) (Γ : Env) (fr : T V) (h : AH) (K : V → R) : R :=
 (rdX fr x).aK (fun a => (rdX fr k).uK (fun u => Bool.rec (motive := fun _ => R) none (a.mK (found ok z false K) (fun r => (h.row r).mK (fun es => lookK Γ ag ks u es (found ok z false K) (fun v => found ok v true K)))) (keyOk ag ks u)))
def lenN (es : List (U × U)) : Nat := List.rec (motive := fun _ => Nat) (nat_lit 0) (fun _ _ n => Nat.succ n) es
def rLm (x : X) (Γ : Env) (fr : T V) (h : AH) (K : V → R) : R := (rdX fr x).aK (fun a => a.mK (K (.a (.i .i64 (.n (nat_lit 0))))) (fun r => (h.row r).mK (fun es => frc (lenN es) (fun n => K (.a (.i .i64 (.n n)))))))
def exR (o : OR) : Env → T V → AH → (V → R) → R := OR.rec (motive := fun _ => Env → T V → AH → (V → R) → R) rLd rLg rLk rLm o
def aAl (ty n : Nat) (z : T A) (fr : T V) (K : Row → (Pp → A) → R) : R := K (.c ty n z) (fun r => .p r (nat_lit 0))
def aBx (ty z : Nat) (x : X) (fr : T V) (K : Row → (Pp → A) → R) : R := (rdX fr x).cK (fun l => Bool.rec (motive := fun _ => R) none (putK l .e (nat_lit 0) (fun t => K (.c ty z t) (fun r => .p r (nat_lit 0)))) (Nat.beq (lenA l) z))
def aBs (ty m : Nat) (z : List A) (ps : List (Nat × Nat × X)) (fr : T V) (K : Row → (Pp → A) → R) : R := fillK fr ps z (fun l => putK l .e (nat_lit 0) (fun t => frc (lenA l) (fun n => K (.c ty n t) (fun r => .s r (nat_lit 0) m))))
def repK (z : List A) (n : Nat) : T A → Nat → (T A → Nat → R) → R :=
 Nat.rec (motive := fun _ => T A → Nat → (T A → Nat → R) → R) (fun t o K => K t o) (fun _ ih t o K => putK z t o (fun t' => frc (Nat.add o (lenA z)) (fun o' => ih t' o' K))) n
def aMs (ty by_ : Nat) (z : List A) (x : X) (fr : T V) (K : Row → (Pp → A) → R) : R := natK (rdX fr x) (fun m => Bool.rec (motive := fun _ => R) none (repK z m .e (nat_lit 0) (fun t n => K (.c ty n t) (fun r => .s r (nat_lit 0) m))) (Nat.ble (Nat.mul (Nat.succ by_) m) (nat_lit 140737488355328)))
def aMm (fr : T V) (K : Row → (Pp → A) → R) : R := K (.m []) (fun r => .m r)
def exA (o : OA) : T V → (Row → (Pp → A) → R) → R := OA.rec (motive := fun _ => T V → (Row → (Pp → A) → R) → R) aAl aBx aBs aMs aMm o
def AH.newK (h : AH) (row : Row) (K : Pp → AH → R) : R := h.rows.setK .d row h.nx (fun t => h.nx.succK (fun q => K h.nx ⟨q, t⟩))
def AH.putK (h : AH) (r : Pp) (row : Row) (K : AH → R) : R := h.rows.setK .d row r (fun t => K ⟨h.nx, t⟩)
def cSt (z : Nat) (x y : X) (Γ : Env) (fr : T V) (h : AH) (K : V → AH → R) : R :=
 (rdX fr x).aK (fun a => a.pK (fun r o => (rdX fr y).cK (fun l => (h.row r).cK (fun ty n t => Bool.rec (motive := fun _ => R) none (Ev.putK l t o (fun t' => h.putK r (.c ty n t') (K .x))) (and (Nat.beq (lenA l) z) (Nat.ble (Nat.add o z) n))))))
/-- the cells of a slice -/
def sliceK (h : AH) (a : A) (z : Nat) (K : List A → Nat → R) : R := a.sK (K [] (nat_lit 0)) (fun r o n => (h.row r).cK (fun _ _ t => kcellsK t (Nat.mul n z) o (fun l => K l n)))
/-- the row that is appended to: its elder name dies -/
def baseK (h : AH) (ty z : Nat) (a : A) (K : Nat → T A → AH → R) : R :=
 a.sK (K (nat_lit 0) .e h) (fun r o n => (h.row r).cK (fun ty' c t => Bool.rec (motive := fun _ => R) none
  (h.putK r .d (fun h1 => Bool.rec (motive := fun _ => R) (kcellsK t (Nat.mul n z) (nat_lit 0) (fun old => Ev.putK old .e (nat_lit 0) (fun t0 => K n t0 h1))) (K n t h1) (Nat.beq c (Nat.mul n z)))) (and (Nat.beq ty ty') (Nat.beq o (nat_lit 0)))))
def cAp (ty z by_ : Nat) (x y : X) (Γ : Env) (fr : T V) (h : AH) (K : V → AH → R) : R :=
 (rdX fr x).aK (fun a => (rdX fr y).aK (fun b => sliceK h b z (fun l m => Bool.rec (motive := fun _ => R)
  (baseK h ty z a (fun n t0 h1 => Bool.rec (motive := fun _ => R) none (frc (Nat.add n m) (fun q => frc (Nat.mul q z) (fun c => Ev.putK l t0 (Nat.mul n z) (fun t' => h1.newK (.c ty c t') (fun r' h' => K (.a (.s r' (nat_lit 0) q)) h'))))) (Nat.ble (Nat.mul (Nat.add n m) (Nat.succ by_)) (nat_lit 140737488355328))))
  (a.sK (K (.a a) h) (fun _ _ _ => K (.a a) h)) (Nat.beq m (nat_lit 0)))))
def updK (Γ : Env) (ag : Bool) (ks : List Nat) (u v : U) (es : List (U × U)) : (List (U × U) → R) → R :=
 List.rec (motive := fun _ => (List (U × U) → R) → R) (fun K => K [(u, v)]) (fun p l ih K => eqU Γ ag ks u p.1 (fun t => Bool.rec (motive := fun _ => R) (ih (fun l' => K (p :: l'))) (K ((u, v) :: l)) t)) es
def cMu (ag : Bool) (ks : List Nat) (x k v : X) (Γ : Env) (fr : T V) (h : AH) (K : V → AH → R) : R :=
 (rdX fr x).aK (fun a => (rdX fr k).uK (fun u => (rdX fr v).uK (fun w => Bool.rec (motive := fun _ => R) none (a.mK none (fun r => (h.row r).mK (fun es => updK Γ ag ks u w es (fun es' => h.putK r (.m es') (K .x))))) (keyOk ag ks u))))
def cNo (Γ : Env) (fr : T V) (h : AH) (K : V → AH → R) : R := none
def exC (o : OC) : Env → T V → AH → (V → AH → R) → R := OC.rec (motive := fun _ => Env → T V → AH → (V → AH → R) → R) cSt cAp cMu cNo o
/-! code -/
def put (fr : T V) (d : Option Pp) (v : V) (K : T V → R) : R := Option.rec (motive := fun _ => R) (K fr) (fun p => fr.setK .x v p K) d
def gd (fr : T V) (g : Option (Pp × Bool)) (kT kF : R) : R :=
 Option.rec (motive := fun _ => R) kT (fun p => V.rec (motive := fun _ => R) (fun a => a.bK (fun t => Bool.rec (motive := fun _ => R) kF kT (Bool.rec (motive := fun _ => Bool) (not p.2) p.2 t))) (fun _ => none) (fun _ => none) kF (fr.get .x p.1)) g
abbrev Rn := RC → T V → AH → (E → T V → AH → R) → R
def bindK (ps : List Pp) : List V → T V → (T V → R) → R :=
 List.rec (motive := fun _ => List V → T V → (T V → R) → R) (fun vs fr K => List.rec (motive := fun _ => R) (K fr) (fun _ _ _ => none) vs) (fun p _ ih vs fr K => List.rec (motive := fun _ => R) none (fun v r _ => fr.setK .x v p (fun fr' => ih r fr' K)) vs) ps
def argsB (ps : List Pp) : List V → T V → (T V → R) → R :=
 List.rec (motive := fun _ => List V → T V → (T V → R) → R) (fun vs fr K => List.rec (motive := fun _ => R) (K fr) (fun _ _ _ => none) vs) (fun p _ ih vs fr K => List.rec (motive := fun _ => R) none (fun v r _ => fr.setK .x v p (fun fr' => ih r fr' K)) vs) ps
def resU (fr : T V) (h : AH) (r : RR) (K : U → R) : R :=
 RR.rec (motive := fun _ => R) (fun p => (fr.get .x p).uK K)
  (fun p => (fr.get .x p).aK (fun a => a.pK (fun r o => (h.row r).cK (fun _ _ t => cellK t o (fun a => a.knK (fun a => K (.a a)))))))
  (fun p n => (fr.get .x p).aK (fun a => a.pK (fun r o => (h.row r).cK (fun _ _ t => kcellsK t n o (fun l => K (.g l)))))) r
def resL (fr : T V) (h : AH) (rs : List RR) : (List U → R) → R :=
 List.rec (motive := fun _ => (List U → R) → R) (fun K => K []) (fun r _ ih K => resU fr h r (fun u => ih (fun l => K (u :: l)))) rs
def resK (fr : T V) (h : AH) (rs : List RR) (K : V → R) : R :=
 resL fr h rs (fun l => List.rec (motive := fun _ => R) (K (.t [])) (fun u r _ => List.rec (motive := fun _ => R) (K u.v) (fun _ _ _ => K (.t l)) r) l)
def callK (Γ : Env) (rn : Rn) (fp : Pp) (vs : List V) (h : AH) (K : V → AH → R) : R :=
 Option.rec (motive := fun _ => R) none (fun f => argsB f.ps vs .e (fun fr => rn f.body fr h (fun e fr' h' => E.rec (motive := fun _ => R) (resK fr' h' f.res (fun v => K v h')) (fun _ => none) (resK fr' h' f.res (fun v => K v h')) e))) (Γ.fns.get none fp)
def xsK (fr : T V) (xs : List X) : (List V → R) → R := List.rec (motive := fun _ => (List V → R) → R) (fun K => K []) (fun x _ ih K => (rdX fr x).frc (fun v => ih (fun l => K (v :: l)))) xs
def capV (c : List (Pp × Nat)) : List V := List.rec (motive := fun _ => List V) [] (fun p _ ih => .a (.p p.1 p.2) :: ih) c
def appV (l m : List V) : List V := List.rec (motive := fun _ => List V) m (fun v _ ih => v :: ih) l
def Row.lK (r : Row) (K : Nat → T V → List Pp → Pp → E → R) : R := Row.rec (motive := fun _ => R) none (fun _ _ _ => none) (fun _ => none) K r
def isN (e : E) (a : R) (b : R) : R := E.rec (motive := fun _ => R) a (fun _ => b) b e
/-- a round of a range over a function -/
def roundK (Γ : Env) (rn : Rn) (r : Pp) (vs : List V) (h : AH) (K : V → AH → R) : R :=
 (h.row r).lK (fun st fr ps id pe => Bool.rec (motive := fun _ => R) none
  (Option.rec (motive := fun _ => R) none (fun s => bindK ps vs fr (fun fr1 => rn s.a fr1 h (fun e fr2 h2 => isN e
   ((h2.row r).lK (fun st2 fr2' ps2 id2 pe2 => Bool.rec (motive := fun _ => R) none (h2.putK r (.l (nat_lit 1) fr2' ps2 id2 pe2) (fun h3 => rn s.b fr2 h3 (fun e' _ h4 =>
    (h4.row r).lK (fun _ fr4 ps4 id4 _ => isN e' (h4.putK r (.l (nat_lit 0) fr4 ps4 id4 .nrm) (K (.a (.b true)))) (h4.putK r (.l (nat_lit 2) fr4 ps4 id4 e') (K (.a (.b false)))))))) (Nat.beq st2 (nat_lit 0)))) none))) (Γ.sites.get none id)) (Nat.beq st (nat_lit 0)))
def funK (Γ : Env) (rn : Rn) (v : V) (vs : List V) (h : AH) (K : V → AH → R) : R :=
 v.aK (fun a => a.fK (fun f c => toPK (nat_lit 20) f (fun fp => callK Γ rn fp (appV vs (capV c)) h K)) (fun r => roundK Γ rn r vs h K))
def iP (d : Pp) (g : Option (Pp × Bool)) (o : OP) (Γ : Env) (rn : Rn) (fr : T V) (h : AH) (K : T V → AH → R) : R := gd fr g (exP o Γ fr (fun v => fr.setK .x v d (fun f => K f h))) (fr.setK .x .x d (fun f => K f h))
def iR (d : Pp) (g : Option (Pp × Bool)) (o : OR) (Γ : Env) (rn : Rn) (fr : T V) (h : AH) (K : T V → AH → R) : R := gd fr g (exR o Γ fr h (fun v => fr.setK .x v d (fun f => K f h))) (fr.setK .x .x d (fun f => K f h))
def iA (d : Pp) (g : Option (Pp × Bool)) (o : OA) (Γ : Env) (rn : Rn) (fr : T V) (h : AH) (K : T V → AH → R) : R := gd fr g (exA o fr (fun row mk => h.newK row (fun r h' => fr.setK .x (.a (mk r)) d (fun f => K f h')))) (fr.setK .x .x d (fun f => K f h))
def iC (d : Option Pp) (g : Option (Pp × Bool)) (o : OC) (Γ : Env) (rn : Rn) (fr : T V) (h : AH) (K : T V → AH → R) : R := gd fr g (exC o Γ fr h (fun v h' => put fr d v (fun f => K f h'))) (put fr d .x (fun f => K f h))
def iK (d : Option Pp) (g : Option (Pp × Bool)) (f : Nat) (fp : Pp) (xs : List X) (Γ : Env) (rn : Rn) (fr : T V) (h : AH) (K : T V → AH → R) : R :=
 gd fr g (xsK fr xs (fun vs => callK Γ rn fp vs h (fun v h' => put fr d v (fun f => K f h')))) (put fr d .x (fun f => K f h))
def iV (d : Option Pp) (g : Option (Pp × Bool)) (x : X) (xs : List X) (Γ : Env) (rn : Rn) (fr : T V) (h : AH) (K : T V → AH → R) : R :=
 gd fr g (xsK fr xs (fun vs => funK Γ rn (rdX fr x) vs h (fun v h' => put fr d v (fun f => K f h')))) (put fr d .x (fun f => K f h))
def exI (i : I) : Env → Rn → T V → AH → (T V → AH → R) → R := I.rec (motive := fun _ => Env → Rn → T V → AH → (T V → AH → R) → R) iP iR iA iC iK iV i
def regK (l : List I) : Env → Rn → T V → AH → (T V → AH → R) → R :=
 List.rec (motive := fun _ => Env → Rn → T V → AH → (T V → AH → R) → R) (fun _ _ fr h K => K fr h) (fun i _ ih Γ rn fr h K => exI i Γ rn fr h (fun fr' h' => ih Γ rn fr' h' K)) l
/-- reads that are looked at again -/
structure Pe where
 o : OR
 fr : T V
 v : V
 nx : Pp
def Pp.eqb (p : Pp) : Pp → Bool :=
 Pp.rec (motive := fun _ => Pp → Bool) (fun q => Pp.rec (motive := fun _ => Bool) true (fun _ _ => false) (fun _ _ => false) q) (fun _ ih q => Pp.rec (motive := fun _ => Bool) false (fun q' _ => ih q') (fun _ _ => false) q) (fun _ ih q => Pp.rec (motive := fun _ => Bool) false (fun _ _ => false) (fun q' _ => ih q') q) p
def eqbC (l : List (Pp × Nat)) : List (Pp × Nat) → Bool :=
 List.rec (motive := fun _ => List (Pp × Nat) → Bool) (fun m => List.rec (motive := fun _ => Bool) true (fun _ _ _ => false) m) (fun a _ ih m => List.rec (motive := fun _ => Bool) false (fun b m' _ => and (and (a.1.eqb b.1) (Nat.beq a.2 b.2)) (ih m')) m) l
def eqbA (a b : A) : Bool :=
 A.rec (motive := fun _ => Bool) 
  (fun k e => A.rec (motive := fun _ => Bool) (fun k' e' => and (Nat.beq (ikK k) (ikK k')) (e.eqb e')) (fun _ => false) false (fun _ _ _ => false) false (fun _ _ => false) false (fun _ => false) false (fun _ _ => false) (fun _ => false) (fun _ => false) false (fun _ _ _ => false) false b) 
  (fun x => A.rec (motive := fun _ => Bool) (fun _ _ => false) (fun y => not (xor x y)) false (fun _ _ _ => false) false (fun _ _ => false) false (fun _ => false) false (fun _ _ => false) (fun _ => false) (fun _ => false) false (fun _ _ _ => false) false b) 
  (A.rec (motive := fun _ => Bool) (fun _ _ => false) (fun _ => false) true (fun _ _ _ => false) false (fun _ _ => false) false (fun _ => false) false (fun _ _ => false) (fun _ => false) (fun _ => false) false (fun _ _ _ => false) false b) 
  (fun r o n => A.rec (motive := fun _ => Bool) (fun _ _ => false) (fun _ => false) false (fun r' o' n' => and (r.eqb r') (and (Nat.beq o o') (Nat.beq n n'))) false (fun _ _ => false) false (fun _ => false) false (fun _ _ => false) (fun _ => false) (fun _ => false) false (fun _ _ _ => false) false b) 
  (A.rec (motive := fun _ => Bool) (fun _ _ => false) (fun _ => false) false (fun _ _ _ => false) true (fun _ _ => false) false (fun _ => false) false (fun _ _ => false) (fun _ => false) (fun _ => false) false (fun _ _ _ => false) false b) 
  (fun r o => A.rec (motive := fun _ => Bool) (fun _ _ => false) (fun _ => false) false (fun _ _ _ => false) false (fun r' o' => and (r.eqb r') (Nat.beq o o')) false (fun _ => false) false (fun _ _ => false) (fun _ => false) (fun _ => false) false (fun _ _ _ => false) false b) 
  (A.rec (motive := fun _ => Bool) (fun _ _ => false) (fun _ => false) false (fun _ _ _ => false) false (fun _ _ => false) true (fun _ => false) false (fun _ _ => false) (fun _ => false) (fun _ => false) false (fun _ _ _ => false) false b) 
  (fun r => A.rec (motive := fun _ => Bool) (fun _ _ => false) (fun _ => false) false (fun _ _ _ => false) false (fun _ _ => false) false (fun r' => r.eqb r') false (fun _ _ => false) (fun _ => false) (fun _ => false) false (fun _ _ _ => false) false b) false 
  (fun k c => A.rec (motive := fun _ => Bool) (fun _ _ => false) (fun _ => false) false (fun _ _ _ => false) false (fun _ _ => false) false (fun _ => false) false (fun k' c' => and (Nat.beq k k') (eqbC c c')) (fun _ => false) (fun _ => false) false (fun _ _ _ => false) false b) (fun _ => false) 
  (fun l => A.rec (motive := fun _ => Bool) (fun _ _ => false) (fun _ => false) false (fun _ _ _ => false) false (fun _ _ => false) false (fun _ => false) false (fun _ _ => false) (fun _ => false) (fun l' => eqbN l l') false (fun _ _ _ => false) false b) 
  (A.rec (motive := fun _ => Bool) (fun _ _ => false) (fun _ => false) false (fun _ _ _ => false) false (fun _ _ => false) false (fun _ => false) false (fun _ _ => false) (fun _ => false) (fun _ => false) true (fun _ _ _ => false) false b) (fun _ _ _ => false) false a
def eqbL (l : List A) : List A → Bool :=
 List.rec (motive := fun _ => List A → Bool) (fun m => List.rec (motive := fun _ => Bool) true (fun _ _ _ => false) m) (fun a _ ih m => List.rec (motive := fun _ => Bool) false (fun b m' _ => and (eqbA a b) (ih m')) m) l
def eqbU (u v : U) : Bool := U.rec (motive := fun _ => Bool) (fun a => U.rec (motive := fun _ => Bool) (fun b => eqbA a b) (fun _ => false) v) (fun l => U.rec (motive := fun _ => Bool) (fun _ => false) (fun m => eqbL l m) v) u
def eqbUL (l : List U) : List U → Bool :=
 List.rec (motive := fun _ => List U → Bool) (fun m => List.rec (motive := fun _ => Bool) true (fun _ _ _ => false) m) (fun a _ ih m => List.rec (motive := fun _ => Bool) false (fun b m' _ => and (eqbU a b) (ih m')) m) l
def eqbV (u v : V) : Bool :=
 V.rec (motive := fun _ => Bool) (fun a => V.rec (motive := fun _ => Bool) (fun b => eqbA a b) (fun _ => false) (fun _ => false) false v) (fun l => V.rec (motive := fun _ => Bool) (fun _ => false) (fun m => eqbL l m) (fun _ => false) false v)
  (fun l => V.rec (motive := fun _ => Bool) (fun _ => false) (fun _ => false) (fun m => eqbUL l m) false v) false u
def Pp.nat (p : Pp) : Nat := Pp.rec (motive := fun _ => Nat) (nat_lit 0) (fun _ n => Nat.succ (Nat.mul (nat_lit 2) n)) (fun _ n => Nat.succ (Nat.succ (Nat.mul (nat_lit 2) n))) p
/-- a value speaks of names below n alone -/
def belC (n : Nat) (l : List (Pp × Nat)) : Bool := List.rec (motive := fun _ => Bool) true (fun p _ ih => and (Nat.ble (Nat.succ p.1.nat) n) ih) l
def belA (n : Nat) (a : A) : Bool := A.rec (motive := fun _ => Bool) (fun _ _ => true) (fun _ => true) true (fun r _ _ => Nat.ble (Nat.succ r.nat) n) true (fun r _ => Nat.ble (Nat.succ r.nat) n) true (fun r => Nat.ble (Nat.succ r.nat) n) true (fun _ c => belC n c) (fun r => Nat.ble (Nat.succ r.nat) n) (fun _ => true) true (fun _ _ _ => true) true a
def belL (n : Nat) (l : List A) : Bool := List.rec (motive := fun _ => Bool) true (fun a _ ih => and (belA n a) ih) l
def belU (n : Nat) (u : U) : Bool := U.rec (motive := fun _ => Bool) (fun a => belA n a) (fun l => belL n l) u
def belUL (n : Nat) (l : List U) : Bool := List.rec (motive := fun _ => Bool) true (fun a _ ih => and (belU n a) ih) l
def belV (n : Nat) (v : V) : Bool := V.rec (motive := fun _ => Bool) (fun a => belA n a) (fun l => belL n l) (fun l => belUL n l) true v
def chkK (Γ : Env) (h : AH) (cs : List Bool) : List (Option Pe) → R → R :=
 List.rec (motive := fun _ => List (Option Pe) → R → R) (fun _ k => k)
  (fun c _ ih ps k => List.rec (motive := fun _ => R) k (fun q r _ => Bool.rec (motive := fun _ => R) (ih r k) (Option.rec (motive := fun _ => R) (ih r k) (fun p => exR p.o Γ p.fr h (fun v => Bool.rec (motive := fun _ => R) none (ih r k) (and (eqbV v p.v) (belV p.nx.nat p.v)))) q) c) ps) cs
/-- behind an operation that changes memory -/
def cnK (Γ : Env) (cs : List Bool) (ps : List (Option Pe)) (h h' : AH) (k : R) : R := Bool.rec (motive := fun _ => R) none (chkK Γ h' cs ps k) (Nat.ble h.nx.nat h'.nx.nat)
/-- a region that draws: H is the memory behind the last operation that changed it, h that with the new rows -/
def drwI (i : I) (cs : List Bool) : Env → Rn → List (Option Pe) → T V → AH → AH → (List (Option Pe) → T V → AH → AH → R) → R :=
 I.rec (motive := fun _ => Env → Rn → List (Option Pe) → T V → AH → AH → (List (Option Pe) → T V → AH → AH → R) → R)
  (fun d g o Γ rn ps fr H h K => iP d g o Γ rn fr h (fun fr' _ => K ps fr' H h))
  (fun d g o Γ rn ps fr H h K => gd fr g (exR o Γ fr H (fun v => fr.setK .x v d (fun f => K (some ⟨o, fr, v, h.nx⟩ :: ps) f H h))) (fr.setK .x .x d (fun f => K (none :: ps) f H h)))
  (fun d g o Γ rn ps fr H h K => iA d g o Γ rn fr h (fun fr' h' => K ps fr' H h'))
  (fun d g o Γ rn ps fr H h K => iC d g o Γ rn fr h (fun fr' h' => cnK Γ cs ps h h' (K ps fr' h' h')))
  (fun d g f fp xs Γ rn ps fr H h K => iK d g f fp xs Γ rn fr h (fun fr' h' => cnK Γ cs ps h h' (K ps fr' h' h')))
  (fun d g x xs Γ rn ps fr H h K => iV d g x xs Γ rn fr h (fun fr' h' => cnK Γ cs ps h h' (K ps fr' h' h'))) i
def drwK (l : List D) : Env → Rn → List (Option Pe) → T V → AH → AH → (T V → AH → R) → R :=
 List.rec (motive := fun _ => Env → Rn → List (Option Pe) → T V → AH → AH → (T V → AH → R) → R) (fun _ _ _ fr _ h K => K fr h) (fun d _ ih Γ rn ps fr H h K => drwI d.i d.chk Γ rn ps fr H h (fun ps' fr' H' h' => ih Γ rn ps' fr' H' h' K)) l
abbrev KE := E → T V → AH → R
def cSkip (Γ : Env) (rn : Rn) (fr : T V) (h : AH) (k : KE) : R := k .nrm fr h
def cReg (l : List I) (Γ : Env) (rn : Rn) (fr : T V) (h : AH) (k : KE) : R := regK l Γ rn fr h (fun f h => k .nrm f h)
def cDrw (l : List D) (Γ : Env) (rn : Rn) (fr : T V) (h : AH) (k : KE) : R := drwK l Γ rn [] fr h h (fun f h => k .nrm f h)
def cSeq (a b : RC) (_ _ : Env → Rn → T V → AH → KE → R) (Γ : Env) (rn : Rn) (fr : T V) (h : AH) (k : KE) : R := rn a fr h (fun e f h => isN e (rn b f h k) (k e f h))
def cCond (x : X) (a b : RC) (_ _ : Env → Rn → T V → AH → KE → R) (Γ : Env) (rn : Rn) (fr : T V) (h : AH) (k : KE) : R := (rdX fr x).aK (fun v => v.bK (fun t => Bool.rec (motive := fun _ => R) (rn b fr h k) (rn a fr h k) t))
def outOf (i : Nat) (e : E) (f : T V) (h : AH) (k : KE) : R := E.rec (motive := fun _ => R) (k .nrm f h) (fun j => Bool.rec (motive := fun _ => R) (k (.ex j) f h) (k .nrm f h) (Nat.beq j i)) (k .rt f h) e
def cBlk (i : Nat) (c : RC) (_ : Env → Rn → T V → AH → KE → R) (Γ : Env) (rn : Rn) (fr : T V) (h : AH) (k : KE) : R := rn c fr h (fun e f h => outOf i e f h k)
def cLoop (c : RC) (_ : Env → Rn → T V → AH → KE → R) (Γ : Env) (rn : Rn) (fr : T V) (h : AH) (k : KE) : R := rn c fr h (fun e f h => isN e (rn (.loop c) f h k) (k e f h))
def cEx (i : Nat) (Γ : Env) (rn : Rn) (fr : T V) (h : AH) (k : KE) : R := k (.ex i) fr h
def cRt (Γ : Env) (rn : Rn) (fr : T V) (h : AH) (k : KE) : R := k .rt fr h
def cRf (x : X) (ps : List Pp) (id : Pp) (Γ : Env) (rn : Rn) (fr : T V) (h : AH) (k : KE) : R :=
 h.newK (.l (nat_lit 0) fr ps id .nrm) (fun r h1 => (rdX fr x).aK (fun v => v.fK (fun f c => toPK (nat_lit 20) f (fun fp => callK Γ rn fp (.a (.y r) :: capV c) h1 (fun _ h2 => (h2.row r).lK (fun st _ _ _ e => Bool.rec (motive := fun _ => R) (h2.putK r .d (k e fr)) none (Nat.beq st (nat_lit 1)))))) (fun _ => none)))
def runS (c : RC) : Env → Rn → T V → AH → KE → R := RC.rec (motive := fun _ => Env → Rn → T V → AH → KE → R) cSkip cReg cDrw cSeq cCond cBlk cLoop cEx cRt cRf c
def run (Γ : Env) (n : Nat) : Rn := Nat.rec (motive := fun _ => Rn) (fun _ _ _ _ => none) (fun _ ih c fr h k => runS c Γ ih fr h k) n
def call (Γ : Env) (n : Nat) (fp : Pp) (vs : List V) (h : AH) (K : V → AH → R) : R := callK Γ (run Γ n) fp vs h K
end
end Go.Ev
