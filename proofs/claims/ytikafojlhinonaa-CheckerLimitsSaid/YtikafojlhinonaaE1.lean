/- The evaluator: its data and its rules; no program in sight. -/
import Derived.Test.YtikafojlhinonaaSlc
import Derived.RangeFuncLeaves
import Derived.OrdersIn
import Derived.LoopNIn
set_option linter.unusedVariables false
namespace Go.Ev
noncomputable section

/-! paths and tries -/
inductive Pp where
  | h
  | l (p : Pp)
  | r (p : Pp)
inductive T (α : Type) where
  | e
  | n (l : T α) (v : α) (r : T α)

/-! numbers as terms over unknowns -/
inductive SE where
  | n (x : Nat)
  | g (x : Nat)
  | v (i : Nat)
  | b (o : BinOp) (k : IntKind) (x y : SE)

/-! values -/
inductive A where
  | i (k : IntKind) (e : SE)
  | b (x : Bool)
  | s0
  | s (r : Pp) (o n : Nat)
  | p0
  | p (r : Pp) (o : Nat)
  | m0
  | m (r : Pp)
  | f0
  | f (k : Nat) (c : List (Pp × Nat))
  | y (r : Pp)
  | t (v : Nat)
  | q0
  | q (ty : Nat) (k : IntKind) (e : SE)
  | u
  | ws (r : Pp) (e : SE)
  | wp (r : Pp) (o : Nat)
inductive U where
  | a (x : A)
  | g (l : List A)
inductive V where
  | a (x : A)
  | g (l : List A)
  | t (l : List U)
  | x

/-! code -/
inductive X where
  | s (p : Pp)
  | c (v : V)
/-- operations that look at no memory -/
inductive OP where
  | mv (x : X)
  | pk (c a b : X)
  | ar (o : BinOp) (x y : X)
  | cp (o : BinOp) (x y : X)
  | nt (x : X)
  | eq (ng ag : Bool) (ks : List Nat) (x y : X)
  | ne (ng : Bool) (x : X)
  | nc (x : X)
  | fa (o : Nat) (x : X)
  | fd (o : Nat) (x : X)
  | fn (o n : Nat) (x : X)
  | ix (z : Nat) (x i : X)
  | ia (m z : Nat) (x i : X)
  | bd (z : List A) (ps : List (Nat × Nat × X))
  | ln (x : X)
  | ex (i : Nat) (x : X)
  | sl (x : X) (hi : X)
  | mf (f : Nat) (cs : List X)
  | mn (mx : Bool) (x y : X)
  | id (m : Nat) (x i : X)
  | ig (m z : Nat) (x i : X)
  | sc (x y : X)
  | sx (x i : X)
  | ss (x : X) (lo hi : Option X)
  | sn (x : X)
  | ng (x : X)
  | cv (k : IntKind) (x : X)
  | mi (ty : Nat) (x : X)
  | ta (ty : Nat) (z : A) (x : X)
  | qe (ng : Bool) (x : X)
  | s2 (z : Nat) (x lo : X) (hi : Option X)
/-- operations that read memory -/
inductive OR where
  | ld (x : X)
  | lg (n : Nat) (x : X)
  | lk (ok ag : Bool) (ks : List Nat) (z : U) (x k : X)
  | lm (x : X)
  | bt (x : X)
  | pe (ng : Bool) (x y : X)
/-- operations that lay a new row -/
inductive OA where
  | al (ty n : Nat) (z : T A)
  | bx (ty z : Nat) (x : X)
  | bs (ty m : Nat) (z : List A) (ps : List (Nat × Nat × X))
  | ms (ty by_ : Nat) (z : List A) (x : X)
  | mm
/-- operations that change memory -/
inductive OC where
  | st (z : Nat) (x y : X)
  | ap (ty z by_ : Nat) (x y : X)
  | mu (ag : Bool) (ks : List Nat) (x k v : X)
  | no
  | sb (x : X)
  | cl (z : List A) (x : X)
  | sm (x : X)
inductive I where
  | p (d : Pp) (g : Option (Pp × Bool)) (o : OP)
  | r (d : Pp) (g : Option (Pp × Bool)) (o : OR)
  | a (d : Pp) (g : Option (Pp × Bool)) (o : OA)
  | c (d : Option Pp) (g : Option (Pp × Bool)) (o : OC)
  | k (d : Option Pp) (g : Option (Pp × Bool)) (f : Nat) (fp : Pp) (xs : List X)
  | v (d : Option Pp) (g : Option (Pp × Bool)) (x : X) (xs : List X)
  | z (g : Option (Pp × Bool)) (x : X)
structure D where
  i : I
  ix : Nat
  an : List Nat
  chk : List Bool
inductive RC where
  | skip
  | reg (l : List I)
  | drw (l : List D)
  | seq (a b : RC)
  | cond (x : X) (a b : RC)
  | blk (i : Nat) (c : RC)
  | loop (c : RC)
  | ex (i : Nat)
  | rt
  | rf (x : X) (ps : List Pp) (id : Pp)
  | df (l : List I) (x : X) (b : RC)
  | rv (d : Pp) (m : Option Pp)
/-- a range over a function: its slots, its code, and the code's form -/
structure Site where
  N : Nat
  ca : Code
  cb : Code
  a : RC
  b : RC
inductive E where
  | nrm
  | ex (i : Nat)
  | rt
  | pn (a : A)
inductive RR where
  | s (p : Pp)
  | c (p : Pp)
  | g (p : Pp) (n : Nat)
structure RF where
  ps : List Pp
  res : List RR
  body : RC
  df : Bool
  nr : Bool

/-! memory -/
inductive Row where
  | d
  | c (ty n : Nat) (t : T A)
  | m (es : List (U × U))
  | l (st : Nat) (fr : T V) (ps : List Pp) (id : Pp) (pend : E)
  | x (n : Nat) (t : T A)
  | w (t : T A)
structure AH where
  nx : Pp
  rows : T Row
inductive Out where
  | val (v : V) (h : AH)
  | st (e : E) (fr : T V) (h : AH)
abbrev R := Option Out
/-- calls of which the answer is known: what goes on with the answer, and what goes on without -/
abbrev KF := List V → AH → (V → AH → R) → R → R
structure Env where
  fns : T (Option RF)
  sites : T (Option Site)
  vals : List (SE × SE)
  conds : List (BinOp × SE × SE × Bool)
  pc : T (Option KF)

/-! paths and tries -/
def Pp.succK (p : Pp) : (Pp → R) → R := Pp.rec (motive := fun _ => (Pp → R) → R) (fun k => k (.l .h)) (fun p _ k => k (.r p)) (fun p ih k => ih (fun q => k (.l q))) p
def toPK (n : Nat) : Nat → (Pp → R) → R :=
  Nat.rec (motive := fun _ => Nat → (Pp → R) → R) (fun _ _ => none)
    (fun _ ih o k => Bool.rec (motive := fun _ => R) (Bool.rec (motive := fun _ => R) (ih (Nat.sub (Nat.div o (nat_lit 2)) (nat_lit 1)) (fun p => k (.r p))) (ih (Nat.div o (nat_lit 2)) (fun p => k (.l p))) (Nat.beq (Nat.mod o (nat_lit 2)) (nat_lit 1))) (k .h) (Nat.beq o (nat_lit 0))) n
def T.get {α : Type} (d : α) (p : Pp) : T α → α :=
  Pp.rec (motive := fun _ => T α → α) (fun t => T.rec (motive := fun _ => α) d (fun _ v _ _ _ => v) t) (fun _ ih t => T.rec (motive := fun _ => α) d (fun l _ _ _ _ => ih l) t) (fun _ ih t => T.rec (motive := fun _ => α) d (fun _ _ r _ _ => ih r) t) p
def T.setK {α : Type} (d v : α) (p : Pp) : T α → (T α → R) → R :=
  Pp.rec (motive := fun _ => T α → (T α → R) → R)
    (fun t k => T.rec (motive := fun _ => R) (k (.n .e v .e)) (fun l _ r _ _ => k (.n l v r)) t)
    (fun _ ih t k => T.rec (motive := fun _ => R) (ih .e (fun s => k (.n s d .e))) (fun l x r _ _ => ih l (fun s => k (.n s x r))) t)
    (fun _ ih t k => T.rec (motive := fun _ => R) (ih .e (fun s => k (.n .e d s))) (fun l x r _ _ => ih r (fun s => k (.n l x s))) t) p
def frc (n : Nat) (k : Nat → R) : R := Nat.rec (motive := fun _ => R) (k (nat_lit 0)) (fun m _ => k (Nat.succ m)) n
/-- a cell of a row -/
def cellK (t : T A) (o : Nat) (k : A → R) : R := toPK (nat_lit 20) o (fun p => k (t.get .u p))
def cellsK (t : T A) (n : Nat) : Nat → (List A → R) → R :=
  Nat.rec (motive := fun _ => Nat → (List A → R) → R) (fun _ k => k []) (fun _ ih o k => cellK t o (fun a => ih (Nat.succ o) (fun l => k (a :: l)))) n
def putK (l : List A) : T A → Nat → (T A → R) → R :=
  List.rec (motive := fun _ => T A → Nat → (T A → R) → R) (fun t _ k => k t) (fun a _ ih t o k => toPK (nat_lit 20) o (fun p => t.setK .u a p (fun t' => ih t' (Nat.succ o) k))) l

/-! operands -/
def rdX (fr : T V) (x : X) : V := X.rec (motive := fun _ => V) (fun p => fr.get .x p) (fun v => v) x
def V.aK (v : V) (k : A → R) : R := V.rec (motive := fun _ => R) (fun a => k a) (fun _ => none) (fun _ => none) none v
def V.cK (v : V) (k : List A → R) : R := V.rec (motive := fun _ => R) (fun a => k [a]) (fun l => k l) (fun _ => none) none v
def V.gK (v : V) (k : List A → R) : R := V.rec (motive := fun _ => R) (fun _ => none) (fun l => k l) (fun _ => none) none v
def V.tK (v : V) (k : List U → R) : R := V.rec (motive := fun _ => R) (fun _ => none) (fun _ => none) (fun l => k l) none v
def V.uK (v : V) (k : U → R) : R := V.rec (motive := fun _ => R) (fun a => k (.a a)) (fun l => k (.g l)) (fun _ => none) none v
def U.v (u : U) : V := U.rec (motive := fun _ => V) (fun a => .a a) (fun l => .g l) u
def A.iK (a : A) (k : IntKind → SE → R) : R := A.rec (motive := fun _ => R) k (fun _ => none) none (fun _ _ _ => none) none (fun _ _ => none) none (fun _ => none) none (fun _ _ => none) (fun _ => none) (fun _ => none) none (fun _ _ _ => none) none (fun _ _ => none) (fun _ _ => none) a
def A.bK (a : A) (k : Bool → R) : R := A.rec (motive := fun _ => R) (fun _ _ => none) k none (fun _ _ _ => none) none (fun _ _ => none) none (fun _ => none) none (fun _ _ => none) (fun _ => none) (fun _ => none) none (fun _ _ _ => none) none (fun _ _ => none) (fun _ _ => none) a
def A.pK (a : A) (k : Pp → Nat → R) : R := A.rec (motive := fun _ => R) (fun _ _ => none) (fun _ => none) none (fun _ _ _ => none) none k none (fun _ => none) none (fun _ _ => none) (fun _ => none) (fun _ => none) none (fun _ _ _ => none) none (fun _ _ => none) (fun _ _ => none) a
/-- a slice: nil, or a part of a row -/
def A.sK (a : A) (k0 : R) (k : Pp → Nat → Nat → R) : R := A.rec (motive := fun _ => R) (fun _ _ => none) (fun _ => none) k0 k none (fun _ _ => none) none (fun _ => none) none (fun _ _ => none) (fun _ => none) (fun _ => none) none (fun _ _ _ => none) none (fun _ _ => none) (fun _ _ => none) a
def A.mK (a : A) (k0 : R) (k : Pp → R) : R := A.rec (motive := fun _ => R) (fun _ _ => none) (fun _ => none) none (fun _ _ _ => none) none (fun _ _ => none) k0 k none (fun _ _ => none) (fun _ => none) (fun _ => none) none (fun _ _ _ => none) none (fun _ _ => none) (fun _ _ => none) a
def A.fK (a : A) (k : Nat → List (Pp × Nat) → R) (ky : Pp → R) : R := A.rec (motive := fun _ => R) (fun _ _ => none) (fun _ => none) none (fun _ _ _ => none) none (fun _ _ => none) none (fun _ => none) none k ky (fun _ => none) none (fun _ _ _ => none) none (fun _ _ => none) (fun _ _ => none) a
def A.tK (a : A) (k : Nat → R) : R := A.rec (motive := fun _ => R) (fun _ _ => none) (fun _ => none) none (fun _ _ _ => none) none (fun _ _ => none) none (fun _ => none) none (fun _ _ => none) (fun _ => none) k none (fun _ _ _ => none) none (fun _ _ => none) (fun _ _ => none) a
def A.qK (a : A) (k0 : R) (k : Nat → IntKind → SE → R) : R := A.rec (motive := fun _ => R) (fun _ _ => none) (fun _ => none) none (fun _ _ _ => none) none (fun _ _ => none) none (fun _ => none) none (fun _ _ => none) (fun _ => none) (fun _ => none) k0 k none (fun _ _ => none) (fun _ _ => none) a
/-- a slice that comes from outside -/
def A.orW (a : A) (k : R) (kw : Pp → SE → R) : R := A.rec (motive := fun _ => R) (fun _ _ => k) (fun _ => k) k (fun _ _ _ => k) k (fun _ _ => k) k (fun _ => k) k (fun _ _ => k) (fun _ => k) (fun _ => k) k (fun _ _ _ => k) k kw (fun _ _ => k) a
/-- a pointer into it -/
def A.orP (a : A) (k : R) (kw : Pp → Nat → R) : R := A.rec (motive := fun _ => R) (fun _ _ => k) (fun _ => k) k (fun _ _ _ => k) k (fun _ _ => k) k (fun _ => k) k (fun _ _ => k) (fun _ => k) (fun _ => k) k (fun _ _ _ => k) k (fun _ _ => k) kw a
/-- a number that is known and not below (nat_lit 0) -/
def SE.nK (e : SE) (k : Nat → R) (f : R) : R := SE.rec (motive := fun _ => R) k (fun _ => f) (fun _ => f) (fun _ _ _ _ _ _ => f) e

/-! numbers -/
def SE.lit (e : SE) : Option Int := SE.rec (motive := fun _ => Option Int) (fun x => some (Int.ofNat x)) (fun x => some (Int.negSucc x)) (fun _ => none) (fun _ _ _ _ _ _ => none) e
def boK : BinOp → Nat := fun o => BinOp.rec (motive := fun _ => Nat) (nat_lit 0) (nat_lit 1) (nat_lit 2) (nat_lit 3) (nat_lit 4) (nat_lit 5) (nat_lit 6) (nat_lit 7) (nat_lit 8) (nat_lit 9) (nat_lit 10) (nat_lit 11) (nat_lit 12) (nat_lit 13) (nat_lit 14) (nat_lit 15) (nat_lit 16) o
def ikK : IntKind → Nat := fun o => IntKind.rec (motive := fun _ => Nat) (nat_lit 0) (nat_lit 1) (nat_lit 2) (nat_lit 3) (nat_lit 4) (nat_lit 5) (nat_lit 6) (nat_lit 7) o
def SE.eqb (a : SE) : SE → Bool :=
  SE.rec (motive := fun _ => SE → Bool)
    (fun x b => SE.rec (motive := fun _ => Bool) (fun y => Nat.beq x y) (fun _ => false) (fun _ => false) (fun _ _ _ _ _ _ => false) b)
    (fun x b => SE.rec (motive := fun _ => Bool) (fun _ => false) (fun y => Nat.beq x y) (fun _ => false) (fun _ _ _ _ _ _ => false) b)
    (fun x b => SE.rec (motive := fun _ => Bool) (fun _ => false) (fun _ => false) (fun y => Nat.beq x y) (fun _ _ _ _ _ _ => false) b)
    (fun o k _ _ ihx ihy b => SE.rec (motive := fun _ => Bool) (fun _ => false) (fun _ => false) (fun _ => false) (fun o' k' x' y' _ _ => and (and (Nat.beq (boK o) (boK o')) (Nat.beq (ikK k) (ikK k'))) (and (ihx x') (ihy y'))) b) a
def ofI (i : Int) (k : SE → R) : R := Int.rec (motive := fun _ => R) (fun n => frc n (fun m => k (.n m))) (fun n => frc n (fun m => k (.g m))) i
def binI (o : BinOp) (k : IntKind) (a b : Int) : Option Int :=
  BinOp.rec (motive := fun _ => Option Int) (some (k.wrap (a + b))) (some (k.wrap (a - b))) (some (k.wrap (a * b)))
    (Bool.rec (motive := fun _ => Option Int) (some (k.wrap (a.tdiv b))) none (decide (b = 0))) (Bool.rec (motive := fun _ => Option Int) (some (a.tmod b)) none (decide (b = 0)))
    (some (k.wrap ((BitVec.ofInt k.bits a &&& BitVec.ofInt k.bits b).toNat))) (some (k.wrap ((BitVec.ofInt k.bits a ||| BitVec.ofInt k.bits b).toNat))) (some (k.wrap ((BitVec.ofInt k.bits a ^^^ BitVec.ofInt k.bits b).toNat)))
    none none none none none none none none none o
def valOf (l : List (SE × SE)) (e : SE) : SE := List.rec (motive := fun _ => SE) e (fun p _ ih => Bool.rec (motive := fun _ => SE) ih p.2 (p.1.eqb e)) l
/-- a division is a term only where the divisor is known not to be (nat_lit 0) -/
def divides (o : BinOp) : Bool := BinOp.rec (motive := fun _ => Bool) false false false true true false false false true true true true true true true true true o
def condOf (l : List (BinOp × SE × SE × Bool)) (o : BinOp) (x y : SE) (k : Bool → R) : R :=
  List.rec (motive := fun _ => R) none (fun p _ ih => Bool.rec (motive := fun _ => R) ih (k p.2.2.2) (and (Nat.beq (boK p.1) (boK o)) (and (p.2.1.eqb x) (p.2.2.1.eqb y)))) l
def symAr (Γ : Env) (o : BinOp) (k : IntKind) (x y : SE) (K : SE → R) : R :=
  Bool.rec (motive := fun _ => R) (K (valOf Γ.vals (.b o k x y)))
    (Bool.rec (motive := fun _ => R) none
      (Option.rec (motive := fun _ => R) (condOf Γ.conds .eql y (.n (nat_lit 0)) (fun b => Bool.rec (motive := fun _ => R) (K (valOf Γ.vals (.b o k x y))) none b)) (fun i => Bool.rec (motive := fun _ => R) (K (valOf Γ.vals (.b o k x y))) none (decide (i = 0))) y.lit)
      (Bool.or (Nat.beq (boK o) (nat_lit 3)) (Nat.beq (boK o) (nat_lit 4)))) (divides o)
def slowAr (Γ : Env) (o : BinOp) (k : IntKind) (x y : SE) (K : SE → R) : R :=
  Option.rec (motive := fun _ => R) (symAr Γ o k x y K) (fun a => Option.rec (motive := fun _ => R) (symAr Γ o k x y K) (fun b => Option.rec (motive := fun _ => R) none (fun i => ofI i K) (binI o k a b)) y.lit) x.lit
/-- the fast ways, for numbers that are known and not below (nat_lit 0) -/
def fastAr (o : BinOp) (a b : Nat) (slow : R) (K : SE → R) : R :=
  BinOp.rec (motive := fun _ => R)
    (Bool.rec (motive := fun _ => R) slow (frc (Nat.add a b) (fun c => K (.n c))) (Nat.ble (Nat.add a b) (nat_lit 127)))
    (Bool.rec (motive := fun _ => R) slow (frc (Nat.sub a b) (fun c => K (.n c))) (and (Nat.ble b a) (Nat.ble a (nat_lit 127))))
    slow slow slow slow slow slow slow slow slow slow slow slow slow slow slow o
def arK (Γ : Env) (o : BinOp) (k : IntKind) (x y : SE) (K : SE → R) : R :=
  x.nK (fun a => y.nK (fun b => fastAr o a b (slowAr Γ o k x y K) K) (slowAr Γ o k x y K)) (slowAr Γ o k x y K)
def cmpI (o : BinOp) (a b : Int) : Option Bool :=
  BinOp.rec (motive := fun _ => Option Bool) none none none none none none none none none none none
    (some (decide (a = b))) (some (!decide (a = b))) (some (decide (a < b))) (some (decide (a ≤ b))) (some (decide (b < a))) (some (decide (b ≤ a))) o
def slowCp (Γ : Env) (o : BinOp) (x y : SE) (K : Bool → R) : R :=
  Option.rec (motive := fun _ => R) (condOf Γ.conds o x y K) (fun a => Option.rec (motive := fun _ => R) (condOf Γ.conds o x y K) (fun b => Option.rec (motive := fun _ => R) none (fun t => Bool.rec (motive := fun _ => R) (K false) (K true) t) (cmpI o a b)) y.lit) x.lit
def fastCp (o : BinOp) (a b : Nat) : Bool :=
  BinOp.rec (motive := fun _ => Bool) false false false false false false false false false false false
    (Nat.beq a b) (not (Nat.beq a b)) (Nat.ble (Nat.succ a) b) (Nat.ble a b) (Nat.ble (Nat.succ b) a) (Nat.ble b a) o
def compares (o : BinOp) : Bool := BinOp.rec (motive := fun _ => Bool) false false false false false false false false false false false true true true true true true o
def cpK (Γ : Env) (o : BinOp) (x y : SE) (K : Bool → R) : R :=
  Bool.rec (motive := fun _ => R) none (x.nK (fun a => y.nK (fun b => Bool.rec (motive := fun _ => R) (K false) (K true) (fastCp o a b)) (slowCp Γ o x y K)) (slowCp Γ o x y K)) (compares o)
def eqbN (l : List Nat) : List Nat → Bool :=
  List.rec (motive := fun _ => List Nat → Bool) (fun m => List.rec (motive := fun _ => Bool) true (fun _ _ _ => false) m) (fun a _ ih m => List.rec (motive := fun _ => Bool) false (fun b m' _ => and (Nat.beq a b) (ih m')) m) l
/-- two values, the same or not -/
def eqA (Γ : Env) (kd : Nat) (a b : A) (K : Bool → R) : R :=
  A.rec (motive := fun _ => R) (fun k e => b.iK (fun k' e' => Bool.rec (motive := fun _ => R) none (Bool.rec (motive := fun _ => R) (cpK Γ .eql e e' K) (K true) (e.eqb e')) (and (Nat.beq kd (nat_lit 0)) (Nat.beq (ikK k) (ikK k'))))) (fun x => b.bK (fun y => Bool.rec (motive := fun _ => R) none (Bool.rec (motive := fun _ => R) (Bool.rec (motive := fun _ => R) (K true) (K false) y) (Bool.rec (motive := fun _ => R) (K false) (K true) y) x) (Nat.beq kd (nat_lit 1)))) none (fun _ _ _ => none) none (fun _ _ => none) none (fun _ => none) none (fun _ _ => none) (fun _ => none) (fun l => b.tK (fun m => Bool.rec (motive := fun _ => R) none (Bool.rec (motive := fun _ => R) (K false) (K true) (Nat.beq l m)) (Nat.beq kd (nat_lit 2)))) none (fun _ _ _ => none) none (fun _ _ => none) (fun _ _ => none) a
def eqL (Γ : Env) (ks : List Nat) : List A → List A → (Bool → R) → R :=
  List.rec (motive := fun _ => List A → List A → (Bool → R) → R) (fun l m K => List.rec (motive := fun _ => R) (List.rec (motive := fun _ => R) (K true) (fun _ _ _ => none) m) (fun _ _ _ => none) l)
    (fun k _ ih l m K => List.rec (motive := fun _ => R) none (fun a l' _ => List.rec (motive := fun _ => R) none (fun b m' _ => eqA Γ k a b (fun t => Bool.rec (motive := fun _ => R) (K false) (ih l' m' K) t)) m) l) ks
def lenA (es : List A) : Nat := List.rec (motive := fun _ => Nat) (nat_lit 0) (fun _ _ n => Nat.succ n) es
def lenK (es : List Nat) : Nat := List.rec (motive := fun _ => Nat) (nat_lit 0) (fun _ _ n => Nat.succ n) es
def eqG (Γ : Env) (ks : List Nat) (l m : List A) (K : Bool → R) : R := Bool.rec (motive := fun _ => R) none (eqL Γ ks l m K) (and (Nat.beq (lenA l) (lenK ks)) (Nat.beq (lenA m) (lenK ks)))
def eqU (Γ : Env) (ag : Bool) (ks : List Nat) (u v : U) (K : Bool → R) : R :=
  U.rec (motive := fun _ => R) (fun a => U.rec (motive := fun _ => R) (fun b => Bool.rec (motive := fun _ => R) (eqG Γ ks [a] [b] K) none ag) (fun _ => none) v) (fun l => U.rec (motive := fun _ => R) (fun _ => none) (fun m => Bool.rec (motive := fun _ => R) none (eqG Γ ks l m K) ag) v) u

/-! operations -/
def V.frc (v : V) (K : V → R) : R := V.rec (motive := fun _ => R) (fun a => K (.a a)) (fun l => K (.g l)) (fun l => K (.t l)) (K .x) v
def bol (t : Bool) (K : V → R) : R := Bool.rec (motive := fun _ => R) (K (.a (.b false))) (K (.a (.b true))) t
def nthK (l : List A) (n : Nat) (K : A → R) : R :=
  Nat.rec (motive := fun _ => List A → R) (fun l => List.rec (motive := fun _ => R) none (fun a _ _ => K a) l) (fun _ ih l => List.rec (motive := fun _ => R) none (fun _ r _ => ih r) l) n l
def nthU (l : List U) (n : Nat) (K : U → R) : R :=
  Nat.rec (motive := fun _ => List U → R) (fun l => List.rec (motive := fun _ => R) none (fun a _ _ => K a) l) (fun _ ih l => List.rec (motive := fun _ => R) none (fun _ r _ => ih r) l) n l
def takeK (n : Nat) : List A → (List A → R) → R :=
  Nat.rec (motive := fun _ => List A → (List A → R) → R) (fun _ K => K []) (fun _ ih l K => List.rec (motive := fun _ => R) none (fun a r _ => ih r (fun m => K (a :: m))) l) n
def dropK (n : Nat) : List A → (List A → R) → R :=
  Nat.rec (motive := fun _ => List A → (List A → R) → R) (fun l K => K l) (fun _ ih l K => List.rec (motive := fun _ => R) none (fun _ r _ => ih r K) l) n
/-- vs in place of the first cells -/
def overK (vs : List A) : List A → (List A → R) → R :=
  List.rec (motive := fun _ => List A → (List A → R) → R) (fun cs K => K cs) (fun v _ ih cs K => List.rec (motive := fun _ => R) none (fun _ r _ => ih r (fun m => K (v :: m))) cs) vs
def setLK (vs : List A) (o : Nat) : List A → (List A → R) → R :=
  Nat.rec (motive := fun _ => List A → (List A → R) → R) (overK vs) (fun _ ih cs K => List.rec (motive := fun _ => R) none (fun c r _ => ih r (fun m => K (c :: m))) cs) o
def fillK (fr : T V) (ps : List (Nat × Nat × X)) : List A → (List A → R) → R :=
  List.rec (motive := fun _ => List A → (List A → R) → R) (fun cs K => K cs) (fun p _ ih cs K => (rdX fr p.2.2).cK (fun vs => Bool.rec (motive := fun _ => R) none (setLK vs p.1 cs (fun cs' => ih cs' K)) (Nat.beq (lenA vs) p.2.1))) ps
def pMv (x : X) (Γ : Env) (fr : T V) (K : V → R) : R := (rdX fr x).frc K
def pPk (c a b : X) (Γ : Env) (fr : T V) (K : V → R) : R := (rdX fr c).aK (fun v => v.bK (fun t => Bool.rec (motive := fun _ => R) ((rdX fr b).frc K) ((rdX fr a).frc K) t))
def sameK (k k' : IntKind) (c : R) : R := Bool.rec (motive := fun _ => R) none c (Nat.beq (ikK k) (ikK k'))
def pAr (o : BinOp) (x y : X) (Γ : Env) (fr : T V) (K : V → R) : R := (rdX fr x).aK (fun a => a.iK (fun k e => (rdX fr y).aK (fun a' => a'.iK (fun k' e' => sameK k k' (arK Γ o k e e' (fun s => K (.a (.i k s))))))))
def pCp (o : BinOp) (x y : X) (Γ : Env) (fr : T V) (K : V → R) : R := (rdX fr x).aK (fun a => a.iK (fun k e => (rdX fr y).aK (fun a' => a'.iK (fun k' e' => sameK k k' (cpK Γ o e e' (fun t => K (.a (.b t))))))))
def pNt (x : X) (Γ : Env) (fr : T V) (K : V → R) : R := (rdX fr x).aK (fun a => a.bK (fun t => bol (not t) K))
def pEq (ng ag : Bool) (ks : List Nat) (x y : X) (Γ : Env) (fr : T V) (K : V → R) : R := (rdX fr x).uK (fun u => (rdX fr y).uK (fun v => eqU Γ ag ks u v (fun t => bol (xor ng t) K)))
def pNe (ng : Bool) (x : X) (Γ : Env) (fr : T V) (K : V → R) : R := (rdX fr x).aK (fun a => a.sK (bol (xor ng true) K) (fun _ _ _ => bol (xor ng false) K))
def pNc (x : X) (Γ : Env) (fr : T V) (K : V → R) : R := (rdX fr x).aK (fun a => a.pK (fun r o => K (.a (.p r o))))
def pFa (o : Nat) (x : X) (Γ : Env) (fr : T V) (K : V → R) : R := (rdX fr x).aK (fun a => a.pK (fun r b => frc (Nat.add b o) (fun n => K (.a (.p r n)))))
def pFd (o : Nat) (x : X) (Γ : Env) (fr : T V) (K : V → R) : R := (rdX fr x).gK (fun l => nthK l o (fun a => K (.a a)))
def pFn (o n : Nat) (x : X) (Γ : Env) (fr : T V) (K : V → R) : R := (rdX fr x).gK (fun l => dropK o l (fun m => takeK n m (fun q => K (.g q))))
def natK (v : V) (K : Nat → R) : R := v.aK (fun a => a.iK (fun _ e => e.nK K none))
def pIx (z : Nat) (x i : X) (Γ : Env) (fr : T V) (K : V → R) : R := (rdX fr x).aK (fun a => a.orW (a.sK none (fun r o n => natK (rdX fr i) (fun j => Bool.rec (motive := fun _ => R) none (frc (Nat.add o (Nat.mul j z)) (fun q => K (.a (.p r q)))) (Nat.ble (Nat.succ j) n))))
  (fun r e => natK (rdX fr i) (fun j => Bool.rec (motive := fun _ => R) none (cpK Γ .lss (.n j) e (fun t => Bool.rec (motive := fun _ => R) none (K (.a (.wp r j))) t)) (Nat.beq z (nat_lit 1)))))
def pIa (m z : Nat) (x i : X) (Γ : Env) (fr : T V) (K : V → R) : R := (rdX fr x).aK (fun a => a.pK (fun r o => natK (rdX fr i) (fun j => Bool.rec (motive := fun _ => R) none (frc (Nat.add o (Nat.mul j z)) (fun q => K (.a (.p r q)))) (Nat.ble (Nat.succ j) m))))
def pBd (z : List A) (ps : List (Nat × Nat × X)) (Γ : Env) (fr : T V) (K : V → R) : R := fillK fr ps z (fun l => K (.g l))
def pLn (x : X) (Γ : Env) (fr : T V) (K : V → R) : R := (rdX fr x).aK (fun a => a.orW (a.sK (K (.a (.i .i64 (.n (nat_lit 0))))) (fun _ _ n => K (.a (.i .i64 (.n n))))) (fun _ e => K (.a (.i .i64 e))))
def pEx (i : Nat) (x : X) (Γ : Env) (fr : T V) (K : V → R) : R := (rdX fr x).tK (fun l => nthU l i (fun u => K u.v))
def pSl (x hi : X) (Γ : Env) (fr : T V) (K : V → R) : R := (rdX fr x).aK (fun a => natK (rdX fr hi) (fun j => a.sK (Bool.rec (motive := fun _ => R) none (K (.a .s0)) (Nat.beq j (nat_lit 0))) (fun r o n => Bool.rec (motive := fun _ => R) none (K (.a (.s r o j))) (Nat.ble j n))))
def capsK (fr : T V) (cs : List X) : (List (Pp × Nat) → R) → R :=
  List.rec (motive := fun _ => (List (Pp × Nat) → R) → R) (fun K => K []) (fun x _ ih K => (rdX fr x).aK (fun a => a.pK (fun r o => ih (fun l => K ((r, o) :: l))))) cs
def pMf (f : Nat) (cs : List X) (Γ : Env) (fr : T V) (K : V → R) : R := capsK fr cs (fun l => K (.a (.f f l)))
def pMn (mx : Bool) (x y : X) (Γ : Env) (fr : T V) (K : V → R) : R := (rdX fr x).aK (fun a => a.iK (fun k e => (rdX fr y).aK (fun a' => a'.iK (fun k' e' => sameK k k'
  (Bool.rec (motive := fun _ => R) (cpK Γ .lss e' e (fun t => Bool.rec (motive := fun _ => R) (K (.a (.i k e))) (K (.a (.i k e'))) t)) (cpK Γ .lss e e' (fun t => Bool.rec (motive := fun _ => R) (K (.a (.i k e))) (K (.a (.i k e'))) t)) mx)))))
def pId (m : Nat) (x i : X) (Γ : Env) (fr : T V) (K : V → R) : R := (rdX fr x).gK (fun l => natK (rdX fr i) (fun j => Bool.rec (motive := fun _ => R) none (nthK l j (fun a => K (.a a))) (Nat.ble (Nat.succ j) m)))
def pIg (m z : Nat) (x i : X) (Γ : Env) (fr : T V) (K : V → R) : R := (rdX fr x).gK (fun l => natK (rdX fr i) (fun j => Bool.rec (motive := fun _ => R) none (dropK (Nat.mul j z) l (fun q => takeK z q (fun q => K (.g q)))) (Nat.ble (Nat.succ j) m)))
/-! texts: one number each, the bytes and a 1 above them -/
def frN (n : Nat) (k : Nat → Nat) : Nat := Nat.rec (motive := fun _ => Nat) (k (nat_lit 0)) (fun m _ => k (Nat.succ m)) n
def tlS (k : Nat) (K : Nat → Nat → Nat) (v acc : Nat) : Nat := Bool.rec (motive := fun _ => Nat) (K v acc) (frN (Nat.div v (Nat.pow (nat_lit 256) k)) (fun v' => frN (Nat.add acc k) (fun a' => K v' a'))) (Nat.ble (Nat.pow (nat_lit 256) k) v)
/-- the length of a text: the logarithm by halves (the kernel has no quick one) -/
def tlen (v : Nat) : Nat := tlS (nat_lit 4096) (tlS (nat_lit 2048) (tlS (nat_lit 1024) (tlS (nat_lit 512) (tlS (nat_lit 256) (tlS (nat_lit 128) (tlS (nat_lit 64) (tlS (nat_lit 32) (tlS (nat_lit 16) (tlS (nat_lit 8) (tlS (nat_lit 4) (tlS (nat_lit 2) (tlS (nat_lit 1)
  (fun r a => Bool.rec (motive := fun _ => Nat) (Nat.div (Nat.log2 v) (nat_lit 8)) a (Nat.ble (Nat.succ r) (nat_lit 256))))))))))))))) v (nat_lit 0)
attribute [irreducible] tlen
def tpw (n : Nat) : Nat := Nat.pow (nat_lit 256) n
def tcat (a b : Nat) : Nat := Nat.add a (Nat.mul (Nat.sub b (nat_lit 1)) (tpw (tlen a)))
def tget (a i : Nat) : Nat := Nat.mod (Nat.div a (tpw i)) (nat_lit 256)
def tcut (a lo hi : Nat) : Nat := Nat.add (Nat.mod (Nat.div a (tpw lo)) (tpw (Nat.sub hi lo))) (tpw (Nat.sub hi lo))
def pSc (x y : X) (Γ : Env) (fr : T V) (K : V → R) : R := (rdX fr x).aK (fun a => a.tK (fun s => (rdX fr y).aK (fun b => b.tK (fun t => Bool.rec (motive := fun _ => R) none (frc (tcat s t) (fun v => K (.a (.t v)))) (Nat.ble (Nat.add (tlen s) (tlen t)) (nat_lit 1000000))))))
def pSx (x i : X) (Γ : Env) (fr : T V) (K : V → R) : R := (rdX fr x).aK (fun a => a.tK (fun s => natK (rdX fr i) (fun j => Bool.rec (motive := fun _ => R) none (frc (tget s j) (fun c => K (.a (.i .u8 (.n c))))) (Nat.ble (Nat.succ j) (tlen s)))))
def optN (fr : T V) (x : Option X) (n : Nat) (K : Nat → R) : R := Option.rec (motive := fun _ => R) (frc n K) (fun x => natK (rdX fr x) K) x
def pSs (x : X) (lo hi : Option X) (Γ : Env) (fr : T V) (K : V → R) : R := (rdX fr x).aK (fun a => a.tK (fun s => optN fr lo (nat_lit 0) (fun i => optN fr hi (tlen s) (fun j => Bool.rec (motive := fun _ => R) none (frc (tcut s i j) (fun v => K (.a (.t v)))) (and (Nat.ble i j) (Nat.ble j (tlen s)))))))
def pSn (x : X) (Γ : Env) (fr : T V) (K : V → R) : R := (rdX fr x).aK (fun a => a.tK (fun s => frc (tlen s) (fun n => K (.a (.i .i64 (.n n))))))
def pNg (x : X) (Γ : Env) (fr : T V) (K : V → R) : R := (rdX fr x).aK (fun a => a.iK (fun k e => arK Γ .sub k (.n (nat_lit 0)) e (fun s => K (.a (.i k s)))))
def pCv (k : IntKind) (x : X) (Γ : Env) (fr : T V) (K : V → R) : R := (rdX fr x).aK (fun a => a.iK (fun _ e => Option.rec (motive := fun _ => R) none (fun i => ofI (k.wrap i) (fun s => K (.a (.i k s)))) e.lit))
def pMi (ty : Nat) (x : X) (Γ : Env) (fr : T V) (K : V → R) : R := (rdX fr x).aK (fun a => a.iK (fun k e => K (.a (.q ty k e))))
def pTa (ty : Nat) (z : A) (x : X) (Γ : Env) (fr : T V) (K : V → R) : R := (rdX fr x).aK (fun a => a.qK (K (.t [.a z, .a (.b false)])) (fun t k e => Bool.rec (motive := fun _ => R) (K (.t [.a z, .a (.b false)])) (K (.t [.a (.i k e), .a (.b true)])) (Nat.beq t ty)))
def pQe (ng : Bool) (x : X) (Γ : Env) (fr : T V) (K : V → R) : R := (rdX fr x).aK (fun a => a.qK (bol (xor ng true) K) (fun _ _ _ => bol (xor ng false) K))
def pS2 (z : Nat) (x lo : X) (hi : Option X) (Γ : Env) (fr : T V) (K : V → R) : R := (rdX fr x).aK (fun a => natK (rdX fr lo) (fun i => a.sK (optN fr hi (nat_lit 0) (fun j => Bool.rec (motive := fun _ => R) none (K (.a .s0)) (and (Nat.beq i (nat_lit 0)) (Nat.beq j (nat_lit 0)))))
  (fun r o n => optN fr hi n (fun j => Bool.rec (motive := fun _ => R) none (frc (Nat.add o (Nat.mul i z)) (fun q => frc (Nat.sub j i) (fun m => K (.a (.s r q m))))) (and (Nat.ble (nat_lit 1) z) (and (Nat.ble i j) (Nat.ble j n)))))))
def exP (o : OP) : Env → T V → (V → R) → R := OP.rec (motive := fun _ => Env → T V → (V → R) → R) pMv pPk pAr pCp pNt pEq pNe pNc pFa pFd pFn pIx pIa pBd pLn pEx pSl pMf pMn pId pIg pSc pSx pSs pSn pNg pCv pMi pTa pQe pS2 o

def Row.cK (r : Row) (K : Nat → Nat → T A → R) : R := Row.rec (motive := fun _ => R) none K (fun _ => none) (fun _ _ _ _ _ => none) (fun _ _ => none) (fun _ => none) r
/-- a row that is read -/
def Row.rK (r : Row) (K : T A → R) : R := Row.rec (motive := fun _ => R) none (fun _ _ t => K t) (fun _ => none) (fun _ _ _ _ _ => none) (fun _ t => K t) (fun _ => none) r
def Row.mK (r : Row) (K : List (U × U) → R) : R := Row.rec (motive := fun _ => R) none (fun _ _ _ => none) K (fun _ _ _ _ _ => none) (fun _ _ => none) (fun _ => none) r
def Row.wK (r : Row) (K : T A → R) : R := Row.rec (motive := fun _ => R) none (fun _ _ _ => none) (fun _ => none) (fun _ _ _ _ _ => none) (fun _ _ => none) K r
def AH.row (h : AH) (r : Pp) : Row := h.rows.get .d r
def A.knK (a : A) (k : A → R) : R := A.rec (motive := fun _ => R) (fun i e => k (.i i e)) (fun b => k (.b b)) (k .s0) (fun r o n => k (.s r o n)) (k .p0) (fun r o => k (.p r o)) (k .m0) (fun r => k (.m r)) (k .f0) (fun i c => k (.f i c)) (fun r => k (.y r)) (fun l => k (.t l)) (k .q0) (fun t i e => k (.q t i e)) none (fun r e => k (.ws r e)) (fun r o => k (.wp r o)) a
def kcellsK (t : T A) (n : Nat) : Nat → (List A → R) → R :=
  Nat.rec (motive := fun _ => Nat → (List A → R) → R) (fun _ k => k []) (fun _ ih o k => cellK t o (fun a => a.knK (fun a => ih (Nat.succ o) (fun l => k (a :: l))))) n
def rLd (x : X) (Γ : Env) (fr : T V) (h : AH) (K : V → R) : R := (rdX fr x).aK (fun a => a.orP (a.pK (fun r o => (h.row r).rK (fun t => cellK t o (fun a => a.knK (fun a => K (.a a)))))) (fun r o => (h.row r).wK (fun t => cellK t o (fun a => a.knK (fun a => K (.a a))))))
def rLg (n : Nat) (x : X) (Γ : Env) (fr : T V) (h : AH) (K : V → R) : R := (rdX fr x).aK (fun a => a.pK (fun r o => (h.row r).rK (fun t => kcellsK t n o (fun l => K (.g l)))))
def lookK (Γ : Env) (ag : Bool) (ks : List Nat) (u : U) (es : List (U × U)) (K0 : R) (K : U → R) : R :=
  List.rec (motive := fun _ => R) K0 (fun p _ ih => eqU Γ ag ks u p.1 (fun t => Bool.rec (motive := fun _ => R) ih (K p.2) t)) es
def found (ok : Bool) (u : U) (is : Bool) (K : V → R) : R := Bool.rec (motive := fun _ => R) (K u.v) (K (.t [u, .a (.b is)])) ok
def keyOk (ag : Bool) (ks : List Nat) (u : U) : Bool := U.rec (motive := fun _ => Bool) (fun _ => and (not ag) (Nat.beq (lenK ks) (nat_lit 1))) (fun l => and ag (Nat.beq (lenA l) (lenK ks))) u
def rLk (ok ag : Bool) (ks : List Nat) (z : U) (x k : X) (Γ : Env) (fr : T V) (h : AH) (K : V → R) : R :=
  (rdX fr x).aK (fun a => (rdX fr k).uK (fun u => Bool.rec (motive := fun _ => R) none (a.mK (found ok z false K) (fun r => (h.row r).mK (fun es => lookK Γ ag ks u es (found ok z false K) (fun v => found ok v true K)))) (keyOk ag ks u)))
def lenN (es : List (U × U)) : Nat := List.rec (motive := fun _ => Nat) (nat_lit 0) (fun _ _ n => Nat.succ n) es
def rLm (x : X) (Γ : Env) (fr : T V) (h : AH) (K : V → R) : R := (rdX fr x).aK (fun a => a.mK (K (.a (.i .i64 (.n (nat_lit 0))))) (fun r => (h.row r).mK (fun es => frc (lenN es) (fun n => K (.a (.i .i64 (.n n)))))))
/-- the cells of a slice -/
def sliceK (h : AH) (a : A) (z : Nat) (K : List A → Nat → R) : R := a.sK (K [] (nat_lit 0)) (fun r o n => (h.row r).rK (fun t => kcellsK t (Nat.mul n z) o (fun l => K l n)))
def strK (l : List A) : (Nat → R) → R :=
  List.rec (motive := fun _ => (Nat → R) → R) (fun K => K (nat_lit 1)) (fun a _ ih K => a.iK (fun k e => e.nK (fun c => Bool.rec (motive := fun _ => R) none (ih (fun v => frc (Nat.add c (Nat.mul (nat_lit 256) v)) K)) (and (Nat.beq (ikK k) (ikK .u8)) (Nat.ble c (nat_lit 255)))) none)) l
def rBt (x : X) (Γ : Env) (fr : T V) (h : AH) (K : V → R) : R := (rdX fr x).aK (fun a => sliceK h a (nat_lit 1) (fun l _ => strK l (fun v => K (.a (.t v)))))
def Pp.eqb (p : Pp) : Pp → Bool :=
  Pp.rec (motive := fun _ => Pp → Bool) (fun q => Pp.rec (motive := fun _ => Bool) true (fun _ _ => false) (fun _ _ => false) q) (fun _ ih q => Pp.rec (motive := fun _ => Bool) false (fun q' _ => ih q') (fun _ _ => false) q) (fun _ ih q => Pp.rec (motive := fun _ => Bool) false (fun _ _ => false) (fun q' _ => ih q') q) p
/-- two pointers compared -/
def rPe (ng : Bool) (x y : X) (Γ : Env) (fr : T V) (h : AH) (K : V → R) : R := (rdX fr x).aK (fun a => (rdX fr y).aK (fun b => a.pK (fun r o => b.pK (fun r' o' =>
  Bool.rec (motive := fun _ => R) ((h.row r).cK (fun _ _ _ => (h.row r').cK (fun _ _ _ => bol ng K))) (bol (xor ng (Nat.beq o o')) K) (r.eqb r')))))
def exR (o : OR) : Env → T V → AH → (V → R) → R := OR.rec (motive := fun _ => Env → T V → AH → (V → R) → R) rLd rLg rLk rLm rBt rPe o

def aAl (ty n : Nat) (z : T A) (fr : T V) (K : Row → (Pp → A) → R) : R := K (.c ty n z) (fun r => .p r (nat_lit 0))
def aBx (ty z : Nat) (x : X) (fr : T V) (K : Row → (Pp → A) → R) : R := (rdX fr x).cK (fun l => Bool.rec (motive := fun _ => R) none (putK l .e (nat_lit 0) (fun t => K (.c ty z t) (fun r => .p r (nat_lit 0)))) (Nat.beq (lenA l) z))
def aBs (ty m : Nat) (z : List A) (ps : List (Nat × Nat × X)) (fr : T V) (K : Row → (Pp → A) → R) : R := fillK fr ps z (fun l => putK l .e (nat_lit 0) (fun t => frc (lenA l) (fun n => K (.c ty n t) (fun r => .s r (nat_lit 0) m))))
def repK (z : List A) (n : Nat) : T A → Nat → (T A → Nat → R) → R :=
  Nat.rec (motive := fun _ => T A → Nat → (T A → Nat → R) → R) (fun t o K => K t o) (fun _ ih t o K => putK z t o (fun t' => frc (Nat.add o (lenA z)) (fun o' => ih t' o' K))) n
def aMs (ty by_ : Nat) (z : List A) (x : X) (fr : T V) (K : Row → (Pp → A) → R) : R := natK (rdX fr x) (fun m => Bool.rec (motive := fun _ => R) none (repK z m .e (nat_lit 0) (fun t n => K (.c ty n t) (fun r => .s r (nat_lit 0) m))) (Nat.ble (Nat.mul (Nat.succ by_) m) (nat_lit 140737488355328)))
def aMm (fr : T V) (K : Row → (Pp → A) → R) : R := K (.m []) (fun r => .m r)
def exA (o : OA) : T V → (Row → (Pp → A) → R) → R := OA.rec (motive := fun _ => T V → (Row → (Pp → A) → R) → R) aAl aBx aBs aMs aMm o
def AH.newK (h : AH) (row : Row) (K : Pp → AH → R) : R := h.rows.setK .d row h.nx (fun t => h.nx.succK (fun q => K h.nx ⟨q, t⟩))
def AH.putK (h : AH) (r : Pp) (row : Row) (K : AH → R) : R := h.rows.setK .d row r (fun t => K ⟨h.nx, t⟩)

def cSt (z : Nat) (x y : X) (Γ : Env) (fr : T V) (h : AH) (K : V → AH → R) : R :=
  (rdX fr x).aK (fun a => a.pK (fun r o => (rdX fr y).cK (fun l => (h.row r).cK (fun ty n t => Bool.rec (motive := fun _ => R) none (Ev.putK l t o (fun t' => h.putK r (.c ty n t') (K .x))) (and (Nat.beq (lenA l) z) (Nat.ble (Nat.add o z) n))))))
/-- the row that is appended to: its elder name dies -/
def baseK (h : AH) (ty z : Nat) (a : A) (K : Nat → T A → AH → R) : R :=
  a.sK (K (nat_lit 0) .e h) (fun r o n => (h.row r).cK (fun ty' c t => Bool.rec (motive := fun _ => R) none
    (h.putK r .d (fun h1 => Bool.rec (motive := fun _ => R) (kcellsK t (Nat.mul n z) (nat_lit 0) (fun old => Ev.putK old .e (nat_lit 0) (fun t0 => K n t0 h1))) (K n t h1) (Nat.beq c (Nat.mul n z)))) (and (Nat.beq ty ty') (Nat.beq o (nat_lit 0)))))
def cAp (ty z by_ : Nat) (x y : X) (Γ : Env) (fr : T V) (h : AH) (K : V → AH → R) : R :=
  (rdX fr x).aK (fun a => (rdX fr y).aK (fun b => sliceK h b z (fun l m => Bool.rec (motive := fun _ => R)
    (baseK h ty z a (fun n t0 h1 => Bool.rec (motive := fun _ => R) none (frc (Nat.add n m) (fun q => frc (Nat.mul q z) (fun c => Ev.putK l t0 (Nat.mul n z) (fun t' => h1.newK (.c ty c t') (fun r' h' => K (.a (.s r' (nat_lit 0) q)) h'))))) (Nat.ble (Nat.mul (Nat.add n m) (Nat.succ by_)) (nat_lit 140737488355328))))
    (a.sK (K (.a a) h) (fun _ _ _ => K (.a a) h)) (Nat.beq m (nat_lit 0)))))
def updK (Γ : Env) (ag : Bool) (ks : List Nat) (u v : U) (es : List (U × U)) : (List (U × U) → R) → R :=
  List.rec (motive := fun _ => (List (U × U) → R) → R) (fun K => K [(u, v)]) (fun p l ih K => eqU Γ ag ks u p.1 (fun t => Bool.rec (motive := fun _ => R) (ih (fun l' => K (p :: l'))) (K ((u, v) :: l)) t)) es
def cMu (ag : Bool) (ks : List Nat) (x k v : X) (Γ : Env) (fr : T V) (h : AH) (K : V → AH → R) : R :=
  (rdX fr x).aK (fun a => (rdX fr k).uK (fun u => (rdX fr v).uK (fun w => Bool.rec (motive := fun _ => R) none (a.mK none (fun r => (h.row r).mK (fun es => updK Γ ag ks u w es (fun es' => h.putK r (.m es') (K .x))))) (keyOk ag ks u))))
def cNo (Γ : Env) (fr : T V) (h : AH) (K : V → AH → R) : R := none
def bytesK (n : Nat) : Nat → (List A → R) → R :=
  Nat.rec (motive := fun _ => Nat → (List A → R) → R) (fun _ K => K []) (fun _ ih v K => frc (Nat.mod v (nat_lit 256)) (fun c => frc (Nat.div v (nat_lit 256)) (fun v' => ih v' (fun l => K (.i .u8 (.n c) :: l))))) n
def cSb (x : X) (Γ : Env) (fr : T V) (h : AH) (K : V → AH → R) : R := (rdX fr x).aK (fun a => a.tK (fun s => frc (tlen s) (fun n => bytesK n s (fun l => Ev.putK l .e (nat_lit 0) (fun t => h.newK (.x n t) (fun r h' => K (.a (.s r (nat_lit 0) n)) h'))))))
def cSm (x : X) (Γ : Env) (fr : T V) (h : AH) (K : V → AH → R) : R := (rdX fr x).aK (fun a => a.sK none (fun r o n => (h.row r).cK (fun _ m t => h.putK r (.x m t) (K (.a (.s r o n))))))
def cCl (z : List A) (x : X) (Γ : Env) (fr : T V) (h : AH) (K : V → AH → R) : R :=
  (rdX fr x).aK (fun a => a.sK (K (.t []) h) (fun r o n => Bool.rec (motive := fun _ => R) ((h.row r).cK (fun ty m t => Bool.rec (motive := fun _ => R) none (repK z n t o (fun t' _ => h.putK r (.c ty m t') (K (.t [])))) (Nat.ble (Nat.add o (Nat.mul n (lenA z))) m))) (K (.t []) h) (Nat.beq n (nat_lit 0))))
def exC (o : OC) : Env → T V → AH → (V → AH → R) → R := OC.rec (motive := fun _ => Env → T V → AH → (V → AH → R) → R) cSt cAp cMu cNo cSb cCl cSm o

/-! code -/
def put (fr : T V) (d : Option Pp) (v : V) (K : T V → R) : R := Option.rec (motive := fun _ => R) (K fr) (fun p => fr.setK .x v p K) d
def gd (fr : T V) (g : Option (Pp × Bool)) (kT kF : R) : R :=
  Option.rec (motive := fun _ => R) kT (fun p => V.rec (motive := fun _ => R) (fun a => a.bK (fun t => Bool.rec (motive := fun _ => R) kF kT (Bool.rec (motive := fun _ => Bool) (not p.2) p.2 t))) (fun _ => none) (fun _ => none) kF (fr.get .x p.1)) g
abbrev Rn := RC → T V → AH → (E → T V → AH → R) → R
def bindK (ps : List Pp) : List V → T V → (T V → R) → R :=
  List.rec (motive := fun _ => List V → T V → (T V → R) → R) (fun vs fr K => List.rec (motive := fun _ => R) (K fr) (fun _ _ _ => none) vs) (fun p _ ih vs fr K => List.rec (motive := fun _ => R) none (fun v r _ => fr.setK .x v p (fun fr' => ih r fr' K)) vs) ps
def argsB (ps : List Pp) : List V → T V → (T V → R) → R :=
  List.rec (motive := fun _ => List V → T V → (T V → R) → R) (fun vs fr K => List.rec (motive := fun _ => R) (K fr) (fun _ _ _ => none) vs) (fun p _ ih vs fr K => List.rec (motive := fun _ => R) none (fun v r _ => fr.setK .x v p (fun fr' => ih r fr' K)) vs) ps
def resU (fr : T V) (h : AH) (r : RR) (K : U → R) : R :=
  RR.rec (motive := fun _ => R) (fun p => (fr.get .x p).uK K)
    (fun p => (fr.get .x p).aK (fun a => a.pK (fun r o => (h.row r).cK (fun _ _ t => cellK t o (fun a => a.knK (fun a => K (.a a)))))))
    (fun p n => (fr.get .x p).aK (fun a => a.pK (fun r o => (h.row r).cK (fun _ _ t => kcellsK t n o (fun l => K (.g l)))))) r
def resL (fr : T V) (h : AH) (rs : List RR) : (List U → R) → R :=
  List.rec (motive := fun _ => (List U → R) → R) (fun K => K []) (fun r _ ih K => resU fr h r (fun u => ih (fun l => K (u :: l)))) rs
def resK (fr : T V) (h : AH) (rs : List RR) (K : V → R) : R :=
  resL fr h rs (fun l => List.rec (motive := fun _ => R) (K (.t [])) (fun u r _ => List.rec (motive := fun _ => R) (K u.v) (fun _ _ _ => K (.t l)) r) l)
def isN (e : E) (a : R) (b : R) : R := E.rec (motive := fun _ => R) a (fun _ => b) b (fun _ => b) e
/-- the end of a function -/
def endK (rs : List RR) (e : E) (fr : T V) (h : AH) (K : V → AH → R) (KP : A → AH → R) : R :=
  E.rec (motive := fun _ => R) (resK fr h rs (fun v => K v h)) (fun _ => none) (resK fr h rs (fun v => K v h)) (fun a => KP a h) e
def capV (c : List (Pp × Nat)) : List V := List.rec (motive := fun _ => List V) [] (fun p _ ih => .a (.p p.1 p.2) :: ih) c
/-- a deferred function whose body begins with recover -/
def rvH (c : RC) (K : Pp → Option Pp → R) : R :=
  RC.rec (motive := fun _ => R) none (fun _ => none) (fun _ => none) (fun _ _ _ _ => none) (fun _ _ _ _ _ => none) (fun _ _ _ => none) (fun _ _ => none) (fun _ => none) none (fun _ _ _ => none) (fun _ _ _ _ => none) K c
def rvB (c : RC) (K : Pp → Option Pp → Option RC → RC → R) : R :=
  RC.rec (motive := fun _ => R) none (fun _ => none) (fun _ => none) (fun a b _ _ => RC.rec (motive := fun _ => R) none (fun _ => none) (fun _ => none) (fun x y _ _ => rvH x (fun d m => K d m (some y) b)) (fun _ _ _ _ _ => none) (fun _ _ _ => none) (fun _ _ => none) (fun _ => none) none (fun _ _ _ => none) (fun _ _ _ _ => none) (fun d m => K d m none b) a)
    (fun _ _ _ _ _ => none) (fun _ _ _ => none) (fun _ _ => none) (fun _ => none) none (fun _ _ _ => none) (fun _ _ _ _ => none) (fun _ _ => none) c
def rvT (rn : Rn) (oa : Option RC) (b : RC) (fr : T V) (h : AH) (k : E → T V → AH → R) : R :=
  Option.rec (motive := fun _ => R) (rn b fr h k) (fun a => rn a fr h (fun e f h' => isN e (rn b f h' k) (k e f h'))) oa
def defR (Γ : Env) (rn : Rn) (f : Nat) (cp : List (Pp × Nat)) (a : A) (fr : T V) (h : AH) (rs : List RR) (K : V → AH → R) (KP : A → AH → R) : R :=
  toPK (nat_lit 20) f (fun fp => Option.rec (motive := fun _ => R) none (fun g => Bool.rec (motive := fun _ => R) none (argsB g.ps (capV cp) .e (fun gr => rvB g.body (fun d m oa b => gr.setK .x (.a a) d (fun gr0 => put gr0 m (.a a) (fun gr1 => rvT rn oa b gr1 h (fun e gr2 h' => E.rec (motive := fun _ => R) (resK gr2 h' g.res (fun _ => resK fr h' rs (fun v => K v h'))) (fun _ => none) (resK gr2 h' g.res (fun _ => resK fr h' rs (fun v => K v h'))) (fun a => KP a h') e)))))) g.nr) (Γ.fns.get none fp))
def defK (Γ : Env) (rn : Rn) (f : Nat) (cp : List (Pp × Nat)) (e : E) (fr : T V) (h : AH) (rs : List RR) (K : V → AH → R) (KP : A → AH → R) : R :=
  E.rec (motive := fun _ => R) (defR Γ rn f cp .q0 fr h rs K KP) (fun _ => none) (defR Γ rn f cp .q0 fr h rs K KP) (fun a => defR Γ rn f cp a fr h rs K KP) e
/-- operations that look at no memory, one after the other -/
def prK (l : List I) : Env → T V → (T V → R) → R :=
  List.rec (motive := fun _ => Env → T V → (T V → R) → R) (fun _ fr K => K fr) (fun i _ ih Γ fr K => I.rec (motive := fun _ => R) (fun d g o => gd fr g (exP o Γ fr (fun v => fr.setK .x v d (fun f => ih Γ f K))) none) (fun _ _ _ => none) (fun _ _ _ => none) (fun _ _ _ => none) (fun _ _ _ _ _ => none) (fun _ _ _ _ => none) (fun _ _ => none) i) l
/-- a body that defers a function -/
abbrev MD := Env → Rn → List RR → T V → AH → (V → AH → R) → (A → AH → R) → R
def bodyD (c : RC) : MD :=
  RC.rec (motive := fun _ => MD) (fun _ _ _ _ _ _ _ => none) (fun _ _ _ _ _ _ _ _ => none) (fun _ _ _ _ _ _ _ _ => none)
    (fun a _ _ ih Γ rn rs fr h K KP => rn a fr h (fun e fr' h' => isN e (ih Γ rn rs fr' h' K KP) (endK rs e fr' h' K KP)))
    (fun _ _ _ _ _ _ _ _ _ _ _ _ => none) (fun _ _ _ _ _ _ _ _ _ _ => none) (fun _ _ _ _ _ _ _ _ _ => none) (fun _ _ _ _ _ _ _ _ => none) (fun _ _ _ _ _ _ _ => none) (fun _ _ _ _ _ _ _ _ _ _ => none)
    (fun l x b _ Γ rn rs fr h K KP => prK l Γ fr (fun fr1 => (rdX fr1 x).aK (fun c => c.fK (fun f cp => rn b fr1 h (fun e fr2 h2 => defK Γ rn f cp e fr2 h2 rs K KP)) (fun _ => none))))
    (fun _ _ _ _ _ _ _ _ _ => none) c
def eqbC (l : List (Pp × Nat)) : List (Pp × Nat) → Bool :=
  List.rec (motive := fun _ => List (Pp × Nat) → Bool) (fun m => List.rec (motive := fun _ => Bool) true (fun _ _ _ => false) m) (fun a _ ih m => List.rec (motive := fun _ => Bool) false (fun b m' _ => and (and (a.1.eqb b.1) (Nat.beq a.2 b.2)) (ih m')) m) l
def eqbA (a b : A) : Bool :=
  A.rec (motive := fun _ => Bool) 
    (fun k e => A.rec (motive := fun _ => Bool) (fun k' e' => and (Nat.beq (ikK k) (ikK k')) (e.eqb e')) (fun _ => false) false (fun _ _ _ => false) false (fun _ _ => false) false (fun _ => false) false (fun _ _ => false) (fun _ => false) (fun _ => false) false (fun _ _ _ => false) false (fun _ _ => false) (fun _ _ => false) b) 
    (fun x => A.rec (motive := fun _ => Bool) (fun _ _ => false) (fun y => not (xor x y)) false (fun _ _ _ => false) false (fun _ _ => false) false (fun _ => false) false (fun _ _ => false) (fun _ => false) (fun _ => false) false (fun _ _ _ => false) false (fun _ _ => false) (fun _ _ => false) b) 
    (A.rec (motive := fun _ => Bool) (fun _ _ => false) (fun _ => false) true (fun _ _ _ => false) false (fun _ _ => false) false (fun _ => false) false (fun _ _ => false) (fun _ => false) (fun _ => false) false (fun _ _ _ => false) false (fun _ _ => false) (fun _ _ => false) b) 
    (fun r o n => A.rec (motive := fun _ => Bool) (fun _ _ => false) (fun _ => false) false (fun r' o' n' => and (r.eqb r') (and (Nat.beq o o') (Nat.beq n n'))) false (fun _ _ => false) false (fun _ => false) false (fun _ _ => false) (fun _ => false) (fun _ => false) false (fun _ _ _ => false) false (fun _ _ => false) (fun _ _ => false) b) 
    (A.rec (motive := fun _ => Bool) (fun _ _ => false) (fun _ => false) false (fun _ _ _ => false) true (fun _ _ => false) false (fun _ => false) false (fun _ _ => false) (fun _ => false) (fun _ => false) false (fun _ _ _ => false) false (fun _ _ => false) (fun _ _ => false) b) 
    (fun r o => A.rec (motive := fun _ => Bool) (fun _ _ => false) (fun _ => false) false (fun _ _ _ => false) false (fun r' o' => and (r.eqb r') (Nat.beq o o')) false (fun _ => false) false (fun _ _ => false) (fun _ => false) (fun _ => false) false (fun _ _ _ => false) false (fun _ _ => false) (fun _ _ => false) b) 
    (A.rec (motive := fun _ => Bool) (fun _ _ => false) (fun _ => false) false (fun _ _ _ => false) false (fun _ _ => false) true (fun _ => false) false (fun _ _ => false) (fun _ => false) (fun _ => false) false (fun _ _ _ => false) false (fun _ _ => false) (fun _ _ => false) b) 
    (fun r => A.rec (motive := fun _ => Bool) (fun _ _ => false) (fun _ => false) false (fun _ _ _ => false) false (fun _ _ => false) false (fun r' => r.eqb r') false (fun _ _ => false) (fun _ => false) (fun _ => false) false (fun _ _ _ => false) false (fun _ _ => false) (fun _ _ => false) b) false 
    (fun k c => A.rec (motive := fun _ => Bool) (fun _ _ => false) (fun _ => false) false (fun _ _ _ => false) false (fun _ _ => false) false (fun _ => false) false (fun k' c' => and (Nat.beq k k') (eqbC c c')) (fun _ => false) (fun _ => false) false (fun _ _ _ => false) false (fun _ _ => false) (fun _ _ => false) b) (fun _ => false) 
    (fun l => A.rec (motive := fun _ => Bool) (fun _ _ => false) (fun _ => false) false (fun _ _ _ => false) false (fun _ _ => false) false (fun _ => false) false (fun _ _ => false) (fun _ => false) (fun l' => Nat.beq l l') false (fun _ _ _ => false) false (fun _ _ => false) (fun _ _ => false) b) 
    (A.rec (motive := fun _ => Bool) (fun _ _ => false) (fun _ => false) false (fun _ _ _ => false) false (fun _ _ => false) false (fun _ => false) false (fun _ _ => false) (fun _ => false) (fun _ => false) true (fun _ _ _ => false) false (fun _ _ => false) (fun _ _ => false) b) (fun _ _ _ => false) false (fun _ _ => false) (fun _ _ => false) a
def eqbL (l : List A) : List A → Bool :=
  List.rec (motive := fun _ => List A → Bool) (fun m => List.rec (motive := fun _ => Bool) true (fun _ _ _ => false) m) (fun a _ ih m => List.rec (motive := fun _ => Bool) false (fun b m' _ => and (eqbA a b) (ih m')) m) l
def eqbU (u v : U) : Bool := U.rec (motive := fun _ => Bool) (fun a => U.rec (motive := fun _ => Bool) (fun b => eqbA a b) (fun _ => false) v) (fun l => U.rec (motive := fun _ => Bool) (fun _ => false) (fun m => eqbL l m) v) u
def eqbUL (l : List U) : List U → Bool :=
  List.rec (motive := fun _ => List U → Bool) (fun m => List.rec (motive := fun _ => Bool) true (fun _ _ _ => false) m) (fun a _ ih m => List.rec (motive := fun _ => Bool) false (fun b m' _ => and (eqbU a b) (ih m')) m) l
def eqbV (u v : V) : Bool :=
  V.rec (motive := fun _ => Bool) (fun a => V.rec (motive := fun _ => Bool) (fun b => eqbA a b) (fun _ => false) (fun _ => false) false v) (fun l => V.rec (motive := fun _ => Bool) (fun _ => false) (fun m => eqbL l m) (fun _ => false) false v)
    (fun l => V.rec (motive := fun _ => Bool) (fun _ => false) (fun _ => false) (fun m => eqbUL l m) false v) false u
def eqbVL (l : List V) : List V → Bool :=
  List.rec (motive := fun _ => List V → Bool) (fun m => List.rec (motive := fun _ => Bool) true (fun _ _ _ => false) m) (fun a _ ih m => List.rec (motive := fun _ => Bool) false (fun b m' _ => and (eqbV a b) (ih m')) m) l
/-- calls of which the answer is known, whatever the memory -/
def pcL (l : List (List V × V)) : KF := fun vs h kH kM => List.rec (motive := fun _ => R) kM (fun p _ ih => Bool.rec (motive := fun _ => R) ih (kH p.2 h) (eqbVL p.1 vs)) l
def callB (Γ : Env) (rn : Rn) (fp : Pp) (vs : List V) (h : AH) (K : V → AH → R) (KP : A → AH → R) : R :=
  Option.rec (motive := fun _ => R) none (fun f => argsB f.ps vs .e (fun fr => Bool.rec (motive := fun _ => R) (rn f.body fr h (fun e fr' h' => endK f.res e fr' h' K KP)) (Bool.rec (motive := fun _ => R) none (bodyD f.body Γ rn f.res fr h K KP) f.nr) f.df)) (Γ.fns.get none fp)
def callK (Γ : Env) (rn : Rn) (fp : Pp) (vs : List V) (h : AH) (K : V → AH → R) (KP : A → AH → R) : R := Option.rec (motive := fun _ => R) (callB Γ rn fp vs h K KP) (fun F => F vs h K (callB Γ rn fp vs h K KP)) (Γ.pc.get none fp)
def xsK (fr : T V) (xs : List X) : (List V → R) → R := List.rec (motive := fun _ => (List V → R) → R) (fun K => K []) (fun x _ ih K => (rdX fr x).frc (fun v => ih (fun l => K (v :: l)))) xs
def appV (l m : List V) : List V := List.rec (motive := fun _ => List V) m (fun v _ ih => v :: ih) l
def Row.lK (r : Row) (K : Nat → T V → List Pp → Pp → E → R) : R := Row.rec (motive := fun _ => R) none (fun _ _ _ => none) (fun _ => none) K (fun _ _ => none) (fun _ => none) r
def isO (e : E) (a : R) (b : R) : R := E.rec (motive := fun _ => R) a (fun _ => b) b (fun _ => none) e
/-- a round of a range over a function -/
def roundK (Γ : Env) (rn : Rn) (r : Pp) (vs : List V) (h : AH) (K : V → AH → R) : R :=
  (h.row r).lK (fun st fr ps id pe => Bool.rec (motive := fun _ => R) none
    (Option.rec (motive := fun _ => R) none (fun s => bindK ps vs fr (fun fr1 => rn s.a fr1 h (fun e fr2 h2 => isN e
      ((h2.row r).lK (fun st2 fr2' ps2 id2 pe2 => Bool.rec (motive := fun _ => R) none (h2.putK r (.l (nat_lit 1) fr2' ps2 id2 pe2) (fun h3 => rn s.b fr2 h3 (fun e' _ h4 =>
        (h4.row r).lK (fun _ fr4 ps4 id4 _ => isO e' (h4.putK r (.l (nat_lit 0) fr4 ps4 id4 .nrm) (K (.a (.b true)))) (h4.putK r (.l (nat_lit 2) fr4 ps4 id4 e') (K (.a (.b false)))))))) (Nat.beq st2 (nat_lit 0)))) none))) (Γ.sites.get none id)) (Nat.beq st (nat_lit 0)))
abbrev KN := T V → AH → R
abbrev KQ := A → T V → AH → R
def funK (Γ : Env) (rn : Rn) (v : V) (vs : List V) (h : AH) (K : V → AH → R) (KP : A → AH → R) : R :=
  v.aK (fun a => a.fK (fun f c => toPK (nat_lit 20) f (fun fp => callK Γ rn fp (appV vs (capV c)) h K KP)) (fun r => roundK Γ rn r vs h K))
def iP (d : Pp) (g : Option (Pp × Bool)) (o : OP) (Γ : Env) (rn : Rn) (fr : T V) (h : AH) (K : KN) (KP : KQ) : R := gd fr g (exP o Γ fr (fun v => fr.setK .x v d (fun f => K f h))) (fr.setK .x .x d (fun f => K f h))
def iR (d : Pp) (g : Option (Pp × Bool)) (o : OR) (Γ : Env) (rn : Rn) (fr : T V) (h : AH) (K : KN) (KP : KQ) : R := gd fr g (exR o Γ fr h (fun v => fr.setK .x v d (fun f => K f h))) (fr.setK .x .x d (fun f => K f h))
def iA (d : Pp) (g : Option (Pp × Bool)) (o : OA) (Γ : Env) (rn : Rn) (fr : T V) (h : AH) (K : KN) (KP : KQ) : R := gd fr g (exA o fr (fun row mk => h.newK row (fun r h' => fr.setK .x (.a (mk r)) d (fun f => K f h')))) (fr.setK .x .x d (fun f => K f h))
def iC (d : Option Pp) (g : Option (Pp × Bool)) (o : OC) (Γ : Env) (rn : Rn) (fr : T V) (h : AH) (K : KN) (KP : KQ) : R := gd fr g (exC o Γ fr h (fun v h' => put fr d v (fun f => K f h'))) (put fr d .x (fun f => K f h))
def iK (d : Option Pp) (g : Option (Pp × Bool)) (f : Nat) (fp : Pp) (xs : List X) (Γ : Env) (rn : Rn) (fr : T V) (h : AH) (K : KN) (KP : KQ) : R :=
  gd fr g (xsK fr xs (fun vs => callK Γ rn fp vs h (fun v h' => put fr d v (fun f => K f h')) (fun a h' => KP a fr h'))) (put fr d .x (fun f => K f h))
def iV (d : Option Pp) (g : Option (Pp × Bool)) (x : X) (xs : List X) (Γ : Env) (rn : Rn) (fr : T V) (h : AH) (K : KN) (KP : KQ) : R :=
  gd fr g (xsK fr xs (fun vs => funK Γ rn (rdX fr x) vs h (fun v h' => put fr d v (fun f => K f h')) (fun a h' => KP a fr h'))) (put fr d .x (fun f => K f h))
def iZ (g : Option (Pp × Bool)) (x : X) (Γ : Env) (rn : Rn) (fr : T V) (h : AH) (K : KN) (KP : KQ) : R :=
  gd fr g ((rdX fr x).aK (fun a => a.qK none (fun t k e => KP (.q t k e) fr h))) (K fr h)
def exI (i : I) : Env → Rn → T V → AH → KN → KQ → R := I.rec (motive := fun _ => Env → Rn → T V → AH → KN → KQ → R) iP iR iA iC iK iV iZ i
def regK (l : List I) : Env → Rn → T V → AH → KN → KQ → R :=
  List.rec (motive := fun _ => Env → Rn → T V → AH → KN → KQ → R) (fun _ _ fr h K _ => K fr h) (fun i _ ih Γ rn fr h K KP => exI i Γ rn fr h (fun fr' h' => ih Γ rn fr' h' K KP) KP) l
/-- reads that are looked at again -/
structure Pe where
  o : OR
  fr : T V
  v : V
  nx : Pp
def Pp.nat (p : Pp) : Nat := Pp.rec (motive := fun _ => Nat) (nat_lit 0) (fun _ n => Nat.succ (Nat.mul (nat_lit 2) n)) (fun _ n => Nat.succ (Nat.succ (Nat.mul (nat_lit 2) n))) p
/-- a value speaks of names below n alone -/
def belC (n : Nat) (l : List (Pp × Nat)) : Bool := List.rec (motive := fun _ => Bool) true (fun p _ ih => and (Nat.ble (Nat.succ p.1.nat) n) ih) l
def belA (n : Nat) (a : A) : Bool := A.rec (motive := fun _ => Bool) (fun _ _ => true) (fun _ => true) true (fun r _ _ => Nat.ble (Nat.succ r.nat) n) true (fun r _ => Nat.ble (Nat.succ r.nat) n) true (fun r => Nat.ble (Nat.succ r.nat) n) true (fun _ c => belC n c) (fun r => Nat.ble (Nat.succ r.nat) n) (fun _ => true) true (fun _ _ _ => true) true (fun r _ => Nat.ble (Nat.succ r.nat) n) (fun r _ => Nat.ble (Nat.succ r.nat) n) a
def belL (n : Nat) (l : List A) : Bool := List.rec (motive := fun _ => Bool) true (fun a _ ih => and (belA n a) ih) l
def belU (n : Nat) (u : U) : Bool := U.rec (motive := fun _ => Bool) (fun a => belA n a) (fun l => belL n l) u
def belUL (n : Nat) (l : List U) : Bool := List.rec (motive := fun _ => Bool) true (fun a _ ih => and (belU n a) ih) l
def belV (n : Nat) (v : V) : Bool := V.rec (motive := fun _ => Bool) (fun a => belA n a) (fun l => belL n l) (fun l => belUL n l) true v
def chkK (Γ : Env) (h : AH) (cs : List Bool) : List (Option Pe) → R → R :=
  List.rec (motive := fun _ => List (Option Pe) → R → R) (fun _ k => k)
    (fun c _ ih ps k => List.rec (motive := fun _ => R) k (fun q r _ => Bool.rec (motive := fun _ => R) (ih r k) (Option.rec (motive := fun _ => R) (ih r k) (fun p => exR p.o Γ p.fr h (fun v => Bool.rec (motive := fun _ => R) none (ih r k) (and (eqbV v p.v) (belV p.nx.nat p.v)))) q) c) ps) cs
/-- behind an operation that changes memory -/
def cnK (Γ : Env) (cs : List Bool) (ps : List (Option Pe)) (h h' : AH) (k : R) : R := Bool.rec (motive := fun _ => R) none (chkK Γ h' cs ps k) (Nat.ble h.nx.nat h'.nx.nat)
def anN (i : Nat) (l : List Nat) : Bool := List.rec (motive := fun _ => Bool) false (fun j _ ih => or (Nat.beq i j) ih) l
def anAll (i : Nat) (l : List D) : Bool := List.rec (motive := fun _ => Bool) true (fun d _ ih => and (anN i d.an) ih) l
/-- a region that draws: H is the memory behind the last operation that changed it, h that with the new rows -/
def drwI (i : I) (cs : List Bool) : Env → Rn → List (Option Pe) → T V → AH → AH → (List (Option Pe) → T V → AH → AH → R) → (A → AH → R) → R :=
  I.rec (motive := fun _ => Env → Rn → List (Option Pe) → T V → AH → AH → (List (Option Pe) → T V → AH → AH → R) → (A → AH → R) → R)
    (fun d g o Γ rn ps fr H h K _ => iP d g o Γ rn fr h (fun fr' _ => K ps fr' H h) (fun _ _ _ => none))
    (fun d g o Γ rn ps fr H h K _ => gd fr g (exR o Γ fr H (fun v => fr.setK .x v d (fun f => K (some ⟨o, fr, v, h.nx⟩ :: ps) f H h))) (fr.setK .x .x d (fun f => K (none :: ps) f H h)))
    (fun d g o Γ rn ps fr H h K _ => iA d g o Γ rn fr h (fun fr' h' => K ps fr' H h') (fun _ _ _ => none))
    (fun d g o Γ rn ps fr H h K KP => iC d g o Γ rn fr h (fun fr' h' => cnK Γ cs ps h h' (K ps fr' h' h')) (fun a _ h' => KP a h'))
    (fun d g f fp xs Γ rn ps fr H h K KP => iK d g f fp xs Γ rn fr h (fun fr' h' => cnK Γ cs ps h h' (K ps fr' h' h')) (fun a _ h' => KP a h'))
    (fun d g x xs Γ rn ps fr H h K KP => iV d g x xs Γ rn fr h (fun fr' h' => cnK Γ cs ps h h' (K ps fr' h' h')) (fun a _ h' => KP a h')) (fun _ _ _ _ _ _ _ _ _ _ => none) i
def drwK (l : List D) : Env → Rn → List (Option Pe) → T V → AH → AH → (T V → AH → R) → (A → AH → R) → R :=
  List.rec (motive := fun _ => Env → Rn → List (Option Pe) → T V → AH → AH → (T V → AH → R) → (A → AH → R) → R) (fun _ _ _ fr _ h K _ => K fr h) (fun d r ih Γ rn ps fr H h K KP => drwI d.i d.chk Γ rn ps fr H h (fun ps' fr' H' h' => ih Γ rn ps' fr' H' h' K KP) (fun a h' => Bool.rec (motive := fun _ => R) none (KP a h') (anAll d.ix r))) l

abbrev KE := E → T V → AH → R
def cSkip (Γ : Env) (rn : Rn) (fr : T V) (h : AH) (k : KE) : R := k .nrm fr h
def cReg (l : List I) (Γ : Env) (rn : Rn) (fr : T V) (h : AH) (k : KE) : R := regK l Γ rn fr h (fun f h => k .nrm f h) (fun a f h => k (.pn a) f h)
def cDrw (l : List D) (Γ : Env) (rn : Rn) (fr : T V) (h : AH) (k : KE) : R := drwK l Γ rn [] fr h h (fun f h => k .nrm f h) (fun a h => k (.pn a) .e h)
def cSeq (a b : RC) (_ _ : Env → Rn → T V → AH → KE → R) (Γ : Env) (rn : Rn) (fr : T V) (h : AH) (k : KE) : R := rn a fr h (fun e f h => isN e (rn b f h k) (k e f h))
def cCond (x : X) (a b : RC) (_ _ : Env → Rn → T V → AH → KE → R) (Γ : Env) (rn : Rn) (fr : T V) (h : AH) (k : KE) : R := (rdX fr x).aK (fun v => v.bK (fun t => Bool.rec (motive := fun _ => R) (rn b fr h k) (rn a fr h k) t))
def outOf (i : Nat) (e : E) (f : T V) (h : AH) (k : KE) : R := E.rec (motive := fun _ => R) (k .nrm f h) (fun j => Bool.rec (motive := fun _ => R) (k (.ex j) f h) (k .nrm f h) (Nat.beq j i)) (k .rt f h) (fun a => k (.pn a) f h) e
def cBlk (i : Nat) (c : RC) (_ : Env → Rn → T V → AH → KE → R) (Γ : Env) (rn : Rn) (fr : T V) (h : AH) (k : KE) : R := rn c fr h (fun e f h => outOf i e f h k)
def cLoop (c : RC) (_ : Env → Rn → T V → AH → KE → R) (Γ : Env) (rn : Rn) (fr : T V) (h : AH) (k : KE) : R := rn c fr h (fun e f h => isN e (rn (.loop c) f h k) (k e f h))
def cEx (i : Nat) (Γ : Env) (rn : Rn) (fr : T V) (h : AH) (k : KE) : R := k (.ex i) fr h
def cRt (Γ : Env) (rn : Rn) (fr : T V) (h : AH) (k : KE) : R := k .rt fr h
def cRf (x : X) (ps : List Pp) (id : Pp) (Γ : Env) (rn : Rn) (fr : T V) (h : AH) (k : KE) : R :=
  h.newK (.l (nat_lit 0) fr ps id .nrm) (fun r h1 => (rdX fr x).aK (fun v => v.fK (fun f c => toPK (nat_lit 20) f (fun fp => callK Γ rn fp (.a (.y r) :: capV c) h1 (fun _ h2 => (h2.row r).lK (fun st _ _ _ e => Bool.rec (motive := fun _ => R) (isO e (h2.putK r .d (k e fr)) (h2.putK r .d (k e fr))) none (Nat.beq st (nat_lit 1)))) (fun _ _ => none))) (fun _ => none)))
def cDf (l : List I) (x : X) (b : RC) (_ : Env → Rn → T V → AH → KE → R) (Γ : Env) (rn : Rn) (fr : T V) (h : AH) (k : KE) : R := none
def cRv (d : Pp) (m : Option Pp) (Γ : Env) (rn : Rn) (fr : T V) (h : AH) (k : KE) : R := none
def runS (c : RC) : Env → Rn → T V → AH → KE → R := RC.rec (motive := fun _ => Env → Rn → T V → AH → KE → R) cSkip cReg cDrw cSeq cCond cBlk cLoop cEx cRt cRf cDf cRv c
def run (Γ : Env) (n : Nat) : Rn := Nat.rec (motive := fun _ => Rn) (fun _ _ _ _ => none) (fun _ ih c fr h k => runS c Γ ih fr h k) n
def call (Γ : Env) (n : Nat) (fp : Pp) (vs : List V) (h : AH) (K : V → AH → R) : R := callK Γ (run Γ n) fp vs h K (fun _ _ => none)
end
end Go.Ev
