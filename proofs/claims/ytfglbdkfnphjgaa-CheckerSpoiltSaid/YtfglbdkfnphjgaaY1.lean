/- Plain words: a computation that answers, with what its answer is known to be. -/
import Derived.Test.YtfglbdkfnphjgaaLa
import Derived.Test.YtfglbdkfnphjgaaLb
set_option linter.unusedVariables false
namespace Go.Fw
open Go.RowKit
def kI {α:Type} (x:Option α) (P:α→Prop):Prop:=∃ v,x=some v∧P v
def oK {σ ρ:Type} (G:σ→Prop) (O:ρ→Prop):Ld σ ρ→Prop
 | .go s=>G s
 | .out r=>O r
section
variable {α β γ σ ρ:Type} {P:α→Prop}
theorem kI.mk {v:α} (h:P v):kI (some v) P:=⟨v,rfl,h⟩
theorem kI.bd {x:Option β} {f:β→Option α} {Q:β→Prop} (h:kI x Q) (k:∀ v,Q v→kI (f v) P):kI (x.bind f) P:=by
 obtain ⟨v,rfl,hv⟩:=h
 exact k v hv
theorem kI.bp {x:Option (β × γ)} {f:β→γ→Option α} {Q:β→γ→Prop} (h:kI x (fun r=>iA r Q)) (k:∀ a b,Q a b→kI (f a b) P):kI (x.bind fun r=>iA r f) P:=by
 obtain ⟨⟨a,b⟩,rfl,hv⟩:=h
 exact k a b hv
theorem kI.pp {r:β × γ} {f:β→γ→Option α} {Q:β→γ→Prop} (h:iA r Q) (k:∀ a b,Q a b→kI (f a b) P):kI (iA r f) P:=by
 obtain ⟨a,b⟩:=r
 exact k a b h
theorem kI.ite {c:Prop} [Decidable c] {a b:Option α} (h1:c→kI a P) (h2:¬ c→kI b P):kI (if c then a else b) P:=by
 by_cases h:c
 · rw [if_pos h];exact h1 h
 · rw [if_neg h];exact h2 h
theorem kI.el {x:Option (Ld σ ρ)} {f:σ→Option α} {g:ρ→Option α} {G:σ→Prop} {O:ρ→Prop} (h:kI x (oK G O)) (h1:∀ s,G s→kI (f s) P) (h2:∀ o,O o→kI (g o) P):kI (x.bind fun r=>r.el f g) P:=by
 obtain ⟨v,rfl,hv⟩:=h
 cases v with
 | go s=>exact h1 s hv
 | out o=>exact h2 o hv
theorem kI.eo {x:Option (Ld σ α)} {f:σ→Option α} {G:σ→Prop} (h:kI x (oK G P)) (h1:∀ s,G s→kI (f s) P):kI (x.bind fun r=>r.el f fun o=>some o) P:=h.el h1 fun o ho=>.mk ho
theorem kI.Cv {τ:Type} {x:Option (Ld σ ρ)} {f:σ→Option (Ld τ ρ)} {G:σ→Prop} {G':τ→Prop} {O:ρ→Prop} (h:kI x (oK G O)) (h1:∀ s,G s→kI (f s) (oK G' O)):kI (x.bind fun r=>r.el f fun o=>some (.out o)) (oK G' O):=h.el h1 fun o ho=>.mk ho
theorem kI.imp {x:Option α} {Q:α→Prop} (h:kI x Q) (k:∀ v,Q v→P v):kI x P:=by
 obtain ⟨v,h1,h2⟩:=h
 exact ⟨v,h1,k v h2⟩
theorem kI.go {s:σ} {G:σ→Prop} {O:ρ→Prop} (h:G s):kI (some (Ld.go s)) (oK G O):=⟨_,rfl,h⟩
theorem kI.out {r:ρ} {G:σ→Prop} {O:ρ→Prop} (h:O r):kI (some (Ld.out r)) (oK G O):=⟨_,rfl,h⟩
theorem kI.ix {l:List α} {i:Int} (h0:0≤i) (h1:i < l.length):kI (ix l i) (fun x=>l[i.toNat]?=some x):=by
 obtain ⟨x,hx⟩:=lL (l:=l) (k:=i.toNat) (by omega)
 refine ⟨x,?_,hx⟩
 unfold Go.Fw.ix
 rw [if_neg (by omega),hx]
theorem kI.app {l m:List α} (h:l.length+m.length≤1000000000):kI (app l m) (fun r=>r=l ++ m):=⟨_,if_pos h,rfl⟩
theorem kI.sl {l:List α} {a b:Int} (h:0≤a∧a≤b∧b≤l.length):kI (sl l a b) (fun r=>r=(l.drop a.toNat).take (b - a).toNat):=⟨_,if_pos h,rfl⟩
theorem kI.st {l:List α} {i:Int} {x:α} (h:0≤i∧i < l.length):kI (st l i x) (fun r=>r=l.set i.toNat x):=⟨_,if_pos h,rfl⟩
theorem kI.qw {s t:ByteArray} (h:s.size+t.size≤1000000000):kI (qw s t) (fun r=>r=s ++ t):=⟨_,if_pos h,rfl⟩
theorem kI.AQ {s:ByteArray} {i:Int} (h0:0≤i) (h1:i < s.size):kI (AQ s i) (fun x=>0≤x∧x≤255):=by
 unfold Go.Fw.AQ
 rw [if_neg (by omega)]
 have h:i.toNat < s.size:=by omega
 refine ⟨((s[i.toNat].toNat:Nat):Int),?_,by omega,?_⟩
 · rw [getElem?_pos s i.toNat h];rfl
 · have:=s[i.toNat].toNat_lt;omega
theorem kI.KA {s:ByteArray} {a b:Int} (h:0≤a∧a≤b∧b≤s.size):kI (KA s a b) (fun r=>r=s.extract a.toNat b.toNat):=⟨_,if_pos h,rfl⟩
theorem kI.Qu {x:Option β} {f:β→Option α} {Q:β→Prop} (h:kI x Q) (k:∀ v,x=some v→Q v→kI (f v) P):kI (x.bind f) P:=by
 obtain ⟨v,rfl,hv⟩:=h
 exact k v rfl hv
end
theorem lD {n:Int} (h1:-9000000000000000000≤n) (h2:n≤9000000000000000000):wr n=n:=by
 unfold wr
 exact Tj (by omega) (by omega)
theorem Bf (s t:ByteArray):(s ++ t).size=s.size+t.size:=ByteArray.size_append ..
end Go.Fw
set_option linter.unusedVariables false
set_option linter.unusedSimpArgs false
namespace Go.Proofs.Ytfglbdkfnphjgaa
open Go.RowKit Go.Fw
structure TL (l:List kv):Prop where
 len:l.length≤5000
 last:∀ (k:Nat) (t:kv),k+1=l.length→l[k]?=some t→t.e=0
 name:∀ (k:Nat) (t:kv),l[k]?=some t→t.e=1→t.a≠(⟨#[]⟩:ByteArray)
structure PS (S:jy):Prop where
 tl:TL S.l
 lo:0≤S.a
 hi:S.a < S.l.length
structure Nx (S S':jy):Prop where
 l:S'.l=S.l
 lo:S.a≤S'.a
 hi:S'.a < S.l.length
 e:S'.e=0→S.e=0
theorem Nx.ps {S S':jy} (h:PS S) (k:Nx S S'):PS S':=⟨by rw [k.l];exact h.tl,by have:=h.lo;have:=k.lo;omega,by rw [k.l];exact k.hi⟩
theorem Nx.rfl' {S:jy} (h:PS S):Nx S S:=⟨rfl,Int.le_refl _,h.hi,id⟩
theorem Nx.trans {S S' S2:jy} (h:Nx S S') (k:Nx S' S2):Nx S S2:=⟨k.l.trans h.l,Int.le_trans h.lo k.lo,by rw [← h.l];exact k.hi,fun z=>h.e (k.e z)⟩
theorem Nx.step {S:jy} (h:PS S) (k:S.a+1 < S.l.length):Nx S ⟨S.l,wr (S.a+1),S.c,S.e⟩:=by
 have:=h.lo;have:=h.tl.len
 have hw:wr (S.a+1)=S.a+1:=lD (by omega) (by omega)
 exact ⟨rfl,by dsimp only;omega,by dsimp only;omega,id⟩
theorem PS.FT {S:jy} (h:PS S):wr (S.a+1)=S.a+1:=by
 have:=h.lo;have:=h.tl.len;have:=h.hi
 exact lD (by omega) (by omega)
theorem PS.more {S:jy} (h:PS S) {t:kv} (ht:S.l[S.a.toNat]?=some t) (hk:t.e≠0):S.a+1 < S.l.length:=by
 have:=h.lo;have:=h.hi
 by_cases hc:S.a.toNat+1=S.l.length
 · exact absurd (h.tl.last _ t hc ht) hk
 · omega
theorem BG {S:jy} {fu:Nat} {e:Int} (h:PS S) (he:e≠0):kI (qC fu S e) (fun S'=>Nx S S'∧S'.e≠0∧S'.a=S.a):=by
 unfold qC
 refine .ite (fun c=>?_) (fun c=>?_)
 · refine .bd (.ix h.lo h.hi) fun t ht=>.mk ⟨⟨rfl,Int.le_refl _,h.hi,fun z=>absurd z he⟩,he,rfl⟩
 · exact .mk ⟨Nx.rfl' h,c,rfl⟩
theorem Bh {S:jy} {fu:Nat} {s:ByteArray} (h:PS S):kI (nk fu S 0 s) (fun b=>b=true→S.a+1 < S.l.length):=by
 unfold nk
 have hw:wr (S.a+0)=S.a:=by have:=h.lo;have:=h.hi;have:=h.tl.len;rw [Int.add_zero];exact lD (by omega) (by omega)
 rw [hw]
 refine .ite (fun c=>.mk fun z=>by cases z) (fun c=>?_)
 refine .bd (.ix h.lo h.hi) fun t ht=>?_
 refine .ite (fun c=>.mk fun _=>h.more ht (by omega)) (fun c=>?_)
 exact .ite (fun c=>.mk fun _=>h.more ht (by omega)) (fun c=>.mk fun z=>by cases z)
theorem Un {S:jy} {fu:Nat} {s:ByteArray} (h:PS S):kI (nk fu S 1 s) (fun b=>True):=by
 unfold nk
 rw [h.FT]
 refine .ite (fun c=>.mk trivial) (fun c=>?_)
 have:=h.lo
 refine .bd (.ix (by omega) (by omega)) fun t ht=>?_
 refine .ite (fun c=>.mk trivial) (fun c=>?_)
 exact .ite (fun c=>.mk trivial) (fun c=>.mk trivial)
theorem Bu {S:jy} {fu:Nat} {k:Int} (h:PS S):kI (qz fu S 0 k) (fun b=>∃ t,S.l[S.a.toNat]?=some t∧(b=true→t.e=k)∧(t.e=k→b=true)∧(b=true→k≠0→S.a+1 < S.l.length)):=by
 unfold qz
 have hw:wr (S.a+0)=S.a:=by have:=h.lo;have:=h.hi;have:=h.tl.len;rw [Int.add_zero];exact lD (by omega) (by omega)
 rw [hw]
 refine .ite (fun c=>?_) (fun c=>absurd h.hi c)
 refine .bd (.ix h.lo h.hi) fun t ht=>.mk ⟨t,ht,fun z=>of_decide_eq_true z,fun z=>decide_eq_true z,fun z hk=>h.more ht (by have:=of_decide_eq_true z;omega)⟩
def Tk (S S':jy):Prop:=Nx S S'∧(S'.e=0→S'.a=S.a+1)
theorem uK {S:jy} {fu:Nat} {s:ByteArray} (h:PS S):kI (lY fu S s) (Tk S):=by
 unfold lY
 refine .ite (fun c=>.mk ⟨Nx.rfl' h,fun z=>absurd z c⟩) (fun c=>?_)
 refine .bd (Bh h) fun b hb=>?_
 refine .ite (fun d=>?_) (fun d=>?_)
 · refine .bd (BG h (by decide)) fun S' hS=>.mk ⟨hS.1,fun z=>absurd z hS.2.1⟩
 · exact .mk ⟨Nx.step h (hb (by simpa using d)),fun _=>h.FT⟩
theorem Bb {S:jy} {fu:Nat} (h:PS S):kI (pY fu S) (fun r=>iA r fun n S'=>Tk S S'∧(S'.e=0→n≠(⟨#[]⟩:ByteArray))∧(S.e=0→(∃ t,S.l[S.a.toNat]?=some t∧t.e=1)→S'.e=0)):=by
 unfold pY
 refine .ite (fun c=>.mk ⟨⟨Nx.rfl' h,fun z=>absurd z c⟩,fun z=>absurd z c,fun z=>absurd z c⟩) (fun c=>?_)
 refine .bd (Bu h) fun b hb=>?_
 obtain ⟨t,ht,hb1,hb3,hb2⟩:=hb
 refine .ite (fun d=>?_) (fun d=>?_)
 · refine .bd (BG h (by decide)) fun S' hS=>.mk ⟨⟨hS.1,fun z=>absurd z hS.2.1⟩,fun z=>absurd z hS.2.1,fun _ ⟨t2,ht2,hk⟩=>?_⟩
   rw [ht] at ht2
   obtain rfl:=Option.some.inj ht2
   rw [hb3 hk] at d
   cases d
 · have hw:wr (wr (S.a+1) - 1)=S.a:=by rw [h.FT];have:=h.lo;have:=h.hi;have:=h.tl.len;rw [lD (by omega) (by omega)];omega
   rw [hw]
   refine .bd (.ix h.lo h.hi) fun t2 ht2=>.mk ⟨⟨Nx.step h (hb2 (by simpa using d) (by decide)),fun _=>h.FT⟩,fun _=>?_,fun z _=>z⟩
   rw [ht] at ht2
   obtain rfl:=Option.some.inj ht2
   exact h.tl.name _ _ ht (hb1 (by simpa using d))
theorem F7 {fu:Nat} {O:List ByteArray × jy→Prop}:∀ (n:Nat) (out:List ByteArray) (S:jy),PS S→S.l.length+1≤n+S.a→(S.e=0→(out.length:Int)≤S.a)→
  kI (tq fu n out S.l S.a S.c S.e) (oK (fun r=>iA r fun o r=>iA r fun a r=>iA r fun b r=>iA r fun c d=>Nx S ⟨a,b,c,d⟩∧(d=0→(o.length:Int)≤b)) O)
 | 0,out,S,h,hn,ho=>by have:=h.hi;omega
 | n+1,out,S,h,hn,ho=>by
  rw [tq]
  refine .ite (fun c=>?_) (fun c=>.go ⟨Nx.rfl' h,ho⟩)
  refine .bd (Bh h) fun b hb=>?_
  refine .ite (fun d=>?_) (fun d=>.go ⟨Nx.rfl' h,ho⟩)
  refine .bd (uK h) fun S1 h1=>?_
  refine .bp (Bb (h1.1.ps h)) fun nm S2 h2=>?_
  have hl:=h.tl.len;have:=h.hi
  refine .bd (.app (by have:=ho c;simp only [List.length_cons,List.length_nil];omega)) fun r hr=>?_
  have k:=h1.1.trans h2.1.1
  by_cases z:S2.e=0
  · have z1:S1.a=S.a+1:=h1.2 (h2.1.1.e z)
    have z2:=h2.1.2 z
    refine (F7 (O:=O) n r S2 (k.ps h) (by rw [k.l];dsimp only;omega) fun _=>?_).imp fun v hv=>?_
    · subst hr;have:=ho c;simp only [List.length_append,List.length_cons,List.length_nil];omega
    · obtain v | v:=v
      · obtain ⟨o,a,b,c,d⟩:=v
        exact ⟨k.trans hv.1,hv.2⟩
      · exact hv
  · cases n with
    | zero=>have:S.a≤S1.a:=h1.1.lo;have:=h2.1.1.lo;omega
    | succ n=>
      rw [tq,if_neg z]
      exact .go ⟨k,fun y=>absurd y z⟩
theorem Ni {fu:Nat} {S:jy} (h:PS S) (hf:S.l.length+1≤fu):kI (xD fu S) (fun r=>iA r fun n S'=>Nx S S'∧(S'.e=0→n.length≤5000∧S.a < S'.a)):=by
 unfold xD
 refine .bp (Bb h) fun n S1 h1=>?_
 have h2:=h1.1.1.ps h
 have h3:=h2.lo;have h4:=h.lo;have h5:=h2.tl.len
 refine .eo (F7 fu [n] S1 h2 (by rw [h1.1.1.l];omega) fun z=>?_) fun s hs=>?_
 · have:=h1.1.2 z;simp only [List.length_cons,List.length_nil];omega
 · refine .pp hs fun o r hs=>.pp hs fun a r hs=>.pp hs fun b r hs=>.pp hs fun c d hs=>.mk ⟨h1.1.1.trans hs.1,fun z=>?_⟩
   have k1:=hs.2 z;have k2:=hs.1.hi;have k3:=hs.1.lo
   have k4:=h1.1.2 (hs.1.e z)
   dsimp only at k2 k3 ⊢
   omega
theorem NQ {fu:Nat} {S:jy} (h:PS S):kI (yl fu S) (fun b=>b=true→S.a+1 < S.l.length):=by
 unfold yl
 refine .bd (Bu h) fun b ⟨t,ht,hb,_,hb2⟩=>.ite (fun c=>.mk fun _=>hb2 c (by decide)) fun c=>?_
 refine .bd (Bu h) fun b ⟨t,ht,hb,_,hb2⟩=>.ite (fun c=>.mk fun _=>hb2 c (by decide)) fun c=>?_
 refine .bd (Bh h) fun b hb=>.ite (fun c=>.mk fun _=>hb c) fun c=>?_
 refine .bd (Bh h) fun b hb=>.ite (fun c=>.mk fun _=>hb c) fun c=>?_
 exact .bd (Bh h) fun b hb=>.mk hb
theorem FX {fu:Nat} {S:jy} (h:PS S):∀ (l:List ByteArray) (k:Nat),k+l.length≤12→kI (sQ fu S l k) (oK (fun _=>True) (fun r=>iA r fun n op=>S.a+1 < S.l.length))
 | [],_,_=>.go trivial
 | u :: r,k,hk=>by
  rw [sQ]
  rw [List.length_cons] at hk
  refine .bd (Bh h) fun b hb=>.ite (fun c=>?_) fun c=>FX h r (k+1) (by omega)
  refine .bd (.ix (by omega) (by simp only [List.length_cons,List.length_nil];omega)) fun e he=>.out (hb c)
theorem PX {fu:Nat} {S:jy} (h:PS S):kI (zx fu S) (fun r=>iA r fun n op=>n≠0→S.a+1 < S.l.length):=by
 unfold zx
 refine .el (FX h _ 0 (by decide)) (fun _ _=>.mk fun z=>absurd rfl z) fun o ho=>.mk ?_
 obtain ⟨n,op⟩:=o
 exact fun _=>ho
theorem Oo {fu:Nat} {S:jy} (h:PS S):kI (uT fu S) (fun b=>b=true→∃ t,S.l[S.a.toNat]?=some t∧t.e=1):=by
 unfold uT
 refine .bd (Bu h) fun b ⟨t,ht,hb,_,hb2⟩=>.ite (fun c=>?_) fun c=>.mk fun z=>by cases z
 exact .bd (Un h) fun b2 _=>.mk fun _=>⟨t,ht,hb c⟩
theorem EY {fu:Nat} {S:jy} (h:PS S):∀ (l:List ByteArray) (k:Nat),kI (ry fu S l k) (oK (fun _=>True) (fun r=>S.a+1 < S.l.length))
 | [],_=>.go trivial
 | u :: r,k=>by
  rw [ry]
  exact .bd (Bh h) fun b hb=>.ite (fun c=>.out (hb c)) fun c=>EY h r (k+1)
theorem Pg {fu:Nat} {S:jy} (h:PS S):kI (xZ fu S) (fun b=>b=true→S.a+1 < S.l.length):=by
 unfold xZ
 refine .el (EY h _ 0) (fun _ _=>?_) fun o ho=>.mk fun _=>ho
 exact .bd (Bu h) fun b ⟨t,ht,hb,_,hb2⟩=>.mk fun c=>hb2 c (by decide)
def Af:Nat→jL→Prop
 | 0,_=>False
 | n+1,x=>x.b.length≤5000∧∀ y ∈ x.b,Af n y
theorem Af.mono:∀ {n m:Nat} {x:jL},Af n x→n≤m→Af m x
 | 0,_,_,h,_=>h.elim
 | n+1,0,_,h,k=>by omega
 | n+1,m+1,x,h,k=>⟨h.1,fun y hy=>Af.mono (h.2 y hy) (by omega)⟩
theorem Af.leaf {x:jL} (h:x.b=[]):Af 1 x:=⟨by rw [h];decide,fun y hy=>by rw [h] at hy;cases hy⟩
theorem Af.two {n:Nat} {x y z:jL} (hx:Af n x) (hy:Af n y) (h:z.b=[x,y]):Af (n+1) z:=⟨by rw [h];exact (by decide:2≤5000),fun q hq=>by
 rw [h] at hq
 simp only [List.mem_cons,List.not_mem_nil,or_false] at hq
 rcases hq with rfl | rfl
 · exact hx
 · exact hy⟩
theorem Af.one {n:Nat} {x z:jL} (hx:Af n x) (h:z.b=[x]):Af (n+1) z:=⟨by rw [h];exact (by decide:1≤5000),fun q hq=>by
 rw [h] at hq
 simp only [List.mem_cons,List.not_mem_nil,or_false] at hq
 subst hq
 exact hx⟩
def EP (S:jy) (x:jL) (S':jy):Prop:=Nx S S'∧(S'.e=0→S.a < S'.a∧∃ n:Nat,(n:Int)≤S'.a - S.a∧Af n x)
theorem EP.VJ {S S1:jy} {x:jL} (h:EP S x S1):EP S ⟨x.e,x.d,x.j,x.a,x.c,x.b⟩ ⟨S1.l,S1.a,S1.c,S1.e⟩:=by cases x;cases S1;exact h
def Nv (f:jy→Int→Int→Option (jL × jy)) (fu:Nat):Prop:=∀ S least nest,PS S→1≤least→least≤5→0≤nest→nest≤9→S.l.length+10 * (10 - nest)+(6 - least)≤(fu:Int)→kI (f S least nest) (fun r=>iA r (EP S))
def Ua (f:jy→Int→Option (jL × jy)) (fu:Nat):Prop:=∀ S nest,PS S→0≤nest→nest≤9→S.l.length+10 * (10 - nest)≤(fu:Int)→kI (f S nest) (fun r=>iA r (EP S))
def Vn (f:jy→Int→Option (jL × jy)) (fu:Nat):Prop:=∀ S nest,PS S→0≤nest→nest≤8→S.l.length+10 * (10 - nest)≤(fu:Int)+1→kI (f S nest) (fun r=>iA r fun x S'=>EP S x S'∧1≤x.e∧x.e≤3)
section
variable {fu:Nat} {f:jy→Int→Int→Option (jL × jy)} {g t:jy→Int→Option (jL × jy)}
theorem IB (hf:Nv f fu) {least nest:Int} (h1:1≤least) (h2:least≤5) (h3:0≤nest) (h4:nest≤9) {S0:jy} (h0:PS S0) (hb:S0.l.length+10 * (10 - nest)+(6 - least)≤(fu:Int)+1) :
  ∀ (n:Nat) (x:jL) (S:jy),S0.l.length+1≤n+S.a→EP S0 ⟨x.e,x.d,x.j,x.a,x.c,x.b⟩ ⟨S.l,S.a,S.c,S.e⟩→
  kI (qj fu f g t least nest n x.e x.d x.j x.a x.c x.b S.l S.a S.c S.e)
   (oK (fun r=>iA r fun a r=>iA r fun b r=>iA r fun c r=>iA r fun d r=>iA r fun e r=>iA r fun f r=>iA r fun g r=>iA r fun h r=>iA r fun i j=>EP S0 ⟨a,b,c,d,e,f⟩ ⟨g,h,i,j⟩) (fun r=>iA r (EP S0)))
 | 0,x,S,hn,hx=>by have:=hx.1.hi;dsimp only at this;omega
 | n+1,x,S,hn,hx=>by
  rw [qj]
  have hS:=hx.1.ps h0
  refine .ite (fun c=>?_) (fun c=>.go hx)
  refine .ite (fun c2=>?_) (fun c=>.go hx)
  refine .bp (PX hS) fun lv op hl=>?_
  refine .ite (fun d=>.out hx) (fun d=>?_)
  have hl:=hl (by omega)
  have hs:=Nx.step hS hl
  have hw:wr (least+1)=least+1:=lD (by omega) (by omega)
  rw [hw]
  refine .bp (hf _ _ _ (hs.ps hS) (by omega) (by omega) h3 h4 (by rw [hs.l,hx.1.l];omega)) fun y S1 hy=>?_
  have hx':EP S0 ⟨op,0,0,be,be,[⟨x.e,x.d,x.j,x.a,x.c,x.b⟩,y]⟩ S1:=by
   refine ⟨(hx.1.trans hs).trans hy.1,fun z=>?_⟩
   obtain ⟨a1,n1,a2,a3⟩:=hy.2 z
   obtain ⟨b1,n2,b2,b3⟩:=hx.2 c
   have hw:wr (S.a+1)=S.a+1:=hS.FT
   dsimp only at a1 a2
   rw [hw] at a1 a2
   dsimp only at b1 b2
   exact ⟨by omega,max n1 n2+1,by omega,Af.two (b3.mono (by omega)) (a3.mono (by omega)) rfl⟩
  refine .ite (fun c3=>.out hx') fun c3=>?_
  refine IB hf h1 h2 h3 h4 h0 hb n ⟨op,0,0,be,be,_⟩ S1 ?_ hx'
  have:=hy.1.lo
  have hw:wr (S.a+1)=S.a+1:=hS.FT
  dsimp only at this
  omega
theorem S9 (hf:Nv f fu) (hg:Ua g fu):Nv (uM fu f g t) (fu+1):=by
 intro S least nest h h1 h2 h3 h4 hb
 unfold uM
 have hA:kI (uG fu f g t S least nest) (oK (fun r=>iA r fun a r=>iA r fun b r=>iA r fun c r=>iA r fun d r=>iA r fun e r=>iA r fun f r=>iA r fun g r=>iA r fun h r=>iA r fun i j=>EP S ⟨a,b,c,d,e,f⟩ ⟨g,h,i,j⟩) (fun r=>iA r (EP S))):=by
  unfold uG
  refine .ite (fun c=>?_) (fun c=>?_)
  · exact .bp (hg S nest h h3 h4 (by omega)) fun x S1 hx=>.go hx.VJ
  · have hw:wr (least+1)=least+1:=lD (by omega) (by omega)
    rw [hw]
    exact .bp (hf S _ nest h (by omega) (by omega) h3 h4 (by omega)) fun x S1 hx=>.go hx.VJ
 refine .eo hA fun s hs=>?_
 refine .pp hs fun a r hs=>.pp hs fun b r hs=>.pp hs fun c r hs=>.pp hs fun d r hs=>.pp hs fun e r hs=>.pp hs fun f' r hs=>.pp hs fun g' r hs=>.pp hs fun h' r hs=>.pp hs fun i j hs=>?_
 have:=h.lo;have:=hs.1.lo
 dsimp only at this
 refine .eo (IB hf h1 h2 h3 h4 h (by omega) fu ⟨a,b,c,d,e,f'⟩ ⟨g',h',i,j⟩ (by dsimp only;omega) hs) fun s hs=>?_
 exact .pp hs fun a r hs=>.pp hs fun b r hs=>.pp hs fun c r hs=>.pp hs fun d r hs=>.pp hs fun e r hs=>.pp hs fun f' r hs=>.pp hs fun g' r hs=>.pp hs fun h' r hs=>.pp hs fun i j hs=>.mk hs
theorem Hr (hg:Ua g fu) {S:jy} {nest:Int} (h:PS S) (h3:0≤nest) (h4:nest≤8) (hb:S.l.length+10 * (9 - nest)≤(fu:Int)):∀ (l:List ByteArray) (k:Nat),
  kI (sW fu f g t S nest l k) (oK (fun _=>True) (fun r=>iA r (EP S)))
 | [],_=>.go trivial
 | u :: r,k=>by
  rw [sW]
  refine .bd (Bh h) fun b hb2=>.ite (fun c=>?_) fun c=>Hr hg h h3 h4 hb r (k+1)
  have hs:=Nx.step h (hb2 c)
  have hw:wr (nest+1)=nest+1:=lD (by omega) (by omega)
  rw [hw]
  refine .bp (hg _ _ (hs.ps h) (by omega) (by omega) (by dsimp only;omega)) fun x S1 hx=>.out ⟨hs.trans hx.1,fun z=>?_⟩
  obtain ⟨a1,n1,a2,a3⟩:=hx.2 z
  have hw:wr (S.a+1)=S.a+1:=h.FT
  dsimp only at a1 a2
  rw [hw] at a1 a2
  exact ⟨by omega,n1+1,by omega,Af.one a3 rfl⟩
theorem PU (hf:Nv f fu) (hg:Ua g fu) (ht:Vn t fu):Ua (zG fu f g t) (fu+1):=by
 intro S nest h h3 h4 hb
 unfold zG
 refine .ite (fun c=>.mk ⟨Nx.rfl' h,fun z=>absurd z c⟩) fun c=>?_
 refine .bd (NQ h) fun b hb2=>.ite (fun d=>?_) fun d=>?_
 · exact .bd (BG h (by decide)) fun S1 h1=>.mk ⟨h1.1,fun z=>absurd z h1.2.1⟩
 have hm:=hb2 (by simpa using d)
 have hs:=Nx.step h hm
 have hw:wr (S.a+1)=S.a+1:=h.FT
 refine .ite (fun d=>?_) fun d=>?_
 · exact .bd (BG h (by decide)) fun S1 h1=>.mk ⟨h1.1,fun z=>absurd z h1.2.1⟩
 refine .eo (Hr hg h h3 (by omega) (by omega) _ 0) fun _ _=>?_
 refine .bd (Bu h) fun b _=>.ite (fun c2=>?_) fun c2=>?_
 · have hw2:wr (wr (S.a+1) - 1)=S.a:=by rw [hw];have:=h.lo;have:=h.hi;have:=h.tl.len;rw [lD (by omega) (by omega)];omega
   rw [hw2]
   refine .bd (.ix h.lo h.hi) fun e he=>.mk ⟨hs,fun _=>?_⟩
   dsimp only
   rw [hw]
   exact ⟨by omega,1,by omega,Af.leaf rfl⟩
 refine .bd (Bh h) fun b _=>.ite (fun c3=>?_) fun c3=>?_
 · have hwn:wr (nest+1)=nest+1:=lD (by omega) (by omega)
   rw [hwn]
   refine .bp (hf _ _ _ (hs.ps h) (by decide) (by decide) (by omega) (by omega) (by dsimp only;omega)) fun x S1 hx=>?_
   refine .bd (uK ((hs.trans hx.1).ps h)) fun S2 h2=>.mk ⟨(hs.trans hx.1).trans h2.1,fun z=>?_⟩
   obtain ⟨a1,n1,a2,a3⟩:=hx.2 (h2.1.e z)
   have:=h2.1.lo
   dsimp only at a1 a2
   rw [hw] at a1 a2
   exact ⟨by omega,n1,by omega,a3⟩
 · exact .bp (ht S nest h h3 (by omega) (by omega)) fun x S1 hx=>.mk hx.1
theorem Po (hf:Nv f fu):Vn (xG fu f g t) (fu+1):=by
 intro S nest h h3 h4 hb
 unfold xG
 refine .bp (Bb h) fun n S1 h1=>?_
 have hS1:=h1.1.1.ps h
 have hl:=h1.1.1.l
 have hw:S1.e=0→wr (S1.a+1)=S1.a+1:=fun _=>hS1.FT
 have hJ:kI (wS fu f g t n S1) (oK (fun _=>True) (fun r=>iA r fun x S'=>EP S x S'∧1≤x.e∧x.e≤3)):=by
  unfold wS
  refine .ite (fun c=>?_) fun c=>.go trivial
  refine .bd (Bh hS1) fun b hb2=>.ite (fun d=>?_) fun d=>.go trivial
  have hs:=Nx.step hS1 (hb2 d)
  refine .bp (Bb (hs.ps hS1)) fun n2 S2 h2=>.out ⟨⟨(h1.1.1.trans hs).trans h2.1.1,fun z=>?_⟩,by dsimp only;omega,by dsimp only;omega⟩
  have a1:=h1.1.2 c;have a2:=h2.1.1.lo
  dsimp only at a2
  rw [hw c] at a2
  exact ⟨by omega,1,by omega,Af.leaf rfl⟩
 have hend:∀ x:jL,x.b=[]→EP S x S1:=fun x hx=>⟨h1.1.1,fun z=>by have a1:=h1.1.2 z;exact ⟨by omega,1,by omega,Af.leaf hx⟩⟩
 refine .eo hJ fun _ _=>?_
 refine .ite (fun c=>?_) fun c=>.mk ⟨hend _ rfl,by dsimp only;omega,by dsimp only;omega⟩
 refine .bd (Bh hS1) fun b hb2=>.ite (fun d=>?_) fun d=>.mk ⟨hend _ rfl,by dsimp only;omega,by dsimp only;omega⟩
 have hs:=Nx.step hS1 (hb2 d)
 have hwn:wr (nest+1)=nest+1:=lD (by omega) (by omega)
 rw [hwn]
 refine .bp (hf _ _ _ (hs.ps hS1) (by decide) (by decide) (by omega) (by omega) (by dsimp only;rw [hl];omega)) fun x S2 hx=>?_
 refine .bd (uK ((hs.trans hx.1).ps hS1)) fun S3 h3=>.mk ⟨⟨(h1.1.1.trans (hs.trans hx.1)).trans h3.1,fun z=>?_⟩,by dsimp only;omega,by dsimp only;omega⟩
 obtain ⟨a1,n1,a2,a3⟩:=hx.2 (h3.1.e z)
 have a4:=h1.1.2 c;have a5:=h3.1.lo
 dsimp only at a1 a2
 rw [hw c] at a1 a2
 exact ⟨by omega,n1+1,by omega,Af.one a3 rfl⟩
end
theorem xM:∀ fu:Nat,Nv (mJ fu) fu∧Ua (zw fu) fu∧Vn (uS fu) fu
 | 0=>by
  refine ⟨fun S a b h _ _ _ _ hb=>?_,fun S b h _ _ hb=>?_,fun S b h _ _ hb=>?_⟩
  all_goals have:=h.hi;have:=h.lo;omega
 | fu+1=>⟨S9 (xM fu).1 (xM fu).2.1,PU (xM fu).1 (xM fu).2.1 (xM fu).2.2,Po (xM fu).1⟩
end Go.Proofs.Ytfglbdkfnphjgaa
set_option linter.unusedVariables false
set_option linter.unusedSimpArgs false
namespace Go.Proofs.Ytfglbdkfnphjgaa
open Go.RowKit Go.Fw
structure Shape (x:jM):Prop where
 decl:x.e=1→x.d=[]∧x.b=[]∧x.f=[]∧x.i=[]∧x.k=be
 call:x.e=3→x.k≠be∧∀ y ∈ x.d,1≤y.e∧y.e≤3
 func:x.k≠be→(x.e=3 ∨ x.e=6)∧x.f=[]∧x.i=[]
 type:0 < x.m→x.g=be
 kind:1≤x.e∧x.e≤10
 ret:x.e=6→x.d=[]
def CJ (E:Nat):Nat→jM→Prop
 | 0,_=>False
 | n+1,x=>(x.d.length≤1∧∀ y ∈ x.d,Af E y)∧(x.b.length≤5000∧∀ y ∈ x.b,Af E y)∧(x.f.length≤5000∧∀ y ∈ x.f,CJ E n y)∧(x.i.length≤5000∧∀ y ∈ x.i,CJ E n y)∧Shape x
theorem CJ.mono {E:Nat}:∀ {n m:Nat} {x:jM},CJ E n x→n≤m→CJ E m x
 | 0,_,_,h,_=>h.elim
 | n+1,0,_,h,k=>by omega
 | n+1,m+1,x,h,k=>⟨h.1,h.2.1,⟨h.2.2.1.1,fun y hy=>CJ.mono (h.2.2.1.2 y hy) (by omega)⟩,⟨h.2.2.2.1.1,fun y hy=>CJ.mono (h.2.2.2.1.2 y hy) (by omega)⟩,h.2.2.2.2⟩
theorem nK {α:Type} {p:α→Prop} {b:Nat}:([]:List α).length≤b∧∀ y ∈ ([]:List α),p y:=⟨Nat.zero_le _,fun y hy=>by cases hy⟩
theorem BK {α:Type} {p:α→Prop} {b:Nat} {x:α} (h:p x) (hb:1≤b):[x].length≤b∧∀ y ∈ [x],p y:=⟨hb,fun y hy=>by
 simp only [List.mem_cons,List.not_mem_nil,or_false] at hy;subst hy;exact h⟩
theorem EP.ok {S S':jy} {x:jL} (h:PS S) (k:EP S x S') (z:S'.e=0):Af S.l.length x:=by
 obtain ⟨a,n,b,c⟩:=k.2 z
 exact c.mono (by have:=k.1.hi;have:=h.lo;omega)
theorem I6 {fu:Nat} {S0:jy} (h0:PS S0) (hf:S0.l.length+105≤fu) {O:List jL × jy→Prop}:∀ (n:Nat) (out:List jL) (S:jy),Nx S0 S→S0.l.length+1≤n+S.a→(S.e=0→(out.length:Int)≤S.a∧∀ y ∈ out,Af S0.l.length y)→
  1≤n→kI (qy fu n S.l S.a S.c S.e out) (oK (fun r=>iA r fun a r=>iA r fun b r=>iA r fun c r=>iA r fun d o=>Nx S ⟨a,b,c,d⟩∧(d=0→(o.length:Int)≤b∧∀ y ∈ o,Af S0.l.length y)) O)
 | 0,out,S,h,hn,ho,h1=>by omega
 | n+1,out,S,h,hn,ho,_=>by
  have hS:=h.ps h0
  rw [qy]
  refine .ite (fun c=>?_) (fun c=>.go ⟨Nx.rfl' hS,ho⟩)
  refine .bd (Bh hS) fun b hb=>?_
  refine .ite (fun d=>?_) (fun d=>.go ⟨Nx.rfl' hS,ho⟩)
  have hs:=Nx.step hS (hb d)
  have hw:wr (S.a+1)=S.a+1:=hS.FT
  have hl:S.l=S0.l:=h.l
  refine .bp ((xM fu).1 _ 1 0 (hs.ps hS) (by decide) (by decide) (by decide) (by decide) (by dsimp only;rw [hl];omega)) fun x S1 hx=>?_
  have hlen:=h0.tl.len;have hi:=h.hi
  refine .bd (.app (by have:=(ho c).1;simp only [List.length_cons,List.length_nil];omega)) fun r hr=>?_
  have k:=hs.trans hx.1
  have hat:=hx.1.lo
  dsimp only at hat
  rw [hw] at hat
  have hlo:=h.lo
  have h0lo:=h0.lo
  have hhi:=k.hi
  rw [hl] at hhi
  refine (I6 h0 hf (O:=O) n r S1 (h.trans k) (by omega) (fun z=>?_) (by omega)).imp fun v hv=>?_
  · subst hr
    have:=(ho c).1
    refine ⟨by simp only [List.length_append,List.length_cons,List.length_nil];omega,fun y hy=>?_⟩
    rcases List.mem_append.1 hy with hy | hy
    · exact (ho c).2 y hy
    · simp only [List.mem_cons,List.not_mem_nil,or_false] at hy
      subst hy
      have:=hx.ok (hs.ps hS) z
      dsimp only at this
      rwa [hl] at this
  · obtain v | v:=v
    · obtain ⟨a,b,c,d,o⟩:=v
      exact ⟨k.trans hv.1,hv.2⟩
    · exact hv
theorem RV {fu:Nat} {S:jy} (h:PS S) (hf:S.l.length+105≤fu):kI (ve fu S) (fun r=>iA r fun l S'=>Nx S S'∧(S'.e=0→S.a < S'.a∧l.length≤5000∧∀ y ∈ l,Af S.l.length y)):=by
 unfold ve
 refine .bd (uK h) fun S1 h1=>?_
 have hS1:=h1.1.ps h
 have hl:=h1.1.l
 have hJ:kI (uV fu S1) (oK (fun r=>iA r fun o r=>iA r fun a r=>iA r fun b r=>iA r fun c d=>Nx S1 ⟨a,b,c,d⟩∧(d=0→(o.length:Int)≤b∧∀ y ∈ o,Af S.l.length y)) (fun _=>False)):=by
  unfold uV
  have hnil:Nx S1 ⟨S1.l,S1.a,S1.c,S1.e⟩∧(S1.e=0→(([]:List jL).length:Int)≤S1.a∧∀ y ∈ ([]:List jL),Af S.l.length y):=⟨Nx.rfl' hS1,fun _=>⟨by have:=hS1.lo;simp only [List.length_nil];omega,fun y hy=>by cases hy⟩⟩
  refine .ite (fun c=>?_) fun c=>.go hnil
  refine .bd (Bh hS1) fun b hb=>.ite (fun d=>?_) fun d=>.go hnil
  refine .bp ((xM fu).1 _ 1 0 hS1 (by decide) (by decide) (by decide) (by decide) (by rw [hl];omega)) fun x S2 hx=>?_
  refine .bd (.app (by simp only [List.length_cons,List.length_nil];omega)) fun r hr=>?_
  have h2:=hx.1.ps hS1
  have a1:=hx.1.lo;have a2:=hS1.lo
  refine .Cv (I6 h (by omega) fu r S2 (h1.1.trans hx.1) (by omega) (fun z=>?_) (by omega)) fun s hs=>?_
  · subst hr
    obtain ⟨b1,n,b2,b3⟩:=hx.2 z
    refine ⟨by simp only [List.nil_append,List.length_cons,List.length_nil];omega,fun y hy=>?_⟩
    simp only [List.nil_append,List.mem_cons,List.not_mem_nil,or_false] at hy
    subst hy
    have:=hx.ok hS1 z
    rwa [hl] at this
  · refine .pp hs fun a r hs=>.pp hs fun b r hs=>.pp hs fun c r hs=>.pp hs fun d o hs=>.go ⟨hx.1.trans hs.1,hs.2⟩
 refine .el hJ (fun s hs=>?_) fun _ z=>z.elim
 refine .pp hs fun o r hs=>.pp hs fun a r hs=>.pp hs fun b r hs=>.pp hs fun c d hs=>?_
 refine .bd (uK (hs.1.ps hS1)) fun S3 h3=>.mk ⟨(h1.1.trans hs.1).trans h3.1,fun z=>?_⟩
 have k1:=h3.1.e z
 have k2:=hs.2 k1
 have k3:=h1.2 (hs.1.e k1)
 have k4:=hs.1.lo;have k5:=h3.1.lo;have k6:=hs.1.hi;have k7:=h.tl.len
 dsimp only at k4 k5 k6
 rw [hl] at k6
 exact ⟨by omega,by omega,k2.2⟩
theorem Qh {fu:Nat} {S:jy} {x:jM} (h:PS S) (h1:x.g=be) (h2:x.m=0):kI (zA fu S x) (fun r=>iA r fun S' x'=>Nx S S'∧(S'.e=0→S.a < S'.a∧∃ T L,x'=⟨x.e,x.c,x.n,x.a,T,L,x.j,x.d,x.k,x.h,x.b,x.f,x.i⟩∧(0 < L→T=be))):=by
 obtain ⟨a1,a2,a3,a4,a5,a6,a7,a8,a9,a10,a11,a12,a13⟩:=x
 dsimp only at h1 h2
 subst h1 h2
 unfold zA
 refine .ite (fun c=>.mk ⟨Nx.rfl' h,fun z=>absurd z c⟩) fun c=>?_
 refine .bd (Bh h) fun b hb=>.ite (fun d=>?_) fun d=>?_
 · refine .bp (Bb h) fun n S1 hn=>.mk ⟨hn.1.1,fun z=>?_⟩
   have:=hn.1.2 z
   exact ⟨by omega,n,0,rfl,fun z=>by omega⟩
 have hs:=Nx.step h (hb (by simpa using d))
 have hP:=hs.ps h
 have hw:wr (S.a+1)=S.a+1:=h.FT
 have hlo:=h.lo
 refine .bd (Bh hP) fun b hb=>.ite (fun d=>?_) fun d=>?_
 · exact .mk ⟨hs,fun z=>⟨by dsimp only;omega,be,0,rfl,fun _=>rfl⟩⟩
 have hs2:=Nx.step hP (hb (by simpa using d))
 dsimp only at hs2
 have hP2:=hs2.ps hP
 have hw2:wr (wr (S.a+1)+1)=S.a+2:=by have:=hP.FT;dsimp only at this;rw [this];omega
 refine .bd (Bu hP2) fun b hb=>.ite (fun d=>?_) fun d=>?_
 · refine .bd (BG hP2 (by decide)) fun S1 hS1=>.mk ⟨(hs.trans hs2).trans hS1.1,fun z=>absurd z hS1.2.1⟩
 obtain ⟨tk,htk,_,_,hb⟩:=hb
 have hb:=hb (by simpa using d) (by decide)
 refine .bd (.ix hP2.lo hP2.hi) fun e he=>?_
 have hJ:kI (xI fu e) (oK (fun _=>True) (fun _=>False)):=by
   unfold xI
   exact .ite (fun _=>.go trivial) fun _=>.go trivial
 refine .el hJ (fun s _=>?_) fun _ z=>z.elim
 refine .ite (fun _=>?_) fun _=>?_
 · refine .bd (BG hP2 (by decide)) fun S1 hS1=>.mk ⟨(hs.trans hs2).trans hS1.1,fun z=>absurd z hS1.2.1⟩
 have hs3:=Nx.step hP2 hb
 refine .bd (uK (hs3.ps hP2)) fun S1 hS1=>.mk ⟨((hs.trans hs2).trans hs3).trans hS1.1,fun z=>⟨?_,be,e.d,rfl,fun _=>rfl⟩⟩
 have k1:=hS1.1.lo
 have k2:=hP2.FT
 dsimp only at k1 k2
 rw [k2,hw2] at k1
 omega
theorem Ec {fu:Nat} {S:jy} {x:jM} {call:Bool} (h:PS S) (hf:S.l.length+105≤fu):kI (ul fu S x call) (fun r=>iA r fun S' x'=>Nx S S'∧(S'.e=0→S.a < S'.a∧∃ f a,x'=⟨x.e,x.c,x.n,x.a,x.g,x.m,x.j,x.d,f,x.h,a,x.f,x.i⟩∧(a.length≤5000∧∀ y ∈ a,Af S.l.length y)∧(f=x.k ∨ call=true)∧(call=true→uT fu S=some true→f≠be))):=by
 unfold ul
 have hJ:kI (yj fu S x call) (oK (fun _=>S.e=0→call=true→uT fu S=some true→False) (fun r=>iA r fun S' x'=>Nx S S'∧(S'.e=0→S.a < S'.a∧∃ f a,x'=⟨x.e,x.c,x.n,x.a,x.g,x.m,x.j,x.d,f,x.h,a,x.f,x.i⟩∧(a.length≤5000∧∀ y ∈ a,Af S.l.length y)∧(f=x.k ∨ call=true)∧(call=true→uT fu S=some true→f≠be)))):=by
  unfold yj
  refine .ite (fun c=>?_) fun c=>.go fun z=>absurd z c
  refine .ite (fun c2=>?_) fun c2=>.go fun _ z=>absurd z c2
  refine kI.Qu (Oo h) fun b hb _=>.ite (fun d=>?_) fun d=>.go fun _ _ z=>by rw [hb] at z;exact d (Option.some.inj z)
  refine .bp (Bb h) fun n S1 h1=>?_
  have hS1:=h1.1.1.ps h
  have hl:=h1.1.1.l
  refine .bp (RV hS1 (by rw [hl];omega)) fun a S2 h2=>.out ⟨h1.1.1.trans h2.1,fun z=>?_⟩
  obtain ⟨k1,k2,k3⟩:=h2.2 z
  rw [hl] at k3
  have k4:=h1.1.1.lo
  exact ⟨by omega,n,a,rfl,⟨k2,k3⟩,.inr c2,fun _ _=>h1.2.1 (h2.1.e z)⟩
 refine .eo hJ fun _ hs=>?_
 refine .bp ((xM fu).1 _ 1 0 h (by decide) (by decide) (by decide) (by decide) (by omega)) fun y S1 hy=>.mk ⟨hy.1,fun z=>?_⟩
 exact ⟨(hy.2 z).1,x.k,[y],rfl,BK (hy.ok h z) (by decide),.inl rfl,fun c d=>(hs (hy.1.e z) c d).elim⟩
def TP (N n:Nat) (S:jy) (x:jM) (S':jy):Prop:=Nx S S'∧(S'.e=0→S.a < S'.a∧CJ N n x)
theorem OQ {fu n:Nat} {S:jy} {ln:Int} (h:PS S) (hf:S.l.length+105≤fu):kI (yx fu S ⟨0,ln,0,be,be,0,0,[],be,0,[],[],[]⟩) (fun r=>iA r fun S' x=>TP S.l.length (n+1) S x S'):=by
 unfold yx
 refine kI.Qu (Oo h) fun b hb _=>.ite (fun d=>?_) fun d=>?_
 · subst d
   refine .bp (Ec h hf) fun S1 x h1=>.mk ⟨h1.1,fun z=>?_⟩
   obtain ⟨k1,f,a,rfl,k2,k3,k4⟩:=h1.2 z
   have k5:=k4 rfl hb
   refine ⟨k1,nK,k2,nK,nK,⟨fun z=>(by cases z),fun _=>⟨k5,fun y hy=>(by cases hy)⟩,fun _=>⟨.inl rfl,rfl,rfl⟩,fun z=>absurd z (Int.lt_irrefl 0),(by dsimp only;decide),fun z=>by cases z⟩⟩
 refine .bp ((xM fu).2.2 S 0 h (by decide) (by decide) (by omega)) fun y S1 h1=>?_
 have hS1:=h1.1.1.ps h
 refine .bd (uK hS1) fun S2 h2=>?_
 have hl:S2.l=S.l:=h2.1.l.trans h1.1.1.l
 refine .bp (Ec (h2.1.ps hS1) (by rw [hl];exact hf)) fun S3 x h3=>?_
 have k:=(h1.1.1.trans h2.1).trans h3.1
 have hy:S3.e=0→[y].length≤1∧∀ q ∈ [y],Af S.l.length q:=fun z=>BK (h1.1.ok h (h2.1.e (h3.1.e z))) (Nat.le_refl 1)
 have hat:S3.e=0→S.a < S3.a:=fun z=>by
   have:=(h1.1.2 (h2.1.e (h3.1.e z))).1;have:=h2.1.lo;have:=h3.1.lo;omega
 refine .ite (fun c=>.mk ⟨k,fun z=>?_⟩) fun c=>.mk ⟨k,fun z=>?_⟩
 · obtain ⟨k1,f,a,rfl,k2,k3,k4⟩:=h3.2 z
   rw [hl] at k2
   dsimp only at c
   refine ⟨hat z,hy z,k2,nK,nK,⟨fun z=>(by cases z),fun z=>(by cases z),fun z=>absurd c z,fun z=>absurd z (Int.lt_irrefl 0),(by dsimp only;decide),fun z=>by cases z⟩⟩
 · obtain ⟨k1,f,a,rfl,k2,k3,k4⟩:=h3.2 z
   rw [hl] at k2
   dsimp only at c
   refine ⟨hat z,hy z,k2,nK,nK,⟨fun z=>(by cases z),fun _=>⟨c,fun y' hy'=>?_⟩,fun _=>⟨.inl rfl,rfl,rfl⟩,fun z=>absurd z (Int.lt_irrefl 0),(by dsimp only;decide),fun z=>by cases z⟩⟩
   simp only [List.mem_cons,List.not_mem_nil,or_false] at hy'
   subst hy'
   exact ⟨h1.2.1,h1.2.2⟩
def SA (f:jy→Int→Option ((List jM) × Int × jy)) (fu:Nat):Prop:=∀ S nest,PS S→1≤nest→nest≤9→S.l.length+110+2 * (10 - nest)+1≤(fu:Int)→kI (f S nest) (fun r=>iA r fun l r=>iA r fun _ S'=>(Nx S S'∧(S'.e=0→S.a < S'.a∧l.length≤5000∧∀ y ∈ l,CJ S.l.length (11 - nest).toNat y))∧l.length≤5000)
def Qt (f:jy→Int→Option (jM × jy)) (fu:Nat):Prop:=∀ S nest,PS S→1≤nest→nest≤8→S.l.length+110+2 * (10 - nest)≤(fu:Int)→kI (f S nest) (fun r=>iA r fun x S'=>TP S.l.length (11 - nest).toNat S x S')
section
variable {fu:Nat} {f:jy→Int→Option ((List jM) × Int × jy)} {g:jy→Int→Option (jM × jy)}
theorem BI (hg:Qt g fu) {nest:Int} (h1:1≤nest) (h2:nest≤9) {S0:jy} (h0:PS S0) (hf:S0.l.length+110+2 * (10 - nest)+1≤(fu:Int)+1) {O:(List jM) × Int × jy→Prop}:∀ (n:Nat) (out:List jM) (S:jy),Nx S0 S→(S.e=0→S0.l.length+1≤n+S.a)→1≤n→(S.e=0→(out.length:Int)≤S.a∧∀ y ∈ out,CJ S0.l.length (11 - nest).toNat y)→out.length≤5000→
  kI (qN fu f g nest n out S.l S.a S.c S.e) (oK (fun r=>iA r fun o r=>iA r fun a r=>iA r fun b r=>iA r fun c d=>(Nx S0 ⟨a,b,c,d⟩∧(d=0→(o.length:Int)≤b∧∀ y ∈ o,CJ S0.l.length (11 - nest).toNat y))∧o.length≤5000) O)
 | 0,out,S,h,hn,hn1,ho,hq=>by omega
 | n+1,out,S,h,hn,_,ho,hq=>by
  have hS:=h.ps h0
  have hlen:=h0.tl.len;have hi:=h.hi;have hlo:=hS.lo
  rw [qN]
  refine .ite (fun c=>?_) (fun c=>.go ⟨⟨h,ho⟩,hq⟩)
  have hn:=hn c
  refine .bd (Bh hS) fun b hb=>.ite (fun d=>?_) (fun d=>.go ⟨⟨h,ho⟩,hq⟩)
  refine .bd (Pg hS) fun b hb=>.ite (fun d=>?_) (fun d=>.ite (fun d2=>?_) fun d2=>?_)
  · exact .bd (BG hS (by decide)) fun S1 k=>BI hg h1 h2 h0 hf n out S1 (h.trans k.1) (fun z=>absurd z k.2.1) (by omega) (fun z=>absurd z k.2.1) hq
  · exact .bd (BG hS (by decide)) fun S1 k=>BI hg h1 h2 h0 hf n out S1 (h.trans k.1) (fun z=>absurd z k.2.1) (by omega) (fun z=>absurd z k.2.1) hq
  · refine .bp (hg _ nest hS h1 (by omega) (by dsimp only;rw [h.l];omega)) fun x S1 hx=>?_
    have ho:=ho c
    refine .bd (.app (by simp only [List.length_cons,List.length_nil];omega)) fun r hr=>?_
    refine BI hg h1 h2 h0 hf n r S1 (h.trans hx.1) (fun z=>?_) (by omega) (fun z=>?_) ?_
    · have:=(hx.2 z).1;dsimp only at this;omega
    · have k1:=(hx.2 z).1;have k2:=(hx.2 z).2
      dsimp only at k1 k2
      rw [h.l] at k2
      subst hr
      refine ⟨by simp only [List.length_append,List.length_cons,List.length_nil];omega,fun y hy=>?_⟩
      rcases List.mem_append.1 hy with hy | hy
      · exact ho.2 y hy
      · simp only [List.mem_cons,List.not_mem_nil,or_false] at hy
        subst hy
        exact k2
    · subst hr
      simp only [List.length_append,List.length_cons,List.length_nil]
      omega
theorem Qe (hg:Qt g fu):SA (zH fu f g) (fu+1):=by
 intro S nest h h1 h2 hf
 unfold zH
 refine .bd (uK h) fun S1 hS1=>?_
 have hP:=hS1.1.ps h
 have hlo:=h.lo;have hlo1:=hS1.1.lo;have hi1:=hS1.1.hi
 refine .el (BI (O:=fun _=>False) hg h1 h2 h (by omega) fu [] S1 hS1.1 (fun _=>by omega) (by omega) (fun _=>⟨by simp only [List.length_nil];omega,fun y hy=>by cases hy⟩) (Nat.zero_le _)) (fun s hs=>?_) fun _ z=>z.elim
 refine .pp hs fun o r hs=>.pp hs fun a r hs=>.pp hs fun b r hs=>.pp hs fun c d hs=>?_
 obtain ⟨hs,hq⟩:=hs
 have hP2:=hs.1.ps h
 have hJ:kI (yf fu f g a b d) (oK (fun _=>True) (fun _=>False)):=by
  unfold yf
  exact .ite (fun _=>.bd (.ix hP2.lo hP2.hi) fun _ _=>.go trivial) fun _=>.go trivial
 refine .el hJ (fun ln _=>?_) fun _ z=>z.elim
 refine .bd (uK hP2) fun S3 h3=>.mk ⟨⟨hs.1.trans h3.1,fun z=>?_⟩,hq⟩
 have k0:=h3.1.e z;have k1:=h3.2 z;have k2:=hs.1.lo;have k3:=hs.2 k0;have k4:=hs.1.hi;have k5:=h.tl.len
 dsimp only at k1 k2 k3 k4
 exact ⟨by omega,by omega,k3.2⟩
theorem KO (hf:SA f fu):Qt (uX fu f g) (fu+1):=by
 intro S nest h h1 h2 hfu
 have hlo:=h.lo
 unfold uX
 refine .bd (.ix h.lo h.hi) fun e he=>?_
 have hJ:kI (uR fu f g S e) (oK (fun r=>iA r fun w a=>Nx S ⟨S.l,a,S.c,S.e⟩) (fun _=>False)):=by
   unfold uR
   refine .bd (Bu h) fun b hb=>.ite (fun d=>.go ?_) fun d=>.go (Nx.rfl' h)
   obtain ⟨_,_,_,_,hb⟩:=hb
   exact Nx.step h (hb d (by decide))
 refine .el hJ (fun s hs=>.pp hs fun w a hs=>?_) fun _ z=>z.elim
 have hP:=hs.ps h
 have ha:S.a≤a:=hs.lo
 have hN:(11 - nest).toNat=(10 - nest).toNat+1:=by omega
 have hn:wr (nest+1)=nest+1:=lD (by omega) (by omega)
 have hd:(11 - (nest+1)).toNat=(10 - nest).toNat:=by omega
 rw [hN,hn]
 have blk:∀ S1,Nx S S1→kI (f S1 (nest+1)) (fun r=>iA r fun l r=>iA r fun _ S'=>Nx S1 S'∧(S'.e=0→S1.a < S'.a∧l.length≤5000∧∀ y ∈ l,CJ S.l.length (10 - nest).toNat y)):=fun S1 k=>by
   have:=hf S1 (nest+1) (k.ps h) (by omega) (by omega) (by rw [k.l];omega)
   rw [k.l,hd] at this
   refine this.imp fun v hv=>?_
   obtain ⟨l,b,S2⟩:=v
   exact hv.1
 have expr:∀ S1,Nx S S1→kI (mJ fu S1 1 0) (fun r=>iA r fun x S'=>Nx S1 S'∧(S'.e=0→S1.a < S'.a∧Af S.l.length x)):=fun S1 k=>by
   refine ((xM fu).1 S1 1 0 (k.ps h) (by decide) (by decide) (by decide) (by decide) (by rw [k.l];omega)).imp fun v hv=>?_
   obtain ⟨x,S2⟩:=v
   refine ⟨hv.1,fun z=>⟨(hv.2 z).1,?_⟩⟩
   have:=EP.ok (k.ps h) hv z
   rwa [k.l] at this
 have e1:(0:Int) < 0→be=be:=fun _=>rfl
 have e2:be≠be→∀ {p:Prop},p:=fun z=>absurd rfl z
 refine .ite (fun c=>?_) fun c=>.ite (fun c=>?_) fun c=>.ite (fun c=>?_) fun c=>.ite (fun c=>?_) fun c=>.ite (fun c=>?_) fun c=>.ite (fun c=>?_) fun c=>.ite (fun c=>?_) fun c=>?_
 · -- var
   refine .bp (Bb hP) fun n S1 k1=>?_
   have q1:=hs.trans k1.1.1
   refine .bd (uK (q1.ps h)) fun S2 k2=>?_
   have q2:=q1.trans k2.1
   refine .bp (Qh (q2.ps h) rfl rfl) fun S3 x k3=>?_
   have q3:=q2.trans k3.1
   refine .bd (uK (q3.ps h)) fun S4 k4=>.mk ⟨q3.trans k4.1,fun z=>?_⟩
   have z3:=k4.1.e z
   obtain ⟨a1,T,L,rfl,a2⟩:=k3.2 z3
   have a3:=q2.lo;have a4:=k4.1.lo
   exact ⟨by omega,nK,nK,nK,nK,⟨fun _=>⟨rfl,rfl,rfl,rfl,rfl⟩,fun z=>(by cases z),fun z=>absurd rfl z,a2,(by dsimp only;decide),fun z=>(by cases z)⟩⟩
 · -- if
   refine .bp (expr _ hs) fun x S1 k1=>?_
   have q1:=hs.trans k1.1
   refine .bp (blk _ q1) fun l r k2=>.pp k2 fun ln S2 k2=>?_
   have q2:=q1.trans k2.1
   have fin:∀ S3 l2,Nx S2 S3→(S3.e=0→l2.length≤5000∧∀ y ∈ l2,CJ S.l.length (10 - nest).toNat y)→TP S.l.length ((10 - nest).toNat+1) S ⟨4,e.c,0,be,be,0,0,[],be,0,[x],l,l2⟩ S3:=fun S3 l2 k3 k4=>⟨q2.trans k3,fun z=>by
    have z2:=k3.e z;have z1:=k2.1.e z2
    have a1:=k1.2 z1;have a2:=k2.2 z2;have a3:=k3.lo;have a4:=hs.lo
    dsimp only at a1 a4
    exact ⟨by omega,nK,BK a1.2 (by decide),a2.2,k4 z,⟨fun z=>(by cases z),fun z=>(by cases z),fun z=>absurd rfl z,e1,(by dsimp only;decide),fun z=>(by cases z)⟩⟩⟩
   have P2:=q2.ps h
   refine .ite (fun d=>?_) fun d=>.mk (fin S2 [] (Nx.rfl' P2) fun _=>nK)
   refine .bd (Bh P2) fun b hb=>.ite (fun d2=>?_) fun d2=>.mk (fin S2 [] (Nx.rfl' P2) fun _=>nK)
   have ks:=Nx.step P2 (hb d2)
   exact .bp (blk _ (q2.trans ks)) fun l2 r k3=>.pp k3 fun ln S3 k3=>.mk (fin S3 l2 (ks.trans k3.1) fun z=>(k3.2 z).2)
 · -- while
   refine .bp (expr _ hs) fun x S1 k1=>?_
   have q1:=hs.trans k1.1
   refine .bp (blk _ q1) fun l r k2=>.pp k2 fun ln S2 k2=>.mk ⟨q1.trans k2.1,fun z=>?_⟩
   have z1:=k2.1.e z
   have a1:=k1.2 z1;have a2:=k2.2 z;have a4:=hs.lo
   dsimp only at a1 a4
   exact ⟨by omega,nK,BK a1.2 (by decide),a2.2,nK,⟨fun z=>(by cases z),fun z=>(by cases z),fun z=>absurd rfl z,e1,(by dsimp only;decide),fun z=>(by cases z)⟩⟩
 · -- try
   refine .bp (blk _ hs) fun l r k2=>.pp k2 fun ln S2 k2=>?_
   have q2:=hs.trans k2.1
   refine .bd (uK (q2.ps h)) fun S3 k3=>?_
   have q3:=q2.trans k3.1
   refine .bp (Bb (q3.ps h)) fun n S4 k4=>?_
   have q4:=q3.trans k4.1.1
   refine .bp (blk _ q4) fun l2 r k5=>.pp k5 fun ln S5 k5=>.mk ⟨q4.trans k5.1,fun z=>?_⟩
   have z2:=k3.1.e (k4.1.1.e (k5.1.e z))
   have a2:=k2.2 z2;have a3:=k5.2 z;have a4:=hs.lo;have a5:=k3.1.lo;have a6:=k4.1.1.lo
   dsimp only at a2 a4
   exact ⟨by omega,nK,nK,a2.2,a3.2,⟨fun z=>(by cases z),fun z=>(by cases z),fun z=>absurd rfl z,e1,(by dsimp only;decide),fun z=>(by cases z)⟩⟩
 · -- return
   refine .bp (Ec hP (by dsimp only;omega)) fun S1 x k1=>?_
   have q1:=hs.trans k1.1
   refine .bd (uK (q1.ps h)) fun S2 k2=>.mk ⟨q1.trans k2.1,fun z=>?_⟩
   obtain ⟨a1,f',a',rfl,a2,a3,a4⟩:=k1.2 (k2.1.e z)
   have a5:=k2.1.lo;have a6:=hs.lo
   dsimp only at a1 a6
   exact ⟨by omega,nK,a2,nK,nK,⟨fun z=>(by cases z),fun z=>(by cases z),fun _=>⟨.inr rfl,rfl,rfl⟩,e1,(by dsimp only;decide),fun _=>rfl⟩⟩
 · -- throw
   refine .bp (Ec hP (by dsimp only;omega)) fun S1 x k1=>?_
   have q1:=hs.trans k1.1
   refine .bd (uK (q1.ps h)) fun S2 k2=>.mk ⟨q1.trans k2.1,fun z=>?_⟩
   obtain ⟨a1,f',a',rfl,a2,a3,a4⟩:=k1.2 (k2.1.e z)
   have a5:=k2.1.lo;have a6:=hs.lo
   dsimp only at a1 a6
   have a7:f'=be:=a3.elim id fun q=>(by cases q)
   subst a7
   exact ⟨by omega,nK,a2,nK,nK,⟨fun z=>(by cases z),fun z=>(by cases z),fun z=>absurd rfl z,e1,(by dsimp only;decide),fun z=>(by cases z)⟩⟩
 · -- print
   refine .bp (Ec hP (by dsimp only;omega)) fun S1 x k1=>?_
   have q1:=hs.trans k1.1
   refine .bd (uK (q1.ps h)) fun S2 k2=>.mk ⟨q1.trans k2.1,fun z=>?_⟩
   obtain ⟨a1,f',a',rfl,a2,a3,a4⟩:=k1.2 (k2.1.e z)
   have a5:=k2.1.lo;have a6:=hs.lo
   dsimp only at a1 a6
   have a7:f'=be:=a3.elim id fun q=>(by cases q)
   subst a7
   exact ⟨by omega,nK,a2,nK,nK,⟨fun z=>(by cases z),fun z=>(by cases z),fun z=>absurd rfl z,e1,(by dsimp only;decide),fun z=>(by cases z)⟩⟩
 · -- an assignment or a call
   refine .bp (OQ (n:=(10 - nest).toNat) hP (by dsimp only;omega)) fun S1 x k1=>?_
   have q1:=hs.trans k1.1
   refine .bd (uK (q1.ps h)) fun S2 k2=>.mk ⟨q1.trans k2.1,fun z=>?_⟩
   have a1:=k1.2 (k2.1.e z);have a5:=k2.1.lo;have a6:=hs.lo
   dsimp only at a1 a6
   exact ⟨by omega,a1.2⟩
end
theorem GZ:∀ fu:Nat,SA (xy fu) fu∧Qt (wY fu) fu
 | 0=>by
  refine ⟨fun S a h _ _ hb=>?_,fun S b h _ _ hb=>?_⟩
  all_goals have:=h.hi;have:=h.lo;omega
 | fu+1=>⟨Qe (GZ fu).2,KO (GZ fu).1⟩
end Go.Proofs.Ytfglbdkfnphjgaa
set_option linter.unusedVariables false
set_option linter.unusedSimpArgs false
namespace Go.Proofs.Ytfglbdkfnphjgaa
open Go.RowKit Go.Fw
theorem GG {fu:Nat} {c:Int}:kI (ui fu c) (fun _=>True):=by
 unfold ui
 repeat' (first | exact .mk trivial | refine .ite (fun _=>?_) fun _=>?_)
theorem JZ {fu:Nat} {c:Int}:kI (vH fu c) (fun _=>True):=by
 unfold vH
 repeat' (first | exact .mk trivial | refine .ite (fun _=>?_) fun _=>?_)
theorem CZ {fu:Nat} {s:ByteArray}:∀ (l:List ByteArray) (k:Nat),kI (pX fu s l k) (oK (fun _=>True) (fun _=>True))
 | [],_=>.go trivial
 | u :: r,k=>by
  rw [pX]
  exact .ite (fun _=>.out trivial) fun _=>CZ r (k+1)
theorem LW {fu:Nat} {s:ByteArray}:kI (vJ fu s) (fun _=>True):=by
 unfold vJ
 exact .eo (CZ _ 0) fun _ _=>.mk trivial
theorem IQ {fu:Nat} {s:ByteArray} {at_:Int} (h0:0≤at_) (h1:at_+2≤s.size) (h2:s.size≤4000):∀ (l:List ByteArray) (k:Nat),(∀ u ∈ l,u.size=2)→kI (uu fu s at_ l k) (oK (fun _=>True) (fun r=>r.size=2))
 | [],_,_=>.go trivial
 | u :: r,k,hl=>by
  rw [uu]
  have hw:wr (at_+2)=at_+2:=lD (by omega) (by omega)
  rw [hw]
  refine .bd (.KA (by omega)) fun g hg=>.ite (fun _=>.out (hl u (.head _))) fun _=>IQ h0 h1 h2 r (k+1) fun u hu=>hl u (.tail _ hu)
theorem IU {fu:Nat} {s:ByteArray} {at_:Int} (h0:0≤at_) (h1:at_ < s.size) (h2:s.size≤4000):∀ (l:List Ei) (k:Nat),kI (uC fu s at_ l k) (oK (fun _=>True) (fun r=>r.size=1))
 | [],_=>.go trivial
 | u :: r,k=>by
  rw [uC]
  have hw:wr (at_+1)=at_+1:=lD (by omega) (by omega)
  rw [hw]
  refine .bd (.AQ h0 h1) fun c hc=>.ite (fun _=>?_) fun _=>IU h0 h1 h2 r (k+1)
  refine .bd (.KA (by omega)) fun g hg=>.out ?_
  subst hg
  rw [ByteArray.size_extract]
  omega
theorem SQ {fu:Nat} {s:ByteArray} {at_:Int} (h0:0≤at_) (h1:at_ < s.size) (h2:s.size≤4000):kI (Aw fu s at_) (fun r=>r≠(⟨#[]⟩:ByteArray)→1≤r.size∧at_+r.size≤s.size):=by
 unfold Aw
 have hw:wr (at_+1)=at_+1:=lD (by omega) (by omega)
 have hJ:kI (zi fu s at_) (oK (fun _=>True) (fun r=>r.size=2∧at_+2≤s.size)):=by
  unfold zi
  rw [hw]
  refine .ite (fun c=>?_) fun _=>.go trivial
  refine .el (IQ h0 (by omega) h2 _ 0 ?_) (fun _ _=>.go trivial) fun o ho=>.out ⟨ho,by omega⟩
  decide
 refine .el hJ (fun _ _=>?_) fun o ho=>.mk fun _=>by omega
 exact .el (IU h0 h1 h2 _ 0) (fun _ _=>.mk fun z=>absurd rfl z) fun o ho=>.mk fun _=>by omega
theorem Jf {fu:Nat} {s:ByteArray} (h2:s.size≤4000) {O:Int × Int→Prop}:∀ (n:Nat) (at_:Int),0≤at_→at_≤s.size→s.size+1≤n+at_→kI (uD fu s n at_) (oK (fun a=>at_≤a∧a≤s.size) O)
 | 0,a,h0,h1,hn=>by omega
 | n+1,a,h0,h1,hn=>by
  rw [uD]
  refine .ite (fun c=>?_) fun c=>.go ⟨Int.le_refl _,h1⟩
  have hw:wr (a+1)=a+1:=lD (by omega) (by omega)
  rw [hw]
  refine .bd (.AQ h0 c) fun x hx=>.ite (fun _=>?_) fun _=>.go ⟨Int.le_refl _,h1⟩
  refine (Jf (O:=O) h2 n (a+1) (by omega) (by omega) (by omega)).imp fun v hv=>?_
  obtain v | v:=v
  · exact ⟨by have:=hv.1;omega,hv.2⟩
  · exact hv
theorem IL {fu:Nat} {s:ByteArray} (h2:s.size≤4000) (hf:4001≤fu):∀ (n:Nat) (at_ line:Int),0≤at_→at_≤s.size→s.size+1≤n+at_→kI (qH fu s n at_ line) (oK (fun r=>iA r fun a _=>at_≤a∧a≤s.size) (fun r=>iA r fun a _=>at_≤a∧a≤s.size))
 | 0,a,ln,h0,h1,hn=>by omega
 | n+1,a,ln,h0,h1,hn=>by
  rw [qH]
  refine .ite (fun c=>?_) fun c=>.go ⟨Int.le_refl _,h1⟩
  have hw:wr (a+1)=a+1:=lD (by omega) (by omega)
  refine kI.Qu (.AQ h0 c) fun x hx0 hx=>?_
  have hJ:kI (y9 fu s a x) (oK (fun b=>b=true→x=47) (fun _=>False)):=by
    unfold y9
    rw [hw]
    refine .ite (fun c=>?_) fun c=>.go fun z=>(by cases z)
    exact .ite (fun c2=>.bd (.AQ (by omega) c2) fun y _=>.go fun _=>c) fun _=>.go fun z=>(by cases z)
  have up:∀ (b l2:Int),a < b→b≤s.size→kI (qH fu s n b l2) (oK (fun r=>iA r fun a' _=>a≤a'∧a'≤s.size) (fun r=>iA r fun a' _=>a≤a'∧a'≤s.size)):=fun b l2 k1 k2=>by
    refine (IL h2 hf n b l2 (by omega) k2 (by omega)).imp fun v hv=>?_
    obtain v | v:=v
    all_goals
     obtain ⟨p,q⟩:=v
     exact ⟨by have:=hv.1;omega,hv.2⟩
  refine .el hJ (fun b hb=>?_) fun _ z=>z.elim
  refine .ite (fun d=>?_) fun d=>?_
  · -- the comment's first byte is no end of a line
    obtain ⟨fu',rfl⟩:∃ k,fu=k+1:=⟨fu - 1,by omega⟩
    have hx47:=hb d
    rw [uD,if_pos c,hx0]
    show kI (Option.bind (if x≠10 then _ else _) _) _
    rw [if_pos (by omega),hw]
    exact .Cv (Jf h2 fu' (a+1) (by omega) (by omega) (by omega)) fun b hb=>up b ln (by omega) hb.2
  · have hJ3:kI (zb fu a ln x) (oK (fun _=>True) (fun r=>iA r fun a' _=>a≤a'∧a'≤s.size)):=by
     unfold zb
     repeat' (first | exact .go trivial | exact .out ⟨Int.le_refl _,h1⟩ | refine .ite (fun _=>?_) fun _=>?_)
    refine .Cv hJ3 fun _ _=>?_
    rw [hw]
    exact .ite (fun _=>up _ _ (by omega) (by omega)) fun _=>up _ _ (by omega) (by omega)
theorem OV {fu:Nat} {s:ByteArray} {at_ line:Int} (h2:s.size≤4000) (hf:4001≤fu) (h0:0≤at_) (h1:at_≤s.size):kI (yN fu s at_ line) (fun r=>iA r fun a _=>at_≤a∧a≤s.size):=by
 unfold yN
 exact .eo (IL h2 hf fu at_ line h0 h1 (by omega)) fun r hs=>.pp hs fun a b hs=>.mk hs
theorem Px {fu:Nat} {s:ByteArray} {a:Int} (h0:0≤a):kI (vX fu s a) (oK (fun b=>b=true→a < s.size) (fun _=>False)):=by
 unfold vX
 refine .ite (fun c=>?_) fun c=>.go fun z=>(by cases z)
 refine .bd (.AQ h0 c) fun x hx=>.bd GG fun b _=>.ite (fun _=>.go fun _=>c) fun _=>?_
 exact .bd (.AQ h0 c) fun x hx=>.bd JZ fun b _=>.go fun _=>c
theorem KI {fu:Nat} {s:ByteArray} (h2:s.size≤4000) {O:kv × Int × Int→Prop}:∀ (n:Nat) (a:Int),0≤a→a≤s.size→s.size+1≤n+a→kI (rP fu s n a) (oK (fun b=>a≤b∧b≤s.size) O)
 | 0,a,h0,h1,hn=>by omega
 | n+1,a,h0,h1,hn=>by
  rw [rP]
  refine .el (Px h0) (fun b hb=>?_) fun _ z=>z.elim
  refine .ite (fun c=>?_) fun c=>.go ⟨Int.le_refl _,h1⟩
  have:=hb c
  have hw:wr (a+1)=a+1:=lD (by omega) (by omega)
  rw [hw]
  refine (KI (O:=O) h2 n (a+1) (by omega) (by omega) (by omega)).imp fun v hv=>?_
  obtain v | v:=v
  · exact ⟨by have:=hv.1;omega,hv.2⟩
  · exact hv
theorem Lu {fu:Nat} {s:ByteArray} {at_:Int} (h2:s.size≤4000) (h3:0≤at_) {O:kv × Int × Int→Prop}:∀ (n:Nat) (a m:Int),at_≤a→a≤s.size→s.size+1≤n+a→kI (qi fu s at_ n a m) (oK (fun r=>iA r fun b _=>a≤b∧b≤s.size) O)
 | 0,a,m,h0,h1,hn=>by omega
 | n+1,a,m,h0,h1,hn=>by
  rw [qi]
  refine .ite (fun c=>?_) fun c=>.go ⟨Int.le_refl _,h1⟩
  refine .bd (.AQ (by omega) c) fun x hx=>.bd JZ fun b _=>.ite (fun _=>?_) fun c=>.go ⟨Int.le_refl _,h1⟩
  have hw:wr (a+1)=a+1:=lD (by omega) (by omega)
  rw [hw]
  have up:∀ m2:Int,kI (qi fu s at_ n (a+1) m2) (oK (fun r=>iA r fun b _=>a≤b∧b≤s.size) O):=fun m2=>by
   refine (Lu (O:=O) h2 h3 n (a+1) m2 (by omega) (by omega) (by omega)).imp fun v hv=>?_
   obtain v | v:=v
   · obtain ⟨p,q⟩:=v
     exact ⟨by have:=hv.1;omega,hv.2⟩
   · exact hv
  exact .ite (fun _=>.bd (.AQ (by omega) c) fun _ _=>up _) fun _=>up _
theorem UV {fu:Nat} {s:ByteArray} {at_ line:Int} (h2:s.size≤4000) (hf:4001≤fu) (h0:0≤at_) (h1:at_ < s.size):kI (Bq fu s at_ line) (fun r=>iA r fun t r=>iA r fun nx e=>e=0→at_ < nx∧nx≤s.size∧(t.e=1→t.a≠(⟨#[]⟩:ByteArray))):=by
 unfold Bq
 have bad:∀ (t:kv) (n e:Int),e≠0→kI (some (t,n,e)) (fun r=>iA r fun t r=>iA r fun nx e=>e=0→at_ < nx∧nx≤s.size∧(t.e=1→t.a≠(⟨#[]⟩:ByteArray))):=fun t n e he=>.mk fun z=>absurd z he
 obtain ⟨fu',rfl⟩:∃ k,fu=k+1:=⟨fu - 1,by omega⟩
 have hw:wr (at_+1)=at_+1:=lD (by omega) (by omega)
 refine kI.Qu (.AQ h0 h1) fun x hx0 hx=>kI.Qu GG fun b hb _=>.ite (fun c=>?_) fun c=>?_
 · have hL:kI (rP (fu'+1) s (fu'+1) at_) (oK (fun b=>at_ < b∧b≤s.size) (fun _=>False)):=by
    rw [rP]
    have hJ:vX (fu'+1) s at_=some (.go true):=by
      unfold vX
      rw [if_pos h1,hx0]
      show Option.bind (ui (fu'+1) x) _=_
      rw [hb,c]
      rfl
    rw [hJ]
    show kI (if true=true then rP (fu'+1) s fu' (wr (at_+1)) else some (.go at_)) _
    rw [if_pos rfl,hw]
    refine (KI (O:=fun _=>False) h2 fu' (at_+1) (by omega) (by omega) (by omega)).imp fun v hv=>?_
    obtain v | v:=v
    · exact ⟨by have:=hv.1;omega,hv.2⟩
    · exact hv
   refine .el hL (fun a ha=>?_) fun _ z=>z.elim
   refine .ite (fun _=>bad _ _ _ (by decide)) fun _=>?_
   refine .bd (.KA (by omega)) fun g hg=>.bd LW fun b _=>?_
   refine .ite (fun _=>.mk fun _=>⟨ha.1,ha.2,fun z=>(by cases z)⟩) fun _=>.mk fun _=>⟨ha.1,ha.2,fun _ z=>?_⟩
   have z2:=congrArg ByteArray.size z
   dsimp only at z2
   rw [hg,ByteArray.size_extract] at z2
   have z3:(⟨#[]⟩:ByteArray).size=0:=rfl
   omega
 refine kI.Qu (.AQ h0 h1) fun x2 hx2 _=>kI.Qu JZ fun b2 hb2 _=>.ite (fun c2=>?_) fun c2=>?_
 · have hL:kI (qi (fu'+1) s at_ (fu'+1) at_ 0) (oK (fun r=>iA r fun b _=>at_ < b∧b≤s.size) (fun _=>False)):=by
    rw [qi,if_pos h1,hx2,Option.bind_some,hb2,Option.bind_some,if_pos c2,hw]
    have up:∀ m2:Int,kI (qi (fu'+1) s at_ fu' (at_+1) m2) (oK (fun r=>iA r fun b _=>at_ < b∧b≤s.size) (fun _=>False)):=fun m2=>by
      refine (Lu (O:=fun _=>False) h2 h0 fu' (at_+1) m2 (by omega) (by omega) (by omega)).imp fun v hv=>?_
      obtain v | v:=v
      · obtain ⟨p,q⟩:=v
        exact ⟨by have:=hv.1;omega,hv.2⟩
      · exact hv
    exact .ite (fun _=>up _) fun _=>up _
   refine .el hL (fun r hs=>.pp hs fun a m ha=>?_) fun _ z=>z.elim
   refine .ite (fun _=>bad _ _ _ (by decide)) fun _=>?_
   have hJ:kI (zW (fu'+1) s a) (oK (fun _=>True) (fun r=>iA r fun t r=>iA r fun nx e=>e≠0)):=by
    unfold zW
    refine .ite (fun c=>?_) fun _=>.go trivial
    exact .bd (.AQ (by omega) c) fun _ _=>.bd GG fun _ _=>.ite (fun _=>.out (show (6:Int)≠0 by decide)) fun _=>.go trivial
   refine .el hJ (fun _ _=>.mk fun _=>⟨ha.1,ha.2,fun z=>(by cases z)⟩) fun o ho=>.mk ?_
   obtain ⟨t,n,e⟩:=o
   exact fun z=>absurd z ho
 refine .bd (SQ h0 h1 h2) fun g hg=>.ite (fun _=>bad _ _ _ (by decide)) fun c3=>.mk fun _=>?_
 have:=hg c3
 have hw2:wr (at_+((g.size:Nat):Int))=at_+g.size:=lD (by omega) (by omega)
 rw [hw2]
 exact ⟨by omega,by omega,fun z=>(by cases z)⟩
def Nm (l:List kv):Prop:=∀ (k:Nat) (t:kv),l[k]?=some t→t.e=1→t.a≠(⟨#[]⟩:ByteArray)
theorem Nm.app {l:List kv} (h:Nm l) {t:kv} (ht:t.e=1→t.a≠(⟨#[]⟩:ByteArray)):Nm (l ++ [t]):=fun k t' hk=>by
 rw [List.getElem?_append] at hk
 split at hk
 · exact h k t' hk
 · have:k - l.length=0:=by have:=kE hk;simp only [List.length_cons,List.length_nil] at this;omega
   rw [this] at hk
   obtain rfl:=Option.some.inj hk
   exact ht
theorem IZ {fu:Nat} {s:ByteArray} (h2:s.size≤4000) (hf:4001≤fu):∀ (n:Nat) (a line:Int) (l:List kv),0≤a→a≤s.size→s.size+1≤n+a→l.length≤2000→Nm l→kI (vk fu s n a line l) (oK (fun r=>iA r fun _ r=>iA r fun _ l=>l.length≤2000∧Nm l) (fun r=>iA r fun _ r=>iA r fun _ e=>e≠0))
 | 0,a,ln,l,h0,h1,hn,hl,hm=>by omega
 | n+1,a,ln,l,h0,h1,hn,hl,hm=>by
  rw [vk]
  refine .ite (fun c=>?_) fun c=>.go ⟨hl,hm⟩
  refine .bp (UV h2 hf h0 c) fun t r ht=>.pp ht fun nx e ht=>?_
  have hJ:kI (zf fu l e) (oK (fun e'=>e'=0→e=0∧l.length < 2000) (fun _=>False)):=by
   unfold zf
   refine .ite (fun c=>?_) fun c=>.go fun z=>absurd z c
   exact .ite (fun c=>.go fun z=>(by cases z)) fun c2=>.go fun _=>⟨c,by omega⟩
  refine .el hJ (fun e' he=>?_) fun _ z=>z.elim
  refine .ite (fun d=>.out d) fun d=>?_
  have he:=he (by omega)
  have ht:=ht he.1
  refine .bd (.app (by simp only [List.length_cons,List.length_nil];omega)) fun r hr=>?_
  refine .bp (OV h2 hf (by omega) ht.2.1) fun a2 ln2 ha=>?_
  subst hr
  exact IZ h2 hf n a2 ln2 _ (by omega) ha.2 (by omega) (by simp only [List.length_append,List.length_cons,List.length_nil];omega) (hm.app ht.2.2)
theorem Sw {fu:Nat} {s:ByteArray} (hf:4001≤fu):kI (Az fu s) (fun r=>iA r fun l r=>iA r fun _ e=>e=0→TL l∧1≤l.length∧l.length≤2001):=by
 unfold Az
 refine .ite (fun c=>.mk fun z=>(by cases z)) fun c=>?_
 have h2:s.size≤4000:=by omega
 refine .bp (OV h2 hf (Int.le_refl _) (by omega)) fun a ln ha=>?_
 refine .el (IZ h2 hf fu a ln [] ha.1 ha.2 (by omega) (by decide) fun k t hk=>(by cases hk)) (fun r hs=>.pp hs fun _ r hs=>.pp hs fun b l hs=>?_) fun o ho=>?_
 · refine .bd (.app (by simp only [List.length_cons,List.length_nil];omega)) fun r hr=>.mk fun _=>?_
   subst hr
   refine ⟨⟨by simp only [List.length_append,List.length_cons,List.length_nil];omega,fun k t hk ht=>?_,hs.2.app fun z=>(by cases z)⟩,by simp only [List.length_append,List.length_cons,List.length_nil];omega,by simp only [List.length_append,List.length_cons,List.length_nil];omega⟩
   simp only [List.length_append,List.length_cons,List.length_nil] at hk
   obtain rfl:k=l.length:=by omega
   rw [List.getElem?_append_right (Nat.le_refl _),Nat.sub_self] at ht
   obtain rfl:=Option.some.inj ht
   rfl
 · obtain ⟨l,b,e⟩:=o
   exact .mk fun z=>absurd z ho
end Go.Proofs.Ytfglbdkfnphjgaa
set_option linter.unusedVariables false
set_option linter.unusedSimpArgs false
namespace Go.Proofs.Ytfglbdkfnphjgaa
open Go.RowKit Go.Fw
structure SY (N:Nat) (f:kC):Prop where
 b:f.b.length≤5000
 body:f.f.length≤5001
 el:∀ y ∈ f.f,CJ N 10 y
structure MR (N:Nat) (p:jJ):Prop where
 recs:p.a.length≤5000
 fields:∀ r ∈ p.a,r.b.length≤5000
 e:p.b.length≤5000
 el:∀ f ∈ p.b,SY N f
theorem CJ.Pf {E F:Nat} (h:E≤F):∀ {n:Nat} {x:jM},CJ E n x→CJ F n x
 | 0,_,k=>k.elim
 | n+1,x,k=>⟨⟨k.1.1,fun y hy=>(k.1.2 y hy).mono h⟩,⟨k.2.1.1,fun y hy=>(k.2.1.2 y hy).mono h⟩,⟨k.2.2.1.1,fun y hy=>CJ.Pf h (k.2.2.1.2 y hy)⟩,⟨k.2.2.2.1.1,fun y hy=>CJ.Pf h (k.2.2.2.1.2 y hy)⟩,k.2.2.2.2⟩
theorem MR.mono {E F:Nat} {p:jJ} (k:MR E p) (h:E≤F):MR F p:=⟨k.recs,k.fields,k.e,fun f hf=>⟨(k.el f hf).b,(k.el f hf).body,fun y hy=>((k.el f hf).el y hy).Pf h⟩⟩
theorem pq {α:Type} {p:α→Prop} {l:List α} {x:α} (h:∀ y ∈ l,p y) (hx:p x):∀ y ∈ l ++ [x],p y:=fun y hy=>by
 rcases List.mem_append.1 hy with hy | hy
 · exact h y hy
 · simp only [List.mem_cons,List.not_mem_nil,or_false] at hy
   subst hy
   exact hx
theorem jY {α:Type} {l:List α} {x:α}:(l ++ [x]).length=l.length+1:=by simp only [List.length_append,List.length_cons,List.length_nil]
theorem Ee {fu:Nat} {S0:jy} (h0:PS S0) (hf:S0.l.length+200≤fu) {O:jJ × jy→Prop}:∀ (n:Nat) (out:List kD) (S:jy),Nx S0 S→(S.e=0→S0.l.length+1≤n+S.a)→1≤n→(S.e=0→(out.length:Int)≤S.a∧∀ r ∈ out,r.b.length≤5000)→
  kI (sG fu n out S.l S.a S.c S.e) (oK (fun r=>iA r fun o r=>iA r fun a r=>iA r fun b r=>iA r fun c d=>Nx S0 ⟨a,b,c,d⟩∧(d=0→(o.length:Int)≤b∧∀ r ∈ o,r.b.length≤5000)) O)
 | 0,out,S,h,hn,hn1,ho=>by omega
 | n+1,out,S,h,hn,_,ho=>by
  have hS:=h.ps h0
  have hlen:=h0.tl.len;have hi:=h.hi;have hlo:=hS.lo
  rw [sG]
  refine .ite (fun c=>?_) (fun c=>.go ⟨h,ho⟩)
  have hn:=hn c;have ho:=ho c
  refine .bd (Bh hS) fun b hb=>.ite (fun d=>?_) (fun d=>.go ⟨h,fun _=>ho⟩)
  have q0:=h.trans (Nx.step hS (hb d))
  have hw:wr (S.a+1)=S.a+1:=hS.FT
  refine .bp (Bb (q0.ps h0)) fun nm S1 k1=>?_
  have q1:=q0.trans k1.1.1
  refine .bd (uK (q1.ps h0)) fun S2 k2=>?_
  have q2:=q1.trans k2.1
  refine .bp (Ni (q2.ps h0) (by rw [q2.l];omega)) fun fs S3 k3=>?_
  have q3:=q2.trans k3.1
  refine .bd (uK (q3.ps h0)) fun S4 k4=>?_
  have q4:=q3.trans k4.1
  refine .bd (.app (by simp only [List.length_cons,List.length_nil];omega)) fun r hr=>?_
  have a0:=k1.1.1.lo;have a1:=k2.1.lo;have a2:=k3.1.lo;have a3:=k4.1.lo;have a4:=q4.hi
  dsimp only at a0
  rw [hw] at a0
  subst hr
  refine Ee h0 hf n _ S4 q4 (fun z=>by omega) (by omega) fun z=>?_
  have a5:=k3.2 (k4.1.e z)
  exact ⟨by rw [jY];omega,pq ho.2 a5.1⟩
theorem DN {fu:Nat} {S0:jy} (h0:PS S0) (hf:S0.l.length+200≤fu) {O:jJ × jy→Prop}:∀ (n:Nat) (out:List kC) (S:jy),Nx S0 S→(S.e=0→S0.l.length+1≤n+S.a)→1≤n→(S.e=0→(out.length:Int)≤S.a∧∀ f ∈ out,SY S0.l.length f)→
  kI (sM fu n out S.l S.a S.c S.e) (oK (fun r=>iA r fun o r=>iA r fun a r=>iA r fun b r=>iA r fun c d=>(Nx S0 ⟨a,b,c,d⟩∧(d=0→(o.length:Int)≤b∧∀ f ∈ o,SY S0.l.length f))∧(d=0→S.e=0)) O)
 | 0,out,S,h,hn,hn1,ho=>by omega
 | n+1,out,S,h,hn,_,ho=>by
  have hS:=h.ps h0
  have hlen:=h0.tl.len;have hi:=h.hi;have hlo:=hS.lo
  rw [sM]
  refine .ite (fun c=>?_) (fun c=>.go ⟨⟨h,ho⟩,id⟩)
  have hn:=hn c;have ho:=ho c
  refine .bd (Bh hS) fun b hb=>.ite (fun d=>?_) (fun d=>.go ⟨⟨h,fun _=>ho⟩,id⟩)
  refine .bd (.ix hS.lo hS.hi) fun e he=>?_
  have q0:=h.trans (Nx.step hS (hb d))
  have hw:wr (S.a+1)=S.a+1:=hS.FT
  refine .bp (Bb (q0.ps h0)) fun nm S1 k1=>?_
  have q1:=q0.trans k1.1.1
  refine .bd (uK (q1.ps h0)) fun S2 k2=>?_
  have q2:=q1.trans k2.1
  have P2:=q2.ps h0
  have hJ:kI (wy fu S2) (oK (fun r=>iA r fun o r=>iA r fun a r=>iA r fun b r=>iA r fun c d=>Nx S2 ⟨a,b,c,d⟩∧(d=0→o.length≤5000)) (fun _=>False)):=by
    unfold wy
    refine .ite (fun c=>?_) fun c=>.go ⟨Nx.rfl' P2,fun _=>Nat.zero_le _⟩
    refine .bd (Bh P2) fun b hb=>.ite (fun d=>?_) fun d=>.go ⟨Nx.rfl' P2,fun _=>Nat.zero_le _⟩
    exact .bp (Ni P2 (by rw [q2.l];omega)) fun l S3 k3=>.go ⟨k3.1,fun z=>(k3.2 z).1⟩
  refine .el hJ (fun s hs=>?_) fun _ z=>z.elim
  refine .pp hs fun ps r hs=>.pp hs fun x1 r hs=>.pp hs fun x2 r hs=>.pp hs fun x3 x4 hs=>?_
  have q3:=q2.trans hs.1
  refine .bd (uK (q3.ps h0)) fun S4 k4=>?_
  have q4:=q3.trans k4.1
  refine .bp ((GZ fu).1 S4 1 (q4.ps h0) (by decide) (by decide) (by rw [q4.l];omega)) fun l r k5=>.pp k5 fun ln S5 k5=>?_
  obtain ⟨k5,hq⟩:=k5
  have q5:=q4.trans k5.1
  have a0:=k1.1.1.lo;have a1:=k2.1.lo;have a2:=hs.1.lo;have a3:=k4.1.lo;have a4:=k5.1.lo;have a5:=q5.hi
  dsimp only at a0 a2 a3
  rw [hw] at a0
  refine .bd (.app (by simp only [List.length_cons,List.length_nil];omega)) fun bd hbd=>?_
  refine .bd (.app (by simp only [List.length_cons,List.length_nil];omega)) fun r hr=>?_
  subst hr hbd
  refine (DN (O:=O) h0 hf n _ S5 q5 (fun z=>by omega) (by omega) fun z=>?_).imp fun v hv=>?_
  rotate_left
  · obtain v | v:=v
    · obtain ⟨o,a,b,c',d⟩:=v
      exact ⟨hv.1,fun _=>c⟩
    · exact hv
  have z4:=k5.1.e z
  have a6:=k5.2 z
  rw [q4.l] at a6
  refine ⟨by rw [jY];omega,pq ho.2 ⟨hs.2 (k4.1.e z4),by rw [jY];omega,pq a6.2.2 ?_⟩⟩
  exact ⟨nK,nK,nK,nK,⟨fun z=>(by cases z),fun z=>(by cases z),fun z=>absurd rfl z,fun _=>rfl,(by dsimp only;decide),fun z=>(by cases z)⟩⟩
theorem NL {fu:Nat} {S:jy} (h:PS S) (hf:S.l.length+200≤fu):kI (wH fu S) (fun r=>iA r fun p S'=>(S'.e=0→MR S.l.length p)):=by
 unfold wH
 have hlo:=h.lo
 refine .el (Ee (O:=fun _=>False) h hf fu [] S (Nx.rfl' h) (fun _=>by omega) (by omega) fun _=>⟨hlo,fun r hr=>(by cases hr)⟩) (fun s hs=>?_) fun _ z=>z.elim
 refine .pp hs fun rs r hs=>.pp hs fun a r hs=>.pp hs fun b r hs=>.pp hs fun c d hs=>?_
 have P1:=hs.1.ps h
 have b0:=P1.lo;have b1:=hs.1.hi
 dsimp only at b0 b1
 refine .el (DN (O:=fun _=>False) h hf fu [] ⟨a,b,c,d⟩ hs.1 (fun _=>by dsimp only;omega) (by omega) fun _=>⟨b0,fun r hr=>(by cases hr)⟩) (fun s hs2=>?_) fun _ z=>z.elim
 refine .pp hs2 fun fs r hs2=>.pp hs2 fun a2 r hs2=>.pp hs2 fun b2 r hs2=>.pp hs2 fun c2 d2 hs2=>?_
 obtain ⟨hs2,hd⟩:=hs2
 have P2:=hs2.1.ps h
 have hlen:=h.tl.len;have b3:=hs2.1.hi
 dsimp only at b3
 refine .ite (fun z=>?_) fun z=>.mk fun y=>absurd y z
 have r1:=hs.2 (hd z);have r2:=hs2.2 z
 have ok:MR S.l.length ⟨rs,fs⟩:=⟨by dsimp only;omega,r1.2,by dsimp only;omega,r2.2⟩
 refine .bd (Bu P2) fun b hb=>.ite (fun _=>?_) fun _=>.mk fun _=>ok
 exact .bd (BG P2 (by decide)) fun S3 h3=>.mk fun y=>absurd y h3.2.1
theorem Qb {fu:Nat} {s:ByteArray} (hf:5300≤fu):kI (xw fu s) (fun r=>iA r fun p r=>iA r fun _ e=>e=0→MR 5000 p):=by
 unfold xw
 refine .bp (Sw (by omega)) fun l r hl=>.pp hl fun ln e hl=>?_
 refine .ite (fun c=>.mk fun z=>absurd z c) fun c=>?_
 obtain ⟨h1,h2,h3⟩:=hl (by omega)
 refine .bp (NL (S:=⟨l,0,0,0⟩) ⟨h1,Int.le_refl _,by dsimp only;omega⟩ (by dsimp only;omega)) fun p S hp=>?_
 refine .ite (fun c=>.mk fun z=>absurd z c) fun c=>.mk fun _=>?_
 have:=hp (by omega)
 dsimp only at this
 exact this.mono (by omega)
end Go.Proofs.Ytfglbdkfnphjgaa
