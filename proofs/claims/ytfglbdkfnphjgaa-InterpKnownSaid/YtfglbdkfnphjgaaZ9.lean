/- Plain words: a computation that answers, with what its answer is known to be. -/
import Derived.Test.YtfglbdkfnphjgaaLa
import Derived.Test.YtfglbdkfnphjgaaLb
set_option linter.unusedVariables false
namespace Go.Fw
open Go.RowKit
def kD {α:Type} (x:Option α) (P:α→Prop):Prop:=∃ v,x=some v∧P v
def oI {σ ρ:Type} (G:σ→Prop) (O:ρ→Prop):Ld σ ρ→Prop
 | .go s=>G s
 | .out r=>O r
section
variable {α β γ σ ρ:Type} {P:α→Prop}
theorem kD.mk {v:α} (h:P v):kD (some v) P:=⟨v,rfl,h⟩
theorem kD.bd {x:Option β} {f:β→Option α} {Q:β→Prop} (h:kD x Q) (k:∀ v,Q v→kD (f v) P):kD (x.bind f) P:=by
 obtain ⟨v,rfl,hv⟩:=h
 exact k v hv
theorem kD.bp {x:Option (β × γ)} {f:β→γ→Option α} {Q:β→γ→Prop} (h:kD x (fun r=>jy r Q)) (k:∀ a b,Q a b→kD (f a b) P):kD (x.bind fun r=>jy r f) P:=by
 obtain ⟨⟨a,b⟩,rfl,hv⟩:=h
 exact k a b hv
theorem kD.pp {r:β × γ} {f:β→γ→Option α} {Q:β→γ→Prop} (h:jy r Q) (k:∀ a b,Q a b→kD (f a b) P):kD (jy r f) P:=by
 obtain ⟨a,b⟩:=r
 exact k a b h
theorem kD.ite {c:Prop} [Decidable c] {a b:Option α} (h1:c→kD a P) (h2:¬ c→kD b P):kD (if c then a else b) P:=by
 by_cases h:c
 · rw [if_pos h];exact h1 h
 · rw [if_neg h];exact h2 h
theorem kD.el {x:Option (Ld σ ρ)} {f:σ→Option α} {g:ρ→Option α} {G:σ→Prop} {O:ρ→Prop} (h:kD x (oI G O)) (h1:∀ s,G s→kD (f s) P) (h2:∀ o,O o→kD (g o) P):kD (x.bind fun r=>r.el f g) P:=by
 obtain ⟨v,rfl,hv⟩:=h
 cases v with
 | go s=>exact h1 s hv
 | out o=>exact h2 o hv
theorem kD.eo {x:Option (Ld σ α)} {f:σ→Option α} {G:σ→Prop} (h:kD x (oI G P)) (h1:∀ s,G s→kD (f s) P):kD (x.bind fun r=>r.el f fun o=>some o) P:=h.el h1 fun o ho=>.mk ho
theorem kD.BI {τ:Type} {x:Option (Ld σ ρ)} {f:σ→Option (Ld τ ρ)} {G:σ→Prop} {G':τ→Prop} {O:ρ→Prop} (h:kD x (oI G O)) (h1:∀ s,G s→kD (f s) (oI G' O)):kD (x.bind fun r=>r.el f fun o=>some (.out o)) (oI G' O):=h.el h1 fun o ho=>.mk ho
theorem kD.imp {x:Option α} {Q:α→Prop} (h:kD x Q) (k:∀ v,Q v→P v):kD x P:=by
 obtain ⟨v,h1,h2⟩:=h
 exact ⟨v,h1,k v h2⟩
theorem kD.go {s:σ} {G:σ→Prop} {O:ρ→Prop} (h:G s):kD (some (Ld.go s)) (oI G O):=⟨_,rfl,h⟩
theorem kD.out {r:ρ} {G:σ→Prop} {O:ρ→Prop} (h:O r):kD (some (Ld.out r)) (oI G O):=⟨_,rfl,h⟩
theorem kD.ix {l:List α} {i:Int} (h0:0≤i) (h1:i < l.length):kD (ix l i) (fun x=>l[i.toNat]?=some x):=by
 obtain ⟨x,hx⟩:=lY (l:=l) (k:=i.toNat) (by omega)
 refine ⟨x,?_,hx⟩
 unfold Go.Fw.ix
 rw [if_neg (by omega),hx]
theorem kD.app {l m:List α} (h:l.length+m.length≤1000000000):kD (app l m) (fun r=>r=l ++ m):=⟨_,if_pos h,rfl⟩
theorem kD.sl {l:List α} {a b:Int} (h:0≤a∧a≤b∧b≤l.length):kD (sl l a b) (fun r=>r=(l.drop a.toNat).take (b - a).toNat):=⟨_,if_pos h,rfl⟩
theorem kD.st {l:List α} {i:Int} {x:α} (h:0≤i∧i < l.length):kD (st l i x) (fun r=>r=l.set i.toNat x):=⟨_,if_pos h,rfl⟩
theorem kD.cat {s t:ByteArray} (h:s.size+t.size≤1000000000):kD (cat s t) (fun r=>r=s ++ t):=⟨_,if_pos h,rfl⟩
theorem kD.ixs {s:ByteArray} {i:Int} (h0:0≤i) (h1:i < s.size):kD (ixs s i) (fun x=>0≤x∧x≤255):=by
 unfold Go.Fw.ixs
 rw [if_neg (by omega)]
 have h:i.toNat < s.size:=by omega
 refine ⟨((s[i.toNat].toNat:Nat):Int),?_,by omega,?_⟩
 · rw [getElem?_pos s i.toNat h];rfl
 · have:=s[i.toNat].toNat_lt;omega
theorem kD.O7 {s:ByteArray} {a b:Int} (h:0≤a∧a≤b∧b≤s.size):kD (O7 s a b) (fun r=>r=s.extract a.toNat b.toNat):=⟨_,if_pos h,rfl⟩
theorem kD.QJ {x:Option β} {f:β→Option α} {Q:β→Prop} (h:kD x Q) (k:∀ v,x=some v→Q v→kD (f v) P):kD (x.bind f) P:=by
 obtain ⟨v,rfl,hv⟩:=h
 exact k v rfl hv
end
theorem l5 {n:Int} (h1:-9000000000000000000≤n) (h2:n≤9000000000000000000):wr n=n:=by
 unfold wr
 exact QN (by omega) (by omega)
theorem Bb (s t:ByteArray):(s ++ t).size=s.size+t.size:=ByteArray.size_append ..
end Go.Fw
set_option linter.unusedVariables false
set_option linter.unusedSimpArgs false
namespace Go.Proofs.Ytfglbdkfnphjgaa
open Go.RowKit Go.Fw
structure TL (l:List jY):Prop where
 len:l.length≤5000
 last:∀ (k:Nat) (t:jY),k+1=l.length→l[k]?=some t→t.e=0
 name:∀ (k:Nat) (t:jY),l[k]?=some t→t.e=1→t.a≠(⟨#[]⟩:ByteArray)
structure PS (S:gP):Prop where
 tl:TL S.l
 lo:0≤S.a
 hi:S.a < S.l.length
structure Nx (S S':gP):Prop where
 l:S'.l=S.l
 lo:S.a≤S'.a
 hi:S'.a < S.l.length
 e:S'.e=0→S.e=0
theorem Nx.ps {S S':gP} (h:PS S) (k:Nx S S'):PS S':=⟨by rw [k.l];exact h.tl,by have:=h.lo;have:=k.lo;omega,by rw [k.l];exact k.hi⟩
theorem Nx.rfl' {S:gP} (h:PS S):Nx S S:=⟨rfl,Int.le_refl _,h.hi,id⟩
theorem Nx.trans {S S' S2:gP} (h:Nx S S') (k:Nx S' S2):Nx S S2:=⟨k.l.trans h.l,Int.le_trans h.lo k.lo,by rw [← h.l];exact k.hi,fun z=>h.e (k.e z)⟩
theorem Nx.step {S:gP} (h:PS S) (k:S.a+1 < S.l.length):Nx S ⟨S.l,wr (S.a+1),S.c,S.e⟩:=by
 have:=h.lo;have:=h.tl.len
 have hw:wr (S.a+1)=S.a+1:=l5 (by omega) (by omega)
 exact ⟨rfl,by dsimp only;omega,by dsimp only;omega,id⟩
theorem PS.Ml {S:gP} (h:PS S):wr (S.a+1)=S.a+1:=by
 have:=h.lo;have:=h.tl.len;have:=h.hi
 exact l5 (by omega) (by omega)
theorem PS.more {S:gP} (h:PS S) {t:jY} (ht:S.l[S.a.toNat]?=some t) (hk:t.e≠0):S.a+1 < S.l.length:=by
 have:=h.lo;have:=h.hi
 by_cases hc:S.a.toNat+1=S.l.length
 · exact absurd (h.tl.last _ t hc ht) hk
 · omega
theorem Aq {S:gP} {fu:Nat} {e:Int} (h:PS S) (he:e≠0):kD (oN fu S e) (fun S'=>Nx S S'∧S'.e≠0∧S'.a=S.a):=by
 unfold oN
 refine .ite (fun c=>?_) (fun c=>?_)
 · refine .bd (.ix h.lo h.hi) fun t ht=>.mk ⟨⟨rfl,Int.le_refl _,h.hi,fun z=>absurd z he⟩,he,rfl⟩
 · exact .mk ⟨Nx.rfl' h,c,rfl⟩
theorem Am {S:gP} {fu:Nat} {s:ByteArray} (h:PS S):kD (mq fu S 0 s) (fun b=>b=true→S.a+1 < S.l.length):=by
 unfold mq
 have hw:wr (S.a+0)=S.a:=by have:=h.lo;have:=h.hi;have:=h.tl.len;rw [Int.add_zero];exact l5 (by omega) (by omega)
 rw [hw]
 refine .ite (fun c=>.mk fun z=>by cases z) (fun c=>?_)
 refine .bd (.ix h.lo h.hi) fun t ht=>?_
 refine .ite (fun c=>.mk fun _=>h.more ht (by omega)) (fun c=>?_)
 exact .ite (fun c=>.mk fun _=>h.more ht (by omega)) (fun c=>.mk fun z=>by cases z)
theorem Xy {S:gP} {fu:Nat} {s:ByteArray} (h:PS S):kD (mq fu S 1 s) (fun b=>True):=by
 unfold mq
 rw [h.Ml]
 refine .ite (fun c=>.mk trivial) (fun c=>?_)
 have:=h.lo
 refine .bd (.ix (by omega) (by omega)) fun t ht=>?_
 refine .ite (fun c=>.mk trivial) (fun c=>?_)
 exact .ite (fun c=>.mk trivial) (fun c=>.mk trivial)
theorem AR {S:gP} {fu:Nat} {k:Int} (h:PS S):kD (oO fu S 0 k) (fun b=>∃ t,S.l[S.a.toNat]?=some t∧(b=true→t.e=k)∧(t.e=k→b=true)∧(b=true→k≠0→S.a+1 < S.l.length)):=by
 unfold oO
 have hw:wr (S.a+0)=S.a:=by have:=h.lo;have:=h.hi;have:=h.tl.len;rw [Int.add_zero];exact l5 (by omega) (by omega)
 rw [hw]
 refine .ite (fun c=>?_) (fun c=>absurd h.hi c)
 refine .bd (.ix h.lo h.hi) fun t ht=>.mk ⟨t,ht,fun z=>of_decide_eq_true z,fun z=>decide_eq_true z,fun z hk=>h.more ht (by have:=of_decide_eq_true z;omega)⟩
def Tk (S S':gP):Prop:=Nx S S'∧(S'.e=0→S'.a=S.a+1)
theorem rY {S:gP} {fu:Nat} {s:ByteArray} (h:PS S):kD (lI fu S s) (Tk S):=by
 unfold lI
 refine .ite (fun c=>.mk ⟨Nx.rfl' h,fun z=>absurd z c⟩) (fun c=>?_)
 refine .bd (Am h) fun b hb=>?_
 refine .ite (fun d=>?_) (fun d=>?_)
 · refine .bd (Aq h (by decide)) fun S' hS=>.mk ⟨hS.1,fun z=>absurd z hS.2.1⟩
 · exact .mk ⟨Nx.step h (hb (by simpa using d)),fun _=>h.Ml⟩
theorem zX {S:gP} {fu:Nat} (h:PS S):kD (oh fu S) (fun r=>jy r fun n S'=>Tk S S'∧(S'.e=0→n≠(⟨#[]⟩:ByteArray))∧(S.e=0→(∃ t,S.l[S.a.toNat]?=some t∧t.e=1)→S'.e=0)):=by
 unfold oh
 refine .ite (fun c=>.mk ⟨⟨Nx.rfl' h,fun z=>absurd z c⟩,fun z=>absurd z c,fun z=>absurd z c⟩) (fun c=>?_)
 refine .bd (AR h) fun b hb=>?_
 obtain ⟨t,ht,hb1,hb3,hb2⟩:=hb
 refine .ite (fun d=>?_) (fun d=>?_)
 · refine .bd (Aq h (by decide)) fun S' hS=>.mk ⟨⟨hS.1,fun z=>absurd z hS.2.1⟩,fun z=>absurd z hS.2.1,fun _ ⟨t2,ht2,hk⟩=>?_⟩
   rw [ht] at ht2
   obtain rfl:=Option.some.inj ht2
   rw [hb3 hk] at d
   cases d
 · have hw:wr (wr (S.a+1) - 1)=S.a:=by rw [h.Ml];have:=h.lo;have:=h.hi;have:=h.tl.len;rw [l5 (by omega) (by omega)];omega
   rw [hw]
   refine .bd (.ix h.lo h.hi) fun t2 ht2=>.mk ⟨⟨Nx.step h (hb2 (by simpa using d) (by decide)),fun _=>h.Ml⟩,fun _=>?_,fun z _=>z⟩
   rw [ht] at ht2
   obtain rfl:=Option.some.inj ht2
   exact h.tl.name _ _ ht (hb1 (by simpa using d))
theorem ER {fu:Nat} {O:List ByteArray × gP→Prop}:∀ (n:Nat) (out:List ByteArray) (S:gP),PS S→S.l.length+1≤n+S.a→(S.e=0→(out.length:Int)≤S.a)→
  kD (qK fu n out S.l S.a S.c S.e) (oI (fun r=>jy r fun o r=>jy r fun a r=>jy r fun b r=>jy r fun c d=>Nx S ⟨a,b,c,d⟩∧(d=0→(o.length:Int)≤b)) O)
 | 0,out,S,h,hn,ho=>by have:=h.hi;omega
 | n+1,out,S,h,hn,ho=>by
  rw [qK]
  refine .ite (fun c=>?_) (fun c=>.go ⟨Nx.rfl' h,ho⟩)
  refine .bd (Am h) fun b hb=>?_
  refine .ite (fun d=>?_) (fun d=>.go ⟨Nx.rfl' h,ho⟩)
  refine .bd (rY h) fun S1 h1=>?_
  refine .bp (zX (h1.1.ps h)) fun nm S2 h2=>?_
  have hl:=h.tl.len;have:=h.hi
  refine .bd (.app (by have:=ho c;simp only [List.length_cons,List.length_nil];omega)) fun r hr=>?_
  have k:=h1.1.trans h2.1.1
  by_cases z:S2.e=0
  · have z1:S1.a=S.a+1:=h1.2 (h2.1.1.e z)
    have z2:=h2.1.2 z
    refine (ER (O:=O) n r S2 (k.ps h) (by rw [k.l];dsimp only;omega) fun _=>?_).imp fun v hv=>?_
    · subst hr;have:=ho c;simp only [List.length_append,List.length_cons,List.length_nil];omega
    · obtain v | v:=v
      · obtain ⟨o,a,b,c,d⟩:=v
        exact ⟨k.trans hv.1,hv.2⟩
      · exact hv
  · cases n with
    | zero=>have:S.a≤S1.a:=h1.1.lo;have:=h2.1.1.lo;omega
    | succ n=>
      rw [qK,if_neg z]
      exact .go ⟨k,fun y=>absurd y z⟩
theorem Nq {fu:Nat} {S:gP} (h:PS S) (hf:S.l.length+1≤fu):kD (vV fu S) (fun r=>jy r fun n S'=>Nx S S'∧(S'.e=0→n.length≤5000∧S.a < S'.a)):=by
 unfold vV
 refine .bp (zX h) fun n S1 h1=>?_
 have h2:=h1.1.1.ps h
 have h3:=h2.lo;have h4:=h.lo;have h5:=h2.tl.len
 refine .eo (ER fu [n] S1 h2 (by rw [h1.1.1.l];omega) fun z=>?_) fun s hs=>?_
 · have:=h1.1.2 z;simp only [List.length_cons,List.length_nil];omega
 · refine .pp hs fun o r hs=>.pp hs fun a r hs=>.pp hs fun b r hs=>.pp hs fun c d hs=>.mk ⟨h1.1.1.trans hs.1,fun z=>?_⟩
   have k1:=hs.2 z;have k2:=hs.1.hi;have k3:=hs.1.lo
   have k4:=h1.1.2 (hs.1.e z)
   dsimp only at k2 k3 ⊢
   omega
theorem PX {fu:Nat} {S:gP} (h:PS S):kD (xq fu S) (fun b=>b=true→S.a+1 < S.l.length):=by
 unfold xq
 refine .bd (AR h) fun b ⟨t,ht,hb,_,hb2⟩=>.ite (fun c=>.mk fun _=>hb2 c (by decide)) fun c=>?_
 refine .bd (AR h) fun b ⟨t,ht,hb,_,hb2⟩=>.ite (fun c=>.mk fun _=>hb2 c (by decide)) fun c=>?_
 refine .bd (Am h) fun b hb=>.ite (fun c=>.mk fun _=>hb c) fun c=>?_
 refine .bd (Am h) fun b hb=>.ite (fun c=>.mk fun _=>hb c) fun c=>?_
 exact .bd (Am h) fun b hb=>.mk hb
theorem Fe {fu:Nat} {S:gP} (h:PS S):∀ (l:List ByteArray) (k:Nat),k+l.length≤12→kD (qO fu S l k) (oI (fun _=>True) (fun r=>jy r fun n op=>S.a+1 < S.l.length))
 | [],_,_=>.go trivial
 | u :: r,k,hk=>by
  rw [qO]
  rw [List.length_cons] at hk
  refine .bd (Am h) fun b hb=>.ite (fun c=>?_) fun c=>Fe h r (k+1) (by omega)
  refine .bd (.ix (by omega) (by simp only [List.length_cons,List.length_nil];omega)) fun e he=>.out (hb c)
theorem Rb {fu:Nat} {S:gP} (h:PS S):kD (yH fu S) (fun r=>jy r fun n op=>n≠0→S.a+1 < S.l.length):=by
 unfold yH
 refine .el (Fe h _ 0 (by decide)) (fun _ _=>.mk fun z=>absurd rfl z) fun o ho=>.mk ?_
 obtain ⟨n,op⟩:=o
 exact fun _=>ho
theorem OM {fu:Nat} {S:gP} (h:PS S):kD (sw fu S) (fun b=>b=true→∃ t,S.l[S.a.toNat]?=some t∧t.e=1):=by
 unfold sw
 refine .bd (AR h) fun b ⟨t,ht,hb,_,hb2⟩=>.ite (fun c=>?_) fun c=>.mk fun z=>by cases z
 exact .bd (Xy h) fun b2 _=>.mk fun _=>⟨t,ht,hb c⟩
theorem D8 {fu:Nat} {S:gP} (h:PS S):∀ (l:List ByteArray) (k:Nat),kD (qb fu S l k) (oI (fun _=>True) (fun r=>S.a+1 < S.l.length))
 | [],_=>.go trivial
 | u :: r,k=>by
  rw [qb]
  exact .bd (Am h) fun b hb=>.ite (fun c=>.out (hb c)) fun c=>D8 h r (k+1)
theorem Qi {fu:Nat} {S:gP} (h:PS S):kD (xB fu S) (fun b=>b=true→S.a+1 < S.l.length):=by
 unfold xB
 refine .el (D8 h _ 0) (fun _ _=>?_) fun o ho=>.mk fun _=>ho
 exact .bd (AR h) fun b ⟨t,ht,hb,_,hb2⟩=>.mk fun c=>hb2 c (by decide)
def zn:Nat→jA→Prop
 | 0,_=>False
 | n+1,x=>x.a.length≤5000∧∀ y ∈ x.a,zn n y
theorem zn.mono:∀ {n m:Nat} {x:jA},zn n x→n≤m→zn m x
 | 0,_,_,h,_=>h.elim
 | n+1,0,_,h,k=>by omega
 | n+1,m+1,x,h,k=>⟨h.1,fun y hy=>zn.mono (h.2 y hy) (by omega)⟩
theorem zn.leaf {x:jA} (h:x.a=[]):zn 1 x:=⟨by rw [h];decide,fun y hy=>by rw [h] at hy;cases hy⟩
theorem zn.two {n:Nat} {x y z:jA} (hx:zn n x) (hy:zn n y) (h:z.a=[x,y]):zn (n+1) z:=⟨by rw [h];exact (by decide:2≤5000),fun q hq=>by
 rw [h] at hq
 simp only [List.mem_cons,List.not_mem_nil,or_false] at hq
 rcases hq with rfl | rfl
 · exact hx
 · exact hy⟩
theorem zn.one {n:Nat} {x z:jA} (hx:zn n x) (h:z.a=[x]):zn (n+1) z:=⟨by rw [h];exact (by decide:1≤5000),fun q hq=>by
 rw [h] at hq
 simp only [List.mem_cons,List.not_mem_nil,or_false] at hq
 subst hq
 exact hx⟩
def EP (S:gP) (x:jA) (S':gP):Prop:=Nx S S'∧(S'.e=0→S.a < S'.a∧∃ n:Nat,(n:Int)≤S'.a - S.a∧zn n x)
theorem EP.eta {S S1:gP} {x:jA} (h:EP S x S1):EP S ⟨x.e,x.c,x.g,x.b,x.d,x.a⟩ ⟨S1.l,S1.a,S1.c,S1.e⟩:=by cases x;cases S1;exact h
def Nu (f:gP→Int→Int→Option (jA × gP)) (fu:Nat):Prop:=∀ S least nest,PS S→1≤least→least≤5→0≤nest→nest≤9→S.l.length+10 * (10 - nest)+(6 - least)≤(fu:Int)→kD (f S least nest) (fun r=>jy r (EP S))
def XY (f:gP→Int→Option (jA × gP)) (fu:Nat):Prop:=∀ S nest,PS S→0≤nest→nest≤9→S.l.length+10 * (10 - nest)≤(fu:Int)→kD (f S nest) (fun r=>jy r (EP S))
def ZP (f:gP→Int→Option (jA × gP)) (fu:Nat):Prop:=∀ S nest,PS S→0≤nest→nest≤8→S.l.length+10 * (10 - nest)≤(fu:Int)+1→kD (f S nest) (fun r=>jy r fun x S'=>EP S x S'∧1≤x.e∧x.e≤3)
section
variable {fu:Nat} {f:gP→Int→Int→Option (jA × gP)} {g t:gP→Int→Option (jA × gP)}
theorem G8 (hf:Nu f fu) {least nest:Int} (h1:1≤least) (h2:least≤5) (h3:0≤nest) (h4:nest≤9) {S0:gP} (h0:PS S0) (hb:S0.l.length+10 * (10 - nest)+(6 - least)≤(fu:Int)+1) :
  ∀ (n:Nat) (x:jA) (S:gP),S0.l.length+1≤n+S.a→EP S0 ⟨x.e,x.c,x.g,x.b,x.d,x.a⟩ ⟨S.l,S.a,S.c,S.e⟩→
  kD (oH fu f g t least nest n x.e x.c x.g x.b x.d x.a S.l S.a S.c S.e)
   (oI (fun r=>jy r fun a r=>jy r fun b r=>jy r fun c r=>jy r fun d r=>jy r fun e r=>jy r fun f r=>jy r fun g r=>jy r fun h r=>jy r fun i j=>EP S0 ⟨a,b,c,d,e,f⟩ ⟨g,h,i,j⟩) (fun r=>jy r (EP S0)))
 | 0,x,S,hn,hx=>by have:=hx.1.hi;dsimp only at this;omega
 | n+1,x,S,hn,hx=>by
  rw [oH]
  have hS:=hx.1.ps h0
  refine .ite (fun c=>?_) (fun c=>.go hx)
  refine .ite (fun c2=>?_) (fun c=>.go hx)
  refine .bp (Rb hS) fun lv op hl=>?_
  refine .ite (fun d=>.out hx) (fun d=>?_)
  have hl:=hl (by omega)
  have hs:=Nx.step hS hl
  have hw:wr (least+1)=least+1:=l5 (by omega) (by omega)
  rw [hw]
  refine .bp (hf _ _ _ (hs.ps hS) (by omega) (by omega) h3 h4 (by rw [hs.l,hx.1.l];omega)) fun y S1 hy=>?_
  have hx':EP S0 ⟨op,0,0,be,be,[⟨x.e,x.c,x.g,x.b,x.d,x.a⟩,y]⟩ S1:=by
   refine ⟨(hx.1.trans hs).trans hy.1,fun z=>?_⟩
   obtain ⟨a1,n1,a2,a3⟩:=hy.2 z
   obtain ⟨b1,n2,b2,b3⟩:=hx.2 c
   have hw:wr (S.a+1)=S.a+1:=hS.Ml
   dsimp only at a1 a2
   rw [hw] at a1 a2
   dsimp only at b1 b2
   exact ⟨by omega,max n1 n2+1,by omega,zn.two (b3.mono (by omega)) (a3.mono (by omega)) rfl⟩
  refine .ite (fun c3=>.out hx') fun c3=>?_
  refine G8 hf h1 h2 h3 h4 h0 hb n ⟨op,0,0,be,be,_⟩ S1 ?_ hx'
  have:=hy.1.lo
  have hw:wr (S.a+1)=S.a+1:=hS.Ml
  dsimp only at this
  omega
theorem VK (hf:Nu f fu) (hg:XY g fu):Nu (rW fu f g t) (fu+1):=by
 intro S least nest h h1 h2 h3 h4 hb
 unfold rW
 have hA:kD (rU fu f g t S least nest) (oI (fun r=>jy r fun a r=>jy r fun b r=>jy r fun c r=>jy r fun d r=>jy r fun e r=>jy r fun f r=>jy r fun g r=>jy r fun h r=>jy r fun i j=>EP S ⟨a,b,c,d,e,f⟩ ⟨g,h,i,j⟩) (fun r=>jy r (EP S))):=by
  unfold rU
  refine .ite (fun c=>?_) (fun c=>?_)
  · exact .bp (hg S nest h h3 h4 (by omega)) fun x S1 hx=>.go hx.eta
  · have hw:wr (least+1)=least+1:=l5 (by omega) (by omega)
    rw [hw]
    exact .bp (hf S _ nest h (by omega) (by omega) h3 h4 (by omega)) fun x S1 hx=>.go hx.eta
 refine .eo hA fun s hs=>?_
 refine .pp hs fun a r hs=>.pp hs fun b r hs=>.pp hs fun c r hs=>.pp hs fun d r hs=>.pp hs fun e r hs=>.pp hs fun f' r hs=>.pp hs fun g' r hs=>.pp hs fun h' r hs=>.pp hs fun i j hs=>?_
 have:=h.lo;have:=hs.1.lo
 dsimp only at this
 refine .eo (G8 hf h1 h2 h3 h4 h (by omega) fu ⟨a,b,c,d,e,f'⟩ ⟨g',h',i,j⟩ (by dsimp only;omega) hs) fun s hs=>?_
 exact .pp hs fun a r hs=>.pp hs fun b r hs=>.pp hs fun c r hs=>.pp hs fun d r hs=>.pp hs fun e r hs=>.pp hs fun f' r hs=>.pp hs fun g' r hs=>.pp hs fun h' r hs=>.pp hs fun i j hs=>.mk hs
theorem FP (hg:XY g fu) {S:gP} {nest:Int} (h:PS S) (h3:0≤nest) (h4:nest≤8) (hb:S.l.length+10 * (9 - nest)≤(fu:Int)):∀ (l:List ByteArray) (k:Nat),
  kD (qA fu f g t S nest l k) (oI (fun _=>True) (fun r=>jy r (EP S)))
 | [],_=>.go trivial
 | u :: r,k=>by
  rw [qA]
  refine .bd (Am h) fun b hb2=>.ite (fun c=>?_) fun c=>FP hg h h3 h4 hb r (k+1)
  have hs:=Nx.step h (hb2 c)
  have hw:wr (nest+1)=nest+1:=l5 (by omega) (by omega)
  rw [hw]
  refine .bp (hg _ _ (hs.ps h) (by omega) (by omega) (by dsimp only;omega)) fun x S1 hx=>.out ⟨hs.trans hx.1,fun z=>?_⟩
  obtain ⟨a1,n1,a2,a3⟩:=hx.2 z
  have hw:wr (S.a+1)=S.a+1:=h.Ml
  dsimp only at a1 a2
  rw [hw] at a1 a2
  exact ⟨by omega,n1+1,by omega,zn.one a3 rfl⟩
theorem Sd (hf:Nu f fu) (hg:XY g fu) (ht:ZP t fu):XY (yK fu f g t) (fu+1):=by
 intro S nest h h3 h4 hb
 unfold yK
 refine .ite (fun c=>.mk ⟨Nx.rfl' h,fun z=>absurd z c⟩) fun c=>?_
 refine .bd (PX h) fun b hb2=>.ite (fun d=>?_) fun d=>?_
 · exact .bd (Aq h (by decide)) fun S1 h1=>.mk ⟨h1.1,fun z=>absurd z h1.2.1⟩
 have hm:=hb2 (by simpa using d)
 have hs:=Nx.step h hm
 have hw:wr (S.a+1)=S.a+1:=h.Ml
 refine .ite (fun d=>?_) fun d=>?_
 · exact .bd (Aq h (by decide)) fun S1 h1=>.mk ⟨h1.1,fun z=>absurd z h1.2.1⟩
 refine .eo (FP hg h h3 (by omega) (by omega) _ 0) fun _ _=>?_
 refine .bd (AR h) fun b _=>.ite (fun c2=>?_) fun c2=>?_
 · have hw2:wr (wr (S.a+1) - 1)=S.a:=by rw [hw];have:=h.lo;have:=h.hi;have:=h.tl.len;rw [l5 (by omega) (by omega)];omega
   rw [hw2]
   refine .bd (.ix h.lo h.hi) fun e he=>.mk ⟨hs,fun _=>?_⟩
   dsimp only
   rw [hw]
   exact ⟨by omega,1,by omega,zn.leaf rfl⟩
 refine .bd (Am h) fun b _=>.ite (fun c3=>?_) fun c3=>?_
 · have hwn:wr (nest+1)=nest+1:=l5 (by omega) (by omega)
   rw [hwn]
   refine .bp (hf _ _ _ (hs.ps h) (by decide) (by decide) (by omega) (by omega) (by dsimp only;omega)) fun x S1 hx=>?_
   refine .bd (rY ((hs.trans hx.1).ps h)) fun S2 h2=>.mk ⟨(hs.trans hx.1).trans h2.1,fun z=>?_⟩
   obtain ⟨a1,n1,a2,a3⟩:=hx.2 (h2.1.e z)
   have:=h2.1.lo
   dsimp only at a1 a2
   rw [hw] at a1 a2
   exact ⟨by omega,n1,by omega,a3⟩
 · exact .bp (ht S nest h h3 (by omega) (by omega)) fun x S1 hx=>.mk hx.1
theorem OW (hf:Nu f fu):ZP (wD fu f g t) (fu+1):=by
 intro S nest h h3 h4 hb
 unfold wD
 refine .bp (zX h) fun n S1 h1=>?_
 have hS1:=h1.1.1.ps h
 have hl:=h1.1.1.l
 have hw:S1.e=0→wr (S1.a+1)=S1.a+1:=fun _=>hS1.Ml
 have hJ:kD (vI fu f g t n S1) (oI (fun _=>True) (fun r=>jy r fun x S'=>EP S x S'∧1≤x.e∧x.e≤3)):=by
  unfold vI
  refine .ite (fun c=>?_) fun c=>.go trivial
  refine .bd (Am hS1) fun b hb2=>.ite (fun d=>?_) fun d=>.go trivial
  have hs:=Nx.step hS1 (hb2 d)
  refine .bp (zX (hs.ps hS1)) fun n2 S2 h2=>.out ⟨⟨(h1.1.1.trans hs).trans h2.1.1,fun z=>?_⟩,by dsimp only;omega,by dsimp only;omega⟩
  have a1:=h1.1.2 c;have a2:=h2.1.1.lo
  dsimp only at a2
  rw [hw c] at a2
  exact ⟨by omega,1,by omega,zn.leaf rfl⟩
 have hend:∀ x:jA,x.a=[]→EP S x S1:=fun x hx=>⟨h1.1.1,fun z=>by have a1:=h1.1.2 z;exact ⟨by omega,1,by omega,zn.leaf hx⟩⟩
 refine .eo hJ fun _ _=>?_
 refine .ite (fun c=>?_) fun c=>.mk ⟨hend _ rfl,by dsimp only;omega,by dsimp only;omega⟩
 refine .bd (Am hS1) fun b hb2=>.ite (fun d=>?_) fun d=>.mk ⟨hend _ rfl,by dsimp only;omega,by dsimp only;omega⟩
 have hs:=Nx.step hS1 (hb2 d)
 have hwn:wr (nest+1)=nest+1:=l5 (by omega) (by omega)
 rw [hwn]
 refine .bp (hf _ _ _ (hs.ps hS1) (by decide) (by decide) (by omega) (by omega) (by dsimp only;rw [hl];omega)) fun x S2 hx=>?_
 refine .bd (rY ((hs.trans hx.1).ps hS1)) fun S3 h3=>.mk ⟨⟨(h1.1.1.trans (hs.trans hx.1)).trans h3.1,fun z=>?_⟩,by dsimp only;omega,by dsimp only;omega⟩
 obtain ⟨a1,n1,a2,a3⟩:=hx.2 (h3.1.e z)
 have a4:=h1.1.2 c;have a5:=h3.1.lo
 dsimp only at a1 a2
 rw [hw c] at a1 a2
 exact ⟨by omega,n1+1,by omega,zn.one a3 rfl⟩
end
theorem wO:∀ fu:Nat,Nu (lW fu) fu∧XY (yI fu) fu∧ZP (sJ fu) fu
 | 0=>by
  refine ⟨fun S a b h _ _ _ _ hb=>?_,fun S b h _ _ hb=>?_,fun S b h _ _ hb=>?_⟩
  all_goals have:=h.hi;have:=h.lo;omega
 | fu+1=>⟨VK (wO fu).1 (wO fu).2.1,Sd (wO fu).1 (wO fu).2.1 (wO fu).2.2,OW (wO fu).1⟩
end Go.Proofs.Ytfglbdkfnphjgaa
set_option linter.unusedVariables false
set_option linter.unusedSimpArgs false
namespace Go.Proofs.Ytfglbdkfnphjgaa
open Go.RowKit Go.Fw
structure Shape (x:jO):Prop where
 decl:x.e=1→x.c=[]∧x.a=[]∧x.d=[]∧x.h=[]∧x.k=be
 call:x.e=3→x.k≠be∧∀ y ∈ x.c,1≤y.e∧y.e≤3
 func:x.k≠be→(x.e=3 ∨ x.e=6)∧x.d=[]∧x.h=[]
 type:0 < x.m→x.j=be
 kind:1≤x.e∧x.e≤10
 ret:x.e=6→x.c=[]
def DL (E:Nat):Nat→jO→Prop
 | 0,_=>False
 | n+1,x=>(x.c.length≤1∧∀ y ∈ x.c,zn E y)∧(x.a.length≤5000∧∀ y ∈ x.a,zn E y)∧(x.d.length≤5000∧∀ y ∈ x.d,DL E n y)∧(x.h.length≤5000∧∀ y ∈ x.h,DL E n y)∧Shape x
theorem DL.mono {E:Nat}:∀ {n m:Nat} {x:jO},DL E n x→n≤m→DL E m x
 | 0,_,_,h,_=>h.elim
 | n+1,0,_,h,k=>by omega
 | n+1,m+1,x,h,k=>⟨h.1,h.2.1,⟨h.2.2.1.1,fun y hy=>DL.mono (h.2.2.1.2 y hy) (by omega)⟩,⟨h.2.2.2.1.1,fun y hy=>DL.mono (h.2.2.2.1.2 y hy) (by omega)⟩,h.2.2.2.2⟩
theorem mK {α:Type} {p:α→Prop} {b:Nat}:([]:List α).length≤b∧∀ y ∈ ([]:List α),p y:=⟨Nat.zero_le _,fun y hy=>by cases hy⟩
theorem len1 {α:Type} {p:α→Prop} {b:Nat} {x:α} (h:p x) (hb:1≤b):[x].length≤b∧∀ y ∈ [x],p y:=⟨hb,fun y hy=>by
 simp only [List.mem_cons,List.not_mem_nil,or_false] at hy;subst hy;exact h⟩
theorem EP.ok {S S':gP} {x:jA} (h:PS S) (k:EP S x S') (z:S'.e=0):zn S.l.length x:=by
 obtain ⟨a,n,b,c⟩:=k.2 z
 exact c.mono (by have:=k.1.hi;have:=h.lo;omega)
theorem He {fu:Nat} {S0:gP} (h0:PS S0) (hf:S0.l.length+105≤fu) {O:List jA × gP→Prop}:∀ (n:Nat) (out:List jA) (S:gP),Nx S0 S→S0.l.length+1≤n+S.a→(S.e=0→(out.length:Int)≤S.a∧∀ y ∈ out,zn S0.l.length y)→
  1≤n→kD (oQ fu n S.l S.a S.c S.e out) (oI (fun r=>jy r fun a r=>jy r fun b r=>jy r fun c r=>jy r fun d o=>Nx S ⟨a,b,c,d⟩∧(d=0→(o.length:Int)≤b∧∀ y ∈ o,zn S0.l.length y)) O)
 | 0,out,S,h,hn,ho,h1=>by omega
 | n+1,out,S,h,hn,ho,_=>by
  have hS:=h.ps h0
  rw [oQ]
  refine .ite (fun c=>?_) (fun c=>.go ⟨Nx.rfl' hS,ho⟩)
  refine .bd (Am hS) fun b hb=>?_
  refine .ite (fun d=>?_) (fun d=>.go ⟨Nx.rfl' hS,ho⟩)
  have hs:=Nx.step hS (hb d)
  have hw:wr (S.a+1)=S.a+1:=hS.Ml
  have hl:S.l=S0.l:=h.l
  refine .bp ((wO fu).1 _ 1 0 (hs.ps hS) (by decide) (by decide) (by decide) (by decide) (by dsimp only;rw [hl];omega)) fun x S1 hx=>?_
  have hlen:=h0.tl.len;have hi:=h.hi
  refine .bd (.app (by have:=(ho c).1;simp only [List.length_cons,List.length_nil];omega)) fun r hr=>?_
  have k:=hs.trans hx.1
  have hat:=hx.1.lo
  dsimp only at hat
  rw [hw] at hat
  have hlo:=h.lo
  have h0lo:=h0.lo
  have hhi:=k.hi
  rw [hl] at hhi
  refine (He h0 hf (O:=O) n r S1 (h.trans k) (by omega) (fun z=>?_) (by omega)).imp fun v hv=>?_
  · subst hr
    have:=(ho c).1
    refine ⟨by simp only [List.length_append,List.length_cons,List.length_nil];omega,fun y hy=>?_⟩
    rcases List.mem_append.1 hy with hy | hy
    · exact (ho c).2 y hy
    · simp only [List.mem_cons,List.not_mem_nil,or_false] at hy
      subst hy
      have:=hx.ok (hs.ps hS) z
      dsimp only at this
      rwa [hl] at this
  · obtain v | v:=v
    · obtain ⟨a,b,c,d,o⟩:=v
      exact ⟨k.trans hv.1,hv.2⟩
    · exact hv
theorem Wn {fu:Nat} {S:gP} (h:PS S) (hf:S.l.length+105≤fu):kD (sQ fu S) (fun r=>jy r fun l S'=>Nx S S'∧(S'.e=0→S.a < S'.a∧l.length≤5000∧∀ y ∈ l,zn S.l.length y)):=by
 unfold sQ
 refine .bd (rY h) fun S1 h1=>?_
 have hS1:=h1.1.ps h
 have hl:=h1.1.l
 have hJ:kD (sI fu S1) (oI (fun r=>jy r fun o r=>jy r fun a r=>jy r fun b r=>jy r fun c d=>Nx S1 ⟨a,b,c,d⟩∧(d=0→(o.length:Int)≤b∧∀ y ∈ o,zn S.l.length y)) (fun _=>False)):=by
  unfold sI
  have hnil:Nx S1 ⟨S1.l,S1.a,S1.c,S1.e⟩∧(S1.e=0→(([]:List jA).length:Int)≤S1.a∧∀ y ∈ ([]:List jA),zn S.l.length y):=⟨Nx.rfl' hS1,fun _=>⟨by have:=hS1.lo;simp only [List.length_nil];omega,fun y hy=>by cases hy⟩⟩
  refine .ite (fun c=>?_) fun c=>.go hnil
  refine .bd (Am hS1) fun b hb=>.ite (fun d=>?_) fun d=>.go hnil
  refine .bp ((wO fu).1 _ 1 0 hS1 (by decide) (by decide) (by decide) (by decide) (by rw [hl];omega)) fun x S2 hx=>?_
  refine .bd (.app (by simp only [List.length_cons,List.length_nil];omega)) fun r hr=>?_
  have h2:=hx.1.ps hS1
  have a1:=hx.1.lo;have a2:=hS1.lo
  refine .BI (He h (by omega) fu r S2 (h1.1.trans hx.1) (by omega) (fun z=>?_) (by omega)) fun s hs=>?_
  · subst hr
    obtain ⟨b1,n,b2,b3⟩:=hx.2 z
    refine ⟨by simp only [List.nil_append,List.length_cons,List.length_nil];omega,fun y hy=>?_⟩
    simp only [List.nil_append,List.mem_cons,List.not_mem_nil,or_false] at hy
    subst hy
    have:=hx.ok hS1 z
    rwa [hl] at this
  · refine .pp hs fun a r hs=>.pp hs fun b r hs=>.pp hs fun c r hs=>.pp hs fun d o hs=>.go ⟨hx.1.trans hs.1,hs.2⟩
 refine .el hJ (fun s hs=>?_) fun _ z=>z.elim
 refine .pp hs fun o r hs=>.pp hs fun a r hs=>.pp hs fun b r hs=>.pp hs fun c d hs=>?_
 refine .bd (rY (hs.1.ps hS1)) fun S3 h3=>.mk ⟨(h1.1.trans hs.1).trans h3.1,fun z=>?_⟩
 have k1:=h3.1.e z
 have k2:=hs.2 k1
 have k3:=h1.2 (hs.1.e k1)
 have k4:=hs.1.lo;have k5:=h3.1.lo;have k6:=hs.1.hi;have k7:=h.tl.len
 dsimp only at k4 k5 k6
 rw [hl] at k6
 exact ⟨by omega,by omega,k2.2⟩
theorem R6 {fu:Nat} {S:gP} {x:jO} (h:PS S) (h1:x.j=be) (h2:x.m=0):kD (yP fu S x) (fun r=>jy r fun S' x'=>Nx S S'∧(S'.e=0→S.a < S'.a∧∃ T L,x'=⟨x.e,x.f,x.n,x.b,T,L,x.g,x.c,x.k,x.i,x.a,x.d,x.h⟩∧(0 < L→T=be))):=by
 obtain ⟨a1,a2,a3,a4,a5,a6,a7,a8,a9,a10,a11,a12,a13⟩:=x
 dsimp only at h1 h2
 subst h1 h2
 unfold yP
 refine .ite (fun c=>.mk ⟨Nx.rfl' h,fun z=>absurd z c⟩) fun c=>?_
 refine .bd (Am h) fun b hb=>.ite (fun d=>?_) fun d=>?_
 · refine .bp (zX h) fun n S1 hn=>.mk ⟨hn.1.1,fun z=>?_⟩
   have:=hn.1.2 z
   exact ⟨by omega,n,0,rfl,fun z=>by omega⟩
 have hs:=Nx.step h (hb (by simpa using d))
 have hP:=hs.ps h
 have hw:wr (S.a+1)=S.a+1:=h.Ml
 have hlo:=h.lo
 refine .bd (Am hP) fun b hb=>.ite (fun d=>?_) fun d=>?_
 · exact .mk ⟨hs,fun z=>⟨by dsimp only;omega,be,0,rfl,fun _=>rfl⟩⟩
 have hs2:=Nx.step hP (hb (by simpa using d))
 dsimp only at hs2
 have hP2:=hs2.ps hP
 have hw2:wr (wr (S.a+1)+1)=S.a+2:=by have:=hP.Ml;dsimp only at this;rw [this];omega
 refine .bd (AR hP2) fun b hb=>.ite (fun d=>?_) fun d=>?_
 · refine .bd (Aq hP2 (by decide)) fun S1 hS1=>.mk ⟨(hs.trans hs2).trans hS1.1,fun z=>absurd z hS1.2.1⟩
 obtain ⟨tk,htk,_,_,hb⟩:=hb
 have hb:=hb (by simpa using d) (by decide)
 refine .bd (.ix hP2.lo hP2.hi) fun e he=>?_
 have hJ:kD (wY fu e) (oI (fun _=>True) (fun _=>False)):=by
   unfold wY
   exact .ite (fun _=>.go trivial) fun _=>.go trivial
 refine .el hJ (fun s _=>?_) fun _ z=>z.elim
 refine .ite (fun _=>?_) fun _=>?_
 · refine .bd (Aq hP2 (by decide)) fun S1 hS1=>.mk ⟨(hs.trans hs2).trans hS1.1,fun z=>absurd z hS1.2.1⟩
 have hs3:=Nx.step hP2 hb
 refine .bd (rY (hs3.ps hP2)) fun S1 hS1=>.mk ⟨((hs.trans hs2).trans hs3).trans hS1.1,fun z=>⟨?_,be,e.c,rfl,fun _=>rfl⟩⟩
 have k1:=hS1.1.lo
 have k2:=hP2.Ml
 dsimp only at k1 k2
 rw [k2,hw2] at k1
 omega
theorem Dl {fu:Nat} {S:gP} {x:jO} {call:Bool} (h:PS S) (hf:S.l.length+105≤fu):kD (qY fu S x call) (fun r=>jy r fun S' x'=>Nx S S'∧(S'.e=0→S.a < S'.a∧∃ f a,x'=⟨x.e,x.f,x.n,x.b,x.j,x.m,x.g,x.c,f,x.i,a,x.d,x.h⟩∧(a.length≤5000∧∀ y ∈ a,zn S.l.length y)∧(f=x.k ∨ call=true)∧(call=true→sw fu S=some true→f≠be))):=by
 unfold qY
 have hJ:kD (wS fu S x call) (oI (fun _=>S.e=0→call=true→sw fu S=some true→False) (fun r=>jy r fun S' x'=>Nx S S'∧(S'.e=0→S.a < S'.a∧∃ f a,x'=⟨x.e,x.f,x.n,x.b,x.j,x.m,x.g,x.c,f,x.i,a,x.d,x.h⟩∧(a.length≤5000∧∀ y ∈ a,zn S.l.length y)∧(f=x.k ∨ call=true)∧(call=true→sw fu S=some true→f≠be)))):=by
  unfold wS
  refine .ite (fun c=>?_) fun c=>.go fun z=>absurd z c
  refine .ite (fun c2=>?_) fun c2=>.go fun _ z=>absurd z c2
  refine kD.QJ (OM h) fun b hb _=>.ite (fun d=>?_) fun d=>.go fun _ _ z=>by rw [hb] at z;exact d (Option.some.inj z)
  refine .bp (zX h) fun n S1 h1=>?_
  have hS1:=h1.1.1.ps h
  have hl:=h1.1.1.l
  refine .bp (Wn hS1 (by rw [hl];omega)) fun a S2 h2=>.out ⟨h1.1.1.trans h2.1,fun z=>?_⟩
  obtain ⟨k1,k2,k3⟩:=h2.2 z
  rw [hl] at k3
  have k4:=h1.1.1.lo
  exact ⟨by omega,n,a,rfl,⟨k2,k3⟩,.inr c2,fun _ _=>h1.2.1 (h2.1.e z)⟩
 refine .eo hJ fun _ hs=>?_
 refine .bp ((wO fu).1 _ 1 0 h (by decide) (by decide) (by decide) (by decide) (by omega)) fun y S1 hy=>.mk ⟨hy.1,fun z=>?_⟩
 exact ⟨(hy.2 z).1,x.k,[y],rfl,len1 (hy.ok h z) (by decide),.inl rfl,fun c d=>(hs (hy.1.e z) c d).elim⟩
def TP (N n:Nat) (S:gP) (x:jO) (S':gP):Prop:=Nx S S'∧(S'.e=0→S.a < S'.a∧DL N n x)
theorem OZ {fu n:Nat} {S:gP} {ln:Int} (h:PS S) (hf:S.l.length+105≤fu):kD (xw fu S ⟨0,ln,0,be,be,0,0,[],be,0,[],[],[]⟩) (fun r=>jy r fun S' x=>TP S.l.length (n+1) S x S'):=by
 unfold xw
 refine kD.QJ (OM h) fun b hb _=>.ite (fun d=>?_) fun d=>?_
 · subst d
   refine .bp (Dl h hf) fun S1 x h1=>.mk ⟨h1.1,fun z=>?_⟩
   obtain ⟨k1,f,a,rfl,k2,k3,k4⟩:=h1.2 z
   have k5:=k4 rfl hb
   refine ⟨k1,mK,k2,mK,mK,⟨fun z=>(by cases z),fun _=>⟨k5,fun y hy=>(by cases hy)⟩,fun _=>⟨.inl rfl,rfl,rfl⟩,fun z=>absurd z (Int.lt_irrefl 0),(by dsimp only;decide),fun z=>by cases z⟩⟩
 refine .bp ((wO fu).2.2 S 0 h (by decide) (by decide) (by omega)) fun y S1 h1=>?_
 have hS1:=h1.1.1.ps h
 refine .bd (rY hS1) fun S2 h2=>?_
 have hl:S2.l=S.l:=h2.1.l.trans h1.1.1.l
 refine .bp (Dl (h2.1.ps hS1) (by rw [hl];exact hf)) fun S3 x h3=>?_
 have k:=(h1.1.1.trans h2.1).trans h3.1
 have hy:S3.e=0→[y].length≤1∧∀ q ∈ [y],zn S.l.length q:=fun z=>len1 (h1.1.ok h (h2.1.e (h3.1.e z))) (Nat.le_refl 1)
 have hat:S3.e=0→S.a < S3.a:=fun z=>by
   have:=(h1.1.2 (h2.1.e (h3.1.e z))).1;have:=h2.1.lo;have:=h3.1.lo;omega
 refine .ite (fun c=>.mk ⟨k,fun z=>?_⟩) fun c=>.mk ⟨k,fun z=>?_⟩
 · obtain ⟨k1,f,a,rfl,k2,k3,k4⟩:=h3.2 z
   rw [hl] at k2
   dsimp only at c
   refine ⟨hat z,hy z,k2,mK,mK,⟨fun z=>(by cases z),fun z=>(by cases z),fun z=>absurd c z,fun z=>absurd z (Int.lt_irrefl 0),(by dsimp only;decide),fun z=>by cases z⟩⟩
 · obtain ⟨k1,f,a,rfl,k2,k3,k4⟩:=h3.2 z
   rw [hl] at k2
   dsimp only at c
   refine ⟨hat z,hy z,k2,mK,mK,⟨fun z=>(by cases z),fun _=>⟨c,fun y' hy'=>?_⟩,fun _=>⟨.inl rfl,rfl,rfl⟩,fun z=>absurd z (Int.lt_irrefl 0),(by dsimp only;decide),fun z=>by cases z⟩⟩
   simp only [List.mem_cons,List.not_mem_nil,or_false] at hy'
   subst hy'
   exact ⟨h1.2.1,h1.2.2⟩
def VP (f:gP→Int→Option ((List jO) × Int × gP)) (fu:Nat):Prop:=∀ S nest,PS S→1≤nest→nest≤9→S.l.length+110+2 * (10 - nest)+1≤(fu:Int)→kD (f S nest) (fun r=>jy r fun l r=>jy r fun _ S'=>(Nx S S'∧(S'.e=0→S.a < S'.a∧l.length≤5000∧∀ y ∈ l,DL S.l.length (11 - nest).toNat y))∧l.length≤5000)
def Rh (f:gP→Int→Option (jO × gP)) (fu:Nat):Prop:=∀ S nest,PS S→1≤nest→nest≤8→S.l.length+110+2 * (10 - nest)≤(fu:Int)→kD (f S nest) (fun r=>jy r fun x S'=>TP S.l.length (11 - nest).toNat S x S')
section
variable {fu:Nat} {f:gP→Int→Option ((List jO) × Int × gP)} {g:gP→Int→Option (jO × gP)}
theorem Az (hg:Rh g fu) {nest:Int} (h1:1≤nest) (h2:nest≤9) {S0:gP} (h0:PS S0) (hf:S0.l.length+110+2 * (10 - nest)+1≤(fu:Int)+1) {O:(List jO) × Int × gP→Prop}:∀ (n:Nat) (out:List jO) (S:gP),Nx S0 S→(S.e=0→S0.l.length+1≤n+S.a)→1≤n→(S.e=0→(out.length:Int)≤S.a∧∀ y ∈ out,DL S0.l.length (11 - nest).toNat y)→out.length≤5000→
  kD (pq fu f g nest n out S.l S.a S.c S.e) (oI (fun r=>jy r fun o r=>jy r fun a r=>jy r fun b r=>jy r fun c d=>(Nx S0 ⟨a,b,c,d⟩∧(d=0→(o.length:Int)≤b∧∀ y ∈ o,DL S0.l.length (11 - nest).toNat y))∧o.length≤5000) O)
 | 0,out,S,h,hn,hn1,ho,hq=>by omega
 | n+1,out,S,h,hn,_,ho,hq=>by
  have hS:=h.ps h0
  have hlen:=h0.tl.len;have hi:=h.hi;have hlo:=hS.lo
  rw [pq]
  refine .ite (fun c=>?_) (fun c=>.go ⟨⟨h,ho⟩,hq⟩)
  have hn:=hn c
  refine .bd (Am hS) fun b hb=>.ite (fun d=>?_) (fun d=>.go ⟨⟨h,ho⟩,hq⟩)
  refine .bd (Qi hS) fun b hb=>.ite (fun d=>?_) (fun d=>.ite (fun d2=>?_) fun d2=>?_)
  · exact .bd (Aq hS (by decide)) fun S1 k=>Az hg h1 h2 h0 hf n out S1 (h.trans k.1) (fun z=>absurd z k.2.1) (by omega) (fun z=>absurd z k.2.1) hq
  · exact .bd (Aq hS (by decide)) fun S1 k=>Az hg h1 h2 h0 hf n out S1 (h.trans k.1) (fun z=>absurd z k.2.1) (by omega) (fun z=>absurd z k.2.1) hq
  · refine .bp (hg _ nest hS h1 (by omega) (by dsimp only;rw [h.l];omega)) fun x S1 hx=>?_
    have ho:=ho c
    refine .bd (.app (by simp only [List.length_cons,List.length_nil];omega)) fun r hr=>?_
    refine Az hg h1 h2 h0 hf n r S1 (h.trans hx.1) (fun z=>?_) (by omega) (fun z=>?_) ?_
    · have:=(hx.2 z).1;dsimp only at this;omega
    · have k1:=(hx.2 z).1;have k2:=(hx.2 z).2
      dsimp only at k1 k2
      rw [h.l] at k2
      subst hr
      refine ⟨by simp only [List.length_append,List.length_cons,List.length_nil];omega,fun y hy=>?_⟩
      rcases List.mem_append.1 hy with hy | hy
      · exact ho.2 y hy
      · simp only [List.mem_cons,List.not_mem_nil,or_false] at hy
        subst hy
        exact k2
    · subst hr
      simp only [List.length_append,List.length_cons,List.length_nil]
      omega
theorem R7 (hg:Rh g fu):VP (yE fu f g) (fu+1):=by
 intro S nest h h1 h2 hf
 unfold yE
 refine .bd (rY h) fun S1 hS1=>?_
 have hP:=hS1.1.ps h
 have hlo:=h.lo;have hlo1:=hS1.1.lo;have hi1:=hS1.1.hi
 refine .el (Az (O:=fun _=>False) hg h1 h2 h (by omega) fu [] S1 hS1.1 (fun _=>by omega) (by omega) (fun _=>⟨by simp only [List.length_nil];omega,fun y hy=>by cases hy⟩) (Nat.zero_le _)) (fun s hs=>?_) fun _ z=>z.elim
 refine .pp hs fun o r hs=>.pp hs fun a r hs=>.pp hs fun b r hs=>.pp hs fun c d hs=>?_
 obtain ⟨hs,hq⟩:=hs
 have hP2:=hs.1.ps h
 have hJ:kD (xE fu f g a b d) (oI (fun _=>True) (fun _=>False)):=by
  unfold xE
  exact .ite (fun _=>.bd (.ix hP2.lo hP2.hi) fun _ _=>.go trivial) fun _=>.go trivial
 refine .el hJ (fun ln _=>?_) fun _ z=>z.elim
 refine .bd (rY hP2) fun S3 h3=>.mk ⟨⟨hs.1.trans h3.1,fun z=>?_⟩,hq⟩
 have k0:=h3.1.e z;have k1:=h3.2 z;have k2:=hs.1.lo;have k3:=hs.2 k0;have k4:=hs.1.hi;have k5:=h.tl.len
 dsimp only at k1 k2 k3 k4
 exact ⟨by omega,by omega,k3.2⟩
theorem KA (hf:VP f fu):Rh (sO fu f g) (fu+1):=by
 intro S nest h h1 h2 hfu
 have hlo:=h.lo
 unfold sO
 refine .bd (.ix h.lo h.hi) fun e he=>?_
 have hJ:kD (sD fu f g S e) (oI (fun r=>jy r fun w a=>Nx S ⟨S.l,a,S.c,S.e⟩) (fun _=>False)):=by
   unfold sD
   refine .bd (AR h) fun b hb=>.ite (fun d=>.go ?_) fun d=>.go (Nx.rfl' h)
   obtain ⟨_,_,_,_,hb⟩:=hb
   exact Nx.step h (hb d (by decide))
 refine .el hJ (fun s hs=>.pp hs fun w a hs=>?_) fun _ z=>z.elim
 have hP:=hs.ps h
 have ha:S.a≤a:=hs.lo
 have hN:(11 - nest).toNat=(10 - nest).toNat+1:=by omega
 have hn:wr (nest+1)=nest+1:=l5 (by omega) (by omega)
 have hd:(11 - (nest+1)).toNat=(10 - nest).toNat:=by omega
 rw [hN,hn]
 have blk:∀ S1,Nx S S1→kD (f S1 (nest+1)) (fun r=>jy r fun l r=>jy r fun _ S'=>Nx S1 S'∧(S'.e=0→S1.a < S'.a∧l.length≤5000∧∀ y ∈ l,DL S.l.length (10 - nest).toNat y)):=fun S1 k=>by
   have:=hf S1 (nest+1) (k.ps h) (by omega) (by omega) (by rw [k.l];omega)
   rw [k.l,hd] at this
   refine this.imp fun v hv=>?_
   obtain ⟨l,b,S2⟩:=v
   exact hv.1
 have expr:∀ S1,Nx S S1→kD (lW fu S1 1 0) (fun r=>jy r fun x S'=>Nx S1 S'∧(S'.e=0→S1.a < S'.a∧zn S.l.length x)):=fun S1 k=>by
   refine ((wO fu).1 S1 1 0 (k.ps h) (by decide) (by decide) (by decide) (by decide) (by rw [k.l];omega)).imp fun v hv=>?_
   obtain ⟨x,S2⟩:=v
   refine ⟨hv.1,fun z=>⟨(hv.2 z).1,?_⟩⟩
   have:=EP.ok (k.ps h) hv z
   rwa [k.l] at this
 have e1:(0:Int) < 0→be=be:=fun _=>rfl
 have e2:be≠be→∀ {p:Prop},p:=fun z=>absurd rfl z
 refine .ite (fun c=>?_) fun c=>.ite (fun c=>?_) fun c=>.ite (fun c=>?_) fun c=>.ite (fun c=>?_) fun c=>.ite (fun c=>?_) fun c=>.ite (fun c=>?_) fun c=>.ite (fun c=>?_) fun c=>?_
 · -- var
   refine .bp (zX hP) fun n S1 k1=>?_
   have q1:=hs.trans k1.1.1
   refine .bd (rY (q1.ps h)) fun S2 k2=>?_
   have q2:=q1.trans k2.1
   refine .bp (R6 (q2.ps h) rfl rfl) fun S3 x k3=>?_
   have q3:=q2.trans k3.1
   refine .bd (rY (q3.ps h)) fun S4 k4=>.mk ⟨q3.trans k4.1,fun z=>?_⟩
   have z3:=k4.1.e z
   obtain ⟨a1,T,L,rfl,a2⟩:=k3.2 z3
   have a3:=q2.lo;have a4:=k4.1.lo
   exact ⟨by omega,mK,mK,mK,mK,⟨fun _=>⟨rfl,rfl,rfl,rfl,rfl⟩,fun z=>(by cases z),fun z=>absurd rfl z,a2,(by dsimp only;decide),fun z=>(by cases z)⟩⟩
 · -- if
   refine .bp (expr _ hs) fun x S1 k1=>?_
   have q1:=hs.trans k1.1
   refine .bp (blk _ q1) fun l r k2=>.pp k2 fun ln S2 k2=>?_
   have q2:=q1.trans k2.1
   have fin:∀ S3 l2,Nx S2 S3→(S3.e=0→l2.length≤5000∧∀ y ∈ l2,DL S.l.length (10 - nest).toNat y)→TP S.l.length ((10 - nest).toNat+1) S ⟨4,e.f,0,be,be,0,0,[],be,0,[x],l,l2⟩ S3:=fun S3 l2 k3 k4=>⟨q2.trans k3,fun z=>by
    have z2:=k3.e z;have z1:=k2.1.e z2
    have a1:=k1.2 z1;have a2:=k2.2 z2;have a3:=k3.lo;have a4:=hs.lo
    dsimp only at a1 a4
    exact ⟨by omega,mK,len1 a1.2 (by decide),a2.2,k4 z,⟨fun z=>(by cases z),fun z=>(by cases z),fun z=>absurd rfl z,e1,(by dsimp only;decide),fun z=>(by cases z)⟩⟩⟩
   have P2:=q2.ps h
   refine .ite (fun d=>?_) fun d=>.mk (fin S2 [] (Nx.rfl' P2) fun _=>mK)
   refine .bd (Am P2) fun b hb=>.ite (fun d2=>?_) fun d2=>.mk (fin S2 [] (Nx.rfl' P2) fun _=>mK)
   have ks:=Nx.step P2 (hb d2)
   exact .bp (blk _ (q2.trans ks)) fun l2 r k3=>.pp k3 fun ln S3 k3=>.mk (fin S3 l2 (ks.trans k3.1) fun z=>(k3.2 z).2)
 · -- while
   refine .bp (expr _ hs) fun x S1 k1=>?_
   have q1:=hs.trans k1.1
   refine .bp (blk _ q1) fun l r k2=>.pp k2 fun ln S2 k2=>.mk ⟨q1.trans k2.1,fun z=>?_⟩
   have z1:=k2.1.e z
   have a1:=k1.2 z1;have a2:=k2.2 z;have a4:=hs.lo
   dsimp only at a1 a4
   exact ⟨by omega,mK,len1 a1.2 (by decide),a2.2,mK,⟨fun z=>(by cases z),fun z=>(by cases z),fun z=>absurd rfl z,e1,(by dsimp only;decide),fun z=>(by cases z)⟩⟩
 · -- try
   refine .bp (blk _ hs) fun l r k2=>.pp k2 fun ln S2 k2=>?_
   have q2:=hs.trans k2.1
   refine .bd (rY (q2.ps h)) fun S3 k3=>?_
   have q3:=q2.trans k3.1
   refine .bp (zX (q3.ps h)) fun n S4 k4=>?_
   have q4:=q3.trans k4.1.1
   refine .bp (blk _ q4) fun l2 r k5=>.pp k5 fun ln S5 k5=>.mk ⟨q4.trans k5.1,fun z=>?_⟩
   have z2:=k3.1.e (k4.1.1.e (k5.1.e z))
   have a2:=k2.2 z2;have a3:=k5.2 z;have a4:=hs.lo;have a5:=k3.1.lo;have a6:=k4.1.1.lo
   dsimp only at a2 a4
   exact ⟨by omega,mK,mK,a2.2,a3.2,⟨fun z=>(by cases z),fun z=>(by cases z),fun z=>absurd rfl z,e1,(by dsimp only;decide),fun z=>(by cases z)⟩⟩
 · -- return
   refine .bp (Dl hP (by dsimp only;omega)) fun S1 x k1=>?_
   have q1:=hs.trans k1.1
   refine .bd (rY (q1.ps h)) fun S2 k2=>.mk ⟨q1.trans k2.1,fun z=>?_⟩
   obtain ⟨a1,f',a',rfl,a2,a3,a4⟩:=k1.2 (k2.1.e z)
   have a5:=k2.1.lo;have a6:=hs.lo
   dsimp only at a1 a6
   exact ⟨by omega,mK,a2,mK,mK,⟨fun z=>(by cases z),fun z=>(by cases z),fun _=>⟨.inr rfl,rfl,rfl⟩,e1,(by dsimp only;decide),fun _=>rfl⟩⟩
 · -- throw
   refine .bp (Dl hP (by dsimp only;omega)) fun S1 x k1=>?_
   have q1:=hs.trans k1.1
   refine .bd (rY (q1.ps h)) fun S2 k2=>.mk ⟨q1.trans k2.1,fun z=>?_⟩
   obtain ⟨a1,f',a',rfl,a2,a3,a4⟩:=k1.2 (k2.1.e z)
   have a5:=k2.1.lo;have a6:=hs.lo
   dsimp only at a1 a6
   have a7:f'=be:=a3.elim id fun q=>(by cases q)
   subst a7
   exact ⟨by omega,mK,a2,mK,mK,⟨fun z=>(by cases z),fun z=>(by cases z),fun z=>absurd rfl z,e1,(by dsimp only;decide),fun z=>(by cases z)⟩⟩
 · -- print
   refine .bp (Dl hP (by dsimp only;omega)) fun S1 x k1=>?_
   have q1:=hs.trans k1.1
   refine .bd (rY (q1.ps h)) fun S2 k2=>.mk ⟨q1.trans k2.1,fun z=>?_⟩
   obtain ⟨a1,f',a',rfl,a2,a3,a4⟩:=k1.2 (k2.1.e z)
   have a5:=k2.1.lo;have a6:=hs.lo
   dsimp only at a1 a6
   have a7:f'=be:=a3.elim id fun q=>(by cases q)
   subst a7
   exact ⟨by omega,mK,a2,mK,mK,⟨fun z=>(by cases z),fun z=>(by cases z),fun z=>absurd rfl z,e1,(by dsimp only;decide),fun z=>(by cases z)⟩⟩
 · -- an assignment or a call
   refine .bp (OZ (n:=(10 - nest).toNat) hP (by dsimp only;omega)) fun S1 x k1=>?_
   have q1:=hs.trans k1.1
   refine .bd (rY (q1.ps h)) fun S2 k2=>.mk ⟨q1.trans k2.1,fun z=>?_⟩
   have a1:=k1.2 (k2.1.e z);have a5:=k2.1.lo;have a6:=hs.lo
   dsimp only at a1 a6
   exact ⟨by omega,a1.2⟩
end
theorem FC:∀ fu:Nat,VP (vT fu) fu∧Rh (vG fu) fu
 | 0=>by
  refine ⟨fun S a h _ _ hb=>?_,fun S b h _ _ hb=>?_⟩
  all_goals have:=h.hi;have:=h.lo;omega
 | fu+1=>⟨R7 (FC fu).2,KA (FC fu).1⟩
end Go.Proofs.Ytfglbdkfnphjgaa
set_option linter.unusedVariables false
set_option linter.unusedSimpArgs false
namespace Go.Proofs.Ytfglbdkfnphjgaa
open Go.RowKit Go.Fw
theorem EI {fu:Nat} {c:Int}:kD (q8 fu c) (fun _=>True):=by
 unfold q8
 repeat' (first | exact .mk trivial | refine .ite (fun _=>?_) fun _=>?_)
theorem Jo {fu:Nat} {c:Int}:kD (uE fu c) (fun _=>True):=by
 unfold uE
 repeat' (first | exact .mk trivial | refine .ite (fun _=>?_) fun _=>?_)
theorem BQ {fu:Nat} {s:ByteArray}:∀ (l:List ByteArray) (k:Nat),kD (oD fu s l k) (oI (fun _=>True) (fun _=>True))
 | [],_=>.go trivial
 | u :: r,k=>by
  rw [oD]
  exact .ite (fun _=>.out trivial) fun _=>BQ r (k+1)
theorem LH {fu:Nat} {s:ByteArray}:kD (uq fu s) (fun _=>True):=by
 unfold uq
 exact .eo (BQ _ 0) fun _ _=>.mk trivial
theorem H9 {fu:Nat} {s:ByteArray} {at_:Int} (h0:0≤at_) (h1:at_+2≤s.size) (h2:s.size≤4000):∀ (l:List ByteArray) (k:Nat),(∀ u ∈ l,u.size=2)→kD (rG fu s at_ l k) (oI (fun _=>True) (fun r=>r.size=2))
 | [],_,_=>.go trivial
 | u :: r,k,hl=>by
  rw [rG]
  have hw:wr (at_+2)=at_+2:=l5 (by omega) (by omega)
  rw [hw]
  refine .bd (.O7 (by omega)) fun g hg=>.ite (fun _=>.out (hl u (.head _))) fun _=>H9 h0 h1 h2 r (k+1) fun u hu=>hl u (.tail _ hu)
theorem HY {fu:Nat} {s:ByteArray} {at_:Int} (h0:0≤at_) (h1:at_ < s.size) (h2:s.size≤4000):∀ (l:List Dv) (k:Nat),kD (rF fu s at_ l k) (oI (fun _=>True) (fun r=>r.size=1))
 | [],_=>.go trivial
 | u :: r,k=>by
  rw [rF]
  have hw:wr (at_+1)=at_+1:=l5 (by omega) (by omega)
  rw [hw]
  refine .bd (.ixs h0 h1) fun c hc=>.ite (fun _=>?_) fun _=>HY h0 h1 h2 r (k+1)
  refine .bd (.O7 (by omega)) fun g hg=>.out ?_
  subst hg
  rw [ByteArray.size_extract]
  omega
theorem UW {fu:Nat} {s:ByteArray} {at_:Int} (h0:0≤at_) (h1:at_ < s.size) (h2:s.size≤4000):kD (zA fu s at_) (fun r=>r≠(⟨#[]⟩:ByteArray)→1≤r.size∧at_+r.size≤s.size):=by
 unfold zA
 have hw:wr (at_+1)=at_+1:=l5 (by omega) (by omega)
 have hJ:kD (yw fu s at_) (oI (fun _=>True) (fun r=>r.size=2∧at_+2≤s.size)):=by
  unfold yw
  rw [hw]
  refine .ite (fun c=>?_) fun _=>.go trivial
  refine .el (H9 h0 (by omega) h2 _ 0 ?_) (fun _ _=>.go trivial) fun o ho=>.out ⟨ho,by omega⟩
  decide
 refine .el hJ (fun _ _=>?_) fun o ho=>.mk fun _=>by omega
 exact .el (HY h0 h1 h2 _ 0) (fun _ _=>.mk fun z=>absurd rfl z) fun o ho=>.mk fun _=>by omega
theorem H7 {fu:Nat} {s:ByteArray} (h2:s.size≤4000) {O:Int × Int→Prop}:∀ (n:Nat) (at_:Int),0≤at_→at_≤s.size→s.size+1≤n+at_→kD (rR fu s n at_) (oI (fun a=>at_≤a∧a≤s.size) O)
 | 0,a,h0,h1,hn=>by omega
 | n+1,a,h0,h1,hn=>by
  rw [rR]
  refine .ite (fun c=>?_) fun c=>.go ⟨Int.le_refl _,h1⟩
  have hw:wr (a+1)=a+1:=l5 (by omega) (by omega)
  rw [hw]
  refine .bd (.ixs h0 c) fun x hx=>.ite (fun _=>?_) fun _=>.go ⟨Int.le_refl _,h1⟩
  refine (H7 (O:=O) h2 n (a+1) (by omega) (by omega) (by omega)).imp fun v hv=>?_
  obtain v | v:=v
  · exact ⟨by have:=hv.1;omega,hv.2⟩
  · exact hv
theorem Ht {fu:Nat} {s:ByteArray} (h2:s.size≤4000) (hf:4001≤fu):∀ (n:Nat) (at_ line:Int),0≤at_→at_≤s.size→s.size+1≤n+at_→kD (oW fu s n at_ line) (oI (fun r=>jy r fun a _=>at_≤a∧a≤s.size) (fun r=>jy r fun a _=>at_≤a∧a≤s.size))
 | 0,a,ln,h0,h1,hn=>by omega
 | n+1,a,ln,h0,h1,hn=>by
  rw [oW]
  refine .ite (fun c=>?_) fun c=>.go ⟨Int.le_refl _,h1⟩
  have hw:wr (a+1)=a+1:=l5 (by omega) (by omega)
  refine kD.QJ (.ixs h0 c) fun x hx0 hx=>?_
  have hJ:kD (yD fu s a x) (oI (fun b=>b=true→x=47) (fun _=>False)):=by
    unfold yD
    rw [hw]
    refine .ite (fun c=>?_) fun c=>.go fun z=>(by cases z)
    exact .ite (fun c2=>.bd (.ixs (by omega) c2) fun y _=>.go fun _=>c) fun _=>.go fun z=>(by cases z)
  have up:∀ (b l2:Int),a < b→b≤s.size→kD (oW fu s n b l2) (oI (fun r=>jy r fun a' _=>a≤a'∧a'≤s.size) (fun r=>jy r fun a' _=>a≤a'∧a'≤s.size)):=fun b l2 k1 k2=>by
    refine (Ht h2 hf n b l2 (by omega) k2 (by omega)).imp fun v hv=>?_
    obtain v | v:=v
    all_goals
     obtain ⟨p,q⟩:=v
     exact ⟨by have:=hv.1;omega,hv.2⟩
  refine .el hJ (fun b hb=>?_) fun _ z=>z.elim
  refine .ite (fun d=>?_) fun d=>?_
  · -- the comment's first byte is no end of a line
    obtain ⟨fu',rfl⟩:∃ k,fu=k+1:=⟨fu - 1,by omega⟩
    have hx47:=hb d
    rw [rR,if_pos c,hx0]
    show kD (Option.bind (if x≠10 then _ else _) _) _
    rw [if_pos (by omega),hw]
    exact .BI (H7 h2 fu' (a+1) (by omega) (by omega) (by omega)) fun b hb=>up b ln (by omega) hb.2
  · have hJ3:kD (yj fu a ln x) (oI (fun _=>True) (fun r=>jy r fun a' _=>a≤a'∧a'≤s.size)):=by
     unfold yj
     repeat' (first | exact .go trivial | exact .out ⟨Int.le_refl _,h1⟩ | refine .ite (fun _=>?_) fun _=>?_)
    refine .BI hJ3 fun _ _=>?_
    rw [hw]
    exact .ite (fun _=>up _ _ (by omega) (by omega)) fun _=>up _ _ (by omega) (by omega)
theorem Qm {fu:Nat} {s:ByteArray} {at_ line:Int} (h2:s.size≤4000) (hf:4001≤fu) (h0:0≤at_) (h1:at_≤s.size):kD (xQ fu s at_ line) (fun r=>jy r fun a _=>at_≤a∧a≤s.size):=by
 unfold xQ
 exact .eo (Ht h2 hf fu at_ line h0 h1 (by omega)) fun r hs=>.pp hs fun a b hs=>.mk hs
theorem Qd {fu:Nat} {s:ByteArray} {a:Int} (h0:0≤a):kD (uO fu s a) (oI (fun b=>b=true→a < s.size) (fun _=>False)):=by
 unfold uO
 refine .ite (fun c=>?_) fun c=>.go fun z=>(by cases z)
 refine .bd (.ixs h0 c) fun x hx=>.bd EI fun b _=>.ite (fun _=>.go fun _=>c) fun _=>?_
 exact .bd (.ixs h0 c) fun x hx=>.bd Jo fun b _=>.go fun _=>c
theorem JQ {fu:Nat} {s:ByteArray} (h2:s.size≤4000) {O:jY × Int × Int→Prop}:∀ (n:Nat) (a:Int),0≤a→a≤s.size→s.size+1≤n+a→kD (qh fu s n a) (oI (fun b=>a≤b∧b≤s.size) O)
 | 0,a,h0,h1,hn=>by omega
 | n+1,a,h0,h1,hn=>by
  rw [qh]
  refine .el (Qd h0) (fun b hb=>?_) fun _ z=>z.elim
  refine .ite (fun c=>?_) fun c=>.go ⟨Int.le_refl _,h1⟩
  have:=hb c
  have hw:wr (a+1)=a+1:=l5 (by omega) (by omega)
  rw [hw]
  refine (JQ (O:=O) h2 n (a+1) (by omega) (by omega) (by omega)).imp fun v hv=>?_
  obtain v | v:=v
  · exact ⟨by have:=hv.1;omega,hv.2⟩
  · exact hv
theorem Lh {fu:Nat} {s:ByteArray} {at_:Int} (h2:s.size≤4000) (h3:0≤at_) {O:jY × Int × Int→Prop}:∀ (n:Nat) (a m:Int),at_≤a→a≤s.size→s.size+1≤n+a→kD (og fu s at_ n a m) (oI (fun r=>jy r fun b _=>a≤b∧b≤s.size) O)
 | 0,a,m,h0,h1,hn=>by omega
 | n+1,a,m,h0,h1,hn=>by
  rw [og]
  refine .ite (fun c=>?_) fun c=>.go ⟨Int.le_refl _,h1⟩
  refine .bd (.ixs (by omega) c) fun x hx=>.bd Jo fun b _=>.ite (fun _=>?_) fun c=>.go ⟨Int.le_refl _,h1⟩
  have hw:wr (a+1)=a+1:=l5 (by omega) (by omega)
  rw [hw]
  have up:∀ m2:Int,kD (og fu s at_ n (a+1) m2) (oI (fun r=>jy r fun b _=>a≤b∧b≤s.size) O):=fun m2=>by
   refine (Lh (O:=O) h2 h3 n (a+1) m2 (by omega) (by omega) (by omega)).imp fun v hv=>?_
   obtain v | v:=v
   · obtain ⟨p,q⟩:=v
     exact ⟨by have:=hv.1;omega,hv.2⟩
   · exact hv
  exact .ite (fun _=>.bd (.ixs (by omega) c) fun _ _=>up _) fun _=>up _
theorem XD {fu:Nat} {s:ByteArray} {at_ line:Int} (h2:s.size≤4000) (hf:4001≤fu) (h0:0≤at_) (h1:at_ < s.size):kD (Ah fu s at_ line) (fun r=>jy r fun t r=>jy r fun nx e=>e=0→at_ < nx∧nx≤s.size∧(t.e=1→t.a≠(⟨#[]⟩:ByteArray))):=by
 unfold Ah
 have bad:∀ (t:jY) (n e:Int),e≠0→kD (some (t,n,e)) (fun r=>jy r fun t r=>jy r fun nx e=>e=0→at_ < nx∧nx≤s.size∧(t.e=1→t.a≠(⟨#[]⟩:ByteArray))):=fun t n e he=>.mk fun z=>absurd z he
 obtain ⟨fu',rfl⟩:∃ k,fu=k+1:=⟨fu - 1,by omega⟩
 have hw:wr (at_+1)=at_+1:=l5 (by omega) (by omega)
 refine kD.QJ (.ixs h0 h1) fun x hx0 hx=>kD.QJ EI fun b hb _=>.ite (fun c=>?_) fun c=>?_
 · have hL:kD (qh (fu'+1) s (fu'+1) at_) (oI (fun b=>at_ < b∧b≤s.size) (fun _=>False)):=by
    rw [qh]
    have hJ:uO (fu'+1) s at_=some (.go true):=by
      unfold uO
      rw [if_pos h1,hx0]
      show Option.bind (q8 (fu'+1) x) _=_
      rw [hb,c]
      rfl
    rw [hJ]
    show kD (if true=true then qh (fu'+1) s fu' (wr (at_+1)) else some (.go at_)) _
    rw [if_pos rfl,hw]
    refine (JQ (O:=fun _=>False) h2 fu' (at_+1) (by omega) (by omega) (by omega)).imp fun v hv=>?_
    obtain v | v:=v
    · exact ⟨by have:=hv.1;omega,hv.2⟩
    · exact hv
   refine .el hL (fun a ha=>?_) fun _ z=>z.elim
   refine .ite (fun _=>bad _ _ _ (by decide)) fun _=>?_
   refine .bd (.O7 (by omega)) fun g hg=>.bd LH fun b _=>?_
   refine .ite (fun _=>.mk fun _=>⟨ha.1,ha.2,fun z=>(by cases z)⟩) fun _=>.mk fun _=>⟨ha.1,ha.2,fun _ z=>?_⟩
   have z2:=congrArg ByteArray.size z
   dsimp only at z2
   rw [hg,ByteArray.size_extract] at z2
   have z3:(⟨#[]⟩:ByteArray).size=0:=rfl
   omega
 refine kD.QJ (.ixs h0 h1) fun x2 hx2 _=>kD.QJ Jo fun b2 hb2 _=>.ite (fun c2=>?_) fun c2=>?_
 · have hL:kD (og (fu'+1) s at_ (fu'+1) at_ 0) (oI (fun r=>jy r fun b _=>at_ < b∧b≤s.size) (fun _=>False)):=by
    rw [og,if_pos h1,hx2,Option.bind_some,hb2,Option.bind_some,if_pos c2,hw]
    have up:∀ m2:Int,kD (og (fu'+1) s at_ fu' (at_+1) m2) (oI (fun r=>jy r fun b _=>at_ < b∧b≤s.size) (fun _=>False)):=fun m2=>by
      refine (Lh (O:=fun _=>False) h2 h0 fu' (at_+1) m2 (by omega) (by omega) (by omega)).imp fun v hv=>?_
      obtain v | v:=v
      · obtain ⟨p,q⟩:=v
        exact ⟨by have:=hv.1;omega,hv.2⟩
      · exact hv
    exact .ite (fun _=>up _) fun _=>up _
   refine .el hL (fun r hs=>.pp hs fun a m ha=>?_) fun _ z=>z.elim
   refine .ite (fun _=>bad _ _ _ (by decide)) fun _=>?_
   have hJ:kD (y9 (fu'+1) s a) (oI (fun _=>True) (fun r=>jy r fun t r=>jy r fun nx e=>e≠0)):=by
    unfold y9
    refine .ite (fun c=>?_) fun _=>.go trivial
    exact .bd (.ixs (by omega) c) fun _ _=>.bd EI fun _ _=>.ite (fun _=>.out (show (6:Int)≠0 by decide)) fun _=>.go trivial
   refine .el hJ (fun _ _=>.mk fun _=>⟨ha.1,ha.2,fun z=>(by cases z)⟩) fun o ho=>.mk ?_
   obtain ⟨t,n,e⟩:=o
   exact fun z=>absurd z ho
 refine .bd (UW h0 h1 h2) fun g hg=>.ite (fun _=>bad _ _ _ (by decide)) fun c3=>.mk fun _=>?_
 have:=hg c3
 have hw2:wr (at_+((g.size:Nat):Int))=at_+g.size:=l5 (by omega) (by omega)
 rw [hw2]
 exact ⟨by omega,by omega,fun z=>(by cases z)⟩
def Nm (l:List jY):Prop:=∀ (k:Nat) (t:jY),l[k]?=some t→t.e=1→t.a≠(⟨#[]⟩:ByteArray)
theorem Nm.app {l:List jY} (h:Nm l) {t:jY} (ht:t.e=1→t.a≠(⟨#[]⟩:ByteArray)):Nm (l ++ [t]):=fun k t' hk=>by
 rw [List.getElem?_append] at hk
 split at hk
 · exact h k t' hk
 · have:k - l.length=0:=by have:=kT hk;simp only [List.length_cons,List.length_nil] at this;omega
   rw [this] at hk
   obtain rfl:=Option.some.inj hk
   exact ht
theorem Ic {fu:Nat} {s:ByteArray} (h2:s.size≤4000) (hf:4001≤fu):∀ (n:Nat) (a line:Int) (l:List jY),0≤a→a≤s.size→s.size+1≤n+a→l.length≤2000→Nm l→kD (tN fu s n a line l) (oI (fun r=>jy r fun _ r=>jy r fun _ l=>l.length≤2000∧Nm l) (fun r=>jy r fun _ r=>jy r fun _ e=>e≠0))
 | 0,a,ln,l,h0,h1,hn,hl,hm=>by omega
 | n+1,a,ln,l,h0,h1,hn,hl,hm=>by
  rw [tN]
  refine .ite (fun c=>?_) fun c=>.go ⟨hl,hm⟩
  refine .bp (XD h2 hf h0 c) fun t r ht=>.pp ht fun nx e ht=>?_
  have hJ:kD (xU fu l e) (oI (fun e'=>e'=0→e=0∧l.length < 2000) (fun _=>False)):=by
   unfold xU
   refine .ite (fun c=>?_) fun c=>.go fun z=>absurd z c
   exact .ite (fun c=>.go fun z=>(by cases z)) fun c2=>.go fun _=>⟨c,by omega⟩
  refine .el hJ (fun e' he=>?_) fun _ z=>z.elim
  refine .ite (fun d=>.out d) fun d=>?_
  have he:=he (by omega)
  have ht:=ht he.1
  refine .bd (.app (by simp only [List.length_cons,List.length_nil];omega)) fun r hr=>?_
  refine .bp (Qm h2 hf (by omega) ht.2.1) fun a2 ln2 ha=>?_
  subst hr
  exact Ic h2 hf n a2 ln2 _ (by omega) ha.2 (by omega) (by simp only [List.length_append,List.length_cons,List.length_nil];omega) (hm.app ht.2.2)
theorem Va {fu:Nat} {s:ByteArray} (hf:4001≤fu):kD (zu fu s) (fun r=>jy r fun l r=>jy r fun _ e=>e=0→TL l∧1≤l.length∧l.length≤2001):=by
 unfold zu
 refine .ite (fun c=>.mk fun z=>(by cases z)) fun c=>?_
 have h2:s.size≤4000:=by omega
 refine .bp (Qm h2 hf (Int.le_refl _) (by omega)) fun a ln ha=>?_
 refine .el (Ic h2 hf fu a ln [] ha.1 ha.2 (by omega) (by decide) fun k t hk=>(by cases hk)) (fun r hs=>.pp hs fun _ r hs=>.pp hs fun b l hs=>?_) fun o ho=>?_
 · refine .bd (.app (by simp only [List.length_cons,List.length_nil];omega)) fun r hr=>.mk fun _=>?_
   subst hr
   refine ⟨⟨by simp only [List.length_append,List.length_cons,List.length_nil];omega,fun k t hk ht=>?_,hs.2.app fun z=>(by cases z)⟩,by simp only [List.length_append,List.length_cons,List.length_nil];omega,by simp only [List.length_append,List.length_cons,List.length_nil];omega⟩
   simp only [List.length_append,List.length_cons,List.length_nil] at hk
   obtain rfl:k=l.length:=by omega
   rw [List.getElem?_append_right (Nat.le_refl _),Nat.sub_self] at ht
   obtain rfl:=Option.some.inj ht
   rfl
 · obtain ⟨l,b,e⟩:=o
   exact .mk fun z=>absurd z ho
end Go.Proofs.Ytfglbdkfnphjgaa
