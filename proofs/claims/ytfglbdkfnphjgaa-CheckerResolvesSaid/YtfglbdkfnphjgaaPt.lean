/- Plain words: a computation that answers, with what its answer is known to be. -/
import Derived.Test.YtfglbdkfnphjgaaLa
set_option linter.unusedVariables false
namespace Go.Fw
open Go.RowKit
def Tot {α:Type} (x:Option α) (P:α→Prop):Prop:=∃ v,x=some v∧P v
def LdP {σ ρ:Type} (G:σ→Prop) (O:ρ→Prop):Ld σ ρ→Prop
 | .go s=>G s
 | .out r=>O r
section
variable {α β γ σ ρ:Type} {P:α→Prop}
theorem Tot.mk {v:α} (h:P v):Tot (some v) P:=⟨v,rfl,h⟩
theorem Tot.bd {x:Option β} {f:β→Option α} {Q:β→Prop} (h:Tot x Q) (k:∀ v,Q v→Tot (f v) P):Tot (x.bind f) P:=by
 obtain ⟨v,rfl,hv⟩:=h
 exact k v hv
theorem Tot.bp {x:Option (β × γ)} {f:β→γ→Option α} {Q:β→γ→Prop} (h:Tot x (fun r=>pel r Q)) (k:∀ a b,Q a b→Tot (f a b) P):Tot (x.bind fun r=>pel r f) P:=by
 obtain ⟨⟨a,b⟩,rfl,hv⟩:=h
 exact k a b hv
theorem Tot.pp {r:β × γ} {f:β→γ→Option α} {Q:β→γ→Prop} (h:pel r Q) (k:∀ a b,Q a b→Tot (f a b) P):Tot (pel r f) P:=by
 obtain ⟨a,b⟩:=r
 exact k a b h
theorem Tot.ite {c:Prop} [Decidable c] {a b:Option α} (h1:c→Tot a P) (h2:¬ c→Tot b P):Tot (if c then a else b) P:=by
 by_cases h:c
 · rw [if_pos h];exact h1 h
 · rw [if_neg h];exact h2 h
theorem Tot.el {x:Option (Ld σ ρ)} {f:σ→Option α} {g:ρ→Option α} {G:σ→Prop} {O:ρ→Prop} (h:Tot x (LdP G O)) (h1:∀ s,G s→Tot (f s) P) (h2:∀ o,O o→Tot (g o) P):Tot (x.bind fun r=>r.el f g) P:=by
 obtain ⟨v,rfl,hv⟩:=h
 cases v with
 | go s=>exact h1 s hv
 | out o=>exact h2 o hv
theorem Tot.eo {x:Option (Ld σ α)} {f:σ→Option α} {G:σ→Prop} (h:Tot x (LdP G P)) (h1:∀ s,G s→Tot (f s) P):Tot (x.bind fun r=>r.el f fun o=>some o) P:=h.el h1 fun o ho=>.mk ho
theorem Tot.eoo {τ:Type} {x:Option (Ld σ ρ)} {f:σ→Option (Ld τ ρ)} {G:σ→Prop} {G':τ→Prop} {O:ρ→Prop} (h:Tot x (LdP G O)) (h1:∀ s,G s→Tot (f s) (LdP G' O)):Tot (x.bind fun r=>r.el f fun o=>some (.out o)) (LdP G' O):=h.el h1 fun o ho=>.mk ho
theorem Tot.imp {x:Option α} {Q:α→Prop} (h:Tot x Q) (k:∀ v,Q v→P v):Tot x P:=by
 obtain ⟨v,h1,h2⟩:=h
 exact ⟨v,h1,k v h2⟩
theorem Tot.go {s:σ} {G:σ→Prop} {O:ρ→Prop} (h:G s):Tot (some (Ld.go s)) (LdP G O):=⟨_,rfl,h⟩
theorem Tot.out {r:ρ} {G:σ→Prop} {O:ρ→Prop} (h:O r):Tot (some (Ld.out r)) (LdP G O):=⟨_,rfl,h⟩
theorem Tot.ix {l:List α} {i:Int} (h0:0≤i) (h1:i < l.length):Tot (ix l i) (fun x=>l[i.toNat]?=some x):=by
 obtain ⟨x,hx⟩:=get_ex (l:=l) (k:=i.toNat) (by omega)
 refine ⟨x,?_,hx⟩
 unfold Go.Fw.ix
 rw [if_neg (by omega),hx]
theorem Tot.app {l m:List α} (h:l.length+m.length≤1000000000):Tot (app l m) (fun r=>r=l ++ m):=⟨_,if_pos h,rfl⟩
theorem Tot.sl {l:List α} {a b:Int} (h:0≤a∧a≤b∧b≤l.length):Tot (sl l a b) (fun r=>r=(l.drop a.toNat).take (b - a).toNat):=⟨_,if_pos h,rfl⟩
theorem Tot.st {l:List α} {i:Int} {x:α} (h:0≤i∧i < l.length):Tot (st l i x) (fun r=>r=l.set i.toNat x):=⟨_,if_pos h,rfl⟩
theorem Tot.cat {s t:ByteArray} (h:s.size+t.size≤1000000000):Tot (cat s t) (fun r=>r=s ++ t):=⟨_,if_pos h,rfl⟩
theorem Tot.ixs {s:ByteArray} {i:Int} (h0:0≤i) (h1:i < s.size):Tot (ixs s i) (fun x=>0≤x∧x≤255):=by
 unfold Go.Fw.ixs
 rw [if_neg (by omega)]
 have h:i.toNat < s.size:=by omega
 refine ⟨((s[i.toNat].toNat:Nat):Int),?_,by omega,?_⟩
 · rw [getElem?_pos s i.toNat h];rfl
 · have:=s[i.toNat].toNat_lt;omega
theorem Tot.sls {s:ByteArray} {a b:Int} (h:0≤a∧a≤b∧b≤s.size):Tot (sls s a b) (fun r=>r=s.extract a.toNat b.toNat):=⟨_,if_pos h,rfl⟩
theorem Tot.bde {x:Option β} {f:β→Option α} {Q:β→Prop} (h:Tot x Q) (k:∀ v,x=some v→Q v→Tot (f v) P):Tot (x.bind f) P:=by
 obtain ⟨v,rfl,hv⟩:=h
 exact k v rfl hv
end
theorem wr_id {n:Int} (h1:-9000000000000000000≤n) (h2:n≤9000000000000000000):wr n=n:=by
 unfold wr
 exact w64 (by omega) (by omega)
theorem cat_size (s t:ByteArray):(s ++ t).size=s.size+t.size:=ByteArray.size_append ..
end Go.Fw
