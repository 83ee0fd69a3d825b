/- What a walk knows of memory: things of its own (variables, rows, maps), and data that nobody writes any more; data stand for lists and structures without addresses. Over any program. -/
import Derived.Test.YtfglbdkfnphjgaaX1
import Derived.Laws.StructEq
import Derived.Laws.CopyRow
import Derived.Lib.ConvBytes
set_option linter.unusedVariables false
namespace Go.Fw
open Go.RowKit
theorem bs {α β:Type} {o:Option α} {f:α→Option β} {X:β} (h:o.bind f=some X):∃ x,o=some x∧f x=some X:=Option.bind_eq_some_iff.1 h
theorem kF {α:Type} {c:Prop} [Decidable c] {a b X:α} (h:(if c then a else b)=X):c∧a=X ∨ ¬ c∧b=X:=by
 by_cases hc:c
 · exact .inl ⟨hc,by rwa [if_pos hc] at h⟩
 · exact .inr ⟨hc,by rwa [if_neg hc] at h⟩
theorem sm {α:Type} {a b:α} (h:some a=some b):a=b:=Option.some.inj h
theorem nn {α:Type} {b:α} {p:Prop} (h:none=some b):p:=by cases h
def iA {α β:Type} {γ:Sort _}:α × β→(α→β→γ)→γ
 | (a,b),f=>f a b
theorem lw {α β:Type} {a:α} {b:β} {f:α→β→Prop} (h:f a b):iA (a,b) f:=h
inductive Ld (σ ρ:Type) where
 | go (s:σ)
 | out (r:ρ)
def Ld.el {σ ρ τ:Type}:Ld σ ρ→(σ→τ)→(ρ→τ)→τ
 | .go s,f,_=>f s
 | .out r,_,g=>g r
theorem gi {σ ρ τ:Type} {f:σ→τ} {g:ρ→τ} {s:σ} {X:τ} (h:(Ld.go s:Ld σ ρ).el f g=X):f s=X:=h
theorem oi {σ ρ τ:Type} {f:σ→τ} {g:ρ→τ} {r:ρ} {X:τ} (h:(Ld.out r:Ld σ ρ).el f g=X):g r=X:=h
theorem pi {α β γ:Type} {a:α} {b:β} {f:α→β→γ} {X:γ} (h:iA (a,b) f=X):f a b=X:=h
def app {α:Type} (l m:List α):Option (List α):=if l.length+m.length≤1000000000 then some (l ++ m) else none
theorem pK {α:Type} {l m r:List α} (h:app l m=some r):l.length+m.length≤1000000000∧l ++ m=r:=by
 unfold app at h
 split at h
 · exact ⟨by assumption,sm h⟩
 · cases h
def qw (s t:ByteArray):Option ByteArray:=if s.size+t.size≤1000000000 then some (s ++ t) else none
theorem Qi {s t r:ByteArray} (h:qw s t=some r):s.size+t.size≤1000000000∧s ++ t=r:=by
 unfold qw at h
 split at h
 · exact ⟨by assumption,sm h⟩
 · cases h
def ix {α:Type} (l:List α) (i:Int):Option α:=if i < 0 then none else l[i.toNat]?
theorem kG {α:Type} {l:List α} {i:Int} {x:α} (h:ix l i=some x):∃ k:Nat,i=(k:Int)∧l[k]?=some x:=by
 unfold ix at h
 split at h
 · cases h
 · exact ⟨i.toNat,by omega,h⟩
def sl {α:Type} (l:List α) (a b:Int):Option (List α):=if 0≤a∧a≤b∧b≤l.length then some ((l.drop a.toNat).take (b - a).toNat) else none
theorem AX {α:Type} {l r:List α} {a b:Int} (h:sl l a b=some r):∃ i j:Nat,a=(i:Int)∧b=(j:Int)∧i≤j∧j≤l.length∧(l.drop i).take (j - i)=r:=by
 unfold sl at h
 split at h
 · rename_i hc
   exact ⟨a.toNat,b.toNat,by omega,by omega,by omega,by omega,by rw [← sm h];congr 1;omega⟩
 · cases h
def st {α:Type} (l:List α) (i:Int) (x:α):Option (List α):=if 0≤i∧i < l.length then some (l.set i.toNat x) else none
theorem A7 {α:Type} {l r:List α} {i:Int} {x:α} (h:st l i x=some r):∃ k:Nat,i=(k:Int)∧k < l.length∧l.set k x=r:=by
 unfold st at h
 split at h
 · rename_i hc
   exact ⟨i.toNat,by omega,by omega,sm h⟩
 · cases h
theorem kE {α:Type} {l:List α} {x:α} {i:Nat} (h:l[i]?=some x):i < l.length:=(List.getElem?_eq_some_iff.1 h).1
theorem lL {α:Type} {l:List α} {k:Nat} (h:k < l.length):∃ x,l[k]?=some x:=⟨_,List.getElem?_eq_getElem h⟩
theorem mQ {α:Type} {l:List α} {x:α} {k:Nat} (h:l[k]?=some x):l.drop k=x :: l.drop (k+1):=by
 obtain ⟨hk,rfl⟩:=List.getElem?_eq_some_iff.1 h
 exact List.drop_eq_getElem_cons hk
theorem lH {α:Type} {l:List α}:l.drop l.length=[]:=List.drop_length
structure Mw (G:Nat→Prop) (w w':World):Prop where
 os:w'.os=w.os
 tape:w'.tape=w.tape
 output:w'.output=w.output
 size:w.heap.size≤w'.heap.size
 block:∀ b,b < w.heap.size→¬ G b→w'.heap[b]?=w.heap[b]?
theorem Ext.FQ {w w':World} (e:Ext w w') (G:Nat→Prop):Mw G w w':=⟨e.os,e.tape,e.output,e.size,fun b hb _=>e.block b hb⟩
theorem Mw.ext {w w':World} (h:Mw (fun _=>False) w w'):Ext w w':=⟨h.os,h.tape,h.output,h.size,fun b hb=>h.block b hb (fun h=>h)⟩
theorem ND {w w':World} {b o:Nat} (h:w'.heap[b]?=w.heap[b]?):w'.cell? ⟨b,o,none⟩=w.cell? ⟨b,o,none⟩:=by
 simp only [World.cell?,h]
theorem Cells.same {w w':World} {b o:Nat} {xs:List Value} (h:Cells w b o xs) (e:w'.heap[b]?=w.heap[b]?):Cells w' b o xs:=fun j v hv=>by
 rw [ND e];exact h j v hv
theorem Cells.part {w:World} {b o o2:Nat} {cs xs:List Value} (h:Cells w b o cs) (hx:(cs.drop o2).take xs.length=xs):Cells w b (o+o2) xs:=fun j v hv=>by
 rw [Nat.add_assoc]
 refine h (o2+j) v ?_
 rw [← hx,List.getElem?_take] at hv
 split at hv
 · rw [List.getElem?_drop] at hv;exact hv
 · cases hv
def uB (a:Option Addr):Nat:=match a with | some a=>a.block | none=>0
def xk (a:Option Addr):Nat:=match a with | some a=>a.off | none=>0
def Mv (F G:Nat→Prop) (w w':World):Prop:=(∀ b,F b→b < w.heap.size→G b∧w'.heap[b]?=w.heap[b]?)∧w.heap.size≤w'.heap.size
class Rp (α:Type) where
 sz:Nat
 bs:Nat
 Bo:(Nat→Prop)→World→List Value→α→Prop
 len:∀ {F:Nat→Prop} {w:World} {cs:List Value} {x:α},Bo F w cs x→cs.length=sz
 one:∀ {F:Nat→Prop} {w:World} {cs:List Value} {x:α},Bo F w cs x→cs.all (fun v=>v.oneCell')=true
 mv:∀ {F G:Nat→Prop} {w w':World} {cs:List Value} {x:α},Bo F w cs x→Mv F G w w'→Bo G w' cs x
def ll {α:Type} [Rp α] (F:Nat→Prop) (w:World) (a:Option Addr) (c:Nat) (l:List α):Prop:=
 l.length≤c∧c≤maxLen∧(0 < l.length→a=some ⟨uB a,xk a,none⟩∧F (uB a)∧uB a < w.heap.size∧
  ∀ i x,l[i]?=some x→∃ cs,Cells w (uB a) (xk a+i * Rp.sz α) cs∧Rp.Bo F w cs x)
theorem ll.mv {α:Type} [Rp α] {F G:Nat→Prop} {w w':World} {a:Option Addr} {c:Nat} {l:List α} (h:ll F w a c l) (k:Mv F G w w'):ll G w' a c l:=by
 refine ⟨h.1,h.2.1,fun h0=>?_⟩
 obtain ⟨h1,h2,h3,h4⟩:=h.2.2 h0
 refine ⟨h1,(k.1 _ h2 h3).1,Nat.lt_of_lt_of_le h3 k.2,fun i x hx=>?_⟩
 obtain ⟨cs,h5,h6⟩:=h4 i x hx
 exact ⟨cs,h5.same (k.1 _ h2 h3).2,Rp.mv h6 k⟩
theorem ll.nil {α:Type} [Rp α] {F:Nat→Prop} {w:World} {a:Option Addr}:ll F w a 0 ([]:List α):=⟨Nat.le_refl _,Nat.zero_le _,fun h=>by simp at h⟩
section
variable {α:Type} [Rp α] {F:Nat→Prop} {w:World} {a:Option Addr} {c:Nat} {l:List α} {x:α} {i:Nat}
theorem ll.cap (h:ll F w a c l):l.length≤c:=h.1
theorem ll.bd (h:ll F w a c l):l.length≤9223372036854775807:=by have:=h.1;have:=h.2.1;simp only [maxLen] at *;omega
theorem ll.Qo (h:ll F w a c l) (hx:l[i]?=some x):a=some ⟨uB a,xk a,none⟩:=(h.2.2 (by have:=kE hx;omega)).1
theorem ll.fb (h:ll F w a c l) (hx:l[i]?=some x):F (uB a)∧uB a < w.heap.size:=⟨(h.2.2 (by have:=kE hx;omega)).2.1,(h.2.2 (by have:=kE hx;omega)).2.2.1⟩
theorem ll.el (h:ll F w a c l) (hx:l[i]?=some x):∃ cs,Cells w (uB a) (xk a+i * Rp.sz α) cs∧Rp.Bo F w cs x:=(h.2.2 (by have:=kE hx;omega)).2.2.2 i x hx
end
instance:Rp Int:=⟨1,8,fun _ _ cs n=>cs=[.int .i64 n],fun h=>by rw [h];rfl,fun h=>by rw [h];rfl,fun h _=>h⟩
instance:Rp Bool:=⟨1,1,fun _ _ cs n=>cs=[.bool n],fun h=>by rw [h];rfl,fun h=>by rw [h];rfl,fun h _=>h⟩
instance:Rp ByteArray:=⟨1,16,fun _ _ cs n=>cs=[.string n],fun h=>by rw [h];rfl,fun h=>by rw [h];rfl,fun h _=>h⟩
instance {α:Type} [Rp α]:Rp (List α):=⟨1,24,fun F w cs l=>∃ a c,cs=[.slice a l.length c]∧ll F w a c l,fun ⟨_,_,h,_⟩=>by rw [h];rfl,fun ⟨_,_,h,_⟩=>by rw [h];rfl,fun ⟨a,c,h,k⟩ m=>⟨a,c,h,k.mv m⟩⟩
def yA {α:Type} [Rp α] (F:Nat→Prop) (w:World):List (List Value)→List α→Prop
 | [],[]=>True
 | c :: cs,x :: l=>Rp.Bo F w c x∧yA F w cs l
 | _,_=>False
section
variable {α:Type} [Rp α] {F G:Nat→Prop} {w w':World}
theorem yA.mv:∀ {cs:List (List Value)} {l:List α},yA F w cs l→Mv F G w w'→yA G w' cs l
 | [],[],_,_=>trivial
 | _ :: _,_ :: _,h,k=>⟨Rp.mv h.1 k,yA.mv h.2 k⟩
 | [],_ :: _,h,_=>h.elim
 | _ :: _,[],h,_=>h.elim
theorem yA.len:∀ {cs:List (List Value)} {l:List α},yA F w cs l→cs.length=l.length
 | [],[],_=>rfl
 | _ :: _,_ :: _,h=>congrArg (·+1) (yA.len h.2)
 | [],_ :: _,h=>h.elim
 | _ :: _,[],h=>h.elim
theorem yA.app:∀ {cs:List (List Value)} {l:List α} {ds:List (List Value)} {m:List α},yA F w cs l→yA F w ds m→yA F w (cs ++ ds) (l ++ m)
 | [],[],_,_,_,k=>k
 | _ :: _,_ :: _,_,_,h,k=>⟨h.1,yA.app h.2 k⟩
 | [],_ :: _,_,_,h,_=>h.elim
 | _ :: _,[],_,_,h,_=>h.elim
theorem yA.take:∀ {cs:List (List Value)} {l:List α} (n:Nat),yA F w cs l→yA F w (cs.take n) (l.take n)
 | _,_,0,_=>by simp [yA]
 | [],[],n+1,_=>by simp [yA]
 | _ :: _,_ :: _,n+1,h=>⟨h.1,yA.take n h.2⟩
 | [],_ :: _,_+1,h=>h.elim
 | _ :: _,[],_+1,h=>h.elim
theorem yA.set:∀ {cs:List (List Value)} {l:List α} (n:Nat) {d:List Value} {y:α},yA F w cs l→Rp.Bo F w d y→yA F w (cs.set n d) (l.set n y)
 | [],[],_,_,_,_,_=>trivial
 | _ :: _,_ :: _,0,_,_,h,k=>⟨k,h.2⟩
 | _ :: _,_ :: _,n+1,_,_,h,k=>⟨h.1,yA.set n h.2 k⟩
 | [],_ :: _,_,_,_,h,_=>h.elim
 | _ :: _,[],_,_,_,h,_=>h.elim
theorem yA.get:∀ {cs:List (List Value)} {l:List α} {k:Nat} {x:α},yA F w cs l→l[k]?=some x→∃ c,cs[k]?=some c∧Rp.Bo F w c x
 | c :: _,_ :: _,0,_,h,hx=>by simp only [List.getElem?_cons_zero,Option.some.injEq] at hx;subst hx;exact ⟨c,rfl,h.1⟩
 | _ :: _,_ :: _,k+1,_,h,hx=>yA.get (k:=k) h.2 (by simpa using hx)
 | [],[],_,_,_,hx=>by simp at hx
 | [],_ :: _,_,_,h,_=>h.elim
 | _ :: _,[],_,_,h,_=>h.elim
theorem yA.Pp:∀ {cs:List (List Value)} {l:List α},yA F w cs l→cs.flatten.length=l.length * Rp.sz α
 | [],[],_=>by simp
 | c :: cs,x :: l,h=>by rw [List.flatten_cons,List.length_append,yA.Pp h.2,Rp.len h.1,List.length_cons,Nat.succ_mul,Nat.add_comm]
 | [],_ :: _,h=>h.elim
 | _ :: _,[],h=>h.elim
theorem yA.one:∀ {cs:List (List Value)} {l:List α},yA F w cs l→∀ v ∈ cs.flatten,v.oneCell'=true
 | [],[],_,v,hv=>by simp at hv
 | c :: cs,x :: l,h,v,hv=>by
  rw [List.flatten_cons,List.mem_append] at hv
  rcases hv with hv | hv
  · exact List.all_eq_true.1 (Rp.one h.1) v hv
  · exact yA.one h.2 v hv
 | [],_ :: _,h,_,_=>h.elim
 | _ :: _,[],h,_,_=>h.elim
theorem yA.cells:∀ {cs:List (List Value)} {l:List α} {k:Nat} {c:List Value},yA F w cs l→cs[k]?=some c→∀ j v,c[j]?=some v→cs.flatten[k * Rp.sz α+j]?=some v
 | c :: _,_ :: _,0,_,h,hx,j,v,hv=>by
  simp only [List.getElem?_cons_zero,Option.some.injEq] at hx
  subst hx
  rw [List.flatten_cons,Nat.zero_mul,Nat.zero_add,List.getElem?_append_left (kE hv)];exact hv
 | c :: _,_ :: _,k+1,_,h,hx,j,v,hv=>by
  rw [List.flatten_cons,List.getElem?_append_right (by rw [Rp.len h.1,Nat.succ_mul];omega),Rp.len h.1,show (k+1) * Rp.sz α+j - Rp.sz α=k * Rp.sz α+j by rw [Nat.succ_mul];omega]
  exact yA.cells (k:=k) h.2 (by simpa using hx) j v hv
 | [],[],_,_,_,hx,_,_,_=>by simp at hx
 | [],_ :: _,_,_,h,_,_,_,_=>h.elim
 | _ :: _,[],_,_,h,_,_,_,_=>h.elim
theorem ll.els {a:Option Addr} {c:Nat} {l:List α} (h:ll F w a c l):∃ cs,yA F w cs l∧Sl w w.heap.size (Rp.sz α) a l.length cs.flatten:=by
 have key:∀ (m:List α) (o:Nat),(∀ i x,m[i]?=some x→∃ cs,Cells w (uB a) (o+i * Rp.sz α) cs∧Rp.Bo F w cs x)→∃ cs,yA F w cs m∧Cells w (uB a) o cs.flatten:=by
   intro m
   induction m with
   | nil=>intro o _;exact ⟨[],trivial,fun j v hv=>by simp at hv⟩
   | cons x m ih=>
    intro o hm
    obtain ⟨c0,h0,h1⟩:=hm 0 x rfl
    obtain ⟨cs,h2,h3⟩:=ih (o+Rp.sz α) (fun i y hy=>by
      have:=hm (i+1) y (by simpa using hy)
      rwa [show o+(i+1) * Rp.sz α=o+Rp.sz α+i * Rp.sz α by rw [Nat.succ_mul];omega] at this)
    refine ⟨c0 :: cs,⟨h1,h2⟩,fun j v hv=>?_⟩
    rw [List.flatten_cons] at hv
    rcases Nat.lt_or_ge j c0.length with hj | hj
    · rw [List.getElem?_append_left hj] at hv
      have:=h0 j v hv
      rwa [Nat.zero_mul,Nat.add_zero] at this
    · rw [List.getElem?_append_right hj] at hv
      have:=h3 _ v hv
      rwa [Rp.len h1,show o+Rp.sz α+(j - Rp.sz α)=o+j by rw [Rp.len h1] at hj;omega] at this
 rcases Nat.eq_zero_or_pos l.length with h0 | h0
 · have:l=[]:=List.eq_nil_of_length_eq_zero h0
   subst this
   exact ⟨[],trivial,⟨by simp,fun h=>by simp at h⟩⟩
 · obtain ⟨h1,h2,h3,h4⟩:=h.2.2 h0
   obtain ⟨cs,h5,h6⟩:=key l (xk a) h4
   exact ⟨cs,h5,⟨h5.Pp,fun _=>⟨_,_,h1,h3,h6⟩⟩⟩
end
def nth {α:Type}:List α→Nat→List α
 | a :: _,0=>[a]
 | _ :: l,n+1=>nth l n
 | [],_=>[]
def pick {α:Type} (L:List α):List Nat→List α
 | []=>[]
 | i :: l=>nth L i ++ pick L l
theorem Jo {α : Type} {x : α} : ∀ {L : List α} {i : Nat}, x ∈ nth L i → L[i]? = some x
  | a :: _, 0, h => by have : x = a := by simpa [nth] using h
                       rw [this]; rfl
  | _ :: l, n + 1, h => Jo (L := l) h
  | [], _, h => by cases h
theorem Og {α:Type} {R:α→α→Prop}:∀ {L:List α} {i:Nat},(nth L i).Pairwise R
 | a :: _,0=>by simp [nth]
 | _ :: l,n+1=>Og (L:=l)
 | [],_=>List.Pairwise.nil
structure It where
 F:Nat→Prop
 p:World→Prop
 bd:∀ w,p w→∀ b,F b→b < w.heap.size
 st:∀ w w',p w→(∀ b,F b→w'.heap[b]?=w.heap[b]?)→w.heap.size≤w'.heap.size→p w'
def It.box (b:Nat) (t:TypeId) (cs:Array Value):It where
 F k:=k=b
 p w:=x9 w b t cs
 bd w h k hk:=by subst hk;exact h.lt
 st w w' h k _:=by unfold x9 at h ⊢;rw [k b rfl];exact h
def It.own (base:Nat) (A:Option Addr) (c:Nat) (e:TypeId) (sz:Nat) (cs:List (List Value)):It where
 F k:=rowOf A=some k
 p w:=Own w base e sz A cs.length c cs.flatten
 bd w h k hk:=(h.row k hk).2
 st w w' h k hs:=by
  refine ⟨h.1,?_⟩
  rcases h.2 with h1 | ⟨g,cap,cur,h3,h4,h5,h6⟩
  · exact .inl h1
  · refine .inr ⟨g,cap,cur,h3,h4,?_,h6⟩
    injection h3 with h3 _ _
    rw [k g (by rw [h3];rfl)]
    exact h5
structure Da where
 ok:(Nat→Prop)→World→Prop
 mv:∀ {F G:Nat→Prop} {w w':World},ok F w→Mv F G w w'→ok G w'
def Da.l {α:Type} [Rp α] (a:Option Addr) (c:Nat) (l:List α):Da:=⟨fun F w=>ll F w a c l,ll.mv⟩
def Da.els {α:Type} [Rp α] (cs:List (List Value)) (l:List α):Da:=⟨fun F w=>yA F w cs l,yA.mv⟩
def Da.at (b o:Nat) (cs:List Value):Da:=⟨fun F w=>F b∧b < w.heap.size∧Cells w b o cs,fun h k=>⟨(k.1 _ h.1 h.2.1).1,Nat.lt_of_lt_of_le h.2.1 k.2,h.2.2.same (k.1 _ h.1 h.2.1).2⟩⟩
def lT (L:List It):Nat→Prop:=fun b=>∃ it ∈ L,it.F b
def F4 (w0:World) (Z:Nat→Prop) (L:List It):Nat→Prop:=fun b=>(b < w0.heap.size→Z b)∧∀ it ∈ L,¬ it.F b
def Ap (a c:It):Prop:=∀ b,a.F b→¬ c.F b
structure Bx (w0 w:World) (Z G:Nat→Prop) (L:List It) (D:List Da):Prop where
 rX:Mw G w0 w
 zg:∀ b,Z b→b < w0.heap.size→¬ G b
 it:∀ it ∈ L,it.p w∧∀ b,it.F b→b < w0.heap.size→G b
 pw:L.Pairwise Ap
 da:∀ d ∈ D,d.ok (F4 w0 Z L) w
structure Pre (w0:World) (Z:Nat→Prop) (L:List It) (D:List Da):Prop where
 it:∀ it ∈ L,it.p w0
 z:∀ it ∈ L,∀ b,it.F b→¬ Z b
 pw:L.Pairwise Ap
 da:∀ d ∈ D,d.ok Z w0
theorem Mv.same {F G:Nat→Prop} {w:World} (h:∀ b,F b→b < w.heap.size→G b):Mv F G w w:=⟨fun b hb hl=>⟨h b hb hl,rfl⟩,Nat.le_refl _⟩
theorem Pre.bx {w0:World} {Z:Nat→Prop} {L:List It} {D:List Da} (h:Pre w0 Z L D):Bx w0 w0 Z (lT L) L D:=
 ⟨(Ext.refl w0).FQ _,fun b hz _ ⟨it,hi,hb⟩=>h.z it hi b hb hz,fun it hi=>⟨h.it it hi,fun b hb _=>⟨it,hi,hb⟩⟩,h.pw,fun d hd=>d.mv (h.da d hd) (.same fun b hz _=>⟨fun _=>hz,fun it hi hb=>h.z it hi b hb hz⟩)⟩
section
variable {w0 w w':World} {Z G:Nat→Prop} {L:List It} {D:List Da} {it it':It} {i:Nat}
theorem Bx.at (h:Bx w0 w Z G L D) (i:Nat) (hi:L[i]?=some it):it.p w:=(h.it it (List.mem_of_getElem? hi)).1
theorem Bx.bk (h:Bx w0 w Z G L D) (i:Nat) {b:Nat} {t:TypeId} {cs:Array Value} (hi:L[i]?=some (.box b t cs)):x9 w b t cs:=h.at i hi
theorem Bx.bo (h:Bx w0 w Z G L D) (i:Nat) {base:Nat} {A:Option Addr} {c:Nat} {e:TypeId} {sz:Nat} {cs:List (List Value)} (hi:L[i]?=some (.own base A c e sz cs)):Own w base e sz A cs.length c cs.flatten:=h.at i hi
theorem Bx.d (h:Bx w0 w Z G L D) (i:Nat) {d:Da} (hi:D[i]?=some d):d.ok (F4 w0 Z L) w:=h.da d (List.mem_of_getElem? hi)
theorem Bx.dl (h:Bx w0 w Z G L D) (i:Nat) {α:Type} [Rp α] {a:Option Addr} {c:Nat} {l:List α} (hi:D[i]?=some (.l a c l)):ll (F4 w0 Z L) w a c l:=h.d i hi
theorem Bx.de (h:Bx w0 w Z G L D) (i:Nat) {α:Type} [Rp α] {cs:List (List Value)} {l:List α} (hi:D[i]?=some (.els cs l)):yA (F4 w0 Z L) w cs l:=h.d i hi
theorem Bx.dc (h:Bx w0 w Z G L D) (i:Nat) {b o:Nat} {cs:List Value} (hi:D[i]?=some (.at b o cs)):Cells w b o cs:=(h.d i hi).2.2
theorem Mx {R:It→It→Prop}:∀ {L:List It} {i j:Nat} {x y:It},L.Pairwise R→i < j→L[i]?=some x→L[j]?=some y→R x y
 | a :: L,0,j+1,x,y,h,_,hx,hy=>by
  simp only [List.getElem?_cons_zero,Option.some.injEq] at hx
  subst hx
  exact (List.pairwise_cons.1 h).1 y (List.mem_of_getElem? (by simpa using hy))
 | a :: L,i+1,j+1,x,y,h,hij,hx,hy=>Mx (i:=i) (j:=j) (List.pairwise_cons.1 h).2 (by omega) (by simpa using hx) (by simpa using hy)
theorem Bx.apart (h:Bx w0 w Z G L D) {j:Nat} {x y:It} (hij:i≠j) (hx:L[i]?=some x) (hy:L[j]?=some y):∀ b,x.F b→¬ y.F b:=by
 rcases Nat.lt_or_gt_of_ne hij with h1 | h1
 · exact Mx h.pw h1 hx hy
 · exact fun b hb hc=>Mx h.pw h1 hy hx b hc hb
theorem OW {R:It→It→Prop}:∀ {L:List It} {i:Nat} {y:It},L.Pairwise R→(∀ j x,j≠i→L[j]?=some x→R x y∧R y x)→(L.set i y).Pairwise R
 | [],i,y,_,_=>by simp
 | a :: L,0,y,h,k=>by
  rw [List.set_cons_zero]
  refine List.pairwise_cons.2 ⟨fun x hx=>?_,(List.pairwise_cons.1 h).2⟩
  obtain ⟨j,hj⟩:=List.getElem?_of_mem hx
  exact (k (j+1) x (by omega) (by simpa using hj)).2
 | a :: L,i+1,y,h,k=>by
  rw [List.set_cons_succ]
  refine List.pairwise_cons.2 ⟨fun x hx=>?_,OW (List.pairwise_cons.1 h).2 fun j x hj hx=>k (j+1) x (by omega) (by simpa using hx)⟩
  rcases List.mem_or_eq_of_mem_set hx with hx | rfl
  · exact (List.pairwise_cons.1 h).1 x hx
  · exact (k 0 a (by omega) (by simp)).1
theorem Bx.step (h:Bx w0 w Z G L D) {X:Nat→Prop} {L':List It} (hc:Mw X w w') (hX:∀ b,X b→b < w.heap.size→∃ it ∈ L,it.F b)
   (hp:∀ it ∈ L',it.p w') (hF:∀ it ∈ L',∀ b,it.F b→b < w.heap.size→∃ x ∈ L,x.F b) (hpw:L'.Pairwise Ap):Bx w0 w' Z G L' D:=by
 have hs:=h.rX.size
 refine ⟨⟨hc.os.trans h.rX.os,hc.tape.trans h.rX.tape,hc.output.trans h.rX.output,Nat.le_trans hs hc.size,fun b hb hg=>?_⟩,h.zg,fun it hi=>⟨hp it hi,fun b hb hl=>?_⟩,hpw,fun d hd=>d.mv (h.da d hd) ⟨fun b hf hl=>⟨⟨hf.1,fun it hi hb=>?_⟩,?_⟩,hc.size⟩⟩
 · rw [hc.block b (Nat.lt_of_lt_of_le hb hs) (fun hx=>?_)]
   · exact h.rX.block b hb hg
   · obtain ⟨it,hi,hb'⟩:=hX b hx (Nat.lt_of_lt_of_le hb hs)
     exact hg ((h.it it hi).2 b hb' hb)
 · obtain ⟨x,hx,hxb⟩:=hF it hi b hb (Nat.lt_of_lt_of_le hl hs)
   exact (h.it x hx).2 b hxb hl
 · obtain ⟨x,hx,hxb⟩:=hF it hi b hb hl
   exact hf.2 x hx hxb
 · refine hc.block b hl fun hx=>?_
   obtain ⟨x,hx,hxb⟩:=hX b hx hl
   exact hf.2 x hx hxb
theorem Bx.ext (h:Bx w0 w Z G L D) (e:Ext w w'):Bx w0 w' Z G L D:=
 h.step (X:=fun _=>False) (e.FQ _) (fun _ hx=>hx.elim) (fun it hi=>it.st w w' (h.it it hi).1 (fun b hb=>e.block b (it.bd w (h.it it hi).1 b hb)) e.size) (fun it hi b hb _=>⟨it,hi,hb⟩) h.pw
theorem Bx.drew (h:Bx w0 w Z G L D):Bx w0 w.drew Z G L D:=h.ext (Ext.refl w).drew
theorem Bx.push (h:Bx w0 w Z G L D) (e:Ext w w') (hp:it.p w') (hn:∀ b,it.F b→w.heap.size≤b):Bx w0 w' Z G (it :: L) D:=by
 refine h.step (X:=fun _=>False) (e.FQ _) (fun _ hx=>hx.elim) (fun x hx=>?_) (fun x hx b hb hl=>?_) (List.pairwise_cons.2 ⟨fun x hx b hb hc=>?_,h.pw⟩)
 · rcases List.mem_cons.1 hx with rfl | hx
   · exact hp
   · exact ((h.ext e).it x hx).1
 · rcases List.mem_cons.1 hx with rfl | hx
   · have:=hn b hb;omega
   · exact ⟨x,hx,hb⟩
 · have h1:=x.bd w (h.it x hx).1 b hc
   have h2:=hn b hb
   omega
theorem Bx.put (h:Bx w0 w Z G L D) (i:Nat) (hi:L[i]?=some it) (hc:Mw it.F w w') (hp:it'.p w') (hF:∀ b,it'.F b→it.F b ∨ w.heap.size≤b):Bx w0 w' Z G (L.set i it') D:=by
 have hm:=List.mem_of_getElem? hi
 have hel:∀ j x,j≠i→L[j]?=some x→x.p w':=fun j x hj hx=>
   x.st w w' (h.at j hx) (fun b hb'=>hc.block b (x.bd w (h.at j hx) b hb') (fun hc=>h.apart hj hx hi b hb' hc)) hc.size
 have hcase:∀ x ∈ L.set i it',x=it' ∨ ∃ j,j≠i∧L[j]?=some x:=fun x hx=>by
   obtain ⟨j,hj⟩:=List.getElem?_of_mem hx
   by_cases hji:j=i
   · subst hji
     rw [List.getElem?_set_self (by exact (List.getElem?_eq_some_iff.1 hi).1)] at hj
     cases hj;exact .inl rfl
   · rw [List.getElem?_set_ne (Ne.symm hji)] at hj
     exact .inr ⟨j,hji,hj⟩
 refine h.step hc (fun b hx _=>⟨it,hm,hx⟩) (fun x hx=>?_) (fun x hx b hb hl=>?_) (OW h.pw fun j x hj hx=>?_)
 · rcases hcase x hx with rfl | ⟨j,hj,hx⟩
   · exact hp
   · exact hel j x hj hx
 · rcases hcase x hx with rfl | ⟨j,hj,hx⟩
   · rcases hF b hb with h1 | h1
     · exact ⟨it,hm,h1⟩
     · omega
   · exact ⟨x,List.mem_of_getElem? hx,hb⟩
 · have key:∀ b,x.F b→¬ it'.F b:=fun b hb1 hb2=>by
     rcases hF b hb2 with h1 | h1
     · exact h.apart hj hx hi b hb1 h1
     · have:=x.bd w (h.at j hx) b hb1;omega
   exact ⟨key,fun b h1 h2=>key b h2 h1⟩
theorem Bx.perm {L':List It} (h:Bx w0 w Z G L D) (hp:L.Perm L'):Bx w0 w Z G L' D:=
 h.step (X:=fun _=>False) ((Ext.refl w).FQ _) (fun _ hx=>hx.elim) (fun it hi=>(h.it it (hp.mem_iff.2 hi)).1) (fun it hi b hb _=>⟨it,hp.mem_iff.2 hi,hb⟩) ((hp.pairwise_iff (fun {a c} r b hb hc=>r b hc hb)).1 h.pw)
theorem Bx.sub {L':List It} (h:Bx w0 w Z G L D) (hs:L'.Sublist L):Bx w0 w Z G L' D:=
 h.step (X:=fun _=>False) ((Ext.refl w).FQ _) (fun _ hx=>hx.elim) (fun it hi=>(h.it it (hs.subset hi)).1) (fun it hi b hb _=>⟨it,hs.subset hi,hb⟩) (h.pw.sublist hs)
theorem Bx.tl (h:Bx w0 w Z G (it :: L) D):Bx w0 w Z G L D:=h.sub (List.sublist_cons_self it L)
theorem Dp:∀ {L:List It} {i:Nat} {it:It},L[i]?=some it→L.Perm (it :: L.eraseIdx i)
 | a :: L,0,it,h=>by simp only [List.getElem?_cons_zero,Option.some.injEq] at h;subst h;exact List.Perm.refl _
 | a :: L,i+1,it,h=>(List.Perm.cons a (Dp (i:=i) (by simpa using h))).trans (List.Perm.swap _ _ _)
theorem Bx.fr (h:Bx w0 w Z G L D) (i:Nat) (hi:L[i]?=some it):Bx w0 w Z G (it :: L.eraseIdx i) D:=h.perm (Dp hi)
theorem Bx.er (h:Bx w0 w Z G L D) (i:Nat):Bx w0 w Z G (L.eraseIdx i) D:=h.sub (List.eraseIdx_sublist L i)
theorem Bx.ku (h:Bx w0 w Z G L D) {d:Da} (hd:d.ok (F4 w0 Z L) w):Bx w0 w Z G L (d :: D):=
 ⟨h.rX,h.zg,h.it,h.pw,fun x hx=>by
  rcases List.mem_cons.1 hx with rfl | hx
  · exact hd
  · exact h.da x hx⟩
theorem Bx.NA (h:Bx w0 w Z G L D) {D':List Da} (hs:∀ d ∈ D',d ∈ D):Bx w0 w Z G L D':=⟨h.rX,h.zg,h.it,h.pw,fun d hd=>h.da d (hs d hd)⟩
theorem Bx.PZ (h:Bx w0 w Z G L D) (i:Nat) {d:Da} (hd:d.ok (F4 w0 Z L) w):Bx w0 w Z G L (D.set i d):=
 ⟨h.rX,h.zg,h.it,h.pw,fun x hx=>by
  rcases List.mem_or_eq_of_mem_set hx with hx | rfl
  · exact h.da x hx
  · exact hd⟩
theorem DK {α:Type} {L:List α}:∀ {l:List Nat} {x:α},x ∈ pick L l→∃ i ∈ l,L[i]?=some x
 | i :: l,x,h=>by
  unfold pick at h
  rcases List.mem_append.1 h with h | h
  · exact ⟨i,List.mem_cons_self ..,Jo h⟩
  · obtain ⟨j,h1,h2⟩:=DK h;exact ⟨j,List.mem_cons_of_mem _ h1,h2⟩
theorem Bx.dp (h:Bx w0 w Z G L D) (l:List Nat):Bx w0 w Z G L (pick D l):=h.NA fun _ hd=>by obtain ⟨i,_,hi⟩:=DK hd;exact List.mem_of_getElem? hi
theorem Bx.new (h:Bx w0 w Z G L D) {b:Nat} {t:TypeId} {cs:Array Value} (hge:w.heap.size≤b) (hB:x9 w' b t cs) (he:Ext w w'):Bx w0 w' Z G (.box b t cs :: L) D:=
 h.push he hB (fun k hk=>by have hk:k=b:=hk;omega)
theorem Bx.wr (h:Bx w0 w Z G L D) (i:Nat) {b:Nat} {t t':TypeId} {cs cs':Array Value} (hi:L[i]?=some (.box b t cs)) (hc:Eh b w w') (hB:x9 w' b t' cs'):Bx w0 w' Z G (L.set i (.box b t' cs')) D:=
 h.put i hi ⟨hc.os,hc.tape,hc.output,hc.size,fun k hk hn=>hc.block k hk (by intro e;injection e with e;exact hn (show k=b from e))⟩ hB (fun k hk=>.inl hk)
theorem Bx.VK (h:Bx w0 w Z G L D) (e:TypeId) (sz:Nat):Bx w0 w Z G (.own w0.heap.size none 0 e sz [] :: L) D:=
 h.push (Ext.refl w) (Own.nil w _ e sz) (fun k hk=>by (cases hk))
theorem Bx.BQ (h:Bx w0 w Z G L D) (α:Type) [Rp α] (e:TypeId):Bx w0 w Z G (.own w0.heap.size none 0 e (Rp.sz α) [] :: L) (.els [] ([]:List α) :: D):=
 (h.VK e (Rp.sz α)).ku trivial
theorem Bx.M7 (h:Bx w0 w Z G L D) (i:Nat) {base:Nat} {A A2:Option Addr} {c c2 n2 sz:Nat} {e:TypeId} {cs ds:List (List Value)} {ys:List Value} (hi:L[i]?=some (.own base A c e sz cs)) (ho:Own w' base e sz A2 n2 c2 ys) (hn:n2=ds.length) (hy:ys=ds.flatten)
  (hg:w.grownBy w' (rowOf A)) (hr:rowOf A2=rowOf A ∨ rowOf A2=some w.heap.size):Bx w0 w' Z G (L.set i (.own base A2 c2 e sz ds)) D:=
 h.put i hi ⟨hg.os,hg.tape,hg.output,hg.size,fun k hk hn=>hg.block k hk (fun e=>hn e.symm)⟩ (by subst hn hy;exact ho) (fun k hk=>by
  have hk:rowOf A2=some k:=hk
  rcases hr with hr | hr
  · exact .inl (show rowOf A=some k by rw [← hr];exact hk)
  · rw [hk] at hr;injection hr with hr;exact .inr (by omega))
theorem Bx.VS (h:Bx w0 w Z G L D) (i:Nat) {base:Nat} {A:Option Addr} {c sz:Nat} {e:TypeId} {cs:List (List Value)} (base':Nat) (hi:L[i]?=some (.own base A c e sz cs)) (hb:base'≤base):Bx w0 w Z G (L.set i (.own base' A c e sz cs)) D:=
 h.put i hi ((Ext.refl w).FQ _) (Own.mono (h.bo i hi) hb) (fun k hk=>.inl hk)
theorem Own.Sz {α:Type} [Rp α] {F:Nat→Prop} {w:World} {e:TypeId} {base:Nat} {A:Option Addr} {c:Nat} {cs:List (List Value)} {l:List α} (h:Own w base e (Rp.sz α) A cs.length c cs.flatten) (he:yA F w cs l) (hF:∀ b,rowOf A=some b→F b):ll F w A c l:=by
 have hc:=h.cap
 rw [he.len] at h hc
 refine ⟨hc.1,hc.2,fun h0=>?_⟩
 obtain ⟨g,rfl⟩:=h.Qo h0
 refine ⟨rfl,hF g rfl,(h.row g rfl).2,fun i x hx=>?_⟩
 obtain ⟨d,hd,hr⟩:=he.get hx
 refine ⟨d,fun j v hv=>?_,hr⟩
 show w.cell? ⟨g,0+i * Rp.sz α+j,none⟩=some v
 rw [Nat.zero_add]
 exact h.cell (he.cells hd j v hv)
theorem Bx.U7 (h:Bx w0 w Z G L D) (i j:Nat) {α:Type} [Rp α] {e:TypeId} {A:Option Addr} {c:Nat} {cs:List (List Value)} {l:List α} (hi:L[i]?=some (.own w0.heap.size A c e (Rp.sz α) cs)) (hj:D[j]?=some (.els cs l)) :
   Bx w0 w Z G (L.eraseIdx i) (.l A c l :: D.eraseIdx j):=by
 have h1:Bx w0 w Z G (L.eraseIdx i) (D.eraseIdx j):=(h.er i).NA fun d hd=>(List.eraseIdx_sublist D j).subset hd
 have h2:=(h.er i).de j hj
 refine h1.ku (d:=.l A c l) ((h.bo i hi).Sz h2 fun b hb=>⟨fun hl=>?_,fun it hit hb'=>?_⟩)
 · have:=((h.bo i hi).row b hb).1;omega
 · have hp:=(Dp hi).pairwise_iff (R:=Ap) (fun {a c} r b hb hc=>r b hc hb)
   have:=hp.1 h.pw
   exact (List.pairwise_cons.1 this).1 it hit b hb hb'
def nodup:List Nat→Bool
 | []=>true
 | i :: l=>!l.contains i && nodup l
theorem Bx.arr (h:Bx w0 w Z G L D) (l:List Nat) (hn:nodup l=true):Bx w0 w Z G (pick L l) D:=by
 have hm:∀ x ∈ pick L l,x ∈ L:=fun x hx=>by obtain ⟨i,_,hi⟩:=DK hx;exact List.mem_of_getElem? hi
 refine h.step (X:=fun _=>False) ((Ext.refl w).FQ _) (fun _ hx=>hx.elim) (fun it hi=>(h.it it (hm it hi)).1) (fun it hi b hb _=>⟨it,hm it hi,hb⟩) ?_
 clear hm
 induction l with
 | nil=>exact List.Pairwise.nil
 | cons i l ih=>
  simp only [nodup,Bool.and_eq_true,Bool.not_eq_true',List.contains_eq_mem] at hn
  unfold pick
  refine List.pairwise_append.2 ⟨Og,ih hn.2,fun x hx y hy=>?_⟩
  obtain ⟨j,h1,h2⟩:=DK hy
  refine h.apart (fun e=>?_) (Jo hx) h2
  subst e
  simp [h1] at hn
theorem Bx.dr (h:Bx w0 w Z G L D) (n m:Nat):Bx w0 w Z G (L.drop n) (D.drop m):=(h.sub (List.drop_sublist n L)).NA fun d hd=>List.mem_of_mem_drop hd
theorem ll.fn {α:Type} [Rp α] {F:Nat→Prop} {w:World} {a:Option Addr} {c:Nat} {l:List α} (h:ll F w a c l):∃ C:Nat→List Value,(∀ i y,l[i]?=some y→Cells w (uB a) (xk a+i * Rp.sz α) (C i))∧∀ i y,l[i]?=some y→Rp.Bo F w (C i) y:=by
 have h1:∀ i:Nat,∃ cs,∀ y,l[i]?=some y→Cells w (uB a) (xk a+i * Rp.sz α) cs∧Rp.Bo F w cs y:=fun i=>by
  cases hi:l[i]? with
  | none=>exact ⟨[],fun y hy=>by cases hy⟩
  | some x=>obtain ⟨cs,h2,h3⟩:=h.el hi;exact ⟨cs,fun y hy=>by cases hy;exact ⟨h2,h3⟩⟩
 exact ⟨fun i=>Classical.choose (h1 i),fun i y hy=>(Classical.choose_spec (h1 i) y hy).1,fun i y hy=>(Classical.choose_spec (h1 i) y hy).2⟩
theorem Uy {F:Nat→Prop} {w:World}:∀ d ∈ ([]:List Da),d.ok F w:=fun _ h=>by cases h
theorem IX {F:Nat→Prop} {w:World} {d:Da} {D:List Da} (h:d.ok F w) (k:∀ d ∈ D,d.ok F w):∀ x ∈ d :: D,x.ok F w:=fun x hx=>by
 rcases List.mem_cons.1 hx with rfl | hx
 · exact h
 · exact k x hx
theorem Bx.pre {Lc Lr:List It} (h:Bx w0 w Z G (Lc ++ Lr) D) {Dc:List Da} (hD:∀ d ∈ Dc,d.ok (F4 w0 Z (Lc ++ Lr)) w):Pre w (F4 w0 Z (Lc ++ Lr)) Lc Dc:=
 ⟨fun it hi=>(h.it it (List.mem_append_left _ hi)).1,fun it hi b hb hz=>hz.2 it (List.mem_append_left _ hi) hb,(List.pairwise_append.1 h.pw).1,hD⟩
theorem Bx.call {Lc Lr L1:List It} {D1:List Da} (h:Bx w0 w Z G (Lc ++ Lr) D) (k:Bx w w' (F4 w0 Z (Lc ++ Lr)) (lT Lc) L1 D1):Bx w0 w' Z G (L1 ++ Lr) (D1 ++ D):=by
 have hpw:=List.pairwise_append.1 h.pw
 have hb:Bx w0 w' Z G (L1 ++ Lr) D:=by
   refine h.step k.rX (fun b ⟨it,hi,hb⟩ _=>⟨it,List.mem_append_left _ hi,hb⟩) (fun it hi=>?_) (fun it hi b hb hl=>?_) (List.pairwise_append.2 ⟨k.pw,hpw.2.1,fun x hx y hy b hb hc=>?_⟩)
   · rcases List.mem_append.1 hi with hi | hi
     · exact (k.it it hi).1
     · have h1:=(h.it it (List.mem_append_right _ hi)).1
       exact it.st w w' h1 (fun b hb=>k.rX.block b (it.bd w h1 b hb) fun ⟨x,hx,hxb⟩=>hpw.2.2 x hx it hi b hxb hb) k.rX.size
   · rcases List.mem_append.1 hi with hi | hi
     · obtain ⟨x,hx,hxb⟩:=(k.it it hi).2 b hb hl
       exact ⟨x,List.mem_append_left _ hx,hxb⟩
     · exact ⟨it,List.mem_append_right _ hi,hb⟩
   · have h1:=y.bd w (h.it y (List.mem_append_right _ hy)).1 b hc
     obtain ⟨z,hz,hzb⟩:=(k.it x hx).2 b hb h1
     exact hpw.2.2 z hz y hy b hzb hc
 refine ⟨hb.rX,hb.zg,hb.it,hb.pw,fun d hd=>?_⟩
 rcases List.mem_append.1 hd with hd | hd
 · refine d.mv (k.da d hd) (.same fun b hf hl=>⟨fun h0=>?_,fun it hi hb'=>?_⟩)
   · exact (hf.1 (Nat.lt_of_lt_of_le h0 h.rX.size)).1 h0
   · rcases List.mem_append.1 hi with hi | hi
     · exact hf.2 it hi hb'
     · have h1:=it.bd w (h.it it (List.mem_append_right _ hi)).1 b hb'
       exact (hf.1 h1).2 it (List.mem_append_right _ hi) hb'
 · exact hb.da d hd
end
theorem lT.nil:lT []=fun _=>False:=funext fun b=>propext (Iff.intro (fun h=>by obtain ⟨_,h,_⟩:=h;cases h) (fun h=>h.elim))
theorem Bx.ex {w0 w:World} {Z:Nat→Prop} {L:List It} {D:List Da} (h:Bx w0 w Z (lT []) L D):Ext w0 w:=Mw.ext (by have:=h.rX;rwa [lT.nil] at this)
end Go.Fw
set_option linter.unusedVariables false
namespace Go.Fw
open Go.RowKit
def QA (P:Program) (ρ:Operand→Value) (o:Oper) (w:World) (R:World→Prop):Prop:=∃ w',(execOp ρ o).run P w=.ok .skip w'∧R w'
section
variable {P:Program} {N:Nat} {ops:Array Oper} {K:Fr→World→Prop} {rest:List Oper} {f:Fr} {w:World} {d:Option Nat} {op:Op} {ty:TypeId} {pos:String} {af:Array Edge}
theorem lu {R:World→Prop} (h:QA P (ev f) ⟨d,op,ty,pos,af,none⟩ w R) (k:∀ w',R w'→JH P N ops K rest (zP f d undef) w'):JH P N ops K (⟨d,op,ty,pos,af,none⟩ :: rest) f w:=by
 obtain ⟨w',h1,h2⟩:=h
 exact VO h1 (k w' h2)
end
section
variable {P:Program} {N:Nat} {ops:Array Oper} {S:World→Prop} {T:List Nat} {K:Fr→World→Prop} {f:Fr} {w:World} {n:Nat} {L:Array Bool}
end
section
variable {α:Type} [Rp α] {F:Nat→Prop} {w0 w w':World} {Z G:Nat→Prop} {L:List It} {D:List Da}
theorem vo {a:Option Addr} {c:Nat} {l:List α} {k:Nat} {x:α} {ds:List Value} (h:ll F w a c l) (hx:l[k]?=some x) (hr:∀ cs,Rp.Bo F w cs x→cs=ds):Cells w (uB a) (xk a+k * Rp.sz α) ds:=by
 obtain ⟨cs,h1,h2⟩:=h.el hx
 rw [← hr cs h2];exact h1
theorem Bx.vw (h:Bx w0 w Z G L D) (i j:Nat) {base:Nat} {A:Option Addr} {c:Nat} {e:TypeId} {cs:List (List Value)} {l:List α} (hi:L[i]?=some (.own base A c e (Rp.sz α) cs)) (hj:D[j]?=some (.els cs l)):ll (fun _=>True) w A c l:=
 (h.bo i hi).Sz ((h.de j hj).mv (.same fun _ _ _=>trivial)) (fun _ _=>trivial)
theorem Bx.oc (h:Bx w0 w Z G L D) (i j:Nat) {base:Nat} {A:Option Addr} {c k:Nat} {e:TypeId} {cs:List (List Value)} {l:List α} {d:List Value} (hi:L[i]?=some (.own base A c e (Rp.sz α) cs)) (hj:D[j]?=some (.els cs l)) (hd:cs[k]?=some d):Cells w (uB A) (xk A+k * Rp.sz α) d:=by
 have h1:=h.bo i hi
 have h2:=h.de j hj
 obtain ⟨g,rfl⟩:=h1.Qo (by have:=kE hd;omega)
 intro q v hv
 show w.cell? ⟨g,0+k * Rp.sz α+q,none⟩=some v
 rw [Nat.zero_add]
 exact h1.cell (h2.cells hd q v hv)
theorem Bx.nm (h:Bx w0 w Z G L D) (i:Nat) {a:Option Addr} {c:Nat} {l:List α} (hi:D[i]?=some (.l a c l)) {k:Nat} {x:α} (hx:l[k]?=some x):∃ cs,Rp.Bo (F4 w0 Z L) w cs x∧Bx w0 w Z G L (.at (uB a) (xk a+k * Rp.sz α) cs :: D):=by
 obtain ⟨cs,h1,h2⟩:=(h.dl i hi).el hx
 have h3:=(h.dl i hi).fb hx
 exact ⟨cs,h2,h.ku (d:=.at _ _ cs) ⟨h3.1,h3.2,h1⟩⟩
end
section
variable {P:Program} {w:World} {ρ:Operand→Value} {d:Option Nat} {ty:TypeId} {pos:String} {af:Array Edge} {g:Option (Nat × Bool)}
theorem kZ {α:Type} [Rp α] {F:Nat→Prop} {w1:World} {a:Option Addr} {c:Nat} {l:List α} {v:α} {t e:TypeId} {x y:Operand} {k:IntKind} {i:Int} {z:Value} {by_:Nat} {j:Nat} (ht:P.underlying t=some (.slice e)) (he:TI P e z (Rp.sz α) by_) (hx:ρ x=.slice a l.length c)
  (hy:ρ y=.int k i) (hi:i=(j:Int)) (hs:ll F w1 a c l) (hj:l[j]?=some v):Yl P ρ (.indexAddr t x y) d ty pos af g w (.pointer (some ⟨uB a,xk a+j * Rp.sz α,none⟩)):=by
 rw [hs.Qo hj] at hx
 exact UT (P:=P) (w:=w) (d:=d) (ty:=ty) (pos:=pos) (af:=af) (g:=g) j ht he hx hy hi (kE hj)
theorem lg {n:Nat} {a:Option Addr} {c:Nat} {t e:TypeId} {x:Operand} (ht:P.underlying t=some (.slice e)) (hx:ρ x=.slice a n c) :
 Yl P ρ (.call { callee:=.builtin .len,args:=#[x],argTypes:=#[t] }) d ty pos af g w (.int .i64 (n:Nat)):=U9 ht hx
def wr (n:Int):Int:=IntKind.i64.wrap n
theorem kN {t t':TypeId} {x y:Operand} {a b:Int} (hx:ρ x=.int .i64 a) (hy:ρ y=.int .i64 b):Yl P ρ (.binOp .add t x y t') d ty pos af g w (.int .i64 (wr (a+b))):=UC hx hy
theorem xU {t t':TypeId} {x y:Operand} {a b:Int} (hx:ρ x=.int .i64 a) (hy:ρ y=.int .i64 b):Yl P ρ (.binOp .sub t x y t') d ty pos af g w (.int .i64 (wr (a - b))):=TG hx hy
theorem Tq {t t':TypeId} {x y:Operand} {a b:Int} (hx:ρ x=.int .i64 a) (hy:ρ y=.int .i64 b):Yl P ρ (.binOp .mul t x y t') d ty pos af g w (.int .i64 (wr (a * b))):=VC hx hy
theorem Uc {t t':TypeId} {x y:Operand} {a b:Int} (hx:ρ x=.int .i64 a) (hy:ρ y=.int .i64 b) (h0:¬ b=0):Yl P ρ (.binOp .quo t x y t') d ty pos af g w (.int .i64 (wr (a.tdiv b))):=U6 hx hy h0
theorem QZ {t t':TypeId} {x y:Operand} {a b:Int} (hx:ρ x=.int .i64 a) (hy:ρ y=.int .i64 b) (h0:¬ b=0):Yl P ρ (.binOp .rem t x y t') d ty pos af g w (.int .i64 (a.tmod b)):=Vg hx hy h0
def w8 (n:Int):Int:=IntKind.u8.wrap n
theorem UN {t t':TypeId} {x y:Operand} {a b:Int} (hx:ρ x=.int .u8 a) (hy:ρ y=.int .u8 b):Yl P ρ (.binOp .sub t x y t') d ty pos af g w (.int .u8 (w8 (a - b))):=TG hx hy
theorem Vv {k:IntKind} {a:Int} {s t:TypeId} {x:Operand} (hs:∃ dsc,P.underlying s=some dsc) (ht:P.underlying t=some (.int .i64)) (hx:ρ x=.int k a):Yl P ρ (.convert s t x) d ty pos af g w (.int .i64 (wr a)):=QI _ hs ht hx
theorem Vy {k:IntKind} {a:Int} {s t:TypeId} {x:Operand} (hs:∃ dsc,P.underlying s=some dsc) (ht:P.underlying t=some (.int .u8)) (hx:ρ x=.int k a):Yl P ρ (.convert s t x) d ty pos af g w (.int .u8 (w8 a)):=QI _ hs ht hx
def AQ (s:ByteArray) (i:Int):Option Int:=if i < 0 then none else (s[i.toNat]?).map fun b=>((b.toNat:Nat):Int)
theorem Qa {s:ByteArray} {i x:Int} (h:AQ s i=some x):∃ k:Nat,i=(k:Int)∧∃ b,s[k]?=some b∧((b.toNat:Nat):Int)=x:=by
 unfold AQ at h
 split at h
 · cases h
 · obtain ⟨b,h1,h2⟩:=Option.map_eq_some_iff.1 h
   exact ⟨i.toNat,by omega,b,h1,h2⟩
def KA (s:ByteArray) (a b:Int):Option ByteArray:=if 0≤a∧a≤b∧b≤s.size then some (s.extract a.toNat b.toNat) else none
theorem JG {s r:ByteArray} {a b:Int} (h:KA s a b=some r):∃ i j:Nat,a=(i:Int)∧b=(j:Int)∧i≤j∧j≤s.size∧s.extract i j=r:=by
 unfold KA at h
 split at h
 · rename_i hc
   exact ⟨a.toNat,b.toNat,by omega,by omega,by omega,by omega,sm h⟩
 · cases h
theorem BB {t:TypeId} {x y:Operand} {s:ByteArray} {k:IntKind} {i v:Int} (ht:P.underlying t=some .string) (hx:ρ x=.string s) (hy:ρ y=.int k i) (h:AQ s i=some v):Yl P ρ (.index t x y) d ty pos af g w (.int .u8 v):=by
 obtain ⟨j,rfl,b,h1,rfl⟩:=Qa h
 simp [Yl,execOp,Instr.index,run_underlying ht,hx,hy,asIntOf,h1]
theorem RZ {t:TypeId} {x y z:Operand} {s r:ByteArray} {k k':IntKind} {a b:Int} (ht:P.underlying t=some .string) (hx:ρ x=.string s) (hy:ρ y=.int k a) (hz:ρ z=.int k' b) (h:KA s a b=some r):Yl P ρ (.slice t x (some y) (some z) none) d ty pos af g w (.string r):=by
 obtain ⟨i,j,rfl,rfl,h1,h2,rfl⟩:=JG h
 have h3:(i:Int)≤(j:Int):=by omega
 have h4:(j:Int)≤(s.size:Int):=by omega
 simp [Yl,execOp,Instr.sliceAt,Instr.slice,run_underlying ht,hx,hy,hz,Instr.sliceBounds,Instr.sliceBound,asIntOf,h1,h2]
theorem Uv {t:TypeId} {x z:Operand} {s r:ByteArray} {k':IntKind} {b:Int} (ht:P.underlying t=some .string) (hx:ρ x=.string s) (hz:ρ z=.int k' b) (h:KA s 0 b=some r):Yl P ρ (.slice t x none (some z) none) d ty pos af g w (.string r):=by
 obtain ⟨i,j,h0,rfl,h1,h2,rfl⟩:=JG h
 obtain rfl:i=0:=by omega
 have h4:(j:Int)≤(s.size:Int):=by omega
 simp [Yl,execOp,Instr.sliceAt,Instr.slice,run_underlying ht,hx,hz,Instr.sliceBounds,Instr.sliceBound,asIntOf,h2]
theorem Tt {t:TypeId} {x y:Operand} {s r:ByteArray} {k:IntKind} {a:Int} (ht:P.underlying t=some .string) (hx:ρ x=.string s) (hy:ρ y=.int k a) (h:KA s a (s.size:Int)=some r):Yl P ρ (.slice t x (some y) none none) d ty pos af g w (.string r):=by
 obtain ⟨i,j,rfl,h0,h1,h2,rfl⟩:=JG h
 obtain rfl:j=s.size:=by omega
 have h4:(i:Int)≤(s.size:Int):=by omega
 simp [Yl,execOp,Instr.sliceAt,Instr.slice,run_underlying ht,hx,hy,Instr.sliceBounds,Instr.sliceBound,asIntOf,h1]
theorem l7 {t t':TypeId} {x y:Operand} {a b r:ByteArray} (hx:ρ x=.string a) (hy:ρ y=.string b) (h:qw a b=some r):Yl P ρ (.binOp .add t x y t') d ty pos af g w (.string r):=by
 obtain ⟨h1,rfl⟩:=Qi h
 have hm:¬ (((a.size+b.size:Nat):Int) > IntKind.i64.max):=by
  have:IntKind.i64.max=9223372036854775807:=by decide
  rw [this];omega
 simp only [Yl,execOp,hx,hy,eqGuard,binOp,Op.stringOp]
 simp only [if_neg hm]
 rfl
theorem G9 (a b:ByteArray):(a.toList == b.toList)=decide (a=b):=by
 by_cases h:a=b
 · subst h;simp
 · rw [decide_eq_false h]
   refine beq_false_of_ne fun e=>h ?_
   rw [ByteArray.toList_eq,ByteArray.toList_eq] at e
   obtain ⟨⟨x⟩⟩:=a
   obtain ⟨⟨y⟩⟩:=b
   simpa using e
theorem rT {t t':TypeId} {x y:Operand} {a b:ByteArray} (hx:ρ x=.string a) (hy:ρ y=.string b):Yl P ρ (.binOp .eql t x y t') d ty pos af g w (.bool (decide (a=b))):=by
 have h:=G9 a b
 simp [Yl,execOp,hx,hy,eqGuard,binOp,Op.stringOp,h]
theorem yO {t t':TypeId} {x y:Operand} {a b:ByteArray} (hx:ρ x=.string a) (hy:ρ y=.string b):Yl P ρ (.binOp .neq t x y t') d ty pos af g w (.bool (decide (¬ a=b))):=by
 have h:=G9 a b
 simp [Yl,execOp,hx,hy,eqGuard,binOp,Op.stringOp,h]
end
section
variable {P:Program} {w0 w w':World} {Z G:Nat→Prop} {L:List It} {D:List Da} {ρ:Operand→Value} {d:Option Nat} {ty:TypeId} {pos:String} {af:Array Edge} {g:Option (Nat × Bool)}
theorem rM (hL:Bx w0 w Z G L D) {o:Oper} {t:TypeId} {cs:Array Value} (h:(execOp ρ o).run P w=.ok (.value (.pointer (some ⟨w.heap.size,0,none⟩))) (w.alloc (.cells cs t))) :
  To P ρ o w fun v w'=>∃ b,v=.pointer (some ⟨b,0,none⟩)∧Bx w0 w' Z G (.box b t cs :: L) D:=
 ⟨_,_,h,_,rfl,hL.new (Nat.le_refl _) (x9.new w t cs) ((Ext.refl w).alloc _)⟩
theorem jV (hL:Bx w0 w Z G L D) {α:Type} [Rp α] {o:Oper} {e:TypeId} {cs:Array Value} {n:Nat} (ds:List (List Value)) (l:List α) (h:(execOp ρ o).run P w=.ok (.value (.slice (some ⟨w.heap.size,0,none⟩) n n)) (w.alloc (.cells cs e)))
   (hc:cs.toList=ds.flatten) (hn:n=l.length) (hm:n≤maxLen) (he:yA (F4 w0 Z L) w ds l) :
   To P ρ o w fun v w'=>∃ b,v=.slice (some ⟨b,0,none⟩) l.length n∧Bx w0 w' Z G (.own w0.heap.size (some ⟨b,0,none⟩) n e (Rp.sz α) ds :: L) (.els ds l :: D):=by
 subst hn
 refine ⟨_,_,h,_,rfl,?_⟩
 have hB:=x9.new w e cs
 have he1:Ext w (w.alloc (.cells cs e)):=(Ext.refl w).alloc _
 have hfl:=he.Pp
 have ho:Own (w.alloc (.cells cs e)) w0.heap.size e (Rp.sz α) (some ⟨w.heap.size,0,none⟩) l.length l.length cs.toList:=hB.own hL.rX.size hm (by rw [← hfl,← hc];simp)
 rw [hc,← he.len] at ho
 have h1:Bx w0 (w.alloc (.cells cs e)) Z G (.own w0.heap.size (some ⟨w.heap.size,0,none⟩) l.length e (Rp.sz α) ds :: L) D:=
   hL.push he1 (by rw [← he.len];exact ho) (fun k hk=>by simp [It.own,rowOf] at hk;omega)
 refine h1.ku (d:=.els ds l) (he.mv ⟨fun b hb hl=>⟨⟨hb.1,fun it hi hf=>?_⟩,he1.block b hl⟩,he1.size⟩)
 rcases List.mem_cons.1 hi with rfl | hi
 · simp [It.own,rowOf] at hf;omega
 · exact hb.2 it hi hf
theorem Qd (hL:Bx w0 w Z G L D) (i:Nat) {t te:TypeId} {x y:Operand} {z:Value} {s by_ b o:Nat} {old cs':Array Value} (vs:List Value) (hi:L[i]?=some (.box b te old)) (ht:TI P t z s by_) (hs:s=vs.length)
  (hx:ρ x=.pointer (some ⟨b,o,none⟩)) (hy:(ρ y).cells=vs.toArray) (h1:vs.all (fun v=>v.oneCell')=true) (hl:Nat.ble (o+vs.length) old.size=true) (hc:(old.toList.take o ++ vs ++ old.toList.drop (o+vs.length)).toArray=cs') :
  QA P ρ ⟨d,.store t x y,ty,pos,af,g⟩ w fun w'=>Bx w0 w' Z G (L.set i (.box b te cs')) D:=by
 subst hc hs
 obtain ⟨q,hi1,hi2,hi3,hi4⟩:=ht
 have hB:=hL.bk i hi
 have hst:=run_storeCells_at (P:=P) b o te vs 0 old w hB (by have:=Nat.le_of_ble_eq_true hl;omega) (fun v hv=>List.all_eq_true.1 h1 v hv)
 rw [Nat.add_zero] at hst
 refine ⟨_,?_,hL.wr i hi (Eh.setRow w b _) (hB.setRow _)⟩
 simp [execOp,hx,Instr.storeAt,Instr.sureAddr,storeVar,sizeOf,typeInfo,hi1,hi3,hy,hst]
theorem kS (hL:Bx w0 w Z G L D) {α:Type} [Rp α] (i j:Nat) {t e:TypeId} {s x:Operand} {z:Value} {by_ base:Nat} {A A':Option Addr} {c c':Nat} {cs:List (List Value)} {l m r:List α}
  (hi:L[i]?=some (.own base A c e (Rp.sz α) cs)) (hj:D[j]?=some (.els cs l)) (ht:P.underlying t=some (.slice e)) (hti:TI P e z (Rp.sz α) by_) (hz:z.cells.size=Rp.sz α) (h0:0 < Rp.sz α) (hb:by_≤100000) (hbase:base≤w0.heap.size)
  (hs:ρ s=.slice A l.length c) (hx:ρ x=.slice A' m.length c') (hy:∃ ds,yA (F4 w0 Z L) w ds m∧Sl w w.heap.size (Rp.sz α) A' m.length ds.flatten) (hr:Fw.app l m=some r) :
  To P ρ ⟨d,.call { callee:=.builtin .append,args:=#[s,x],argTypes:=#[t,t] },ty,pos,af,g⟩ w fun v w'=>
   ∃ A2 c2 cs2,v=.slice A2 r.length c2∧Bx w0 w' Z G (L.set i (.own base A2 c2 e (Rp.sz α) cs2)) (D.set j (.els cs2 r)):=by
 obtain ⟨hm,rfl⟩:=pK hr
 obtain ⟨ds,hd,hsl⟩:=hy
 have hE:=hL.de j hj
 have ho:=hL.bo i hi
 rw [hE.len] at ho
 have hbb:(l.length+m.length) * by_≤140737488355328:=Nat.le_trans (Nat.mul_le_mul hm hb) (by decide)
 obtain ⟨v,w',h1,A2,c2,rfl,h2,h3,h4⟩:=MG (P:=P) (ρ:=ρ) (w:=w) (d:=d) (ty:=ty) (pos:=pos) (af:=af) (g:=g) base (l ++ m).length ht hti hz h0 hs hx ho hsl (yA.one hd) (Nat.le_trans hbase hL.rX.size) (by omega) hbb (by simp)
 have h5:yA (F4 w0 Z L) w (cs ++ ds) (l ++ m):=hE.app hd
 refine ⟨_,w',h1,A2,c2,cs ++ ds,rfl,?_⟩
 have h6:Bx w0 w Z G L (D.set j (.els (cs ++ ds) (l ++ m))):=hL.PZ j h5
 exact h6.M7 i hi h2 h5.len.symm (by simp) h3 h4
theorem Bx.AJ (hL:Bx w0 w Z G L D) {α:Type} [Rp α] (i j:Nat) {e:TypeId} {base c:Nat} {A:Option Addr} {cs:List (List Value)} {l:List α} (hi:L[i]?=some (.own base A c e (Rp.sz α) cs)) (hj:D[j]?=some (.els cs l)):∃ ds,yA (F4 w0 Z L) w ds l∧Sl w w.heap.size (Rp.sz α) A l.length ds.flatten:=
 ⟨cs,hL.de j hj,by have:=(hL.bo i hi).sl;rwa [(hL.de j hj).len] at this⟩
theorem Bx.AP (hL:Bx w0 w Z G L D) {α:Type} [Rp α] (i j:Nat) {e:TypeId} {base c n:Nat} {A:Option Addr} {cs:List (List Value)} {l r:List α} (hi:L[i]?=some (.own base A c e (Rp.sz α) cs)) (hj:D[j]?=some (.els cs l)) (hn:n≤l.length) (hr:(l.drop 0).take (n - 0)=r):∃ ds,yA (F4 w0 Z L) w ds r∧Sl w w.heap.size (Rp.sz α) A r.length ds.flatten:=by
 subst hr
 rw [List.drop_zero,Nat.sub_zero]
 have hE:=hL.de j hj
 have hs:=(hL.bo i hi).sl
 rw [hE.len] at hs
 have h1:=hs.take hn
 have hl:(l.take n).length=n:=by rw [List.length_take];omega
 refine ⟨cs.take n,hE.take n,?_⟩
 rw [hl]
 have key:∀ {cs:List (List Value)} {l:List α} (n:Nat),n≤l.length→yA (F4 w0 Z L) w cs l→(cs.take n).flatten=cs.flatten.take (n * Rp.sz α):=by
  intro cs
  induction cs with
  | nil=>intro l n _ _;simp
  | cons c cs ih=>
   intro l n hn hE
   cases l with
   | nil=>exact hE.elim
   | cons x l=>
    cases n with
    | zero=>simp
    | succ n=>
     have hc:=Rp.len hE.1
     have h2:(n+1) * Rp.sz α - c.length=n * Rp.sz α:=by rw [hc,Nat.succ_mul];omega
     have h3:c.length≤(n+1) * Rp.sz α:=by rw [hc,Nat.succ_mul];omega
     rw [List.take_succ_cons,List.flatten_cons,List.flatten_cons,ih n (by simpa using hn) hE.2,List.take_append,h2,List.take_of_length_le h3]
 rw [key n hn hE]
 exact h1
theorem Bx.VH (hL:Bx w0 w Z G L D) {α:Type} [Rp α] (i:Nat) {a:Option Addr} {c:Nat} {l:List α} (hi:D[i]?=some (.l a c l)):∃ ds,yA (F4 w0 Z L) w ds l∧Sl w w.heap.size (Rp.sz α) a l.length ds.flatten:=(hL.dl i hi).els
theorem ll.part {α:Type} [Rp α] {F:Nat→Prop} {w:World} {a:Option Addr} {c:Nat} {l:List α} (h:ll F w a c l) {i j:Nat} (hij:i≤j) (hj:j≤l.length):ll F w (if c=i then a else a.map (·.add (i * Rp.sz α))) (c - i) ((l.drop i).take (j - i)):=by
 have hc:=h.1
 have hlen:((l.drop i).take (j - i)).length=j - i:=by rw [List.length_take,List.length_drop];omega
 refine ⟨by omega,by have:=h.2.1;omega,fun h0=>?_⟩
 obtain ⟨h1,h2,h3,h4⟩:=h.2.2 (by omega)
 rw [if_neg (by omega)]
 have hb:uB (a.map (·.add (i * Rp.sz α)))=uB a:=by rw [h1];simp [Addr.add_lit,uB]
 have ho:xk (a.map (·.add (i * Rp.sz α)))=xk a+i * Rp.sz α:=by rw [h1];simp [Addr.add_lit,xk]
 rw [hb,ho]
 refine ⟨by rw [h1];simp [Addr.add_lit,uB,xk],h2,h3,fun k x hx=>?_⟩
 rw [List.getElem?_take] at hx
 split at hx
 · rw [List.getElem?_drop] at hx
   obtain ⟨cs,h5,h6⟩:=h4 _ x hx
   refine ⟨cs,?_,h6⟩
   have:xk a+(i+k) * Rp.sz α=xk a+i * Rp.sz α+k * Rp.sz α:=by rw [Nat.add_mul];omega
   rw [this] at h5
   exact h5
 · cases hx
end
section
variable {P:Program} {w:World} {ρ:Operand→Value} {d:Option Nat} {ty:TypeId} {pos:String} {af:Array Edge} {g:Option (Nat × Bool)}
theorem ll.head {α:Type} [Rp α] {F:Nat→Prop} {w:World} {a:Option Addr} {c:Nat} {l:List α} (h:ll F w a c l) {j:Nat} (hj:j≤l.length):ll F w a c ((l.drop 0).take (j - 0)):=by
 rw [List.drop_zero,Nat.sub_zero]
 have hl:(l.take j).length=j:=by rw [List.length_take];omega
 refine ⟨by have:=h.1;omega,h.2.1,fun h0=>?_⟩
 obtain ⟨h1,h2,h3,h4⟩:=h.2.2 (by omega)
 refine ⟨h1,h2,h3,fun i x hx=>h4 i x ?_⟩
 rw [List.getElem?_take] at hx
 split at hx
 · exact hx
 · cases hx
end
theorem Uw {P:Program} {w:World} {ρ:Operand→Value} {d:Option Nat} {ty:TypeId} {pos:String} {af:Array Edge} {g:Option (Nat × Bool)} {x:Operand} {a:Addr} (hx:ρ x=.pointer (some a)):Yl P ρ (.nilCheck x) d ty pos af g w (.pointer (some a)):=by
 simp [Yl,execOp,hx]
theorem bt {p:Prop} [Decidable p] (h:p):Value.bool (decide p)=.bool true:=by rw [decide_eq_true h]
theorem bf {p:Prop} [Decidable p] (h:¬ p):Value.bool (decide p)=.bool false:=by rw [decide_eq_false h]
theorem nt {b:Bool} (h:¬ b=true):b=false:=by cases b with
 | true=>exact absurd rfl h
 | false=>rfl
theorem wJ {P:Program} {N:Nat} {Q:Post} {f:Fr} {w:World} {x:Code} (J:Fr→World→Prop) (h:WP P N x { Q with n:=J } f w) (k:∀ f w,J f w→Q.n f w):WP P N x Q f w:=
 h.mono (fun f w hj=>k f w hj) (fun _ _ _ h=>h) (fun _ _ h=>h)
end Go.Fw
namespace Go.Fw
open Go.RowKit
def Qj (P:Program) (f:Fr) (w:World):ResultVar→Value→Prop
 | .tmp t,v=>f t=v
 | .cell t ty,v=>∃ b te cs,f t=.pointer (some ⟨b,0,none⟩)∧x9 w b te cs∧(loadVar ty ⟨b,0,none⟩).run P w=.ok v w
theorem uN {P:Program} {f:Fr} {w:World} {t b:Nat} {ty te:TypeId} {D:TypeDesc} {z:Value} {s by_:Nat} {cs:Array Value} (hf:f t=.pointer (some ⟨b,0,none⟩)) (hu:P.underlying ty=some D) (hD:Mi D=true) (hi:TI P ty z s by_) (hs:s=cs.size) (hB:x9 w b te cs):Qj P f w (.cell t ty) (.agg cs):=by
 refine ⟨b,te,cs,hf,hB,?_⟩
 have hl := oL (P := P) (w := w) (ρ := fun _ => .pointer (some ⟨b, 0, none⟩)) (d := none) (ty := 0) (pos := "") (af := #[]) (g := none) (x := .tmp 0) cs.toList hu hD hi (by simpa using hs) rfl hB.cells
 simp only [Yl,execOp,Instr.loadAt,Instr.sureAddr,Sem.run_bind,Sem.run_pure,Result.andThen_ok] at hl
 cases hq:(loadVar ty ⟨b,0,none⟩).run P w with
 | ok v w'=>rw [hq] at hl;simp at hl;rw [hl.1,hl.2]
 | halt h w'=>rw [hq] at hl;simp at hl
theorem kT {P:Program} {f:Fr} {w:World} {t:Nat} {v:Value} (hf:f t=v):Qj P f w (.tmp t) v:=hf
theorem EK {P:Program} {f:Fr} {w:World} {r:ResultVar} {v:Value} (h:Qj P f w r v) (a:Array Value) (ha:∀ t,a.getD t undef=f t) :
  (∃ t,r=.tmp t∧a[t]?.getD undef=v) ∨ ∃ q ty b,r=.cell q ty∧a[q]?.getD undef=.pointer (some ⟨b,0,none⟩)∧(loadVar ty ⟨b,0,none⟩).run P w=.ok v w:=by
 cases r with
 | tmp t=>have h:f t=v:=h;exact .inl ⟨t,rfl,by have:=ha t;rw [Array.getD_eq_getD_getElem?] at this;rw [this];exact h⟩
 | cell t ty=>
  obtain ⟨b,te,cs,h1,h2,h3⟩:=h
  exact .inr ⟨t,ty,b,rfl,by have:=ha t;rw [Array.getD_eq_getD_getElem?] at this;rw [this];exact h1,h3⟩
theorem jC {P:Program} {fn:Func} {R:Value→World→Prop} {f:Fr} {w:World} {r:ResultVar} {v:Value} (hr:fn.results=#[r]) (h1:Qj P f w r v) (h:R v w):Reads P fn R f w:=by
 unfold Reads
 intro a ha
 refine ⟨v,?_,h⟩
 rcases EK h1 a ha with ⟨t1,rfl,e1⟩|⟨q1,ty1,b1,rfl,e1,k1⟩ <;> clear ha h1 <;> simp [results,asAddr, *]
theorem rO {P:Program} {fn:Func} {R:Value→World→Prop} {f:Fr} {w:World} {r r':ResultVar} {v v':Value} (hr:fn.results=#[r,r']) (h1:Qj P f w r v) (h2:Qj P f w r' v') (h:R (.tuple #[v,v']) w):Reads P fn R f w:=by
 unfold Reads
 intro a ha
 refine ⟨_,?_,h⟩
 rcases EK h1 a ha with ⟨t1,rfl,e1⟩|⟨q1,ty1,b1,rfl,e1,k1⟩ <;> rcases EK h2 a ha with ⟨t2,rfl,e2⟩|⟨q2,ty2,b2,rfl,e2,k2⟩ <;> clear ha h1 h2 <;> simp [results,asAddr, *]
theorem yJ {P:Program} {fn:Func} {R:Value→World→Prop} {f:Fr} {w:World} {r r' r'':ResultVar} {v v' v'':Value} (hr:fn.results=#[r,r',r'']) (h1:Qj P f w r v) (h2:Qj P f w r' v') (h3:Qj P f w r'' v'') (h:R (.tuple #[v,v',v'']) w):Reads P fn R f w:=by
 unfold Reads
 intro a ha
 refine ⟨_,?_,h⟩
 rcases EK h1 a ha with ⟨t1,rfl,e1⟩|⟨q1,ty1,b1,rfl,e1,k1⟩ <;> rcases EK h2 a ha with ⟨t2,rfl,e2⟩|⟨q2,ty2,b2,rfl,e2,k2⟩ <;> rcases EK h3 a ha with ⟨t3,rfl,e3⟩|⟨q3,ty3,b3,rfl,e3,k3⟩ <;> clear ha h1 h2 h3 <;> simp [results,asAddr, *]
end Go.Fw
set_option linter.unusedVariables false
namespace Go.Fw
open Go.RowKit
section
variable {κ ν:Type} [DecidableEq κ]
def qa:List (κ × ν)→κ→Option ν
 | [],_=>none
 | (a,b) :: l,k=>if k=a then some b else qa l k
def Cb:List (κ × ν)→κ→ν→List (κ × ν)
 | [],k,v=>[(k,v)]
 | (a,b) :: l,k,v=>if k=a then (k,v) :: l else (a,b) :: Cb l k v
def EL:List (κ × ν)→κ→Nat→Option (Nat × ν)
 | [],_,_=>none
 | (a,b) :: l,k,i=>if k=a then some (i,b) else EL l k (i+1)
theorem Lj:∀ (l:List (κ × ν)) (k:κ) (i:Nat),(EL l k i).map (·.2)=qa l k
 | [],_,_=>rfl
 | (a,b) :: l,k,i=>by
  unfold EL qa
  split
  · rfl
  · exact Lj l k (i+1)
theorem Jb:∀ (l:List (κ × ν)) (k:κ) (v:ν) (i:Nat),EL l k i=none→Cb l k v=l ++ [(k,v)]
 | [],_,_,_,_=>rfl
 | (a,b) :: l,k,v,i,h=>by
  unfold EL at h
  unfold Cb
  split at h
  · cases h
  · rename_i hne
    rw [if_neg hne,Jb l k v (i+1) h];rfl
theorem I7:∀ (l:List (κ × ν)) (k:κ) (v:ν) (i j:Nat) (u:ν),EL l k i=some (j,u)→∃ pre post,l=pre ++ (k,u) :: post∧i+pre.length=j∧Cb l k v=pre ++ (k,v) :: post
 | (a,b) :: l,k,v,i,j,u,h=>by
  unfold EL at h
  unfold Cb
  split at h
  · rename_i he
    simp only [Option.some.injEq,Prod.mk.injEq] at h
    obtain ⟨rfl,rfl⟩:=h
    subst he
    exact ⟨[],l,rfl,rfl,by rw [if_pos rfl];rfl⟩
  · rename_i hne
    obtain ⟨pre,post,h1,h2,h3⟩:=I7 l k v (i+1) j u h
    exact ⟨(a,b) :: pre,post,by rw [h1];rfl,by rw [List.length_cons];omega,by rw [if_neg hne,h3];rfl⟩
theorem DV (l:List (κ × ν)) (k k':κ) (v:ν):qa (Cb l k v) k'=if k'=k then some v else qa l k':=by
 induction l with
 | nil=>simp [Cb,qa]
 | cons a l ih=>
  obtain ⟨a,b⟩:=a
  unfold Cb
  split
  · rename_i h;subst h
    by_cases h:k'=k <;> simp [qa,h]
  · rename_i h
    by_cases h1:k'=a
    · subst h1;simp [qa,Ne.symm h]
    · simp only [qa,if_neg h1,ih]
end
section
variable {P:Program} {w:World} {ρ:Operand→Value} {d:Option Nat} {ty:TypeId} {pos:String} {af:Array Edge} {g:Option (Nat × Bool)}
def QQ (P : Program) (f : Field) (o : Nat) : Bool := f.name != "_" && f.offset == o && (match P.underlying f.type with | some (.int _) => true | _ => false)
theorem F9 {f:Field} {fs:List Field} {o dp:Nat} {xs ys:Array Value} {a b:Int} (h:QQ P f o=true) (hx:xs[o]?=some (.int .i64 a)) (hy:ys[o]?=some (.int .i64 b)) :
  (Op.eqFields (dp+1) xs ys (f :: fs)).run P w=if a=b then (Op.eqFields (dp+1) xs ys fs).run P w else .ok false w:=by
 simp only [QQ,Bool.and_eq_true,bne_iff_ne,ne_eq,beq_iff_eq] at h
 obtain ⟨⟨h1,rfl⟩,h3⟩:=h
 cases hu:P.underlying f.type with
 | none=>rw [hu] at h3;cases h3
 | some D=>
  rw [hu] at h3
  cases D with
  | int k=>
   have hagg:(isAgg f.type).run P w=.ok false w:=by
     unfold isAgg
     rw [Sem.run_bind,run_underlying hu w]
     simp
   have hp1:(part f.type xs f.offset).run P w=.ok (.int .i64 a) w:=by simp [part,hagg,hx]
   have hp2:(part f.type ys f.offset).run P w=.ok (.int .i64 b) w:=by simp [part,hagg,hy]
   have he:=run_equalIn_int (P:=P) w dp f.type .i64 k a b hu
   conv=>lhs;unfold Op.eqFields
   rw [if_pos h1]
   simp only [Sem.run_bind,hp1,hp2,Result.andThen_ok,he]
   by_cases hab:a=b
   · subst hab;simp
   · have:(a == b)=false:=beq_false_of_ne hab
     simp [this,hab]
  | _=>cases h3
theorem R5 {t:TypeId} {f0 f1 f2:Field} {a b c a' b' c':Int} (ht:P.underlying t=some (.struct #[f0,f1,f2])) (hf:(QQ P f0 0 && QQ P f1 1 && QQ P f2 2)=true) (hp:P.stoodInHeld t=false) :
  (Op.equalIn 10000 t (.agg #[.int .i64 a,.int .i64 b,.int .i64 c]) (.agg #[.int .i64 a',.int .i64 b',.int .i64 c'])).run P w=.ok (decide ([a,b,c]=[a',b',c'])) w:=by
 simp only [Bool.and_eq_true] at hf
 have hfs:P.fieldsOf t=#[f0,f1,f2]:=by unfold Program.fieldsOf;rw [ht]
 rw [run_equalIn_struct (P:=P) w 9999 t _ _ (by rw [hfs,ht]) hp,hfs]
 rw [show (#[f0,f1,f2]:Array Field).toList=[f0,f1,f2] from rfl]
 rw [F9 (P:=P) (dp:=9998) hf.1.1 rfl rfl,F9 (P:=P) (dp:=9998) hf.1.2 rfl rfl,F9 (P:=P) (dp:=9998) hf.2 rfl rfl]
 by_cases h1:a=a' <;> by_cases h2:b=b' <;> by_cases h3:c=c' <;> simp [h1,h2,h3,Op.eqFields]
theorem Sr {t t':TypeId} {x y:Operand} {f0 f1 f2:Field} {a b c a' b' c':Int} (ht:P.underlying t=some (.struct #[f0,f1,f2])) (hf:(QQ P f0 0 && QQ P f1 1 && QQ P f2 2)=true) (hp:P.stoodInHeld t=false) (hm:P.eqGuardType P.depth t=false)
  (hx:ρ x=.agg #[.int .i64 a,.int .i64 b,.int .i64 c]) (hy:ρ y=.agg #[.int .i64 a',.int .i64 b',.int .i64 c']):Yl P ρ (.binOp .neq t x y t') d ty pos af g w (.bool (decide (¬ [a,b,c]=[a',b',c']))):=by
 have h1:=run_neq_struct (P:=P) w t #[.int .i64 a,.int .i64 b,.int .i64 c] #[.int .i64 a',.int .i64 b',.int .i64 c']
 rw [R5 ht hf hp] at h1
 have h2:=run_eqGuard_agg (P:=P) w .neq t x y #[.int .i64 a,.int .i64 b,.int .i64 c] #[.int .i64 a',.int .i64 b',.int .i64 c'] hm
 have e:decide (¬ [a,b,c]=[a',b',c'])=!decide ([a,b,c]=[a',b',c']):=by by_cases h:[a,b,c]=[a',b',c'] <;> simp [h]
 rw [e]
 simp only [Yl,execOp,hx,hy,Sem.run_bind,h2,Result.andThen_ok,h1]
 rfl
end
def Mp {κ ν:Type} (ek:κ→Value) (ev:ν→Value) (w:World) (b:Nat) (l:List (κ × ν)):Prop:=
 ∃ ents clock,w.heap[b]?=some (.map ents clock)∧ents.toList.map (fun e=>(e.key,e.val))=l.map (fun p=>(ek p.1,ev p.2))
structure FK {κ:Type} [DecidableEq κ] (P:Program) (kt:TypeId) (ek:κ→Value):Prop where
 find:∀ {ν:Type} (ev:ν→Value) (k:κ) (l:List (κ × ν)) (ents:List MapEntry) (w:World),ents.map (fun e=>(e.key,e.val))=l.map (fun p=>(ek p.1,ev p.2))→(Instr.findKey kt (ek k) ents).run P w=.ok ((EL l k 0).map (fun p=>(p.1,ev p.2))) w
 chk:∀ (emp:Bool) (k:κ) (w:World),(Instr.checkKey emp 10000 kt (ek k)).run P w=.ok () w
 bits:∀ (k:κ),Instr.sameBits 10000 (ek k) (ek k)=true
abbrev oG (v:Int):Value:=.int .i64 v
abbrev TT (v:Bool):Value:=.bool v
def nV (k:ByteArray):Value:=.string k
theorem Cc {P:Program} {kt:TypeId} (h:P.underlying kt=some .string):FK P kt nV:=by
 refine ⟨fun ev k l ents w he=>?_,fun emp k w=>?_,fun k=>?_⟩
 · have key:∀ (l:List (ByteArray × _)) (ents:List MapEntry) (i:Nat),ents.map (fun e=>(e.key,e.val))=l.map (fun p=>(nV p.1,ev p.2))→Instr.findNow .string (nV k) ents i=some ((EL l k i).map (fun p=>(p.1,ev p.2))):=by
    intro l
    induction l with
    | nil=>intro ents i he;rw [List.map_nil,List.map_eq_nil_iff] at he;subst he;rfl
    | cons a l ih=>
     intro ents i he
     match ents,he with
     | e :: es,he=>
      simp only [List.map_cons,List.cons.injEq,Prod.mk.injEq] at he
      obtain ⟨⟨h1,h2⟩,h3⟩:=he
      unfold Instr.findNow
      rw [h1]
      simp only [nV,Instr.sameNow]
      rw [beq_toListBytes,G9]
      by_cases hk:k=a.1
      · simp only [decide_eq_true hk,EL,if_pos hk,h2,Option.map_some];try rfl
      · simp only [decide_eq_false hk,EL,if_neg hk]
        exact ih es (i+1) h3
   unfold Instr.findKey
   rw [Sem.run_bind,run_underlying h w]
   simp only [Result.andThen_ok,key l ents 0 he]
   rfl
 · unfold Instr.checkKey
   rw [Sem.run_bind,run_underlying h w]
   simp [nV]
 · simp only [nV,Instr.sameBits]
   rw [beq_toListBytes,G9];simp
theorem D7 {P:Program} {w:World} {b:Nat} {es:Array MapEntry} {k:Nat} (h:w.heap[b]?=some (.map es k)):(getObj b).run P w=.ok (.map es k) w:=by simp [getObj,Sem.run,h]
section
variable {P:Program} {w:World} {ρ:Operand→Value} {d:Option Nat} {ty:TypeId} {pos:String} {af:Array Edge} {g:Option (Nat × Bool)}
variable {κ ν:Type} [DecidableEq κ] {ek:κ→Value} {ev:ν→Value}
theorem K6 {t kt et:TypeId} {b:Nat} {l:List (κ × ν)} {k:κ} {z:ν} {ok:Bool} (ht:P.underlying t=some (.map kt et)) (hk:FK P kt ek) (hz:(zeroValue et).run P w=.ok (ev z) w) (hm:Mp ek ev w b l) :
  (Instr.lookup t (.map (some b)) (ek k) ok).run P w=.ok (if ok then .tuple #[ev ((qa l k).getD z),.bool (qa l k).isSome] else ev ((qa l k).getD z)) w:=by
 obtain ⟨ents,clock,h1,h2⟩:=hm
 have ro:(getObj b).run P w=.ok (.map ents clock) w:=D7 h1
 have hf:=hk.find ev k l ents.toList w h2
 have hg:=Lj l k 0
 unfold Instr.lookup
 simp only [Sem.run_bind,run_underlying ht,Result.andThen_ok,ro,Sem.run_pure,hk.chk,hf]
 cases hq:EL l k 0 with
 | none=>
  rw [hq] at hg
  rw [← hg]
  simp [hz]
 | some q=>
  rw [hq] at hg
  rw [← hg]
  simp
theorem Na {t kt et:TypeId} {x y:Operand} {b:Nat} {l:List (κ × ν)} {k:κ} {z:ν} (ht:P.underlying t=some (.map kt et)) (hk:FK P kt ek) (hz:(zeroValue et).run P w=.ok (ev z) w) (hm:Mp ek ev w b l) (hx:ρ x=.map (some b)) (hy:ρ y=ek k) :
  Yl P ρ (.lookup t x y true) d ty pos af g w (.tuple #[ev ((qa l k).getD z),.bool (qa l k).isSome]):=by
 have:=K6 (ok:=true) (k:=k) ht hk hz hm
 simp [Yl,execOp,hx,hy,this]
theorem RN {t kt et:TypeId} {x y:Operand} {b:Nat} {l:List (κ × ν)} {k:κ} {z:ν} (ht:P.underlying t=some (.map kt et)) (hk:FK P kt ek) (hz:(zeroValue et).run P w=.ok (ev z) w) (hm:Mp ek ev w b l) (hx:ρ x=.map (some b)) (hy:ρ y=ek k) :
  Yl P ρ (.lookup t x y false) d ty pos af g w (ev ((qa l k).getD z)):=by
 have:=K6 (ok:=false) (k:=k) ht hk hz hm
 simp [Yl,execOp,hx,hy,this]
theorem Vo {t kt et:TypeId} {x y v:Operand} {b:Nat} {l:List (κ × ν)} {k:κ} {u:ν} (ht:P.underlying t=some (.map kt et)) (hk:FK P kt ek) (hm:Mp ek ev w b l) (hx:ρ x=.map (some b)) (hy:ρ y=ek k) (hv:ρ v=ev u) :
  ∃ w',St P ρ (.mapUpdate t x y v) d ty pos af g w w'∧Mp ek ev w' b (Cb l k u)∧Eh b w w':=by
 obtain ⟨ents,clock,h1,h2⟩:=hm
 have ro:(getObj b).run P w=.ok (.map ents clock) w:=D7 h1
 have hf:=hk.find ev k l ents.toList w h2
 have hb:b < w.heap.size:=(Array.getElem?_eq_some_iff.1 h1).1
 have so:∀ o:Obj,(setObj b o).run P w=.ok () { w with heap:=w.heap.setIfInBounds b o }:=fun o=>by simp [setObj,Sem.run,h1]
 have rX:∀ o:Obj,Eh b w { w with heap:=w.heap.setIfInBounds b o }:=fun o=>
  ⟨rfl,rfl,rfl,by simp,fun i hi hne=>by simp only;rw [Array.getElem?_setIfInBounds_ne (by simpa using hne.symm)]⟩
 have at':∀ o:Obj,({ w with heap:=w.heap.setIfInBounds b o }:World).heap[b]?=some o:=fun o=>by simp [hb]
 cases hq:EL l k 0 with
 | none=>
  rw [hq] at hf
  refine ⟨_,?_,⟨ents.push { key:=ek k,val:=ev u,born:=clock },clock+1,at' _,?_⟩,rX _⟩
  · simp only [St,execOp,Instr.mapUpdate,hx,hy,hv,Sem.run_bind,run_underlying ht,Result.andThen_ok,ro,hk.chk,hf,Option.map_none,so]
    rfl
  · rw [Jb l k u 0 hq]
    simp [h2]
 | some q=>
  obtain ⟨j,u0⟩:=q
  rw [hq] at hf
  obtain ⟨pre,post,e1,e2,e3⟩:=I7 l k u 0 j u0 hq
  have hj:j=pre.length:=by omega
  subst hj
  have hlen:ents.toList.length=l.length:=by have:=congrArg List.length h2;simpa using this
  have hent:∃ e,ents[pre.length]?=some e∧e.key=ek k:=by
    have h3:(ents.toList.map (fun e=>(e.key,e.val)))[pre.length]?=some (ek k,ev u0):=by rw [h2,e1];simp
    rw [List.getElem?_map] at h3
    cases he:ents.toList[pre.length]? with
    | none=>rw [he] at h3;cases h3
    | some e=>
      rw [he] at h3
      simp only [Option.map_some,Option.some.injEq,Prod.mk.injEq] at h3
      exact ⟨e,by simpa using he,h3.1⟩
  obtain ⟨e,he1,he2⟩:=hent
  refine ⟨_,?_,⟨ents.modify pre.length fun e=>{ e with key:=ek k,val:=ev u },clock,at' _,?_⟩,rX _⟩
  · have hst:(Instr.keyThatStays (((ents[pre.length]?).map (·.key)).getD (ek k)) (ek k)).run P w=.ok (ek k) w:=by
      rw [he1]
      simp [Instr.keyThatStays,he2,hk.bits]
    simp only [St,execOp,Instr.mapUpdate,hx,hy,hv,Sem.run_bind,run_underlying ht,Result.andThen_ok,ro,hk.chk,hf,Option.map_some,hst,so]
    rfl
  · rw [Array.toList_modify,e3]
    refine List.ext_getElem? fun i=>?_
    rw [List.getElem?_map,List.getElem?_map,List.getElem?_modify]
    have h3:∀ i:Nat,(ents.toList[i]?).map (fun e:MapEntry=>(e.key,e.val))=(l[i]?).map (fun p:κ × ν=>(ek p.1,ev p.2)):=fun i=>by rw [← List.getElem?_map,← List.getElem?_map,h2]
    have h4:=h3 i
    rw [e1] at h4
    rcases Nat.lt_trichotomy i pre.length with hi | hi | hi
    · rw [List.getElem?_append_left hi] at h4 ⊢
      have hne:¬ pre.length=i:=by omega
      simpa [hne] using h4
    · subst hi
      have he1':ents.toList[pre.length]?=some e:=by simpa using he1
      simp [he1']
    · obtain ⟨m,rfl⟩:∃ m,i=pre.length+1+m:=⟨i - pre.length - 1,by omega⟩
      have a1:(pre ++ (k,u0) :: post)[pre.length+1+m]?=post[m]?:=by
       rw [List.getElem?_append_right (by omega),show pre.length+1+m - pre.length=m+1 by omega];rfl
      have a2:(pre ++ (k,u) :: post)[pre.length+1+m]?=post[m]?:=by
       rw [List.getElem?_append_right (by omega),show pre.length+1+m - pre.length=m+1 by omega];rfl
      rw [a1] at h4
      rw [a2,← h4]
      have hne:¬ pre.length=pre.length+1+m:=by omega
      simp [hne]
end
theorem Mp.same {κ ν:Type} {ek:κ→Value} {ev:ν→Value} {w w':World} {b:Nat} {l:List (κ × ν)} (h:Mp ek ev w b l) (e:w'.heap[b]?=w.heap[b]?):Mp ek ev w' b l:=by
 obtain ⟨ents,clock,h1,h2⟩:=h
 exact ⟨ents,clock,by rw [e];exact h1,h2⟩
theorem Mp.lt {κ ν:Type} {ek:κ→Value} {ev:ν→Value} {w:World} {b:Nat} {l:List (κ × ν)} (h:Mp ek ev w b l):b < w.heap.size:=by
 obtain ⟨ents,clock,h1,h2⟩:=h
 exact (Array.getElem?_eq_some_iff.1 h1).1
def It.map {κ ν:Type} (ek:κ→Value) (ev:ν→Value) (b:Nat) (l:List (κ × ν)):It where
 F k:=k=b
 p w:=Mp ek ev w b l
 bd w h k hk:=by subst hk;exact h.lt
 st w w' h k _:=h.same (k b rfl)
section
variable {P:Program} {w0 w w':World} {Z G:Nat→Prop} {L:List It} {D:List Da} {ρ:Operand→Value} {d:Option Nat} {ty:TypeId} {pos:String} {af:Array Edge} {g:Option (Nat × Bool)}
theorem KX {t:TypeId} {z:Value} {s b:Nat} (h:TI P t z s b):(zeroValue t).run P w=.ok z w:=by
 obtain ⟨i,h1,h2,_,_⟩:=h
 simp [zeroValue,typeInfo,h1,h2]
theorem Bx.mp (h:Bx w0 w Z G L D) (i:Nat) {κ ν:Type} {ek:κ→Value} {ev:ν→Value} {b:Nat} {l:List (κ × ν)} (hi:L[i]?=some (.map ek ev b l)):Mp ek ev w b l:=h.at i hi
theorem O4 (hL:Bx w0 w Z G L D) {κ ν:Type} (ek:κ→Value) (ev:ν→Value) {t:TypeId} {kt et:TypeId} (ht:P.underlying t=some (.map kt et)) :
  To P ρ ⟨d,.makeMap t none,ty,pos,af,g⟩ w fun v w'=>∃ b,v=.map (some b)∧Bx w0 w' Z G (.map ek ev b ([]:List (κ × ν)) :: L) D:=
 ⟨_,_,by simp [execOp,Instr.makeMap],_,rfl,hL.push ((Ext.refl w).alloc _) ⟨#[],0,heap_alloc_new w _,rfl⟩ (fun k hk=>by have hk:k=w.heap.size:=hk;omega)⟩
theorem Pj (hL:Bx w0 w Z G L D) (i:Nat) {κ ν:Type} [DecidableEq κ] {ek:κ→Value} {ev:ν→Value} {t kt et:TypeId} {x y v:Operand} {b:Nat} {l:List (κ × ν)} {k:κ} {u:ν} (hi:L[i]?=some (.map ek ev b l)) (ht:P.underlying t=some (.map kt et)) (hk:FK P kt ek) (hx:ρ x=.map (some b)) (hy:ρ y=ek k) (hv:ρ v=ev u) :
  QA P ρ ⟨d,.mapUpdate t x y v,ty,pos,af,g⟩ w fun w'=>Bx w0 w' Z G (L.set i (.map ek ev b (Cb l k u))) D:=by
 obtain ⟨w',h1,h2,h3⟩:=Vo (P:=P) (ρ:=ρ) (d:=d) (ty:=ty) (pos:=pos) (af:=af) (g:=g) ht hk (hL.mp i hi) hx hy hv
 exact ⟨w',h1,hL.put i hi ⟨h3.os,h3.tape,h3.output,h3.size,fun k hk hn=>h3.block k hk (by intro e;injection e with e;exact hn e)⟩ h2 (fun k hk=>.inl hk)⟩
end
end Go.Fw
set_option linter.unusedVariables false
namespace Go.Fw
open Go.RowKit
structure Ei where
 n:Int
deriving DecidableEq
instance:Rp Ei:=⟨1,1,fun _ _ cs x=>cs=[.int .u8 x.n],fun h=>by rw [h];rfl,fun h=>by rw [h];rfl,fun h _=>h⟩
def UZ (l:List Ei):ByteArray:=strOf (l.map Ei.n)
section
variable {P:Program} {w0 w:World} {Z G:Nat→Prop} {L:List It} {D:List Da} {ρ:Operand→Value} {d:Option Nat} {ty:TypeId} {pos:String} {af:Array Edge} {g:Option (Nat × Bool)}
theorem UU {F:Nat→Prop}:∀ {cs:List (List Value)} {l:List Ei},yA F w cs l→cs.flatten=(l.map Ei.n).map (Value.int .u8)
 | [],[],_=>rfl
 | c :: cs,x :: l,h=>by
  have h1:c=[.int .u8 x.n]:=h.1
  rw [List.flatten_cons,h1,UU h.2];rfl
 | [],_ :: _,h=>h.elim
 | _ :: _,[],h=>h.elim
theorem Vh {F:Nat→Prop} {t s e:TypeId} {x:Operand} {a:Option Addr} {c:Nat} {l:List Ei} (ht:P.underlying t=some (.slice e)) (he:P.underlying e=some (.int .u8)) (hs:P.underlying s=some .string) (hx:ρ x=.slice a l.length c) (h:ll F w a c l) :
  Yl P ρ (.convert t s x) d ty pos af g w (.string (UZ l)):=by
 obtain ⟨cs,h1,h2⟩:=h.els
 rw [UU h1] at h2
 exact U3 (bs:=l.map Ei.n) ht he hs hx h2
end
end Go.Fw
namespace Go.Fw
open Go.RowKit
def It.nil:It:=⟨fun _=>False,fun _=>True,fun _ _ _ h=>h.elim,fun _ _ _ _ _=>trivial⟩
theorem ll.same {α:Type} [Rp α] {F:Nat→Prop} {w w':World} {a:Option Addr} {c:Nat} {l:List α} (h:ll F w a c l) (hs:w.heap.size≤w'.heap.size) (hc:∀ o,w'.cell? ⟨uB a,o,none⟩=w.cell? ⟨uB a,o,none⟩) (hm:Mv F F w w' ∨ ∀ {cs:List Value} {x:α},Rp.Bo F w cs x→Rp.Bo F w' cs x):ll F w' a c l:=by
 refine ⟨h.1,h.2.1,fun h0=>?_⟩
 obtain ⟨h1,h2,h3,h4⟩:=h.2.2 h0
 refine ⟨h1,h2,Nat.lt_of_lt_of_le h3 hs,fun i x hx=>?_⟩
 obtain ⟨cs,h5,h6⟩:=h4 i x hx
 refine ⟨cs,fun j v hv=>by rw [hc];exact h5 j v hv,?_⟩
 rcases hm with hm | hm
 · exact Rp.mv h6 hm
 · exact hm h6
theorem run_mark {P:Program} {w:World} {t e tt:TypeId} {b o n c:Nat} {cs:Array Value} (ht:P.underlying t=some (.slice e)) (he:P.underlying e=some (.int .u8)) (hb:w.heap[b]?=some (.cells cs tt (0,0))) :
  (convert t t (.slice (some ⟨b,o,none⟩) n c)).run P w=.ok (.slice (some ⟨b,o,none⟩) n c) (w.freeze ⟨b,cs.size,none⟩ 1):=by
 have hsh:w.shape? b=some (tt,cs.size):=by simp [World.shape?,hb]
 simp [convert,run_underlying ht,run_underlying he,markStringish,hsh]
theorem UG {P:Program} {w0 w:World} {Z G:Nat→Prop} {L:List It} {D:List Da} {ρ:Operand→Value} {d:Option Nat} {ty:TypeId} {pos:String} {af:Array Edge} {g:Option (Nat × Bool)} (hL:Bx w0 w Z G L D) (i j:Nat) {t e:TypeId} {x:Operand} {b c:Nat} {cs:List (List Value)} {l:List Ei}
   (hi:L[i]?=some (.own w0.heap.size (some ⟨b,0,none⟩) c e (Rp.sz Ei) cs)) (hj:D[j]?=some (.els cs l)) (ht:P.underlying t=some (.slice e)) (he:P.underlying e=some (.int .u8)) (hx:ρ x=.slice (some ⟨b,0,none⟩) l.length c) :
   To P ρ ⟨d,.convert t t x,ty,pos,af,g⟩ w fun v w'=>v=.slice (some ⟨b,0,none⟩) l.length c∧Bx w0 w' Z G (L.eraseIdx i) (.l (some ⟨b,0,none⟩) c l :: D.eraseIdx j):=by
 have ho:=hL.bo i hi
 rcases ho.blk with ⟨h1,_⟩|⟨q,cur,h1,h2,h3,_⟩
 · cases h1
 · injection h1 with h1;injection h1 with h1;subst h1
   have hrun:=run_mark (P:=P) (w:=w) (o:=0) (n:=l.length) (c:=c) ht he h3
   have hfa:(w.freeze ⟨b,cur.size,none⟩ 1).heap[b]?=some (.cells cur e (cur.size,cur.size+1)):=by
    unfold World.freeze
    rw [if_neg (by decide)]
    have h3':w.heap[b]?=some (.cells cur e (0,0)):=h3
    simp [Array.getElem?_modify,h3']
   have hch:Eh b w (w.freeze ⟨b,cur.size,none⟩ 1):=by
    unfold World.freeze
    rw [if_neg (by decide)]
    exact ⟨rfl,rfl,rfl,by simp,fun i hi hne=>by simp [Array.getElem?_modify];intro e;subst e;exact absurd rfl hne⟩
   refine ⟨_,w.freeze ⟨b,cur.size,none⟩ 1,by simp [execOp,hx,hrun],rfl,?_⟩
   have hfz:=hL.U7 i j hi hj
   have hl0:=hfz.dl 0 rfl
   have h5:=hL.put (it':=It.nil) i hi ⟨hch.os,hch.tape,hch.output,hch.size,fun k hk hn=>hch.block k hk (by intro e;injection e with e;exact hn (show rowOf (some ⟨b,0,none⟩)=some k by rw [e];rfl))⟩ trivial (fun k hk=>hk.elim)
   have h6:=h5.er i
   rw [List.eraseIdx_set_eq] at h6
   have h7:=h6.NA (D':=D.eraseIdx j) fun d hd=>(List.eraseIdx_sublist D j).subset hd
   refine h7.ku (d:=.l _ _ _) (hl0.same hch.size (fun o=>?_) (.inr fun h=>h))
   have h3':w.heap[b]?=some (.cells cur e (0,0)):=h3
   simp [uB,World.cell?,hfa,h3']
end Go.Fw
namespace Go.Fw
open Go.RowKit
theorem KR {sz:Nat}:∀ {cs:List (List Value)} {k:Nat} {d d':List Value},(∀ c ∈ cs,c.length=sz)→cs[k]?=some d→d'.length=sz→(cs.set k d').flatten=cs.flatten.take (k * sz) ++ d' ++ cs.flatten.drop ((k+1) * sz)
 | c :: cs,0,d,d',h,hd,hl=>by
  have hc:=h c (List.mem_cons_self ..)
  rw [List.set_cons_zero,List.flatten_cons,List.flatten_cons,Nat.zero_mul,List.take_zero,List.nil_append,Nat.zero_add,Nat.one_mul,← hc,List.drop_left]
 | c :: cs,k+1,d,d',h,hd,hl=>by
  have hc:=h c (List.mem_cons_self ..)
  have ih:=KR (k:=k) (fun c hc=>h c (List.mem_cons_of_mem _ hc)) (by simpa using hd) hl
  have e1:(k+1) * sz=c.length+k * sz:=by rw [hc,Nat.succ_mul,Nat.add_comm]
  have e2:(k+1+1) * sz=c.length+(k+1) * sz:=by rw [hc,Nat.succ_mul (k+1),Nat.add_comm]
  rw [List.set_cons_succ,List.flatten_cons,List.flatten_cons,ih,e2,← List.drop_drop,List.drop_left,e1,List.take_length_add_append,List.append_assoc,List.append_assoc,List.append_assoc]
theorem splice {β : Type} (cur F vs q : List β) (N ks sz off : Nat) (hF : cur.take N = F) (hN : N ≤ cur.length) (hk : ks + sz ≤ N) (hl : off + vs.length ≤ sz) (hq : q = (F.drop ks).take sz) :
    (cur.take (ks + off) ++ vs ++ cur.drop (ks + off + vs.length)).take N = F.take ks ++ (q.take off ++ vs ++ q.drop (off + vs.length)) ++ F.drop (ks + sz) := by
  have h1 : F.take ks ++ q.take off = F.take (ks + off) := by
    rw [hq, List.take_take, Nat.min_eq_left (by omega), List.take_add]
  have h2 : q.drop (off + vs.length) ++ F.drop (ks + sz) = F.drop (ks + off + vs.length) := by
    rw [hq, List.drop_take, List.drop_drop, show ks + (off + vs.length) = ks + off + vs.length by omega]
    have : F.drop (ks + sz) = (F.drop (ks + off + vs.length)).drop (sz - (off + vs.length)) := by rw [List.drop_drop]; congr 1; omega
    rw [this, List.take_append_drop]
  have h3 : F.take (ks + off) = cur.take (ks + off) := by rw [← hF, List.take_take, Nat.min_eq_left (by omega)]
  have h4 : F.drop (ks + off + vs.length) = (cur.drop (ks + off + vs.length)).take (N - (ks + off + vs.length)) := by rw [← hF, List.drop_take]
  have hlen : (cur.take (ks + off) ++ vs).length = ks + off + vs.length := by rw [List.length_append, List.length_take]; omega
  calc (cur.take (ks + off) ++ vs ++ cur.drop (ks + off + vs.length)).take N
      = cur.take (ks + off) ++ vs ++ (cur.drop (ks + off + vs.length)).take (N - (ks + off + vs.length)) := by
        rw [List.take_append, hlen, List.take_of_length_le (by rw [hlen]; omega)]
    _ = F.take (ks + off) ++ vs ++ F.drop (ks + off + vs.length) := by rw [h3, h4]
    _ = _ := by rw [← h1, ← h2]; simp only [List.append_assoc]
theorem yA.lens {α:Type} [Rp α] {F:Nat→Prop} {w:World}:∀ {cs:List (List Value)} {l:List α},yA F w cs l→∀ c ∈ cs,c.length=Rp.sz α
 | [],[],_,c,hc=>by cases hc
 | d :: cs,x :: l,h,c,hc=>by
  rcases List.mem_cons.1 hc with rfl | hc
  · exact Rp.len h.1
  · exact yA.lens h.2 c hc
 | [],_ :: _,h,_,_=>h.elim
 | _ :: _,[],h,_,_=>h.elim
theorem Hy {P:Program} {w0 w:World} {Z G:Nat→Prop} {L:List It} {D:List Da} {ρ:Operand→Value} {d:Option Nat} {ty:TypeId} {pos:String} {af:Array Edge} {g:Option (Nat × Bool)} (hL:Bx w0 w Z G L D) {α:Type} [Rp α] (i j k off:Nat) {t e:TypeId} {x y:Operand} {z:Value} {s by_ base c:Nat} {A:Option Addr} {cs:List (List Value)} {l l2:List α} {q q':List Value} {v':α} (vs:List Value)
   (hi:L[i]?=some (.own base A c e (Rp.sz α) cs)) (hj:D[j]?=some (.els cs l)) (hq:cs[k]?=some q) (ht:TI P t z s by_) (hs:s=vs.length) (hx:ρ x=.pointer (some ⟨uB A,xk A+k * Rp.sz α+off,none⟩)) (hy:(ρ y).cells=vs.toArray) (h1:vs.all (fun v=>v.oneCell')=true)
   (hl:Nat.ble (off+vs.length) (Rp.sz α)=true) (hq':q.take off ++ vs ++ q.drop (off+vs.length)=q') (hr:Rp.Bo (F4 w0 Z L) w q' v') (hst:l.set k v'=l2) :
   QA P ρ ⟨d,.store t x y,ty,pos,af,g⟩ w fun w'=>∃ cs2,Bx w0 w' Z G (L.set i (.own base A c e (Rp.sz α) cs2)) (D.set j (.els cs2 l2)):=by
 subst hs
 have hl:=Nat.le_of_ble_eq_true hl
 have hE:=hL.de j hj
 have ho:=hL.bo i hi
 have hk:=kE hq
 have hlen:=hE.lens
 have hql:q.length=Rp.sz α:=hlen q (List.mem_of_getElem? hq)
 have hq'l:q'.length=Rp.sz α:=Rp.len hr
 obtain ⟨g0,rfl⟩:=ho.Qo (by omega)
 rcases ho.blk with ⟨h0,_⟩|⟨b,cur,hA,hb,hB,hn,hc,hsz,htk⟩
 · cases h0
 · injection hA with hA;injection hA with hA;subst hA
   obtain ⟨ti,hi1,hi2,hi3,hi4⟩:=ht
   have hsz':cs.length * Rp.sz α≤cur.size:=by rw [hsz];exact Nat.mul_le_mul_right _ hn
   have hpos:(k+1) * Rp.sz α≤cs.length * Rp.sz α:=Nat.mul_le_mul_right _ hk
   have hpk:(k+1) * Rp.sz α=k * Rp.sz α+Rp.sz α:=Nat.succ_mul k _
   have hst':=run_storeCells_at (P:=P) g0 (k * Rp.sz α+off) e vs 0 cur w hB (by omega) (fun v hv=>List.all_eq_true.1 h1 v hv)
   rw [Nat.add_zero] at hst'
   have hx':ρ x=.pointer (some ⟨g0,k * Rp.sz α+off,none⟩):=by rw [hx];simp [uB,xk]
   refine ⟨_,by simp [execOp,hx',Instr.storeAt,Instr.sureAddr,storeVar,sizeOf,typeInfo,hi1,hi3,hy,hst'];rfl,cs.set k q',?_⟩
   have hfl:(cs.set k q').flatten=cs.flatten.take (k * Rp.sz α) ++ q' ++ cs.flatten.drop ((k+1) * Rp.sz α):=KR hlen hq hq'l
   have hels:yA (F4 w0 Z L) w (cs.set k q') l2:=by rw [← hst];exact hE.set k hr
   have h6:Bx w0 w Z G L (D.set j (.els (cs.set k q') l2)):=hL.PZ j hels
   have hlf:cs.flatten.length=cs.length * Rp.sz α:=by rw [hE.Pp,hE.len]
   have hcells:q=(cs.flatten.drop (k * Rp.sz α)).take (Rp.sz α):=by
     have key:∀ {cs:List (List Value)} {k:Nat},(∀ c ∈ cs,c.length=Rp.sz α)→cs[k]?=some q→q=(cs.flatten.drop (k * Rp.sz α)).take (Rp.sz α):=by
      intro cs
      induction cs with
      | nil=>intro k _ h;simp at h
      | cons c cs ih=>
       intro k hlen h
       have hc:=hlen c (List.mem_cons_self ..)
       cases k with
       | zero=>
        simp only [List.getElem?_cons_zero,Option.some.injEq] at h
        subst h
        rw [Nat.zero_mul,List.drop_zero,List.flatten_cons,← hc,List.take_left]
       | succ k=>
        rw [List.flatten_cons,show (k+1) * Rp.sz α=c.length+k * Rp.sz α by rw [hc,Nat.succ_mul,Nat.add_comm],← List.drop_drop,List.drop_left]
        exact ih (fun c hc=>hlen c (List.mem_cons_of_mem _ hc)) (by simpa using h)
     exact key hlen hq
   have htake:∀ n,n≤cs.length * Rp.sz α→cs.flatten.take n=cur.toList.take n:=fun n hn=>by rw [← htk,List.take_take,Nat.min_eq_left hn]
   refine h6.M7 (n2:=cs.length) (ys:=(cs.set k q').flatten) i hi ⟨by rw [hfl];simp only [List.length_append,List.length_take,List.length_drop,hlf,hq'l];omega,.inr ⟨g0,c,_,rfl,hb,hB.setRow _,hn,hc,?_,?_⟩⟩ (by simp) rfl (Eh.setRow w g0 _) (.inl rfl)
   · simp only [List.size_toArray,List.length_append,List.length_take,List.length_drop,Array.length_toList];omega
   · rw [hfl,← hq',hpk]
     have hsp:=splice cur.toList cs.flatten vs q _ _ _ off htk (by rw [Array.length_toList];exact hsz') (by omega) hl hcells
     rw [List.append_assoc] at hsp
     simpa using hsp
end Go.Fw
