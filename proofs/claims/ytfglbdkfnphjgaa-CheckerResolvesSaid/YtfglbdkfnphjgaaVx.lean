/- What a walk knows of memory: things of its own (variables, rows, maps), and data that nobody writes any more; data stand for lists and structures without addresses. Over any program. -/
import Derived.Test.YtfglbdkfnphjgaaSlc
import Derived.Laws.StructEq
set_option linter.unusedVariables false
namespace Go.Fw
open Go.RowKit
theorem bs {α β:Type} {o:Option α} {f:α→Option β} {X:β} (h:o.bind f=some X):∃ x,o=some x∧f x=some X:=Option.bind_eq_some_iff.1 h
theorem ite_inv {α:Type} {c:Prop} [Decidable c] {a b X:α} (h:(if c then a else b)=X):c∧a=X ∨ ¬ c∧b=X:=by
 by_cases hc:c
 · exact .inl ⟨hc,by rwa [if_pos hc] at h⟩
 · exact .inr ⟨hc,by rwa [if_neg hc] at h⟩
theorem sm {α:Type} {a b:α} (h:some a=some b):a=b:=Option.some.inj h
theorem nn {α:Type} {b:α} {p:Prop} (h:none=some b):p:=by cases h
def pel {α β:Type} {γ:Sort _}:α × β→(α→β→γ)→γ
 | (a,b),f=>f a b
theorem pok {α β:Type} {a:α} {b:β} {f:α→β→Prop} (h:f a b):pel (a,b) f:=h
inductive Ld (σ ρ:Type) where
 | go (s:σ)
 | out (r:ρ)
def Ld.el {σ ρ τ:Type}:Ld σ ρ→(σ→τ)→(ρ→τ)→τ
 | .go s,f,_=>f s
 | .out r,_,g=>g r
theorem gi {σ ρ τ:Type} {f:σ→τ} {g:ρ→τ} {s:σ} {X:τ} (h:(Ld.go s:Ld σ ρ).el f g=X):f s=X:=h
theorem oi {σ ρ τ:Type} {f:σ→τ} {g:ρ→τ} {r:ρ} {X:τ} (h:(Ld.out r:Ld σ ρ).el f g=X):g r=X:=h
theorem pi {α β γ:Type} {a:α} {b:β} {f:α→β→γ} {X:γ} (h:pel (a,b) f=X):f a b=X:=h
def app {α:Type} (l m:List α):Option (List α):=if l.length+m.length≤1000000000 then some (l ++ m) else none
theorem app_inv {α:Type} {l m r:List α} (h:app l m=some r):l.length+m.length≤1000000000∧l ++ m=r:=by
 unfold app at h
 split at h
 · exact ⟨by assumption,sm h⟩
 · cases h
def cat (s t:ByteArray):Option ByteArray:=if s.size+t.size≤1000000000 then some (s ++ t) else none
theorem cat_inv {s t r:ByteArray} (h:cat s t=some r):s.size+t.size≤1000000000∧s ++ t=r:=by
 unfold cat at h
 split at h
 · exact ⟨by assumption,sm h⟩
 · cases h
def ix {α:Type} (l:List α) (i:Int):Option α:=if i < 0 then none else l[i.toNat]?
theorem ix_inv {α:Type} {l:List α} {i:Int} {x:α} (h:ix l i=some x):∃ k:Nat,i=(k:Int)∧l[k]?=some x:=by
 unfold ix at h
 split at h
 · cases h
 · exact ⟨i.toNat,by omega,h⟩
def sl {α:Type} (l:List α) (a b:Int):Option (List α):=if 0≤a∧a≤b∧b≤l.length then some ((l.drop a.toNat).take (b - a).toNat) else none
theorem sl_inv {α:Type} {l r:List α} {a b:Int} (h:sl l a b=some r):∃ i j:Nat,a=(i:Int)∧b=(j:Int)∧i≤j∧j≤l.length∧(l.drop i).take (j - i)=r:=by
 unfold sl at h
 split at h
 · rename_i hc
   exact ⟨a.toNat,b.toNat,by omega,by omega,by omega,by omega,by rw [← sm h];congr 1;omega⟩
 · cases h
def st {α:Type} (l:List α) (i:Int) (x:α):Option (List α):=if 0≤i∧i < l.length then some (l.set i.toNat x) else none
theorem st_inv {α:Type} {l r:List α} {i:Int} {x:α} (h:st l i x=some r):∃ k:Nat,i=(k:Int)∧k < l.length∧l.set k x=r:=by
 unfold st at h
 split at h
 · rename_i hc
   exact ⟨i.toNat,by omega,by omega,sm h⟩
 · cases h
theorem lt_of_get {α:Type} {l:List α} {x:α} {i:Nat} (h:l[i]?=some x):i < l.length:=(List.getElem?_eq_some_iff.1 h).1
theorem get_ex {α:Type} {l:List α} {k:Nat} (h:k < l.length):∃ x,l[k]?=some x:=⟨_,List.getElem?_eq_getElem h⟩
theorem drop_id {α:Type} {l:List α} {x:α} {k:Nat} (h:l[k]?=some x):l.drop k=x :: l.drop (k+1):=by
 obtain ⟨hk,rfl⟩:=List.getElem?_eq_some_iff.1 h
 exact List.drop_eq_getElem_cons hk
theorem drop_end {α:Type} {l:List α}:l.drop l.length=[]:=List.drop_length
structure Chgd (G:Nat→Prop) (w w':World):Prop where
 os:w'.os=w.os
 tape:w'.tape=w.tape
 output:w'.output=w.output
 size:w.heap.size≤w'.heap.size
 block:∀ b,b < w.heap.size→¬ G b→w'.heap[b]?=w.heap[b]?
theorem Ext.chgd {w w':World} (e:Ext w w') (G:Nat→Prop):Chgd G w w':=⟨e.os,e.tape,e.output,e.size,fun b hb _=>e.block b hb⟩
theorem Chgd.ext {w w':World} (h:Chgd (fun _=>False) w w'):Ext w w':=⟨h.os,h.tape,h.output,h.size,fun b hb=>h.block b hb (fun h=>h)⟩
theorem cell_same {w w':World} {b o:Nat} (h:w'.heap[b]?=w.heap[b]?):w'.cell? ⟨b,o,none⟩=w.cell? ⟨b,o,none⟩:=by
 simp only [World.cell?,h]
theorem Cells.same {w w':World} {b o:Nat} {xs:List Value} (h:Cells w b o xs) (e:w'.heap[b]?=w.heap[b]?):Cells w' b o xs:=fun j v hv=>by
 rw [cell_same e];exact h j v hv
theorem Cells.part {w:World} {b o o2:Nat} {cs xs:List Value} (h:Cells w b o cs) (hx:(cs.drop o2).take xs.length=xs):Cells w b (o+o2) xs:=fun j v hv=>by
 rw [Nat.add_assoc]
 refine h (o2+j) v ?_
 rw [← hx,List.getElem?_take] at hv
 split at hv
 · rw [List.getElem?_drop] at hv;exact hv
 · cases hv
def aBlk (a:Option Addr):Nat:=match a with | some a=>a.block | none=>0
def aOff (a:Option Addr):Nat:=match a with | some a=>a.off | none=>0
def Mv (F G:Nat→Prop) (w w':World):Prop:=(∀ b,F b→b < w.heap.size→G b∧w'.heap[b]?=w.heap[b]?)∧w.heap.size≤w'.heap.size
class Rp (α:Type) where
 sz:Nat
 bs:Nat
 rep:(Nat→Prop)→World→List Value→α→Prop
 len:∀ {F:Nat→Prop} {w:World} {cs:List Value} {x:α},rep F w cs x→cs.length=sz
 one:∀ {F:Nat→Prop} {w:World} {cs:List Value} {x:α},rep F w cs x→cs.all (fun v=>v.oneCell')=true
 mv:∀ {F G:Nat→Prop} {w w':World} {cs:List Value} {x:α},rep F w cs x→Mv F G w w'→rep G w' cs x
def LRep {α:Type} [Rp α] (F:Nat→Prop) (w:World) (a:Option Addr) (c:Nat) (l:List α):Prop:=
 l.length≤c∧c≤maxLen∧(0 < l.length→a=some ⟨aBlk a,aOff a,none⟩∧F (aBlk a)∧aBlk a < w.heap.size∧
  ∀ i x,l[i]?=some x→∃ cs,Cells w (aBlk a) (aOff a+i * Rp.sz α) cs∧Rp.rep F w cs x)
theorem LRep.mv {α:Type} [Rp α] {F G:Nat→Prop} {w w':World} {a:Option Addr} {c:Nat} {l:List α} (h:LRep F w a c l) (k:Mv F G w w'):LRep G w' a c l:=by
 refine ⟨h.1,h.2.1,fun h0=>?_⟩
 obtain ⟨h1,h2,h3,h4⟩:=h.2.2 h0
 refine ⟨h1,(k.1 _ h2 h3).1,Nat.lt_of_lt_of_le h3 k.2,fun i x hx=>?_⟩
 obtain ⟨cs,h5,h6⟩:=h4 i x hx
 exact ⟨cs,h5.same (k.1 _ h2 h3).2,Rp.mv h6 k⟩
theorem LRep.nil {α:Type} [Rp α] {F:Nat→Prop} {w:World} {a:Option Addr}:LRep F w a 0 ([]:List α):=⟨Nat.le_refl _,Nat.zero_le _,fun h=>by simp at h⟩
section
variable {α:Type} [Rp α] {F:Nat→Prop} {w:World} {a:Option Addr} {c:Nat} {l:List α} {x:α} {i:Nat}
theorem LRep.cap (h:LRep F w a c l):l.length≤c:=h.1
theorem LRep.bd (h:LRep F w a c l):l.length≤9223372036854775807:=by have:=h.1;have:=h.2.1;simp only [maxLen] at *;omega
theorem LRep.adr (h:LRep F w a c l) (hx:l[i]?=some x):a=some ⟨aBlk a,aOff a,none⟩:=(h.2.2 (by have:=lt_of_get hx;omega)).1
theorem LRep.fb (h:LRep F w a c l) (hx:l[i]?=some x):F (aBlk a)∧aBlk a < w.heap.size:=⟨(h.2.2 (by have:=lt_of_get hx;omega)).2.1,(h.2.2 (by have:=lt_of_get hx;omega)).2.2.1⟩
theorem LRep.el (h:LRep F w a c l) (hx:l[i]?=some x):∃ cs,Cells w (aBlk a) (aOff a+i * Rp.sz α) cs∧Rp.rep F w cs x:=(h.2.2 (by have:=lt_of_get hx;omega)).2.2.2 i x hx
end
instance:Rp Int:=⟨1,8,fun _ _ cs n=>cs=[.int .i64 n],fun h=>by rw [h];rfl,fun h=>by rw [h];rfl,fun h _=>h⟩
instance:Rp Bool:=⟨1,1,fun _ _ cs n=>cs=[.bool n],fun h=>by rw [h];rfl,fun h=>by rw [h];rfl,fun h _=>h⟩
instance:Rp ByteArray:=⟨1,16,fun _ _ cs n=>cs=[.string n],fun h=>by rw [h];rfl,fun h=>by rw [h];rfl,fun h _=>h⟩
instance {α:Type} [Rp α]:Rp (List α):=⟨1,24,fun F w cs l=>∃ a c,cs=[.slice a l.length c]∧LRep F w a c l,fun ⟨_,_,h,_⟩=>by rw [h];rfl,fun ⟨_,_,h,_⟩=>by rw [h];rfl,fun ⟨a,c,h,k⟩ m=>⟨a,c,h,k.mv m⟩⟩
def Els {α:Type} [Rp α] (F:Nat→Prop) (w:World):List (List Value)→List α→Prop
 | [],[]=>True
 | c :: cs,x :: l=>Rp.rep F w c x∧Els F w cs l
 | _,_=>False
section
variable {α:Type} [Rp α] {F G:Nat→Prop} {w w':World}
theorem Els.mv:∀ {cs:List (List Value)} {l:List α},Els F w cs l→Mv F G w w'→Els G w' cs l
 | [],[],_,_=>trivial
 | _ :: _,_ :: _,h,k=>⟨Rp.mv h.1 k,Els.mv h.2 k⟩
 | [],_ :: _,h,_=>h.elim
 | _ :: _,[],h,_=>h.elim
theorem Els.len:∀ {cs:List (List Value)} {l:List α},Els F w cs l→cs.length=l.length
 | [],[],_=>rfl
 | _ :: _,_ :: _,h=>congrArg (·+1) (Els.len h.2)
 | [],_ :: _,h=>h.elim
 | _ :: _,[],h=>h.elim
theorem Els.app:∀ {cs:List (List Value)} {l:List α} {ds:List (List Value)} {m:List α},Els F w cs l→Els F w ds m→Els F w (cs ++ ds) (l ++ m)
 | [],[],_,_,_,k=>k
 | _ :: _,_ :: _,_,_,h,k=>⟨h.1,Els.app h.2 k⟩
 | [],_ :: _,_,_,h,_=>h.elim
 | _ :: _,[],_,_,h,_=>h.elim
theorem Els.take:∀ {cs:List (List Value)} {l:List α} (n:Nat),Els F w cs l→Els F w (cs.take n) (l.take n)
 | _,_,0,_=>by simp [Els]
 | [],[],n+1,_=>by simp [Els]
 | _ :: _,_ :: _,n+1,h=>⟨h.1,Els.take n h.2⟩
 | [],_ :: _,_+1,h=>h.elim
 | _ :: _,[],_+1,h=>h.elim
theorem Els.set:∀ {cs:List (List Value)} {l:List α} (n:Nat) {d:List Value} {y:α},Els F w cs l→Rp.rep F w d y→Els F w (cs.set n d) (l.set n y)
 | [],[],_,_,_,_,_=>trivial
 | _ :: _,_ :: _,0,_,_,h,k=>⟨k,h.2⟩
 | _ :: _,_ :: _,n+1,_,_,h,k=>⟨h.1,Els.set n h.2 k⟩
 | [],_ :: _,_,_,_,h,_=>h.elim
 | _ :: _,[],_,_,_,h,_=>h.elim
theorem Els.get:∀ {cs:List (List Value)} {l:List α} {k:Nat} {x:α},Els F w cs l→l[k]?=some x→∃ c,cs[k]?=some c∧Rp.rep F w c x
 | c :: _,_ :: _,0,_,h,hx=>by simp only [List.getElem?_cons_zero,Option.some.injEq] at hx;subst hx;exact ⟨c,rfl,h.1⟩
 | _ :: _,_ :: _,k+1,_,h,hx=>Els.get (k:=k) h.2 (by simpa using hx)
 | [],[],_,_,_,hx=>by simp at hx
 | [],_ :: _,_,_,h,_=>h.elim
 | _ :: _,[],_,_,h,_=>h.elim
theorem Els.flen:∀ {cs:List (List Value)} {l:List α},Els F w cs l→cs.flatten.length=l.length * Rp.sz α
 | [],[],_=>by simp
 | c :: cs,x :: l,h=>by rw [List.flatten_cons,List.length_append,Els.flen h.2,Rp.len h.1,List.length_cons,Nat.succ_mul,Nat.add_comm]
 | [],_ :: _,h=>h.elim
 | _ :: _,[],h=>h.elim
theorem Els.one:∀ {cs:List (List Value)} {l:List α},Els F w cs l→∀ v ∈ cs.flatten,v.oneCell'=true
 | [],[],_,v,hv=>by simp at hv
 | c :: cs,x :: l,h,v,hv=>by
  rw [List.flatten_cons,List.mem_append] at hv
  rcases hv with hv | hv
  · exact List.all_eq_true.1 (Rp.one h.1) v hv
  · exact Els.one h.2 v hv
 | [],_ :: _,h,_,_=>h.elim
 | _ :: _,[],h,_,_=>h.elim
theorem Els.cells:∀ {cs:List (List Value)} {l:List α} {k:Nat} {c:List Value},Els F w cs l→cs[k]?=some c→∀ j v,c[j]?=some v→cs.flatten[k * Rp.sz α+j]?=some v
 | c :: _,_ :: _,0,_,h,hx,j,v,hv=>by
  simp only [List.getElem?_cons_zero,Option.some.injEq] at hx
  subst hx
  rw [List.flatten_cons,Nat.zero_mul,Nat.zero_add,List.getElem?_append_left (lt_of_get hv)];exact hv
 | c :: _,_ :: _,k+1,_,h,hx,j,v,hv=>by
  rw [List.flatten_cons,List.getElem?_append_right (by rw [Rp.len h.1,Nat.succ_mul];omega),Rp.len h.1,show (k+1) * Rp.sz α+j - Rp.sz α=k * Rp.sz α+j by rw [Nat.succ_mul];omega]
  exact Els.cells (k:=k) h.2 (by simpa using hx) j v hv
 | [],[],_,_,_,hx,_,_,_=>by simp at hx
 | [],_ :: _,_,_,h,_,_,_,_=>h.elim
 | _ :: _,[],_,_,h,_,_,_,_=>h.elim
theorem LRep.els {a:Option Addr} {c:Nat} {l:List α} (h:LRep F w a c l):∃ cs,Els F w cs l∧Sl w w.heap.size (Rp.sz α) a l.length cs.flatten:=by
 have key:∀ (m:List α) (o:Nat),(∀ i x,m[i]?=some x→∃ cs,Cells w (aBlk a) (o+i * Rp.sz α) cs∧Rp.rep F w cs x)→∃ cs,Els F w cs m∧Cells w (aBlk a) o cs.flatten:=by
   intro m
   induction m with
   | nil=>intro o _;exact ⟨[],trivial,fun j v hv=>by simp at hv⟩
   | cons x m ih=>
    intro o hm
    obtain ⟨c0,h0,h1⟩:=hm 0 x rfl
    obtain ⟨cs,h2,h3⟩:=ih (o+Rp.sz α) (fun i y hy=>by
      have:=hm (i+1) y (by simpa using hy)
      rwa [show o+(i+1) * Rp.sz α=o+Rp.sz α+i * Rp.sz α by rw [Nat.succ_mul];omega] at this)
    refine ⟨c0 :: cs,⟨h1,h2⟩,fun j v hv=>?_⟩
    rw [List.flatten_cons] at hv
    rcases Nat.lt_or_ge j c0.length with hj | hj
    · rw [List.getElem?_append_left hj] at hv
      have:=h0 j v hv
      rwa [Nat.zero_mul,Nat.add_zero] at this
    · rw [List.getElem?_append_right hj] at hv
      have:=h3 _ v hv
      rwa [Rp.len h1,show o+Rp.sz α+(j - Rp.sz α)=o+j by rw [Rp.len h1] at hj;omega] at this
 rcases Nat.eq_zero_or_pos l.length with h0 | h0
 · have:l=[]:=List.eq_nil_of_length_eq_zero h0
   subst this
   exact ⟨[],trivial,⟨by simp,fun h=>by simp at h⟩⟩
 · obtain ⟨h1,h2,h3,h4⟩:=h.2.2 h0
   obtain ⟨cs,h5,h6⟩:=key l (aOff a) h4
   exact ⟨cs,h5,⟨h5.flen,fun _=>⟨_,_,h1,h3,h6⟩⟩⟩
end
def nth {α:Type}:List α→Nat→List α
 | a :: _,0=>[a]
 | _ :: l,n+1=>nth l n
 | [],_=>[]
def pick {α:Type} (L:List α):List Nat→List α
 | []=>[]
 | i :: l=>nth L i ++ pick L l
theorem nth_mem {α : Type} {x : α} : ∀ {L : List α} {i : Nat}, x ∈ nth L i → L[i]? = some x
  | a :: _, 0, h => by have : x = a := by simpa [nth] using h
                       rw [this]; rfl
  | _ :: l, n + 1, h => nth_mem (L := l) h
  | [], _, h => by cases h
theorem nth_pw {α:Type} {R:α→α→Prop}:∀ {L:List α} {i:Nat},(nth L i).Pairwise R
 | a :: _,0=>by simp [nth]
 | _ :: l,n+1=>nth_pw (L:=l)
 | [],_=>List.Pairwise.nil
structure It where
 F:Nat→Prop
 p:World→Prop
 bd:∀ w,p w→∀ b,F b→b < w.heap.size
 st:∀ w w',p w→(∀ b,F b→w'.heap[b]?=w.heap[b]?)→w.heap.size≤w'.heap.size→p w'
def It.box (b:Nat) (t:TypeId) (cs:Array Value):It where
 F k:=k=b
 p w:=Blk w b t cs
 bd w h k hk:=by subst hk;exact h.lt
 st w w' h k _:=by unfold Blk at h ⊢;rw [k b rfl];exact h
def It.own (base:Nat) (A:Option Addr) (c:Nat) (e:TypeId) (sz:Nat) (cs:List (List Value)):It where
 F k:=rowOf A=some k
 p w:=Own w base e sz A cs.length c cs.flatten
 bd w h k hk:=(h.row k hk).2
 st w w' h k hs:=by
  refine ⟨h.1,?_⟩
  rcases h.2 with h1 | ⟨g,cap,cur,h3,h4,h5,h6⟩
  · exact .inl h1
  · refine .inr ⟨g,cap,cur,h3,h4,?_,h6⟩
    injection h3 with h3 _ _
    rw [k g (by rw [h3];rfl)]
    exact h5
structure Da where
 ok:(Nat→Prop)→World→Prop
 mv:∀ {F G:Nat→Prop} {w w':World},ok F w→Mv F G w w'→ok G w'
def Da.l {α:Type} [Rp α] (a:Option Addr) (c:Nat) (l:List α):Da:=⟨fun F w=>LRep F w a c l,LRep.mv⟩
def Da.els {α:Type} [Rp α] (cs:List (List Value)) (l:List α):Da:=⟨fun F w=>Els F w cs l,Els.mv⟩
def Da.at (b o:Nat) (cs:List Value):Da:=⟨fun F w=>F b∧b < w.heap.size∧Cells w b o cs,fun h k=>⟨(k.1 _ h.1 h.2.1).1,Nat.lt_of_lt_of_le h.2.1 k.2,h.2.2.same (k.1 _ h.1 h.2.1).2⟩⟩
def Gof (L:List It):Nat→Prop:=fun b=>∃ it ∈ L,it.F b
def Frz (w0:World) (Z:Nat→Prop) (L:List It):Nat→Prop:=fun b=>(b < w0.heap.size→Z b)∧∀ it ∈ L,¬ it.F b
def Ap (a c:It):Prop:=∀ b,a.F b→¬ c.F b
structure Bx (w0 w:World) (Z G:Nat→Prop) (L:List It) (D:List Da):Prop where
 chg:Chgd G w0 w
 zg:∀ b,Z b→b < w0.heap.size→¬ G b
 it:∀ it ∈ L,it.p w∧∀ b,it.F b→b < w0.heap.size→G b
 pw:L.Pairwise Ap
 da:∀ d ∈ D,d.ok (Frz w0 Z L) w
structure Pre (w0:World) (Z:Nat→Prop) (L:List It) (D:List Da):Prop where
 it:∀ it ∈ L,it.p w0
 z:∀ it ∈ L,∀ b,it.F b→¬ Z b
 pw:L.Pairwise Ap
 da:∀ d ∈ D,d.ok Z w0
theorem Mv.same {F G:Nat→Prop} {w:World} (h:∀ b,F b→b < w.heap.size→G b):Mv F G w w:=⟨fun b hb hl=>⟨h b hb hl,rfl⟩,Nat.le_refl _⟩
theorem Pre.bx {w0:World} {Z:Nat→Prop} {L:List It} {D:List Da} (h:Pre w0 Z L D):Bx w0 w0 Z (Gof L) L D:=
 ⟨(Ext.refl w0).chgd _,fun b hz _ ⟨it,hi,hb⟩=>h.z it hi b hb hz,fun it hi=>⟨h.it it hi,fun b hb _=>⟨it,hi,hb⟩⟩,h.pw,fun d hd=>d.mv (h.da d hd) (.same fun b hz _=>⟨fun _=>hz,fun it hi hb=>h.z it hi b hb hz⟩)⟩
section
variable {w0 w w':World} {Z G:Nat→Prop} {L:List It} {D:List Da} {it it':It} {i:Nat}
theorem Bx.at (h:Bx w0 w Z G L D) (i:Nat) (hi:L[i]?=some it):it.p w:=(h.it it (List.mem_of_getElem? hi)).1
theorem Bx.bk (h:Bx w0 w Z G L D) (i:Nat) {b:Nat} {t:TypeId} {cs:Array Value} (hi:L[i]?=some (.box b t cs)):Blk w b t cs:=h.at i hi
theorem Bx.bo (h:Bx w0 w Z G L D) (i:Nat) {base:Nat} {A:Option Addr} {c:Nat} {e:TypeId} {sz:Nat} {cs:List (List Value)} (hi:L[i]?=some (.own base A c e sz cs)):Own w base e sz A cs.length c cs.flatten:=h.at i hi
theorem Bx.d (h:Bx w0 w Z G L D) (i:Nat) {d:Da} (hi:D[i]?=some d):d.ok (Frz w0 Z L) w:=h.da d (List.mem_of_getElem? hi)
theorem Bx.dl (h:Bx w0 w Z G L D) (i:Nat) {α:Type} [Rp α] {a:Option Addr} {c:Nat} {l:List α} (hi:D[i]?=some (.l a c l)):LRep (Frz w0 Z L) w a c l:=h.d i hi
theorem Bx.de (h:Bx w0 w Z G L D) (i:Nat) {α:Type} [Rp α] {cs:List (List Value)} {l:List α} (hi:D[i]?=some (.els cs l)):Els (Frz w0 Z L) w cs l:=h.d i hi
theorem Bx.dc (h:Bx w0 w Z G L D) (i:Nat) {b o:Nat} {cs:List Value} (hi:D[i]?=some (.at b o cs)):Cells w b o cs:=(h.d i hi).2.2
theorem pw_get {R:It→It→Prop}:∀ {L:List It} {i j:Nat} {x y:It},L.Pairwise R→i < j→L[i]?=some x→L[j]?=some y→R x y
 | a :: L,0,j+1,x,y,h,_,hx,hy=>by
  simp only [List.getElem?_cons_zero,Option.some.injEq] at hx
  subst hx
  exact (List.pairwise_cons.1 h).1 y (List.mem_of_getElem? (by simpa using hy))
 | a :: L,i+1,j+1,x,y,h,hij,hx,hy=>pw_get (i:=i) (j:=j) (List.pairwise_cons.1 h).2 (by omega) (by simpa using hx) (by simpa using hy)
theorem Bx.apart (h:Bx w0 w Z G L D) {j:Nat} {x y:It} (hij:i≠j) (hx:L[i]?=some x) (hy:L[j]?=some y):∀ b,x.F b→¬ y.F b:=by
 rcases Nat.lt_or_gt_of_ne hij with h1 | h1
 · exact pw_get h.pw h1 hx hy
 · exact fun b hb hc=>pw_get h.pw h1 hy hx b hc hb
theorem pw_set {R:It→It→Prop}:∀ {L:List It} {i:Nat} {y:It},L.Pairwise R→(∀ j x,j≠i→L[j]?=some x→R x y∧R y x)→(L.set i y).Pairwise R
 | [],i,y,_,_=>by simp
 | a :: L,0,y,h,k=>by
  rw [List.set_cons_zero]
  refine List.pairwise_cons.2 ⟨fun x hx=>?_,(List.pairwise_cons.1 h).2⟩
  obtain ⟨j,hj⟩:=List.getElem?_of_mem hx
  exact (k (j+1) x (by omega) (by simpa using hj)).2
 | a :: L,i+1,y,h,k=>by
  rw [List.set_cons_succ]
  refine List.pairwise_cons.2 ⟨fun x hx=>?_,pw_set (List.pairwise_cons.1 h).2 fun j x hj hx=>k (j+1) x (by omega) (by simpa using hx)⟩
  rcases List.mem_or_eq_of_mem_set hx with hx | rfl
  · exact (List.pairwise_cons.1 h).1 x hx
  · exact (k 0 a (by omega) (by simp)).1
theorem Bx.step (h:Bx w0 w Z G L D) {X:Nat→Prop} {L':List It} (hc:Chgd X w w') (hX:∀ b,X b→b < w.heap.size→∃ it ∈ L,it.F b)
   (hp:∀ it ∈ L',it.p w') (hF:∀ it ∈ L',∀ b,it.F b→b < w.heap.size→∃ x ∈ L,x.F b) (hpw:L'.Pairwise Ap):Bx w0 w' Z G L' D:=by
 have hs:=h.chg.size
 refine ⟨⟨hc.os.trans h.chg.os,hc.tape.trans h.chg.tape,hc.output.trans h.chg.output,Nat.le_trans hs hc.size,fun b hb hg=>?_⟩,h.zg,fun it hi=>⟨hp it hi,fun b hb hl=>?_⟩,hpw,fun d hd=>d.mv (h.da d hd) ⟨fun b hf hl=>⟨⟨hf.1,fun it hi hb=>?_⟩,?_⟩,hc.size⟩⟩
 · rw [hc.block b (Nat.lt_of_lt_of_le hb hs) (fun hx=>?_)]
   · exact h.chg.block b hb hg
   · obtain ⟨it,hi,hb'⟩:=hX b hx (Nat.lt_of_lt_of_le hb hs)
     exact hg ((h.it it hi).2 b hb' hb)
 · obtain ⟨x,hx,hxb⟩:=hF it hi b hb (Nat.lt_of_lt_of_le hl hs)
   exact (h.it x hx).2 b hxb hl
 · obtain ⟨x,hx,hxb⟩:=hF it hi b hb hl
   exact hf.2 x hx hxb
 · refine hc.block b hl fun hx=>?_
   obtain ⟨x,hx,hxb⟩:=hX b hx hl
   exact hf.2 x hx hxb
theorem Bx.ext (h:Bx w0 w Z G L D) (e:Ext w w'):Bx w0 w' Z G L D:=
 h.step (X:=fun _=>False) (e.chgd _) (fun _ hx=>hx.elim) (fun it hi=>it.st w w' (h.it it hi).1 (fun b hb=>e.block b (it.bd w (h.it it hi).1 b hb)) e.size) (fun it hi b hb _=>⟨it,hi,hb⟩) h.pw
theorem Bx.drew (h:Bx w0 w Z G L D):Bx w0 w.drew Z G L D:=h.ext (Ext.refl w).drew
theorem Bx.push (h:Bx w0 w Z G L D) (e:Ext w w') (hp:it.p w') (hn:∀ b,it.F b→w.heap.size≤b):Bx w0 w' Z G (it :: L) D:=by
 refine h.step (X:=fun _=>False) (e.chgd _) (fun _ hx=>hx.elim) (fun x hx=>?_) (fun x hx b hb hl=>?_) (List.pairwise_cons.2 ⟨fun x hx b hb hc=>?_,h.pw⟩)
 · rcases List.mem_cons.1 hx with rfl | hx
   · exact hp
   · exact ((h.ext e).it x hx).1
 · rcases List.mem_cons.1 hx with rfl | hx
   · have:=hn b hb;omega
   · exact ⟨x,hx,hb⟩
 · have h1:=x.bd w (h.it x hx).1 b hc
   have h2:=hn b hb
   omega
theorem Bx.put (h:Bx w0 w Z G L D) (i:Nat) (hi:L[i]?=some it) (hc:Chgd it.F w w') (hp:it'.p w') (hF:∀ b,it'.F b→it.F b ∨ w.heap.size≤b):Bx w0 w' Z G (L.set i it') D:=by
 have hm:=List.mem_of_getElem? hi
 have hel:∀ j x,j≠i→L[j]?=some x→x.p w':=fun j x hj hx=>
   x.st w w' (h.at j hx) (fun b hb'=>hc.block b (x.bd w (h.at j hx) b hb') (fun hc=>h.apart hj hx hi b hb' hc)) hc.size
 have hcase:∀ x ∈ L.set i it',x=it' ∨ ∃ j,j≠i∧L[j]?=some x:=fun x hx=>by
   obtain ⟨j,hj⟩:=List.getElem?_of_mem hx
   by_cases hji:j=i
   · subst hji
     rw [List.getElem?_set_self (by exact (List.getElem?_eq_some_iff.1 hi).1)] at hj
     cases hj;exact .inl rfl
   · rw [List.getElem?_set_ne (Ne.symm hji)] at hj
     exact .inr ⟨j,hji,hj⟩
 refine h.step hc (fun b hx _=>⟨it,hm,hx⟩) (fun x hx=>?_) (fun x hx b hb hl=>?_) (pw_set h.pw fun j x hj hx=>?_)
 · rcases hcase x hx with rfl | ⟨j,hj,hx⟩
   · exact hp
   · exact hel j x hj hx
 · rcases hcase x hx with rfl | ⟨j,hj,hx⟩
   · rcases hF b hb with h1 | h1
     · exact ⟨it,hm,h1⟩
     · omega
   · exact ⟨x,List.mem_of_getElem? hx,hb⟩
 · have key:∀ b,x.F b→¬ it'.F b:=fun b hb1 hb2=>by
     rcases hF b hb2 with h1 | h1
     · exact h.apart hj hx hi b hb1 h1
     · have:=x.bd w (h.at j hx) b hb1;omega
   exact ⟨key,fun b h1 h2=>key b h2 h1⟩
theorem Bx.perm {L':List It} (h:Bx w0 w Z G L D) (hp:L.Perm L'):Bx w0 w Z G L' D:=
 h.step (X:=fun _=>False) ((Ext.refl w).chgd _) (fun _ hx=>hx.elim) (fun it hi=>(h.it it (hp.mem_iff.2 hi)).1) (fun it hi b hb _=>⟨it,hp.mem_iff.2 hi,hb⟩) ((hp.pairwise_iff (fun {a c} r b hb hc=>r b hc hb)).1 h.pw)
theorem Bx.sub {L':List It} (h:Bx w0 w Z G L D) (hs:L'.Sublist L):Bx w0 w Z G L' D:=
 h.step (X:=fun _=>False) ((Ext.refl w).chgd _) (fun _ hx=>hx.elim) (fun it hi=>(h.it it (hs.subset hi)).1) (fun it hi b hb _=>⟨it,hs.subset hi,hb⟩) (h.pw.sublist hs)
theorem Bx.tl (h:Bx w0 w Z G (it :: L) D):Bx w0 w Z G L D:=h.sub (List.sublist_cons_self it L)
theorem perm_front:∀ {L:List It} {i:Nat} {it:It},L[i]?=some it→L.Perm (it :: L.eraseIdx i)
 | a :: L,0,it,h=>by simp only [List.getElem?_cons_zero,Option.some.injEq] at h;subst h;exact List.Perm.refl _
 | a :: L,i+1,it,h=>(List.Perm.cons a (perm_front (i:=i) (by simpa using h))).trans (List.Perm.swap _ _ _)
theorem Bx.fr (h:Bx w0 w Z G L D) (i:Nat) (hi:L[i]?=some it):Bx w0 w Z G (it :: L.eraseIdx i) D:=h.perm (perm_front hi)
theorem Bx.er (h:Bx w0 w Z G L D) (i:Nat):Bx w0 w Z G (L.eraseIdx i) D:=h.sub (List.eraseIdx_sublist L i)
theorem Bx.dadd (h:Bx w0 w Z G L D) {d:Da} (hd:d.ok (Frz w0 Z L) w):Bx w0 w Z G L (d :: D):=
 ⟨h.chg,h.zg,h.it,h.pw,fun x hx=>by
  rcases List.mem_cons.1 hx with rfl | hx
  · exact hd
  · exact h.da x hx⟩
theorem Bx.dsub (h:Bx w0 w Z G L D) {D':List Da} (hs:∀ d ∈ D',d ∈ D):Bx w0 w Z G L D':=⟨h.chg,h.zg,h.it,h.pw,fun d hd=>h.da d (hs d hd)⟩
theorem Bx.dset (h:Bx w0 w Z G L D) (i:Nat) {d:Da} (hd:d.ok (Frz w0 Z L) w):Bx w0 w Z G L (D.set i d):=
 ⟨h.chg,h.zg,h.it,h.pw,fun x hx=>by
  rcases List.mem_or_eq_of_mem_set hx with hx | rfl
  · exact h.da x hx
  · exact hd⟩
theorem pick_mem {α:Type} {L:List α}:∀ {l:List Nat} {x:α},x ∈ pick L l→∃ i ∈ l,L[i]?=some x
 | i :: l,x,h=>by
  unfold pick at h
  rcases List.mem_append.1 h with h | h
  · exact ⟨i,List.mem_cons_self ..,nth_mem h⟩
  · obtain ⟨j,h1,h2⟩:=pick_mem h;exact ⟨j,List.mem_cons_of_mem _ h1,h2⟩
theorem Bx.dp (h:Bx w0 w Z G L D) (l:List Nat):Bx w0 w Z G L (pick D l):=h.dsub fun _ hd=>by obtain ⟨i,_,hi⟩:=pick_mem hd;exact List.mem_of_getElem? hi
theorem Bx.new (h:Bx w0 w Z G L D) {b:Nat} {t:TypeId} {cs:Array Value} (hge:w.heap.size≤b) (hB:Blk w' b t cs) (he:Ext w w'):Bx w0 w' Z G (.box b t cs :: L) D:=
 h.push he hB (fun k hk=>by have hk:k=b:=hk;omega)
theorem Bx.wr (h:Bx w0 w Z G L D) (i:Nat) {b:Nat} {t t':TypeId} {cs cs':Array Value} (hi:L[i]?=some (.box b t cs)) (hc:Chg b w w') (hB:Blk w' b t' cs'):Bx w0 w' Z G (L.set i (.box b t' cs')) D:=
 h.put i hi ⟨hc.os,hc.tape,hc.output,hc.size,fun k hk hn=>hc.block k hk (by intro e;injection e with e;exact hn (show k=b from e))⟩ hB (fun k hk=>.inl hk)
theorem Bx.owN (h:Bx w0 w Z G L D) (e:TypeId) (sz:Nat):Bx w0 w Z G (.own w0.heap.size none 0 e sz [] :: L) D:=
 h.push (Ext.refl w) (Own.nil w _ e sz) (fun k hk=>by (cases hk))
theorem Bx.owL (h:Bx w0 w Z G L D) (α:Type) [Rp α] (e:TypeId):Bx w0 w Z G (.own w0.heap.size none 0 e (Rp.sz α) [] :: L) (.els [] ([]:List α) :: D):=
 (h.owN e (Rp.sz α)).dadd trivial
theorem Bx.rowTo (h:Bx w0 w Z G L D) (i:Nat) {base:Nat} {A A2:Option Addr} {c c2 n2 sz:Nat} {e:TypeId} {cs ds:List (List Value)} {ys:List Value} (hi:L[i]?=some (.own base A c e sz cs)) (ho:Own w' base e sz A2 n2 c2 ys) (hn:n2=ds.length) (hy:ys=ds.flatten)
  (hg:w.grownBy w' (rowOf A)) (hr:rowOf A2=rowOf A ∨ rowOf A2=some w.heap.size):Bx w0 w' Z G (L.set i (.own base A2 c2 e sz ds)) D:=
 h.put i hi ⟨hg.os,hg.tape,hg.output,hg.size,fun k hk hn=>hg.block k hk (fun e=>hn e.symm)⟩ (by subst hn hy;exact ho) (fun k hk=>by
  have hk:rowOf A2=some k:=hk
  rcases hr with hr | hr
  · exact .inl (show rowOf A=some k by rw [← hr];exact hk)
  · rw [hk] at hr;injection hr with hr;exact .inr (by omega))
theorem Bx.reb (h:Bx w0 w Z G L D) (i:Nat) {base:Nat} {A:Option Addr} {c sz:Nat} {e:TypeId} {cs:List (List Value)} (base':Nat) (hi:L[i]?=some (.own base A c e sz cs)) (hb:base'≤base):Bx w0 w Z G (L.set i (.own base' A c e sz cs)) D:=
 h.put i hi ((Ext.refl w).chgd _) (Own.mono (h.bo i hi) hb) (fun k hk=>.inl hk)
theorem Own.lrep {α:Type} [Rp α] {F:Nat→Prop} {w:World} {e:TypeId} {base:Nat} {A:Option Addr} {c:Nat} {cs:List (List Value)} {l:List α} (h:Own w base e (Rp.sz α) A cs.length c cs.flatten) (he:Els F w cs l) (hF:∀ b,rowOf A=some b→F b):LRep F w A c l:=by
 have hc:=h.cap
 rw [he.len] at h hc
 refine ⟨hc.1,hc.2,fun h0=>?_⟩
 obtain ⟨g,rfl⟩:=h.adr h0
 refine ⟨rfl,hF g rfl,(h.row g rfl).2,fun i x hx=>?_⟩
 obtain ⟨d,hd,hr⟩:=he.get hx
 refine ⟨d,fun j v hv=>?_,hr⟩
 show w.cell? ⟨g,0+i * Rp.sz α+j,none⟩=some v
 rw [Nat.zero_add]
 exact h.cell (he.cells hd j v hv)
theorem Bx.frz (h:Bx w0 w Z G L D) (i j:Nat) {α:Type} [Rp α] {e:TypeId} {A:Option Addr} {c:Nat} {cs:List (List Value)} {l:List α} (hi:L[i]?=some (.own w0.heap.size A c e (Rp.sz α) cs)) (hj:D[j]?=some (.els cs l)) :
   Bx w0 w Z G (L.eraseIdx i) (.l A c l :: D.eraseIdx j):=by
 have h1:Bx w0 w Z G (L.eraseIdx i) (D.eraseIdx j):=(h.er i).dsub fun d hd=>(List.eraseIdx_sublist D j).subset hd
 have h2:=(h.er i).de j hj
 refine h1.dadd (d:=.l A c l) ((h.bo i hi).lrep h2 fun b hb=>⟨fun hl=>?_,fun it hit hb'=>?_⟩)
 · have:=((h.bo i hi).row b hb).1;omega
 · have hp:=(perm_front hi).pairwise_iff (R:=Ap) (fun {a c} r b hb hc=>r b hc hb)
   have:=hp.1 h.pw
   exact (List.pairwise_cons.1 this).1 it hit b hb hb'
def nodup:List Nat→Bool
 | []=>true
 | i :: l=>!l.contains i && nodup l
theorem Bx.arr (h:Bx w0 w Z G L D) (l:List Nat) (hn:nodup l=true):Bx w0 w Z G (pick L l) D:=by
 have hm:∀ x ∈ pick L l,x ∈ L:=fun x hx=>by obtain ⟨i,_,hi⟩:=pick_mem hx;exact List.mem_of_getElem? hi
 refine h.step (X:=fun _=>False) ((Ext.refl w).chgd _) (fun _ hx=>hx.elim) (fun it hi=>(h.it it (hm it hi)).1) (fun it hi b hb _=>⟨it,hm it hi,hb⟩) ?_
 clear hm
 induction l with
 | nil=>exact List.Pairwise.nil
 | cons i l ih=>
  simp only [nodup,Bool.and_eq_true,Bool.not_eq_true',List.contains_eq_mem] at hn
  unfold pick
  refine List.pairwise_append.2 ⟨nth_pw,ih hn.2,fun x hx y hy=>?_⟩
  obtain ⟨j,h1,h2⟩:=pick_mem hy
  refine h.apart (fun e=>?_) (nth_mem hx) h2
  subst e
  simp [h1] at hn
theorem Bx.dr (h:Bx w0 w Z G L D) (n m:Nat):Bx w0 w Z G (L.drop n) (D.drop m):=(h.sub (List.drop_sublist n L)).dsub fun d hd=>List.mem_of_mem_drop hd
theorem LRep.fn {α:Type} [Rp α] {F:Nat→Prop} {w:World} {a:Option Addr} {c:Nat} {l:List α} (h:LRep F w a c l):∃ C:Nat→List Value,(∀ i y,l[i]?=some y→Cells w (aBlk a) (aOff a+i * Rp.sz α) (C i))∧∀ i y,l[i]?=some y→Rp.rep F w (C i) y:=by
 have h1:∀ i:Nat,∃ cs,∀ y,l[i]?=some y→Cells w (aBlk a) (aOff a+i * Rp.sz α) cs∧Rp.rep F w cs y:=fun i=>by
  cases hi:l[i]? with
  | none=>exact ⟨[],fun y hy=>by cases hy⟩
  | some x=>obtain ⟨cs,h2,h3⟩:=h.el hi;exact ⟨cs,fun y hy=>by cases hy;exact ⟨h2,h3⟩⟩
 exact ⟨fun i=>Classical.choose (h1 i),fun i y hy=>(Classical.choose_spec (h1 i) y hy).1,fun i y hy=>(Classical.choose_spec (h1 i) y hy).2⟩
theorem dnil {F:Nat→Prop} {w:World}:∀ d ∈ ([]:List Da),d.ok F w:=fun _ h=>by cases h
theorem dcons {F:Nat→Prop} {w:World} {d:Da} {D:List Da} (h:d.ok F w) (k:∀ d ∈ D,d.ok F w):∀ x ∈ d :: D,x.ok F w:=fun x hx=>by
 rcases List.mem_cons.1 hx with rfl | hx
 · exact h
 · exact k x hx
theorem Bx.pre {Lc Lr:List It} (h:Bx w0 w Z G (Lc ++ Lr) D) {Dc:List Da} (hD:∀ d ∈ Dc,d.ok (Frz w0 Z (Lc ++ Lr)) w):Pre w (Frz w0 Z (Lc ++ Lr)) Lc Dc:=
 ⟨fun it hi=>(h.it it (List.mem_append_left _ hi)).1,fun it hi b hb hz=>hz.2 it (List.mem_append_left _ hi) hb,(List.pairwise_append.1 h.pw).1,hD⟩
theorem Bx.call {Lc Lr L1:List It} {D1:List Da} (h:Bx w0 w Z G (Lc ++ Lr) D) (k:Bx w w' (Frz w0 Z (Lc ++ Lr)) (Gof Lc) L1 D1):Bx w0 w' Z G (L1 ++ Lr) (D1 ++ D):=by
 have hpw:=List.pairwise_append.1 h.pw
 have hb:Bx w0 w' Z G (L1 ++ Lr) D:=by
   refine h.step k.chg (fun b ⟨it,hi,hb⟩ _=>⟨it,List.mem_append_left _ hi,hb⟩) (fun it hi=>?_) (fun it hi b hb hl=>?_) (List.pairwise_append.2 ⟨k.pw,hpw.2.1,fun x hx y hy b hb hc=>?_⟩)
   · rcases List.mem_append.1 hi with hi | hi
     · exact (k.it it hi).1
     · have h1:=(h.it it (List.mem_append_right _ hi)).1
       exact it.st w w' h1 (fun b hb=>k.chg.block b (it.bd w h1 b hb) fun ⟨x,hx,hxb⟩=>hpw.2.2 x hx it hi b hxb hb) k.chg.size
   · rcases List.mem_append.1 hi with hi | hi
     · obtain ⟨x,hx,hxb⟩:=(k.it it hi).2 b hb hl
       exact ⟨x,List.mem_append_left _ hx,hxb⟩
     · exact ⟨it,List.mem_append_right _ hi,hb⟩
   · have h1:=y.bd w (h.it y (List.mem_append_right _ hy)).1 b hc
     obtain ⟨z,hz,hzb⟩:=(k.it x hx).2 b hb h1
     exact hpw.2.2 z hz y hy b hzb hc
 refine ⟨hb.chg,hb.zg,hb.it,hb.pw,fun d hd=>?_⟩
 rcases List.mem_append.1 hd with hd | hd
 · refine d.mv (k.da d hd) (.same fun b hf hl=>⟨fun h0=>?_,fun it hi hb'=>?_⟩)
   · exact (hf.1 (Nat.lt_of_lt_of_le h0 h.chg.size)).1 h0
   · rcases List.mem_append.1 hi with hi | hi
     · exact hf.2 it hi hb'
     · have h1:=it.bd w (h.it it (List.mem_append_right _ hi)).1 b hb'
       exact (hf.1 h1).2 it (List.mem_append_right _ hi) hb'
 · exact hb.da d hd
end
theorem Gof.nil:Gof []=fun _=>False:=funext fun b=>propext (Iff.intro (fun h=>by obtain ⟨_,h,_⟩:=h;cases h) (fun h=>h.elim))
theorem Bx.ex {w0 w:World} {Z:Nat→Prop} {L:List It} {D:List Da} (h:Bx w0 w Z (Gof []) L D):Ext w0 w:=Chgd.ext (by have:=h.chg;rwa [Gof.nil] at this)
end Go.Fw
