/- What a walk knows of memory: things of its own (variables, rows, maps), and data that nobody writes any more; data stand for lists and structures without addresses. Over any program. -/
import Derived.Test.YtdkneekpdecjbaaGreatZ1
import Derived.Laws.StructEq
import Derived.Laws.CopyRow
set_option linter.unusedVariables false
namespace Go.Fw
open Go.RowKit
theorem bs {α β:Type}{o:Option α}{f:α->Option β}{X:β}(h:o.bind f=some X):∃ x,o=some x/\f x=some X:=Option.bind_eq_some_iff.1 h
theorem jH {α:Type}{c:Prop}[Decidable c]{a b X:α}(h:(if c then a else b)=X):c/\a=X\/¬ c/\b=X:=by
 by_cases hc:c
 · exact .inl ⟨hc,by rwa [lG hc] at h⟩
 · exact .inr ⟨hc,by rwa [lD hc] at h⟩
theorem sm {α:Type}{a b:α}(h:some a=some b):a=b:=JD h
theorem nn {α:Type}{b:α}{p:Prop}(h:none=some b):p:=by cases h
def jy {α β:Type}{γ:Sort _}:α × β→(α→β→γ)→γ
 | (a,b),f=>f a b
theorem nD {α β:Type}{a:α}{b:β}{f:α->β->Prop}(h:f a b):jy (a,b) f:=h
inductive Ld (σ ρ:Type) where
 | go (s:σ)
 | out (r:ρ)
def Ld.el {σ ρ τ:Type}:Ld σ ρ→(σ→τ)→(ρ→τ)→τ
 | .go s,f,_=>f s
 | .out r,_,g=>g r
theorem gi {σ ρ τ:Type}{f:σ->τ}{g:ρ->τ}{s:σ}{X:τ}(h:(Ld.go s:Ld σ ρ).el f g=X):f s=X:=h
theorem oi {σ ρ τ:Type}{f:σ->τ}{g:ρ->τ}{r:ρ}{X:τ}(h:(Ld.out r:Ld σ ρ).el f g=X):g r=X:=h
theorem pi {α β γ:Type}{a:α}{b:β}{f:α->β->γ}{X:γ}(h:jy (a,b) f=X):f a b=X:=h
def app {α:Type}(l m:List α):Option (List α):=if l.length+m.length<=1000000000 then some (l ++ m) else none
theorem qy {α:Type}{l m r:List α}(h:app l m=some r):l.length+m.length<=1000000000/\l ++ m=r:=by
 unfold app at h;split at h
 · exact ⟨by assumption,sm h⟩
 · cases h
def cat (s t:ByteArray):Option ByteArray:=if s.size+t.size<=1000000000 then some (s ++ t) else none
theorem YN {s t r:ByteArray}(h:cat s t=some r):s.size+t.size<=1000000000/\s ++ t=r:=by
 unfold cat at h;split at h
 · exact ⟨by assumption,sm h⟩
 · cases h
def ix {α:Type}(l:List α)(i:Int):Option α:=if i < 0 then none else l[i.toNat]?
theorem kW {α:Type}{l:List α}{i:Int}{x:α}(h:ix l i=some x):∃ k:Nat,i=(k:Int)/\l[k]?=some x:=by
 unfold ix at h;split at h
 · cases h
 · exact ⟨i.toNat,by omega,h⟩
def sl {α:Type}(l:List α)(a b:Int):Option (List α):=if 0<=a/\a<=b/\b<=l.length then some ((l.drop a.toNat).take (b - a).toNat) else none
theorem wX {α:Type}{l r:List α}{a b:Int}(h:sl l a b=some r):∃ i j:Nat,a=(i:Int)/\b=(j:Int)/\i<=j/\j<=l.length/\(l.drop i).take (j - i)=r:=by
 unfold sl at h;split at h
 · rename_i hc;exact ⟨a.toNat,b.toNat,by omega,by omega,by omega,by omega,by rw [<-sm h];congr 1;omega⟩
 · cases h
def st {α:Type}(l:List α)(i:Int)(x:α):Option (List α):=if 0<=i/\i < l.length then some (l.set i.toNat x) else none
theorem sG {α:Type}{l r:List α}{i:Int}{x:α}(h:st l i x=some r):∃ k:Nat,i=(k:Int)/\k < l.length/\l.set k x=r:=by
 unfold st at h;split at h
 · rename_i hc;exact ⟨i.toNat,by omega,by omega,sm h⟩
 · cases h
theorem ko {α:Type}{l:List α}{x:α}{i:Nat}(h:l[i]?=some x):i < l.length:=(List.getElem?_eq_some_iff.1 h).1
theorem mF {α:Type}{l:List α}{k:Nat}(h:k < l.length):∃ x,l[k]?=some x:=⟨_,List.getElem?_eq_getElem h⟩
theorem l6 {α:Type}{l:List α}{x:α}{k:Nat}(h:l[k]?=some x):l.drop k=x :: l.drop (k+1):=by obtain ⟨hk,rfl⟩:=List.getElem?_eq_some_iff.1 h;exact List.drop_eq_getElem_cons hk
theorem lT {α:Type}{l:List α}:l.drop l.length=[]:=List.drop_length
structure Sg (G:Nat->Prop)(w w':World):Prop where
 os:w'.os=w.os
 tape:w'.tape=w.tape
 output:w'.output=w.output
 size:w.heap.size<=w'.heap.size
 block:∀ b,b < w.heap.size->¬ G b->w'.heap[b]?=w.heap[b]?
theorem Ext.Gf {w w':World}(e:Ext w w')(G:Nat->Prop):Sg G w w':=⟨e.os,e.tape,e.output,e.size,fun b hb _=>e.block b hb⟩
theorem Sg.ext {w w':World}(h:Sg (fun _=>False) w w'):Ext w w':=⟨h.os,h.tape,h.output,h.size,fun b hb=>h.block b hb (fun h=>h)⟩
theorem UD {w w':World}{b o:Nat}(h:w'.heap[b]?=w.heap[b]?):w'.cell? ⟨b,o,none⟩=w.cell? ⟨b,o,none⟩:=by simp only [World.cell?,h]
theorem Cells.same {w w':World}{b o:Nat}{xs:List Value}(h:Cells w b o xs)(e:w'.heap[b]?=w.heap[b]?):Cells w' b o xs:=fun j v hv=>by rw [UD e];exact h j v hv
theorem Cells.part {w:World}{b o o2:Nat}{cs xs:List Value}(h:Cells w b o cs)(hx:(cs.drop o2).take xs.length=xs):Cells w b (o+o2) xs:=fun j v hv=>by
 rw [Nat.add_assoc];refine h (o2+j) v ?_;rw [<-hx,List.getElem?_take] at hv;split at hv
 · rw [List.getElem?_drop] at hv;exact hv
 · cases hv
def mU (a:Option Addr):Nat:=match a with | some a=>a.block | none=>0
def nS (a:Option Addr):Nat:=match a with | some a=>a.off | none=>0
def Mv (F G:Nat->Prop)(w w':World):Prop:=(∀ b,F b->b < w.heap.size->G b/\w'.heap[b]?=w.heap[b]?)/\w.heap.size<=w'.heap.size
class Rp (α:Type) where
 sz:Nat
 bs:Nat
 rep:(Nat->Prop)->World->List Value->α->Prop
 len:∀ {F:Nat->Prop}{w:World}{cs:List Value}{x:α},rep F w cs x->cs.length=sz
 one:∀ {F:Nat->Prop}{w:World}{cs:List Value}{x:α},rep F w cs x->cs.all (fun v=>v.oneCell')=true
 mv:∀ {F G:Nat->Prop}{w w':World}{cs:List Value}{x:α},rep F w cs x->Mv F G w w'->rep G w' cs x
def kD {α:Type}[Rp α](F:Nat->Prop)(w:World)(a:Option Addr)(c:Nat)(l:List α):Prop:=l.length<=c/\c<=maxLen/\(0 < l.length->a=some ⟨mU a,nS a,none⟩/\F (mU a)/\mU a < w.heap.size/\ ∀ i x,l[i]?=some x->∃ cs,Cells w (mU a) (nS a+i * Rp.sz α) cs/\Rp.rep F w cs x)
theorem kD.mv {α:Type}[Rp α]{F G:Nat->Prop}{w w':World}{a:Option Addr}{c:Nat}{l:List α}(h:kD F w a c l)(k:Mv F G w w'):kD G w' a c l:=by refine ⟨h.1,h.2.1,fun h0=>?_⟩;obtain ⟨h1,h2,h3,h4⟩:=h.2.2 h0;refine ⟨h1,(k.1 _ h2 h3).1,Nat.lt_of_lt_of_le h3 k.2,fun i x hx=>?_⟩;obtain ⟨cs,h5,h6⟩:=h4 i x hx;exact ⟨cs,h5.same (k.1 _ h2 h3).2,Rp.mv h6 k⟩
theorem kD.nil {α:Type}[Rp α]{F:Nat->Prop}{w:World}{a:Option Addr}:kD F w a 0 ([]:List α):=⟨mO _,uN _,fun h=>by simp at h⟩
section
variable {α:Type}[Rp α]{F:Nat->Prop}{w:World}{a:Option Addr}{c:Nat}{l:List α}{x:α}{i:Nat}
theorem kD.cap (h:kD F w a c l):l.length<=c:=h.1
theorem kD.bd (h:kD F w a c l):l.length<=9223372036854775807:=by have:=h.1;have:=h.2.1;simp only [maxLen] at *;omega
theorem kD.UO (h:kD F w a c l)(hx:l[i]?=some x):a=some ⟨mU a,nS a,none⟩:=(h.2.2 (by have:=ko hx;omega)).1
theorem kD.fb (h:kD F w a c l)(hx:l[i]?=some x):F (mU a)/\mU a < w.heap.size:=⟨(h.2.2 (by have:=ko hx;omega)).2.1,(h.2.2 (by have:=ko hx;omega)).2.2.1⟩
theorem kD.el (h:kD F w a c l)(hx:l[i]?=some x):∃ cs,Cells w (mU a) (nS a+i * Rp.sz α) cs/\Rp.rep F w cs x:=(h.2.2 (by have:=ko hx;omega)).2.2.2 i x hx
end
instance:Rp Int:=⟨1,8,fun _ _ cs n=>cs=[.int .i64 n],fun h=>by rw [h];rfl,fun h=>by rw [h];rfl,fun h _=>h⟩
instance:Rp Bool:=⟨1,1,fun _ _ cs n=>cs=[.bool n],fun h=>by rw [h];rfl,fun h=>by rw [h];rfl,fun h _=>h⟩
instance:Rp ByteArray:=⟨1,16,fun _ _ cs n=>cs=[.string n],fun h=>by rw [h];rfl,fun h=>by rw [h];rfl,fun h _=>h⟩
instance {α:Type}[Rp α]:Rp (List α):=⟨1,24,fun F w cs l=>∃ a c,cs=[.slice a l.length c]/\kD F w a c l,fun ⟨_,_,h,_⟩=>by rw [h];rfl,fun ⟨_,_,h,_⟩=>by rw [h];rfl,fun ⟨a,c,h,k⟩ m=>⟨a,c,h,k.mv m⟩⟩
def xg {α:Type}[Rp α](F:Nat→Prop)(w:World):List (List Value)→List α→Prop
 | [],[]=>True
 | c :: cs,x :: l=>Rp.rep F w c x/\xg F w cs l
 | _,_=>False
section
variable {α:Type}[Rp α]{F G:Nat->Prop}{w w':World}
theorem xg.mv:∀ {cs:List (List Value)}{l:List α},xg F w cs l→Mv F G w w'→xg G w' cs l
 | [],[],_,_=>trivial
 | _ :: _,_ :: _,h,k=>⟨Rp.mv h.1 k,xg.mv h.2 k⟩
 | [],_ :: _,h,_=>h.elim
 | _ :: _,[],h,_=>h.elim
theorem xg.len:∀ {cs:List (List Value)}{l:List α},xg F w cs l→cs.length=l.length
 | [],[],_=>rfl
 | _ :: _,_ :: _,h=>congrArg (·+1) (xg.len h.2)
 | [],_ :: _,h=>h.elim
 | _ :: _,[],h=>h.elim
theorem xg.app:∀ {cs:List (List Value)}{l:List α}{ds:List (List Value)}{m:List α},xg F w cs l→xg F w ds m→xg F w (cs ++ ds) (l ++ m)
 | [],[],_,_,_,k=>k
 | _ :: _,_ :: _,_,_,h,k=>⟨h.1,xg.app h.2 k⟩
 | [],_ :: _,_,_,h,_=>h.elim
 | _ :: _,[],_,_,h,_=>h.elim
theorem xg.take:∀ {cs:List (List Value)}{l:List α}(n:Nat),xg F w cs l→xg F w (cs.take n) (l.take n)
 | _,_,0,_=>by simp [xg]
 | [],[],n+1,_=>by simp [xg]
 | _ :: _,_ :: _,n+1,h=>⟨h.1,xg.take n h.2⟩
 | [],_ :: _,_+1,h=>h.elim
 | _ :: _,[],_+1,h=>h.elim
theorem xg.set:∀ {cs:List (List Value)}{l:List α}(n:Nat){d:List Value}{y:α},xg F w cs l→Rp.rep F w d y→xg F w (cs.set n d) (l.set n y)
 | [],[],_,_,_,_,_=>trivial
 | _ :: _,_ :: _,0,_,_,h,k=>⟨k,h.2⟩
 | _ :: _,_ :: _,n+1,_,_,h,k=>⟨h.1,xg.set n h.2 k⟩
 | [],_ :: _,_,_,_,h,_=>h.elim
 | _ :: _,[],_,_,_,h,_=>h.elim
theorem xg.get:∀ {cs:List (List Value)}{l:List α}{k:Nat}{x:α},xg F w cs l→l[k]?=some x→∃ c,cs[k]?=some c∧Rp.rep F w c x
 | c :: _,_ :: _,0,_,h,hx=>by simp only [Eu,Dz] at hx;subst hx;exact ⟨c,rfl,h.1⟩
 | _ :: _,_ :: _,k+1,_,h,hx=>xg.get (k:=k) h.2 (by simpa using hx)
 | [],[],_,_,_,hx=>by simp at hx
 | [],_ :: _,_,_,h,_=>h.elim
 | _ :: _,[],_,_,h,_=>h.elim
theorem xg.VG:∀ {cs:List (List Value)}{l:List α},xg F w cs l→cs.flatten.length=l.length * Rp.sz α
 | [],[],_=>by simp
 | c :: cs,x :: l,h=>by rw [Ay,Ij,xg.VG h.2,Rp.len h.1,uK,Nat.succ_mul,Nat.add_comm]
 | [],_ :: _,h=>h.elim
 | _ :: _,[],h=>h.elim
theorem xg.one:∀ {cs:List (List Value)}{l:List α},xg F w cs l→∀ v ∈ cs.flatten,v.oneCell'=true
 | [],[],_,v,hv=>by simp at hv
 | c :: cs,x :: l,h,v,hv=>by
  rw [Ay,pX] at hv;rcases hv with hv | hv
  · exact List.all_eq_true.1 (Rp.one h.1) v hv
  · exact xg.one h.2 v hv
 | [],_ :: _,h,_,_=>h.elim
 | _ :: _,[],h,_,_=>h.elim
theorem xg.cells:∀ {cs:List (List Value)}{l:List α}{k:Nat}{c:List Value},xg F w cs l→cs[k]?=some c→∀ j v,c[j]?=some v→cs.flatten[k * Rp.sz α+j]?=some v
 | c :: _,_ :: _,0,_,h,hx,j,v,hv=>by simp only [Eu,Dz] at hx;subst hx;rw [Ay,Nat.zero_mul,DV,AL (ko hv)];exact hv
 | c :: _,_ :: _,k+1,_,h,hx,j,v,hv=>by rw [Ay,Du (by rw [Rp.len h.1,Nat.succ_mul];omega),Rp.len h.1,show (k+1) * Rp.sz α+j - Rp.sz α=k * Rp.sz α+j by rw [Nat.succ_mul];omega];exact xg.cells (k:=k) h.2 (by simpa using hx) j v hv
 | [],[],_,_,_,hx,_,_,_=>by simp at hx
 | [],_ :: _,_,_,h,_,_,_,_=>h.elim
 | _ :: _,[],_,_,h,_,_,_,_=>h.elim
theorem kD.els {a:Option Addr}{c:Nat}{l:List α}(h:kD F w a c l):∃ cs,xg F w cs l/\Sl w w.heap.size (Rp.sz α) a l.length cs.flatten:=by
 have key:∀ (m:List α)(o:Nat),(∀ i x,m[i]?=some x->∃ cs,Cells w (mU a) (o+i * Rp.sz α) cs/\Rp.rep F w cs x)->∃ cs,xg F w cs m/\Cells w (mU a) o cs.flatten:=by
   intro m
   induction m with
   | nil=>intro o _;exact ⟨[],kL,fun j v hv=>by simp at hv⟩
   | cons x m ih=>
    intro o hm;obtain ⟨c0,h0,h1⟩:=hm 0 x rfl;obtain ⟨cs,h2,h3⟩:=ih (o+Rp.sz α) (fun i y hy=>by
      have:=hm (i+1) y (by simpa using hy)
      rwa [show o+(i+1) * Rp.sz α=o+Rp.sz α+i * Rp.sz α by rw [Nat.succ_mul];omega] at this)
    refine ⟨c0 :: cs,⟨h1,h2⟩,fun j v hv=>?_⟩;rw [Ay] at hv;rcases wz j c0.length with hj | hj
    · rw [AL hj] at hv;have:=h0 j v hv
      rwa [Nat.zero_mul,Nat.add_zero] at this
    · rw [Du hj] at hv;have:=h3 _ v hv
      rwa [Rp.len h1,show o+Rp.sz α+(j - Rp.sz α)=o+j by rw [Rp.len h1] at hj;omega] at this
 rcases Nat.eq_zero_or_pos l.length with h0 | h0
 · have:l=[]:=List.eq_nil_of_length_eq_zero h0;subst this;exact ⟨[],kL,⟨by simp,fun h=>by simp at h⟩⟩
 · obtain ⟨h1,h2,h3,h4⟩:=h.2.2 h0;obtain ⟨cs,h5,h6⟩:=key l (nS a) h4;exact ⟨cs,h5,⟨h5.VG,fun _=>⟨_,_,h1,h3,h6⟩⟩⟩
end
def nth {α:Type}:List α→Nat→List α
 | a :: _,0=>[a]
 | _ :: l,n+1=>nth l n
 | [],_=>[]
def pick {α:Type}(L:List α):List Nat→List α
 | []=>[]
 | i :: l=>nth L i ++ pick L l
theorem NQ {α : Type}{x : α} : ∀ {L : List α}{i : Nat}, x ∈ nth L i → L[i]? = some x
  | a :: _, 0, h => by have : x = a := by simpa [nth] using h
                       rw [this]; rfl
  | _ :: l,n + 1,h=>NQ (L:=l) h
  | [],_,h=>by cases h
theorem WT {α:Type}{R:α→α→Prop}:∀ {L:List α}{i:Nat},(nth L i).Pairwise R
 | a :: _,0=>by simp [nth]
 | _ :: l,n+1=>WT (L:=l)
 | [],_=>List.Pairwise.nil
structure It where
 F:Nat->Prop
 p:World->Prop
 bd:∀ w,p w->∀ b,F b->b < w.heap.size
 st:∀ w w',p w->(∀ b,F b->w'.heap[b]?=w.heap[b]?)->w.heap.size<=w'.heap.size->p w'
def It.box (b:Nat)(t:TypeId)(cs:Array Value):It where
 F k:=k=b
 p w:=uO w b t cs
 bd w h k hk:=by subst hk;exact h.lt
 st w w' h k _:=by unfold uO at h ⊢;rw [k b rfl];exact h
def It.own (base:Nat)(A:Option Addr)(c:Nat)(e:TypeId)(sz:Nat)(cs:List (List Value)):It where
 F k:=rowOf A=some k
 p w:=Own w base e sz A cs.length c cs.flatten
 bd w h k hk:=(h.row k hk).2
 st w w' h k hs:=by
  refine ⟨h.1,?_⟩;rcases h.2 with h1 | ⟨g,cap,cur,h3,h4,h5,h6⟩
  · exact .inl h1
  · refine .inr ⟨g,cap,cur,h3,h4,?_,h6⟩;injection h3 with h3 _ _;rw [k g (by rw [h3];rfl)];exact h5
structure Da where
 ok:(Nat->Prop)->World->Prop
 mv:∀ {F G:Nat->Prop}{w w':World},ok F w->Mv F G w w'->ok G w'
def Da.l {α:Type}[Rp α](a:Option Addr)(c:Nat)(l:List α):Da:=⟨fun F w=>kD F w a c l,kD.mv⟩
def Da.els {α:Type}[Rp α](cs:List (List Value))(l:List α):Da:=⟨fun F w=>xg F w cs l,xg.mv⟩
def Da.at (b o:Nat)(cs:List Value):Da:=⟨fun F w=>F b/\b < w.heap.size/\Cells w b o cs,fun h k=>⟨(k.1 _ h.1 h.2.1).1,Nat.lt_of_lt_of_le h.2.1 k.2,h.2.2.same (k.1 _ h.1 h.2.1).2⟩⟩
def mW (L:List It):Nat->Prop:=fun b=>∃ it ∈ L,it.F b
def HY (w0:World)(Z:Nat->Prop)(L:List It):Nat->Prop:=fun b=>(b < w0.heap.size->Z b)/\∀ it ∈ L,¬ it.F b
def Ap (a c:It):Prop:=∀ b,a.F b->¬ c.F b
structure Bx (w0 w:World)(Z G:Nat->Prop)(L:List It)(D:List Da):Prop where
 tQ:Sg G w0 w
 it:∀ it ∈ L,it.p w/\∀ b,it.F b->b < w0.heap.size->G b
 pw:L.Pairwise Ap
 da:∀ d ∈ D,d.ok (HY w0 Z L) w
structure Pre (w0:World)(Z:Nat->Prop)(L:List It)(D:List Da):Prop where
 it:∀ it ∈ L,it.p w0
 z:∀ it ∈ L,∀ b,it.F b->¬ Z b
 pw:L.Pairwise Ap
 da:∀ d ∈ D,d.ok Z w0
theorem Mv.same {F G:Nat->Prop}{w:World}(h:∀ b,F b->b < w.heap.size->G b):Mv F G w w:=⟨fun b hb hl=>⟨h b hb hl,rfl⟩,mO _⟩
theorem Pre.bx {w0:World}{Z:Nat->Prop}{L:List It}{D:List Da}(h:Pre w0 Z L D):Bx w0 w0 Z (mW L) L D:=
 ⟨(Ext.refl w0).Gf _,fun it hi=>⟨h.it it hi,fun b hb _=>⟨it,hi,hb⟩⟩,h.pw,fun d hd=>d.mv (h.da d hd) (.same fun b hz _=>⟨fun _=>hz,fun it hi hb=>h.z it hi b hb hz⟩)⟩
section
variable {w0 w w':World}{Z G:Nat->Prop}{L:List It}{D:List Da}{it it':It}{i:Nat}
theorem Bx.at (h:Bx w0 w Z G L D)(i:Nat)(hi:L[i]?=some it):it.p w:=(h.it it (vM hi)).1
theorem Bx.bk (h:Bx w0 w Z G L D)(i:Nat){b:Nat}{t:TypeId}{cs:Array Value}(hi:L[i]?=some (.box b t cs)):uO w b t cs:=h.at i hi
theorem Bx.bo (h:Bx w0 w Z G L D)(i:Nat){base:Nat}{A:Option Addr}{c:Nat}{e:TypeId}{sz:Nat}{cs:List (List Value)}(hi:L[i]?=some (.own base A c e sz cs)):Own w base e sz A cs.length c cs.flatten:=h.at i hi
theorem Bx.d (h:Bx w0 w Z G L D)(i:Nat){d:Da}(hi:D[i]?=some d):d.ok (HY w0 Z L) w:=h.da d (vM hi)
theorem Bx.dl (h:Bx w0 w Z G L D)(i:Nat){α:Type}[Rp α]{a:Option Addr}{c:Nat}{l:List α}(hi:D[i]?=some (.l a c l)):kD (HY w0 Z L) w a c l:=h.d i hi
theorem Bx.de (h:Bx w0 w Z G L D)(i:Nat){α:Type}[Rp α]{cs:List (List Value)}{l:List α}(hi:D[i]?=some (.els cs l)):xg (HY w0 Z L) w cs l:=h.d i hi
theorem Bx.dc (h:Bx w0 w Z G L D)(i:Nat){b o:Nat}{cs:List Value}(hi:D[i]?=some (.at b o cs)):Cells w b o cs:=(h.d i hi).2.2
theorem Sz {R:It→It→Prop}:∀ {L:List It}{i j:Nat}{x y:It},L.Pairwise R→i < j→L[i]?=some x→L[j]?=some y→R x y
 | a :: L,0,j+1,x,y,h,_,hx,hy=>by simp only [Eu,Dz] at hx;subst hx;exact (Bu.1 h).1 y (vM (by simpa using hy))
 | a :: L,i+1,j+1,x,y,h,hij,hx,hy=>Sz (i:=i) (j:=j) (Bu.1 h).2 (by omega) (by simpa using hx) (by simpa using hy)
theorem Bx.apart (h:Bx w0 w Z G L D){j:Nat}{x y:It}(hij:i≠j)(hx:L[i]?=some x)(hy:L[j]?=some y):∀ b,x.F b->¬ y.F b:=by
 rcases Nat.lt_or_gt_of_ne hij with h1 | h1
 · exact Sz h.pw h1 hx hy
 · exact fun b hb hc=>Sz h.pw h1 hy hx b hc hb
theorem RS {R:It→It→Prop}:∀ {L:List It}{i:Nat}{y:It},L.Pairwise R→(∀ j x,j≠i→L[j]?=some x→R x y∧R y x)→(L.set i y).Pairwise R
 | [],i,y,_,_=>by simp
 | a :: L,0,y,h,k=>by rw [List.set_cons_zero];refine Bu.2 ⟨fun x hx=>?_,(Bu.1 h).2⟩;obtain ⟨j,hj⟩:=QY hx;exact (k (j+1) x (by omega) (by simpa using hj)).2
 | a :: L,i+1,y,h,k=>by
  rw [List.set_cons_succ];refine Bu.2 ⟨fun x hx=>?_,RS (Bu.1 h).2 fun j x hj hx=>k (j+1) x (by omega) (by simpa using hx)⟩;rcases Ie hx with hx | rfl
  · exact (Bu.1 h).1 x hx
  · exact (k 0 a (by omega) (by simp)).1
theorem Bx.step (h:Bx w0 w Z G L D){X:Nat->Prop}{L':List It}(hc:Sg X w w')(hX:∀ b,X b->b < w.heap.size->∃ it ∈ L,it.F b)(hp:∀ it ∈ L',it.p w')(hF:∀ it ∈ L',∀ b,it.F b->b < w.heap.size->∃ x ∈ L,x.F b)(hpw:L'.Pairwise Ap):Bx w0 w' Z G L' D:=by
 have hs:=h.tQ.size;refine ⟨⟨hc.os.trans h.tQ.os,hc.tape.trans h.tQ.tape,hc.output.trans h.tQ.output,rE hs hc.size,fun b hb hg=>?_⟩,fun it hi=>⟨hp it hi,fun b hb hl=>?_⟩,hpw,fun d hd=>d.mv (h.da d hd) ⟨fun b hf hl=>⟨⟨hf.1,fun it hi hb=>?_⟩,?_⟩,hc.size⟩⟩
 · rw [hc.block b (Nat.lt_of_lt_of_le hb hs) (fun hx=>?_)]
   · exact h.tQ.block b hb hg
   · obtain ⟨it,hi,hb'⟩:=hX b hx (Nat.lt_of_lt_of_le hb hs);exact hg ((h.it it hi).2 b hb' hb)
 · obtain ⟨x,hx,hxb⟩:=hF it hi b hb (Nat.lt_of_lt_of_le hl hs);exact (h.it x hx).2 b hxb hl
 · obtain ⟨x,hx,hxb⟩:=hF it hi b hb hl;exact hf.2 x hx hxb
 · refine hc.block b hl fun hx=>?_;obtain ⟨x,hx,hxb⟩:=hX b hx hl;exact hf.2 x hx hxb
theorem Bx.ext (h:Bx w0 w Z G L D)(e:Ext w w'):Bx w0 w' Z G L D:=
 h.step (X:=fun _=>False) (e.Gf _) (fun _ hx=>hx.elim) (fun it hi=>it.st w w' (h.it it hi).1 (fun b hb=>e.block b (it.bd w (h.it it hi).1 b hb)) e.size) (fun it hi b hb _=>⟨it,hi,hb⟩) h.pw
theorem Bx.drew (h:Bx w0 w Z G L D):Bx w0 w.drew Z G L D:=h.ext (Ext.refl w).drew
theorem Bx.push (h:Bx w0 w Z G L D)(e:Ext w w')(hp:it.p w')(hn:∀ b,it.F b->w.heap.size<=b):Bx w0 w' Z G (it :: L) D:=by
 refine h.step (X:=fun _=>False) (e.Gf _) (fun _ hx=>hx.elim) (fun x hx=>?_) (fun x hx b hb hl=>?_) (Bu.2 ⟨fun x hx b hb hc=>?_,h.pw⟩)
 · rcases oM.1 hx with rfl | hx
   · exact hp
   · exact ((h.ext e).it x hx).1
 · rcases oM.1 hx with rfl | hx
   · have:=hn b hb;omega
   · exact ⟨x,hx,hb⟩
 · have h1:=x.bd w (h.it x hx).1 b hc;have h2:=hn b hb;omega
theorem Bx.put (h:Bx w0 w Z G L D)(i:Nat)(hi:L[i]?=some it)(hc:Sg it.F w w')(hp:it'.p w')(hF:∀ b,it'.F b->it.F b\/w.heap.size<=b):Bx w0 w' Z G (L.set i it') D:=by
 have hm:=vM hi;have hel:∀ j x,j≠i->L[j]?=some x->x.p w':=fun j x hj hx=>
   x.st w w' (h.at j hx) (fun b hb'=>hc.block b (x.bd w (h.at j hx) b hb') (fun hc=>h.apart hj hx hi b hb' hc)) hc.size
 have hcase:∀ x ∈ L.set i it',x=it'\/∃ j,j≠i/\L[j]?=some x:=fun x hx=>by
   obtain ⟨j,hj⟩:=QY hx;by_cases hji:j=i
   · subst hji;rw [Bz (by exact (List.getElem?_eq_some_iff.1 hi).1)] at hj;cases hj;exact .inl rfl
   · rw [zu (Ne.symm hji)] at hj;exact .inr ⟨j,hji,hj⟩
 refine h.step hc (fun b hx _=>⟨it,hm,hx⟩) (fun x hx=>?_) (fun x hx b hb hl=>?_) (RS h.pw fun j x hj hx=>?_)
 · rcases hcase x hx with rfl | ⟨j,hj,hx⟩
   · exact hp
   · exact hel j x hj hx
 · rcases hcase x hx with rfl | ⟨j,hj,hx⟩
   · rcases hF b hb with h1 | h1
     · exact ⟨it,hm,h1⟩
     · omega
   · exact ⟨x,vM hx,hb⟩
 · have key:∀ b,x.F b->¬ it'.F b:=fun b hb1 hb2=>by
     rcases hF b hb2 with h1 | h1
     · exact h.apart hj hx hi b hb1 h1
     · have:=x.bd w (h.at j hx) b hb1;omega
   exact ⟨key,fun b h1 h2=>key b h2 h1⟩
theorem Bx.perm {L':List It}(h:Bx w0 w Z G L D)(hp:L.Perm L'):Bx w0 w Z G L' D:=
 h.step (X:=fun _=>False) ((Ext.refl w).Gf _) (fun _ hx=>hx.elim) (fun it hi=>(h.it it (hp.mem_iff.2 hi)).1) (fun it hi b hb _=>⟨it,hp.mem_iff.2 hi,hb⟩) ((hp.pairwise_iff (fun {a c} r b hb hc=>r b hc hb)).1 h.pw)
theorem Bx.sub {L':List It}(h:Bx w0 w Z G L D)(hs:L'.Sublist L):Bx w0 w Z G L' D:=
 h.step (X:=fun _=>False) ((Ext.refl w).Gf _) (fun _ hx=>hx.elim) (fun it hi=>(h.it it (hs.subset hi)).1) (fun it hi b hb _=>⟨it,hs.subset hi,hb⟩) (h.pw.sublist hs)
theorem Bx.tl (h:Bx w0 w Z G (it :: L) D):Bx w0 w Z G L D:=h.sub (List.sublist_cons_self it L)
theorem Ef:∀ {L:List It}{i:Nat}{it:It},L[i]?=some it→L.Perm (it :: L.eraseIdx i)
 | a :: L,0,it,h=>by simp only [Eu,Dz] at h;subst h;exact List.Perm.refl _
 | a :: L,i+1,it,h=>(List.Perm.cons a (Ef (i:=i) (by simpa using h))).trans (List.Perm.swap _ _ _)
theorem Bx.fr (h:Bx w0 w Z G L D)(i:Nat)(hi:L[i]?=some it):Bx w0 w Z G (it :: L.eraseIdx i) D:=h.perm (Ef hi)
theorem Bx.er (h:Bx w0 w Z G L D)(i:Nat):Bx w0 w Z G (L.eraseIdx i) D:=h.sub (List.eraseIdx_sublist L i)
theorem Bx.jX (h:Bx w0 w Z G L D){d:Da}(hd:d.ok (HY w0 Z L) w):Bx w0 w Z G L (d :: D):=
 ⟨h.tQ,h.it,h.pw,fun x hx=>by
  rcases oM.1 hx with rfl | hx
  · exact hd
  · exact h.da x hx⟩
theorem Bx.AR (h:Bx w0 w Z G L D){D':List Da}(hs:∀ d ∈ D',d ∈ D):Bx w0 w Z G L D':=⟨h.tQ,h.it,h.pw,fun d hd=>h.da d (hs d hd)⟩
theorem Bx.JE (h:Bx w0 w Z G L D)(i:Nat){d:Da}(hd:d.ok (HY w0 Z L) w):Bx w0 w Z G L (D.set i d):=
 ⟨h.tQ,h.it,h.pw,fun x hx=>by
  rcases Ie hx with hx | rfl
  · exact h.da x hx
  · exact hd⟩
theorem Dw {α:Type}{L:List α}:∀ {l:List Nat}{x:α},x ∈ pick L l→∃ i ∈ l,L[i]?=some x
 | i :: l,x,h=>by
  unfold pick at h;rcases pX.1 h with h | h
  · exact ⟨i,Bl ..,NQ h⟩
  · obtain ⟨j,h1,h2⟩:=Dw h;exact ⟨j,yw _ h1,h2⟩
theorem Bx.dp (h:Bx w0 w Z G L D)(l:List Nat):Bx w0 w Z G L (pick D l):=h.AR fun _ hd=>by obtain ⟨i,_,hi⟩:=Dw hd;exact vM hi
theorem Bx.new (h:Bx w0 w Z G L D){b:Nat}{t:TypeId}{cs:Array Value}(hge:w.heap.size<=b)(hB:uO w' b t cs)(he:Ext w w'):Bx w0 w' Z G (.box b t cs :: L) D:=
 h.push he hB (fun k hk=>by have hk:k=b:=hk;omega)
theorem Bx.wr (h:Bx w0 w Z G L D)(i:Nat){b:Nat}{t t':TypeId}{cs cs':Array Value}(hi:L[i]?=some (.box b t cs))(hc:Gc b w w')(hB:uO w' b t' cs'):Bx w0 w' Z G (L.set i (.box b t' cs')) D:=
 h.put i hi ⟨hc.os,hc.tape,hc.output,hc.size,fun k hk hn=>hc.block k hk (by intro e;injection e with e;exact hn (show k=b from e))⟩ hB (fun k hk=>.inl hk)
theorem Bx.owN (h:Bx w0 w Z G L D)(e:TypeId)(sz:Nat):Bx w0 w Z G (.own w0.heap.size none 0 e sz [] :: L) D:=
 h.push (Ext.refl w) (Own.nil w _ e sz) (fun k hk=>by (cases hk))
theorem Bx.EM (h:Bx w0 w Z G L D)(α:Type)[Rp α](e:TypeId):Bx w0 w Z G (.own w0.heap.size none 0 e (Rp.sz α) [] :: L) (.els [] ([]:List α) :: D):=
 (h.owN e (Rp.sz α)).jX kL
theorem Bx.Ul (h:Bx w0 w Z G L D)(i:Nat){base:Nat}{A A2:Option Addr}{c c2 n2 sz:Nat}{e:TypeId}{cs ds:List (List Value)}{ys:List Value}(hi:L[i]?=some (.own base A c e sz cs))(ho:Own w' base e sz A2 n2 c2 ys)(hn:n2=ds.length)(hy:ys=ds.flatten)(hg:w.grownBy w' (rowOf A))(hr:rowOf A2=rowOf A\/rowOf A2=some w.heap.size):Bx w0 w' Z G (L.set i (.own base A2 c2 e sz ds)) D:=
 h.put i hi ⟨hg.os,hg.tape,hg.output,hg.size,fun k hk hn=>hg.block k hk (fun e=>hn e.symm)⟩ (by subst hn hy;exact ho) (fun k hk=>by
  have hk:rowOf A2=some k:=hk;rcases hr with hr | hr
  · exact .inl (show rowOf A=some k by rw [<-hr];exact hk)
  · rw [hk] at hr;injection hr with hr;exact .inr (by omega))
theorem Bx.reb (h:Bx w0 w Z G L D)(i:Nat){base:Nat}{A:Option Addr}{c sz:Nat}{e:TypeId}{cs:List (List Value)}(base':Nat)(hi:L[i]?=some (.own base A c e sz cs))(hb:base'<=base):Bx w0 w Z G (L.set i (.own base' A c e sz cs)) D:=
 h.put i hi ((Ext.refl w).Gf _) (Own.mono (h.bo i hi) hb) (fun k hk=>.inl hk)
theorem Own.WQ {α:Type}[Rp α]{F:Nat->Prop}{w:World}{e:TypeId}{base:Nat}{A:Option Addr}{c:Nat}{cs:List (List Value)}{l:List α}(h:Own w base e (Rp.sz α) A cs.length c cs.flatten)(he:xg F w cs l)(hF:∀ b,rowOf A=some b->F b):kD F w A c l:=by have hc:=h.cap;rw [he.len] at h hc;refine ⟨hc.1,hc.2,fun h0=>?_⟩;obtain ⟨g,rfl⟩:=h.UO h0;refine ⟨rfl,hF g rfl,(h.row g rfl).2,fun i x hx=>?_⟩;obtain ⟨d,hd,hr⟩:=he.get hx;refine ⟨d,fun j v hv=>?_,hr⟩;show w.cell? ⟨g,0+i * Rp.sz α+j,none⟩=some v;rw [DV];exact h.cell (he.cells hd j v hv)
theorem Bx.frz (h:Bx w0 w Z G L D)(i j:Nat){α:Type}[Rp α]{e:TypeId}{A:Option Addr}{c:Nat}{cs:List (List Value)}{l:List α}(hi:L[i]?=some (.own w0.heap.size A c e (Rp.sz α) cs))(hj:D[j]?=some (.els cs l)) :Bx w0 w Z G (L.eraseIdx i) (.l A c l :: D.eraseIdx j):=by
 have h1:Bx w0 w Z G (L.eraseIdx i) (D.eraseIdx j):=(h.er i).AR fun d hd=>(List.eraseIdx_sublist D j).subset hd;have h2:=(h.er i).de j hj;refine h1.jX (d:=.l A c l) ((h.bo i hi).WQ h2 fun b hb=>⟨fun hl=>?_,fun it hit hb'=>?_⟩)
 · have:=((h.bo i hi).row b hb).1;omega
 · have hp:=(Ef hi).pairwise_iff (R:=Ap) (fun {a c} r b hb hc=>r b hc hb);have:=hp.1 h.pw;exact (Bu.1 this).1 it hit b hb hb'
def nodup:List Nat→Bool
 | []=>true
 | i :: l=>!l.contains i && nodup l
theorem Bx.arr (h:Bx w0 w Z G L D)(l:List Nat)(hn:nodup l=true):Bx w0 w Z G (pick L l) D:=by
 have hm:∀ x ∈ pick L l,x ∈ L:=fun x hx=>by obtain ⟨i,_,hi⟩:=Dw hx;exact vM hi
 refine h.step (X:=fun _=>False) ((Ext.refl w).Gf _) (fun _ hx=>hx.elim) (fun it hi=>(h.it it (hm it hi)).1) (fun it hi b hb _=>⟨it,hm it hi,hb⟩) ?_;clear hm
 induction l with
 | nil=>exact List.Pairwise.nil
 | cons i l ih=>
  simp only [nodup,Ep,Bool.not_eq_true',List.contains_eq_mem] at hn;unfold pick;refine List.pairwise_append.2 ⟨WT,ih hn.2,fun x hx y hy=>?_⟩;obtain ⟨j,h1,h2⟩:=Dw hy;refine h.apart (fun e=>?_) (NQ hx) h2;subst e;simp [h1] at hn
theorem Bx.dr (h:Bx w0 w Z G L D)(n m:Nat):Bx w0 w Z G (L.drop n) (D.drop m):=(h.sub (List.drop_sublist n L)).AR fun d hd=>List.mem_of_mem_drop hd
theorem kD.fn {α:Type}[Rp α]{F:Nat->Prop}{w:World}{a:Option Addr}{c:Nat}{l:List α}(h:kD F w a c l):∃ C:Nat->List Value,(∀ i y,l[i]?=some y->Cells w (mU a) (nS a+i * Rp.sz α) (C i))/\∀ i y,l[i]?=some y->Rp.rep F w (C i) y:=by
 have h1:∀ i:Nat,∃ cs,∀ y,l[i]?=some y->Cells w (mU a) (nS a+i * Rp.sz α) cs/\Rp.rep F w cs y:=fun i=>by
  cases hi:l[i]? with
  | none=>exact ⟨[],fun y hy=>by cases hy⟩
  | some x=>obtain ⟨cs,h2,h3⟩:=h.el hi;exact ⟨cs,fun y hy=>by cases hy;exact ⟨h2,h3⟩⟩
 exact ⟨fun i=>Classical.choose (h1 i),fun i y hy=>(Classical.choose_spec (h1 i) y hy).1,fun i y hy=>(Classical.choose_spec (h1 i) y hy).2⟩
theorem adB {F:Nat->Prop}{w:World}:∀ d ∈ ([]:List Da),d.ok F w:=fun _ h=>by cases h
theorem Uq {F:Nat->Prop}{w:World}{d:Da}{D:List Da}(h:d.ok F w)(k:∀ d ∈ D,d.ok F w):∀ x ∈ d :: D,x.ok F w:=fun x hx=>by
 rcases oM.1 hx with rfl | hx
 · exact h
 · exact k x hx
theorem Bx.pre {Lc Lr:List It}(h:Bx w0 w Z G (Lc ++ Lr) D){Dc:List Da}(hD:∀ d ∈ Dc,d.ok (HY w0 Z (Lc ++ Lr)) w):Pre w (HY w0 Z (Lc ++ Lr)) Lc Dc:=
 ⟨fun it hi=>(h.it it (List.mem_append_left _ hi)).1,fun it hi b hb hz=>hz.2 it (List.mem_append_left _ hi) hb,(List.pairwise_append.1 h.pw).1,hD⟩
theorem Bx.call {Lc Lr L1:List It}{D1:List Da}(h:Bx w0 w Z G (Lc ++ Lr) D)(k:Bx w w' (HY w0 Z (Lc ++ Lr)) (mW Lc) L1 D1):Bx w0 w' Z G (L1 ++ Lr) (D1 ++ D):=by
 have hpw:=List.pairwise_append.1 h.pw;have hb:Bx w0 w' Z G (L1 ++ Lr) D:=by
   refine h.step k.tQ (fun b ⟨it,hi,hb⟩ _=>⟨it,List.mem_append_left _ hi,hb⟩) (fun it hi=>?_) (fun it hi b hb hl=>?_) (List.pairwise_append.2 ⟨k.pw,hpw.2.1,fun x hx y hy b hb hc=>?_⟩)
   · rcases pX.1 hi with hi | hi
     · exact (k.it it hi).1
     · have h1:=(h.it it (List.mem_append_right _ hi)).1;exact it.st w w' h1 (fun b hb=>k.tQ.block b (it.bd w h1 b hb) fun ⟨x,hx,hxb⟩=>hpw.2.2 x hx it hi b hxb hb) k.tQ.size
   · rcases pX.1 hi with hi | hi
     · obtain ⟨x,hx,hxb⟩:=(k.it it hi).2 b hb hl;exact ⟨x,List.mem_append_left _ hx,hxb⟩
     · exact ⟨it,List.mem_append_right _ hi,hb⟩
   · have h1:=y.bd w (h.it y (List.mem_append_right _ hy)).1 b hc;obtain ⟨z,hz,hzb⟩:=(k.it x hx).2 b hb h1;exact hpw.2.2 z hz y hy b hzb hc
 refine ⟨hb.tQ,hb.it,hb.pw,fun d hd=>?_⟩;rcases pX.1 hd with hd | hd
 · refine d.mv (k.da d hd) (.same fun b hf hl=>⟨fun h0=>?_,fun it hi hb'=>?_⟩)
   · exact (hf.1 (Nat.lt_of_lt_of_le h0 h.tQ.size)).1 h0
   · rcases pX.1 hi with hi | hi
     · exact hf.2 it hi hb'
     · have h1:=it.bd w (h.it it (List.mem_append_right _ hi)).1 b hb';exact (hf.1 h1).2 it (List.mem_append_right _ hi) hb'
 · exact hb.da d hd
end
theorem mW.nil:mW []=fun _=>False:=funext fun b=>propext (Iff.intro (fun h=>by obtain ⟨_,h,_⟩:=h;cases h) (fun h=>h.elim))
theorem Bx.ex {w0 w:World}{Z:Nat->Prop}{L:List It}{D:List Da}(h:Bx w0 w Z (mW []) L D):Ext w0 w:=Sg.ext (by have:=h.tQ;rwa [mW.nil] at this)
def Wm (P:Program)(ρ:Operand->Value)(o:Oper)(w:World)(R:World->Prop):Prop:=∃ w',(execOp ρ o).run P w=.ok .skip w'/\R w'
section
variable {P:Program}{N:Fz}{ops:Array Oper}{K:KK}{rest:List Oper}{f:Fr}{w:World}{d:Option Nat}{op:Op}{ty:TypeId}{pos:String}{af:Array Edge}
theorem lg {R:World->Prop}(h:Wm P (ev f) ⟨d,op,ty,pos,af,none⟩ w R)(k:∀ w',R w'->o8 P N ops K rest (lH f d undef) w'):o8 P N ops K (⟨d,op,ty,pos,af,none⟩ :: rest) f w:=by obtain ⟨w',h1,h2⟩:=h;exact sDo h1 (k w' h2)
end
section
variable {P:Program}{N:Fz}{ops:Array Oper}{S:World->Prop}{T:List Nat}{K:KK}{f:Fr}{w:World}{n:Nat}{L:Array Bool}
end
section
variable {α:Type}[Rp α]{F:Nat->Prop}{w0 w w':World}{Z G:Nat->Prop}{L:List It}{D:List Da}
theorem vD {a:Option Addr}{c:Nat}{l:List α}{k:Nat}{x:α}{ds:List Value}(h:kD F w a c l)(hx:l[k]?=some x)(hr:∀ cs,Rp.rep F w cs x->cs=ds):Cells w (mU a) (nS a+k * Rp.sz α) ds:=by obtain ⟨cs,h1,h2⟩:=h.el hx;rw [<-hr cs h2];exact h1
theorem Bx.vw (h:Bx w0 w Z G L D)(i j:Nat){base:Nat}{A:Option Addr}{c:Nat}{e:TypeId}{cs:List (List Value)}{l:List α}(hi:L[i]?=some (.own base A c e (Rp.sz α) cs))(hj:D[j]?=some (.els cs l)):kD (fun _=>True) w A c l:=
 (h.bo i hi).WQ ((h.de j hj).mv (.same fun _ _ _=>trivial)) (fun _ _=>trivial)
theorem Bx.oc (h:Bx w0 w Z G L D)(i j:Nat){base:Nat}{A:Option Addr}{c k:Nat}{e:TypeId}{cs:List (List Value)}{l:List α}{d:List Value}(hi:L[i]?=some (.own base A c e (Rp.sz α) cs))(hj:D[j]?=some (.els cs l))(hd:cs[k]?=some d):Cells w (mU A) (nS A+k * Rp.sz α) d:=by have h1:=h.bo i hi;have h2:=h.de j hj;obtain ⟨g,rfl⟩:=h1.UO (by have:=ko hd;omega);intro q v hv;show w.cell? ⟨g,0+k * Rp.sz α+q,none⟩=some v;rw [DV];exact h1.cell (h2.cells hd q v hv)
theorem Bx.nm (h:Bx w0 w Z G L D)(i:Nat){a:Option Addr}{c:Nat}{l:List α}(hi:D[i]?=some (.l a c l)){k:Nat}{x:α}(hx:l[k]?=some x):∃ cs,Rp.rep (HY w0 Z L) w cs x/\Bx w0 w Z G L (.at (mU a) (nS a+k * Rp.sz α) cs :: D):=by obtain ⟨cs,h1,h2⟩:=(h.dl i hi).el hx;have h3:=(h.dl i hi).fb hx;exact ⟨cs,h2,h.jX (d:=.at _ _ cs) ⟨h3.1,h3.2,h1⟩⟩
end
section
variable {P:Program}{w:World}{ρ:Operand->Value}{d:Option Nat}{ty:TypeId}{pos:String}{af:Array Edge}{g:Option (Nat × Bool)}
theorem kZ {α:Type}[Rp α]{F:Nat->Prop}{w1:World}{a:Option Addr}{c:Nat}{l:List α}{v:α}{t e:TypeId}{x y:Operand}{k:IntKind}{i:Int}{z:Value}{by_ j:Nat}(ht:P.underlying t=some (.slice e))(he:TI P e z (Rp.sz α) by_)(hx:ρ x=.slice a l.length c)(hy:ρ y=.int k i)(hi:i=(j:Int))(hs:kD F w1 a c l)(hj:l[j]?=some v):Yl P ρ (.indexAddr t x y) d ty pos af g w (.pointer (some ⟨mU a,nS a+j * Rp.sz α,none⟩)):=by rw [hs.UO hj] at hx;exact xIdx (P:=P) (w:=w) (d:=d) (ty:=ty) (pos:=pos) (af:=af) (g:=g) j ht he hx hy hi (ko hj)
theorem mV {n:Nat}{a:Option Addr}{c:Nat}{t e:TypeId}{x:Operand}(ht:P.underlying t=some (.slice e))(hx:ρ x=.slice a n c) :
 Yl P ρ (.call { callee:=.builtin .len,args:=#[x],argTypes:=#[t] }) d ty pos af g w (.int .i64 (n:Nat)):=afj ht hx
def wr (n:Int):Int:=IntKind.i64.wrap n
theorem kP {t t':TypeId}{x y:Operand}{a b:Int}(hx:ρ x=.int .i64 a)(hy:ρ y=.int .i64 b):Yl P ρ (.binOp .add t x y t') d ty pos af g w (.int .i64 (wr (a+b))):=aeo hx hy
theorem zy {t t':TypeId}{x y:Operand}{a b:Int}(hx:ρ x=.int .i64 a)(hy:ρ y=.int .i64 b):Yl P ρ (.binOp .sub t x y t') d ty pos af g w (.int .i64 (wr (a - b))):=adq hx hy
theorem Z5 {t t':TypeId}{x y:Operand}{a b:Int}(hx:ρ x=.int .i64 a)(hy:ρ y=.int .i64 b):Yl P ρ (.binOp .mul t x y t') d ty pos af g w (.int .i64 (wr (a * b))):=afu hx hy
theorem aeI {t t':TypeId}{x y:Operand}{a b:Int}(hx:ρ x=.int .i64 a)(hy:ρ y=.int .i64 b)(h0:¬ b=0):Yl P ρ (.binOp .quo t x y t') d ty pos af g w (.int .i64 (wr (a.tdiv b))):=afv hx hy h0
theorem Z7 {t t':TypeId}{x y:Operand}{a b:Int}(hx:ρ x=.int .i64 a)(hy:ρ y=.int .i64 b)(h0:¬ b=0):Yl P ρ (.binOp .rem t x y t') d ty pos af g w (.int .i64 (a.tmod b)):=aeY hx hy h0
def w8 (n:Int):Int:=IntKind.u8.wrap n
theorem ad6 {t t':TypeId}{x y:Operand}{a b:Int}(hx:ρ x=.int .u8 a)(hy:ρ y=.int .u8 b):Yl P ρ (.binOp .sub t x y t') d ty pos af g w (.int .u8 (w8 (a - b))):=adq hx hy
theorem afq {k:IntKind}{a:Int}{s t:TypeId}{x:Operand}(hs:∃ dsc,P.underlying s=some dsc)(ht:P.underlying t=some (.int .i64))(hx:ρ x=.int k a):Yl P ρ (.convert s t x) d ty pos af g w (.int .i64 (wr a)):=aan _ hs ht hx
theorem afd {k:IntKind}{a:Int}{s t:TypeId}{x:Operand}(hs:∃ dsc,P.underlying s=some dsc)(ht:P.underlying t=some (.int .u8))(hx:ρ x=.int k a):Yl P ρ (.convert s t x) d ty pos af g w (.int .u8 (w8 a)):=aan _ hs ht hx
def ixs (s:ByteArray)(i:Int):Option Int:=if i < 0 then none else (s[i.toNat]?).map fun b=>((b.toNat:Nat):Int)
theorem YF {s:ByteArray}{i x:Int}(h:ixs s i=some x):∃ k:Nat,i=(k:Int)/\∃ b,s[k]?=some b/\((b.toNat:Nat):Int)=x:=by
 unfold ixs at h;split at h
 · cases h
 · obtain ⟨b,h1,h2⟩:=Option.map_eq_some_iff.1 h;exact ⟨i.toNat,by omega,b,h1,h2⟩
def VA (s:ByteArray)(a b:Int):Option ByteArray:=if 0<=a/\a<=b/\b<=s.size then some (s.extract a.toNat b.toNat) else none
theorem Yq {s r:ByteArray}{a b:Int}(h:VA s a b=some r):∃ i j:Nat,a=(i:Int)/\b=(j:Int)/\i<=j/\j<=s.size/\s.extract i j=r:=by
 unfold VA at h;split at h
 · rename_i hc;exact ⟨a.toNat,b.toNat,by omega,by omega,by omega,by omega,sm h⟩
 · cases h
theorem KM {t:TypeId}{x y:Operand}{s:ByteArray}{k:IntKind}{i v:Int}(ht:P.underlying t=some .string)(hx:ρ x=.string s)(hy:ρ y=.int k i)(h:ixs s i=some v):Yl P ρ (.index t x y) d ty pos af g w (.int .u8 v):=by obtain ⟨j,rfl,b,h1,rfl⟩:=YF h;simp [Yl,execOp,Instr.index,run_underlying ht,hx,hy,asIntOf,h1]
theorem abx {t:TypeId}{x y z:Operand}{s r:ByteArray}{k k':IntKind}{a b:Int}(ht:P.underlying t=some .string)(hx:ρ x=.string s)(hy:ρ y=.int k a)(hz:ρ z=.int k' b)(h:VA s a b=some r):Yl P ρ (.slice t x (some y) (some z) none) d ty pos af g w (.string r):=by
 obtain ⟨i,j,rfl,rfl,h1,h2,rfl⟩:=Yq h;have h3:(i:Int)<=(j:Int):=by omega
 have h4:(j:Int)<=(s.size:Int):=by omega
 simp [Yl,execOp,Instr.sliceAt,Instr.slice,run_underlying ht,hx,hy,hz,Instr.sliceBounds,Instr.sliceBound,asIntOf,h1,h2]
theorem mD {t t':TypeId}{x y:Operand}{a b r:ByteArray}(hx:ρ x=.string a)(hy:ρ y=.string b)(h:cat a b=some r):Yl P ρ (.binOp .add t x y t') d ty pos af g w (.string r):=by
 obtain ⟨h1,rfl⟩:=YN h;have hm:¬ (((a.size+b.size:Nat):Int) > IntKind.i64.max):=by
  have:IntKind.i64.max=9223372036854775807:=by decide
  rw [this];omega
 simp only [Yl,execOp,hx,hy,eqGuard,binOp,Op.stringOp];simp only [lD hm];rfl
theorem Xf (a b:ByteArray):(a.toList == b.toList)=decide (a=b):=by
 by_cases h:a=b
 · subst h;simp
 · rw [Ja h];refine beq_false_of_ne fun e=>h ?_;rw [ByteArray.toList_eq,ByteArray.toList_eq] at e;obtain ⟨⟨x⟩⟩:=a;obtain ⟨⟨y⟩⟩:=b;simpa using e
theorem tF {t t':TypeId}{x y:Operand}{a b:ByteArray}(hx:ρ x=.string a)(hy:ρ y=.string b):Yl P ρ (.binOp .eql t x y t') d ty pos af g w (.bool (decide (a=b))):=by have h:=Xf a b;simp [Yl,execOp,hx,hy,eqGuard,binOp,Op.stringOp,h]
theorem NU {t t':TypeId}{x y:Operand}{a b:ByteArray}(hx:ρ x=.string a)(hy:ρ y=.string b):Yl P ρ (.binOp .neq t x y t') d ty pos af g w (.bool (decide (¬ a=b))):=by have h:=Xf a b;simp [Yl,execOp,hx,hy,eqGuard,binOp,Op.stringOp,h]
end
section
variable {P:Program}{w0 w w':World}{Z G:Nat->Prop}{L:List It}{D:List Da}{ρ:Operand->Value}{d:Option Nat}{ty:TypeId}{pos:String}{af:Array Edge}{g:Option (Nat × Bool)}
theorem rC (hL:Bx w0 w Z G L D){o:Oper}{t:TypeId}{cs:Array Value}(h:(execOp ρ o).run P w=.ok (.value (.pointer (some ⟨w.heap.size,0,none⟩))) (w.alloc (.cells cs t))) :To P ρ o w fun v w'=>∃ b,v=.pointer (some ⟨b,0,none⟩)/\Bx w0 w' Z G (.box b t cs :: L) D:=
 ⟨_,_,h,_,rfl,hL.new (mO _) (uO.new w t cs) ((Ext.refl w).alloc _)⟩
theorem jL (hL:Bx w0 w Z G L D){α:Type}[Rp α]{o:Oper}{e:TypeId}{cs:Array Value}{n:Nat}(ds:List (List Value))(l:List α)(h:(execOp ρ o).run P w=.ok (.value (.slice (some ⟨w.heap.size,0,none⟩) n n)) (w.alloc (.cells cs e)))(hc:cs.toList=ds.flatten)(hn:n=l.length)(hm:n<=maxLen)(he:xg (HY w0 Z L) w ds l) :To P ρ o w fun v w'=>∃ b,v=.slice (some ⟨b,0,none⟩) l.length n/\Bx w0 w' Z G (.own w0.heap.size (some ⟨b,0,none⟩) n e (Rp.sz α) ds :: L) (.els ds l :: D):=by
 subst hn;refine ⟨_,_,h,_,rfl,?_⟩;have hB:=uO.new w e cs;have he1:Ext w (w.alloc (.cells cs e)):=(Ext.refl w).alloc _;have hfl:=he.VG;have ho:Own (w.alloc (.cells cs e)) w0.heap.size e (Rp.sz α) (some ⟨w.heap.size,0,none⟩) l.length l.length cs.toList:=hB.own hL.tQ.size hm (by rw [<-hfl,<-hc];simp);rw [hc,<-he.len] at ho;have h1:Bx w0 (w.alloc (.cells cs e)) Z G (.own w0.heap.size (some ⟨w.heap.size,0,none⟩) l.length e (Rp.sz α) ds :: L) D:=
   hL.push he1 (by rw [<-he.len];exact ho) (fun k hk=>by simp [It.own,rowOf] at hk;omega)
 refine h1.jX (d:=.els ds l) (he.mv ⟨fun b hb hl=>⟨⟨hb.1,fun it hi hf=>?_⟩,he1.block b hl⟩,he1.size⟩);rcases oM.1 hi with rfl | hi
 · simp [It.own,rowOf] at hf;omega
 · exact hb.2 it hi hf
theorem Yk (hL:Bx w0 w Z G L D)(i:Nat){t te:TypeId}{x y:Operand}{z:Value}{s by_ b o:Nat}{old cs':Array Value}(vs:List Value)(hi:L[i]?=some (.box b te old))(ht:TI P t z s by_)(hs:s=vs.length)(hx:ρ x=.pointer (some ⟨b,o,none⟩))(hy:(ρ y).cells=vs.toArray)(h1:vs.all (fun v=>v.oneCell')=true)(hl:Nat.ble (o+vs.length) old.size=true)(hc:(old.toList.take o ++ vs ++ old.toList.drop (o+vs.length)).toArray=cs') :Wm P ρ ⟨d,.store t x y,ty,pos,af,g⟩ w fun w'=>Bx w0 w' Z G (L.set i (.box b te cs')) D:=by subst hc hs;obtain ⟨q,hi1,hi2,hi3,hi4⟩:=ht;have hB:=hL.bk i hi;have hst:=run_storeCells_at (P:=P) b o te vs 0 old w hB (by have:=Nat.le_of_ble_eq_true hl;omega) (fun v hv=>List.all_eq_true.1 h1 v hv);rw [Nat.add_zero] at hst;refine ⟨_,?_,hL.wr i hi (Gc.setRow w b _) (hB.setRow _)⟩;simp [execOp,hx,Instr.storeAt,Instr.sureAddr,storeVar,sizeOf,typeInfo,hi1,hi3,hy,hst]
theorem ku (hL:Bx w0 w Z G L D){α:Type}[Rp α](i j:Nat){t e:TypeId}{s x:Operand}{z:Value}{by_ base:Nat}{A A':Option Addr}{c c':Nat}{cs:List (List Value)}{l m r:List α}(hi:L[i]?=some (.own base A c e (Rp.sz α) cs))(hj:D[j]?=some (.els cs l))(ht:P.underlying t=some (.slice e))(hti:TI P e z (Rp.sz α) by_)(hz:z.cells.size=Rp.sz α)(h0:0 < Rp.sz α)(hb:by_<=100000)(hbase:base<=w0.heap.size)(hs:ρ s=.slice A l.length c)(hx:ρ x=.slice A' m.length c')(hy:∃ ds,xg (HY w0 Z L) w ds m/\Sl w w.heap.size (Rp.sz α) A' m.length ds.flatten)(hr:Fw.app l m=some r) :To P ρ ⟨d,.call { callee:=.builtin .append,args:=#[s,x],argTypes:=#[t,t] },ty,pos,af,g⟩ w fun v w'=>∃ A2 c2 cs2,v=.slice A2 r.length c2/\Bx w0 w' Z G (L.set i (.own base A2 c2 e (Rp.sz α) cs2)) (D.set j (.els cs2 r)):=by obtain ⟨hm,rfl⟩:=qy hr;obtain ⟨ds,hd,hsl⟩:=hy;have hE:=hL.de j hj;have ho:=hL.bo i hi;rw [hE.len] at ho;have hbb:(l.length+m.length) * by_<=140737488355328:=rE (Nat.mul_le_mul hm hb) (by decide);obtain ⟨v,w',h1,A2,c2,rfl,h2,h3,h4⟩:=TR (P:=P) (ρ:=ρ) (w:=w) (d:=d) (ty:=ty) (pos:=pos) (af:=af) (g:=g) base (l ++ m).length ht hti hz h0 hs hx ho hsl (xg.one hd) (rE hbase hL.tQ.size) (by omega) hbb (by simp);have h5:xg (HY w0 Z L) w (cs ++ ds) (l ++ m):=hE.app hd;refine ⟨_,w',h1,A2,c2,cs ++ ds,rfl,?_⟩;have h6:Bx w0 w Z G L (D.set j (.els (cs ++ ds) (l ++ m))):=hL.JE j h5;exact h6.Ul i hi h2 h5.len.symm (by simp) h3 h4
theorem Bx.Bo (hL:Bx w0 w Z G L D){α:Type}[Rp α](i j:Nat){e:TypeId}{base c:Nat}{A:Option Addr}{cs:List (List Value)}{l:List α}(hi:L[i]?=some (.own base A c e (Rp.sz α) cs))(hj:D[j]?=some (.els cs l)):∃ ds,xg (HY w0 Z L) w ds l/\Sl w w.heap.size (Rp.sz α) A l.length ds.flatten:=
 ⟨cs,hL.de j hj,by have:=(hL.bo i hi).sl;rwa [(hL.de j hj).len] at this⟩
theorem Bx.CG (hL:Bx w0 w Z G L D){α:Type}[Rp α](i j:Nat){e:TypeId}{base c n:Nat}{A:Option Addr}{cs:List (List Value)}{l r:List α}(hi:L[i]?=some (.own base A c e (Rp.sz α) cs))(hj:D[j]?=some (.els cs l))(hn:n<=l.length)(hr:(l.drop 0).take (n - 0)=r):∃ ds,xg (HY w0 Z L) w ds r/\Sl w w.heap.size (Rp.sz α) A r.length ds.flatten:=by
 subst hr;rw [List.drop_zero,Nat.sub_zero];have hE:=hL.de j hj;have hs:=(hL.bo i hi).sl;rw [hE.len] at hs;have h1:=hs.take hn;have hl:(l.take n).length=n:=by rw [wI];omega
 refine ⟨cs.take n,hE.take n,?_⟩;rw [hl];have key:∀ {cs:List (List Value)}{l:List α}(n:Nat),n<=l.length->xg (HY w0 Z L) w cs l->(cs.take n).flatten=cs.flatten.take (n * Rp.sz α):=by
  intro cs
  induction cs with
  | nil=>intro l n _ _;simp
  | cons c cs ih=>
   intro l n hn hE;cases l with
   | nil=>exact hE.elim
   | cons x l=>
    cases n with
    | zero=>simp
    | succ n=>
     have hc:=Rp.len hE.1;have h2:(n+1) * Rp.sz α - c.length=n * Rp.sz α:=by rw [hc,Nat.succ_mul];omega
     have h3:c.length<=(n+1) * Rp.sz α:=by rw [hc,Nat.succ_mul];omega
     rw [List.take_succ_cons,Ay,Ay,ih n (by simpa using hn) hE.2,List.take_append,h2,List.take_of_length_le h3]
 rw [key n hn hE];exact h1
theorem Bx.Rv (hL:Bx w0 w Z G L D){α:Type}[Rp α](i:Nat){a:Option Addr}{c:Nat}{l:List α}(hi:D[i]?=some (.l a c l)):∃ ds,xg (HY w0 Z L) w ds l/\Sl w w.heap.size (Rp.sz α) a l.length ds.flatten:=(hL.dl i hi).els
theorem kD.part {α:Type}[Rp α]{F:Nat->Prop}{w:World}{a:Option Addr}{c:Nat}{l:List α}(h:kD F w a c l){i j:Nat}(hij:i<=j)(hj:j<=l.length):kD F w (if c=i then a else a.map (·.add (i * Rp.sz α))) (c - i) ((l.drop i).take (j - i)):=by
 have hc:=h.1;have hlen:((l.drop i).take (j - i)).length=j - i:=by rw [wI,Cy];omega
 refine ⟨by omega,by have:=h.2.1;omega,fun h0=>?_⟩;obtain ⟨h1,h2,h3,h4⟩:=h.2.2 (by omega);rw [lD (by omega)];have hb:mU (a.map (·.add (i * Rp.sz α)))=mU a:=by rw [h1];simp [Addr.add_lit,mU]
 have ho:nS (a.map (·.add (i * Rp.sz α)))=nS a+i * Rp.sz α:=by rw [h1];simp [Addr.add_lit,nS]
 rw [hb,ho];refine ⟨by rw [h1];simp [Addr.add_lit,mU,nS],h2,h3,fun k x hx=>?_⟩;rw [List.getElem?_take] at hx;split at hx
 · rw [List.getElem?_drop] at hx;obtain ⟨cs,h5,h6⟩:=h4 _ x hx;refine ⟨cs,?_,h6⟩;have:nS a+(i+k) * Rp.sz α=nS a+i * Rp.sz α+k * Rp.sz α:=by rw [Nat.add_mul];omega
   rw [this] at h5;exact h5
 · cases hx
end
section
variable {P:Program}{w:World}{ρ:Operand->Value}{d:Option Nat}{ty:TypeId}{pos:String}{af:Array Edge}{g:Option (Nat × Bool)}
theorem kD.head {α:Type}[Rp α]{F:Nat->Prop}{w:World}{a:Option Addr}{c:Nat}{l:List α}(h:kD F w a c l){j:Nat}(hj:j<=l.length):kD F w a c ((l.drop 0).take (j - 0)):=by
 rw [List.drop_zero,Nat.sub_zero];have hl:(l.take j).length=j:=by rw [wI];omega
 refine ⟨by have:=h.1;omega,h.2.1,fun h0=>?_⟩;obtain ⟨h1,h2,h3,h4⟩:=h.2.2 (by omega);refine ⟨h1,h2,h3,fun i x hx=>h4 i x ?_⟩;rw [List.getElem?_take] at hx;split at hx
 · exact hx
 · cases hx
end
theorem Zh {P:Program}{w:World}{ρ:Operand->Value}{d:Option Nat}{ty:TypeId}{pos:String}{af:Array Edge}{g:Option (Nat × Bool)}{x:Operand}{a:Addr}(hx:ρ x=.pointer (some a)):Yl P ρ (.nilCheck x) d ty pos af g w (.pointer (some a)):=by simp [Yl,execOp,hx]
theorem bt {p:Prop}[Decidable p](h:p):Value.bool (decide p)=.bool true:=by rw [IX h]
theorem bf {p:Prop}[Decidable p](h:¬ p):Value.bool (decide p)=.bool false:=by rw [Ja h]
theorem nt {b:Bool}(h:¬ b=true):b=false:=by cases b with
 | true=>exact absurd rfl h
 | false=>rfl
theorem wJ {P:Program}{N:Fz}{Q:Post}{f:Fr}{w:World}{x:Code}(J:Fr->World->Prop)(h:WP P N x { Q with n:=J } f w)(k:∀ f w,J f w->Q.n f w):WP P N x Q f w:=
 h.mono (fun f w hj=>k f w hj) (fun _ _ _ h=>h) (fun _ _ h=>h) (fun _ _ _ h=>h)
def Yg (P:Program)(f:Fr)(w:World):ResultVar→Value→Prop
 | .tmp t,v=>f t=v
 | .cell t ty,v=>∃ b te cs,f t=.pointer (some ⟨b,0,none⟩)/\uO w b te cs/\(loadVar ty ⟨b,0,none⟩).run P w=.ok v w
theorem uI {P:Program}{f:Fr}{w:World}{t b:Nat}{ty te:TypeId}{D:TypeDesc}{z:Value}{s by_:Nat}{cs:Array Value}(hf:f t=.pointer (some ⟨b,0,none⟩))(hu:P.underlying ty=some D)(hD:MK D=true)(hi:TI P ty z s by_)(hs:s=cs.size)(hB:uO w b te cs):Yg P f w (.cell t ty) (.agg cs):=by
 refine ⟨b,te,cs,hf,hB,?_⟩;have hl := nT (P := P) (w := w) (ρ := fun _ => .pointer (some ⟨b, 0, none⟩)) (d := none) (ty := 0) (pos := "") (af := #[]) (g := none) (x := .tmp 0) cs.toList hu hD hi (by simpa using hs) rfl hB.cells
 simp only [Yl,execOp,Instr.loadAt,Instr.sureAddr,Sem.run_bind,Sem.run_pure,Result.andThen_ok] at hl;cases hq:(loadVar ty ⟨b,0,none⟩).run P w with
 | ok v w'=>rw [hq] at hl;simp at hl;rw [hl.1,hl.2]
 | halt h w'=>rw [hq] at hl;simp at hl
theorem nH {P:Program}{f:Fr}{w:World}{t:Nat}{v:Value}(hf:f t=v):Yg P f w (.tmp t) v:=hf
theorem I5 {P:Program}{f:Fr}{w:World}{r:ResultVar}{v:Value}(h:Yg P f w r v)(a:Array Value)(ha:∀ t,a.getD t undef=f t) :(∃ t,r=.tmp t/\a[t]?.getD undef=v)\/∃ q ty b,r=.cell q ty/\a[q]?.getD undef=.pointer (some ⟨b,0,none⟩)/\(loadVar ty ⟨b,0,none⟩).run P w=.ok v w:=by
 cases r with
 | tmp t=>have h:f t=v:=h;exact .inl ⟨t,rfl,by have:=ha t;rw [Array.getD_eq_getD_getElem?] at this;rw [this];exact h⟩
 | cell t ty=>
  obtain ⟨b,te,cs,h1,h2,h3⟩:=h;exact .inr ⟨t,ty,b,rfl,by have:=ha t;rw [Array.getD_eq_getD_getElem?] at this;rw [this];exact h1,h3⟩
theorem jN {P:Program}{fn:Func}{R:Value->World->Prop}{f:Fr}{w:World}{r:ResultVar}{v:Value}(hr:fn.results=#[r])(h1:Yg P f w r v)(h:R v w):Reads P fn R f w:=by unfold Reads;intro a ha;refine ⟨v,?_,h⟩;rcases I5 h1 a ha with ⟨t1,rfl,e1⟩|⟨q1,ty1,b1,rfl,e1,k1⟩ <;> clear ha h1 <;> simp [results,asAddr, *]
theorem CP {P:Program}{fn:Func}{R:Value->World->Prop}{f:Fr}{w:World}{r r':ResultVar}{v v':Value}(hr:fn.results=#[r,r'])(h1:Yg P f w r v)(h2:Yg P f w r' v')(h:R (.tuple #[v,v']) w):Reads P fn R f w:=by unfold Reads;intro a ha;refine ⟨_,?_,h⟩;rcases I5 h1 a ha with ⟨t1,rfl,e1⟩|⟨q1,ty1,b1,rfl,e1,k1⟩ <;> rcases I5 h2 a ha with ⟨t2,rfl,e2⟩|⟨q2,ty2,b2,rfl,e2,k2⟩ <;> clear ha h1 h2 <;> simp [results,asAddr, *]
theorem Br {P:Program}{fn:Func}{R:Value->World->Prop}{f:Fr}{w:World}{r r' r'':ResultVar}{v v' v'':Value}(hr:fn.results=#[r,r',r''])(h1:Yg P f w r v)(h2:Yg P f w r' v')(h3:Yg P f w r'' v'')(h:R (.tuple #[v,v',v'']) w):Reads P fn R f w:=by unfold Reads;intro a ha;refine ⟨_,?_,h⟩;rcases I5 h1 a ha with ⟨t1,rfl,e1⟩|⟨q1,ty1,b1,rfl,e1,k1⟩ <;> rcases I5 h2 a ha with ⟨t2,rfl,e2⟩|⟨q2,ty2,b2,rfl,e2,k2⟩ <;> rcases I5 h3 a ha with ⟨t3,rfl,e3⟩|⟨q3,ty3,b3,rfl,e3,k3⟩ <;> clear ha h1 h2 h3 <;> simp [results,asAddr, *]
end Go.Fw
