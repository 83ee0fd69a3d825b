/- Rows within rows: a row of slices, each of which is a row of one's own. Over any program. -/
import Derived.Test.YtfglbdkfnphjgaaDr
import Derived.Test.YtfglbdkfnphjgaaBw
set_option linter.unusedVariables false
namespace Go.Fw
open Go.RowKit
structure Rw where
 a:Option Addr
 c:Nat
 cs:List (List Value)
def Rw.hdr (r:Rw):List Value:=[.slice r.a r.cs.length r.c]
section
variable {α:Type} [Rp α] {F G:Nat→Prop} {w w':World}
def Els2 (F:Nat→Prop) (w:World):List Rw→List (List α)→Prop
 | [],[]=>True
 | r :: R,l :: m=>Els F w r.cs l∧Els2 F w R m
 | _,_=>False
theorem Els2.mv:∀ {R:List Rw} {m:List (List α)},Els2 F w R m→Mv F G w w'→Els2 G w' R m
 | [],[],_,_=>trivial
 | _ :: _,_ :: _,h,k=>⟨h.1.mv k,Els2.mv h.2 k⟩
 | [],_ :: _,h,_=>h.elim
 | _ :: _,[],h,_=>h.elim
theorem Els2.len:∀ {R:List Rw} {m:List (List α)},Els2 F w R m→R.length=m.length
 | [],[],_=>rfl
 | _ :: _,_ :: _,h=>congrArg (·+1) (Els2.len h.2)
 | [],_ :: _,h=>h.elim
 | _ :: _,[],h=>h.elim
theorem Els2.get:∀ {R:List Rw} {m:List (List α)} {k:Nat} {x:List α},Els2 F w R m→m[k]?=some x→∃ r,R[k]?=some r∧Els F w r.cs x
 | r :: _,_ :: _,0,x,h,hx=>by simp only [List.getElem?_cons_zero,Option.some.injEq] at hx;subst hx;exact ⟨r,rfl,h.1⟩
 | _ :: _,_ :: _,k+1,x,h,hx=>Els2.get (k:=k) h.2 (by simpa using hx)
 | [],[],_,_,_,hx=>by simp at hx
 | [],_ :: _,_,_,h,_=>h.elim
 | _ :: _,[],_,_,h,_=>h.elim
theorem Els2.set:∀ {R:List Rw} {m:List (List α)} (k:Nat) {r:Rw} {x:List α},Els2 F w R m→Els F w r.cs x→Els2 F w (R.set k r) (m.set k x)
 | [],[],_,_,_,_,_=>trivial
 | _ :: _,_ :: _,0,_,_,h,k=>⟨k,h.2⟩
 | _ :: _,_ :: _,n+1,_,_,h,k=>⟨h.1,Els2.set n h.2 k⟩
 | [],_ :: _,_,_,_,h,_=>h.elim
 | _ :: _,[],_,_,_,h,_=>h.elim
theorem Els2.app:∀ {R:List Rw} {m:List (List α)} {S:List Rw} {n:List (List α)},Els2 F w R m→Els2 F w S n→Els2 F w (R ++ S) (m ++ n)
 | [],[],_,_,_,k=>k
 | _ :: _,_ :: _,_,_,h,k=>⟨h.1,Els2.app h.2 k⟩
 | [],_ :: _,_,_,h,_=>h.elim
 | _ :: _,[],_,_,h,_=>h.elim
end
def Da.els2 {α:Type} [Rp α] (R:List Rw) (m:List (List α)):Da:=⟨fun F w=>Els2 F w R m,Els2.mv⟩
theorem Own.same {w w':World} {base:Nat} {e:TypeId} {sz n c:Nat} {A:Option Addr} {xs:List Value} (h:Own w base e sz A n c xs) (k:∀ b,rowOf A=some b→w'.heap[b]?=w.heap[b]?):Own w' base e sz A n c xs:=by
 refine ⟨h.1,?_⟩
 rcases h.2 with h1 | ⟨g,cap,cur,h3,h4,h5,h6⟩
 · exact .inl h1
 · refine .inr ⟨g,cap,cur,h3,h4,?_,h6⟩
   injection h3 with h3 _ _
   rw [k g (by rw [h3];rfl)]
   exact h5
section
variable {α:Type} [Rp α] {w0 w w':World} {Z G:Nat→Prop} {L Lr:List It} {D:List Da} {base e sz:Nat} {R:List Rw} {m:List (List α)} {k:Nat} {x:List α}
theorem Bx.d2 (h:Bx w0 w Z G L D) (j:Nat) (hj:D[j]?=some (.els2 R m)):Els2 (Frz w0 Z L) w R m:=h.d j hj
theorem Bx.hd (h:Bx w0 w Z G L D) (i:Nat) {A:Option Addr} {c:Nat} {H H':List (List Value)} (hi:L[i]?=some (.own base A c e sz H)) (hH:H=H'):Bx w0 w Z G (L.set i (.own base A c e sz H')) D:=by
 subst hH
 exact h.put i hi ((Ext.refl w).chgd _) (h.bo i hi) (fun k hk=>.inl hk)
theorem hdr_flat (R:List Rw):(R.map Rw.hdr).flatten=R.map fun r=>Value.slice r.a r.cs.length r.c:=by
 induction R with
 | nil=>rfl
 | cons r R ih=>rw [List.map_cons,List.flatten_cons,ih];rfl
theorem Bx.hc (h:Bx w0 w Z G L D) (i:Nat) {A a:Option Addr} {c' c n:Nat} {cs:List (List Value)} (hi:L[i]?=some (.own base A c' e (Rp.sz (List α)) (R.map Rw.hdr))) (hr:R[k]?=some ⟨a,c,cs⟩) (hn:cs.length=n):Cells w (aBlk A) (aOff A+k * Rp.sz (List α)) [.slice a n c]:=by
 have ho:=h.bo i hi
 have hk:=lt_of_get hr
 obtain ⟨g,rfl⟩:=ho.adr (by simp;omega)
 rw [hdr_flat] at ho
 intro j v hv
 rcases j with _ | j
 · simp only [List.getElem?_cons_zero,Option.some.injEq] at hv
   subst hv
   show w.cell? ⟨g,0+k * 1+0,none⟩=_
   rw [show 0+k * 1+0=k by omega]
   exact ho.cell (by rw [List.getElem?_map,hr];simp [hn])
 · simp at hv
end
theorem Pre.all {w:World} {Dc:List Da} (hD:∀ d ∈ Dc,d.ok (fun _=>True) w):Pre w (fun _=>True) [] Dc:={ it:=fun _ h=>(List.not_mem_nil h).elim,z:=fun _ h=>(List.not_mem_nil h).elim,pw:=List.Pairwise.nil,da:=hD }
theorem LRep.all {α:Type} [Rp α] {F:Nat→Prop} {w:World} {a:Option Addr} {c:Nat} {l:List α} (h:LRep F w a c l):LRep (fun _=>True) w a c l:=h.mv (.same fun _ _ _=>trivial)
end Go.Fw
namespace Go.Fw
open Go.RowKit
section
variable {α:Type} [Rp α] {w0 w w':World} {Z G:Nat→Prop} {L Lr:List It} {D:List Da} {base e sz:Nat} {R:List Rw} {m:List (List α)} {k:Nat} {x:List α}
theorem LRep.partE {F:Nat→Prop} {a A:Option Addr} {c C:Nat} {l r:List α} {i j:Nat} (h:LRep F w a c l) (hij:i≤j) (hj:j≤l.length) (hr:(l.drop i).take (j - i)=r) (hA:(if c=i then a else a.map (·.add (i * Rp.sz α)))=A) (hC:c - i=C):LRep F w A C r:=by
 subst hr hA hC
 exact h.part hij hj
end
end Go.Fw
