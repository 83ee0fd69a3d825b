/- Rows within rows: a row of slices, each of which is a row of one's own. Over any program. -/
import Derived.Test.YtfglbdkfnphjgaaDr
import Derived.Test.YtfglbdkfnphjgaaBw
set_option linter.unusedVariables false
namespace Go.Fw
open Go.RowKit
structure Rw where
 a:Option Addr
 c:Nat
 cs:List (List Value)
def Rw.hdr (r:Rw):List Value:=[.slice r.a r.cs.length r.c]
section
variable {α:Type} [Rp α] {F G:Nat→Prop} {w w':World}
def Els2 (F:Nat→Prop) (w:World):List Rw→List (List α)→Prop
 | [],[]=>True
 | r :: R,l :: m=>Els F w r.cs l∧Els2 F w R m
 | _,_=>False
theorem Els2.mv:∀ {R:List Rw} {m:List (List α)},Els2 F w R m→Mv F G w w'→Els2 G w' R m
 | [],[],_,_=>trivial
 | _ :: _,_ :: _,h,k=>⟨h.1.mv k,Els2.mv h.2 k⟩
 | [],_ :: _,h,_=>h.elim
 | _ :: _,[],h,_=>h.elim
theorem Els2.len:∀ {R:List Rw} {m:List (List α)},Els2 F w R m→R.length=m.length
 | [],[],_=>rfl
 | _ :: _,_ :: _,h=>congrArg (·+1) (Els2.len h.2)
 | [],_ :: _,h=>h.elim
 | _ :: _,[],h=>h.elim
theorem Els2.get:∀ {R:List Rw} {m:List (List α)} {k:Nat} {x:List α},Els2 F w R m→m[k]?=some x→∃ r,R[k]?=some r∧Els F w r.cs x
 | r :: _,_ :: _,0,x,h,hx=>by simp only [List.getElem?_cons_zero,Option.some.injEq] at hx;subst hx;exact ⟨r,rfl,h.1⟩
 | _ :: _,_ :: _,k+1,x,h,hx=>Els2.get (k:=k) h.2 (by simpa using hx)
 | [],[],_,_,_,hx=>by simp at hx
 | [],_ :: _,_,_,h,_=>h.elim
 | _ :: _,[],_,_,h,_=>h.elim
theorem Els2.set:∀ {R:List Rw} {m:List (List α)} (k:Nat) {r:Rw} {x:List α},Els2 F w R m→Els F w r.cs x→Els2 F w (R.set k r) (m.set k x)
 | [],[],_,_,_,_,_=>trivial
 | _ :: _,_ :: _,0,_,_,h,k=>⟨k,h.2⟩
 | _ :: _,_ :: _,n+1,_,_,h,k=>⟨h.1,Els2.set n h.2 k⟩
 | [],_ :: _,_,_,_,h,_=>h.elim
 | _ :: _,[],_,_,_,h,_=>h.elim
theorem Els2.app:∀ {R:List Rw} {m:List (List α)} {S:List Rw} {n:List (List α)},Els2 F w R m→Els2 F w S n→Els2 F w (R ++ S) (m ++ n)
 | [],[],_,_,_,k=>k
 | _ :: _,_ :: _,_,_,h,k=>⟨h.1,Els2.app h.2 k⟩
 | [],_ :: _,_,_,h,_=>h.elim
 | _ :: _,[],_,_,h,_=>h.elim
end
def Da.els2 {α:Type} [Rp α] (R:List Rw) (m:List (List α)):Da:=⟨fun F w=>Els2 F w R m,Els2.mv⟩
theorem Own.same {w w':World} {base:Nat} {e:TypeId} {sz n c:Nat} {A:Option Addr} {xs:List Value} (h:Own w base e sz A n c xs) (k:∀ b,rowOf A=some b→w'.heap[b]?=w.heap[b]?):Own w' base e sz A n c xs:=by
 refine ⟨h.1,?_⟩
 rcases h.2 with h1 | ⟨g,cap,cur,h3,h4,h5,h6⟩
 · exact .inl h1
 · refine .inr ⟨g,cap,cur,h3,h4,?_,h6⟩
   injection h3 with h3 _ _
   rw [k g (by rw [h3];rfl)]
   exact h5
def It.fam (base:Nat) (e:TypeId) (sz:Nat) (R:List Rw) (x:Option Nat):It where
 F k:=∃ (i:Nat) (r:Rw),R[i]?=some r∧some i≠x∧rowOf r.a=some k
 p w:=(∀ (i:Nat) (r:Rw),R[i]?=some r→some i≠x→Own w base e sz r.a r.cs.length r.c r.cs.flatten)∧∀ (i j:Nat) (r s:Rw) (b:Nat),R[i]?=some r→R[j]?=some s→some i≠x→some j≠x→rowOf r.a=some b→rowOf s.a=some b→i=j
 bd w h k hk:=by obtain ⟨i,r,h1,h2,h3⟩:=hk;exact ((h.1 i r h1 h2).row k h3).2
 st w w' h k hs:=⟨fun i r h1 h2=>Own.same (h.1 i r h1 h2) (fun b hb=>k b ⟨i,r,h1,h2,hb⟩),h.2⟩
section
variable {α:Type} [Rp α] {w0 w w':World} {Z G:Nat→Prop} {L Lr:List It} {D:List Da} {base e sz:Nat} {R:List Rw} {m:List (List α)} {k:Nat} {x:List α}
theorem Bx.d2 (h:Bx w0 w Z G L D) (j:Nat) (hj:D[j]?=some (.els2 R m)):Els2 (Frz w0 Z L) w R m:=h.d j hj
theorem Bx.foc (h:Bx w0 w Z G (.fam base e sz R none :: Lr) D) (j:Nat) (hj:D[j]?=some (.els2 R m)) (hx:m[k]?=some x) :
  ∃ a c cs,R[k]?=some ⟨a,c,cs⟩∧cs.length=x.length∧Bx w0 w Z G (.own base a c e sz cs :: .fam base e sz R (some k) :: Lr) (.els cs x :: D):=by
 obtain ⟨⟨a,c,cs⟩,hr,hE⟩:=(h.d2 j hj).get hx
 have hf:=(h.it _ (List.mem_cons_self ..)).1
 have hpw:=List.pairwise_cons.1 h.pw
 refine ⟨a,c,cs,hr,hE.len,?_⟩
 have h1:Bx w0 w Z G (.own base a c e sz cs :: .fam base e sz R (some k) :: Lr) D:=by
  refine h.step (X:=fun _=>False) ((Ext.refl w).chgd _) (fun _ hx=>hx.elim) (fun it hi=>?_) (fun it hi b hb hl=>?_) (List.pairwise_cons.2 ⟨fun y hy b hb hc=>?_,List.pairwise_cons.2 ⟨fun y hy b hb=>?_,hpw.2⟩⟩)
  · rcases List.mem_cons.1 hi with rfl | hi
    · exact hf.1 k _ hr (by simp)
    · rcases List.mem_cons.1 hi with rfl | hi
      · exact ⟨fun i r h1 h2=>hf.1 i r h1 (by simp),fun i j r s b h1 h2 _ _ h3 h4=>hf.2 i j r s b h1 h2 (by simp) (by simp) h3 h4⟩
      · exact (h.it it (List.mem_cons_of_mem _ hi)).1
  · rcases List.mem_cons.1 hi with rfl | hi
    · exact ⟨_,List.mem_cons_self ..,k,_,hr,by simp,hb⟩
    · rcases List.mem_cons.1 hi with rfl | hi
      · obtain ⟨i,r,h1,h2,h3⟩:=hb
        exact ⟨_,List.mem_cons_self ..,i,r,h1,by simp,h3⟩
      · exact ⟨it,List.mem_cons_of_mem _ hi,hb⟩
  · rcases List.mem_cons.1 hy with rfl | hy
    · obtain ⟨i,r,h1,h2,h3⟩:=hc
      have:=hf.2 i k r _ b h1 hr (by simp) (by simp) h3 hb
      subst this
      exact h2 rfl
    · exact hpw.1 y hy b ⟨k,_,hr,by simp,hb⟩ hc
  · obtain ⟨i,r,h1,h2,h3⟩:=hb
    exact hpw.1 y hy b ⟨i,r,h1,by simp,h3⟩
 refine h1.dadd (d:=.els cs x) ?_
 obtain ⟨r',hr',hE'⟩:=(h1.d2 j hj).get hx
 rw [hr] at hr'
 injection hr' with hr'
 subst hr'
 exact hE'
theorem Bx.unf {a:Option Addr} {c:Nat} {cs:List (List Value)} (h:Bx w0 w Z G (.own base a c e sz cs :: .fam base e sz R (some k) :: Lr) D) (j p:Nat) (hj:D[j]?=some (.els2 R m)) (hp:D[p]?=some (.els cs x)) :
  Bx w0 w Z G (.fam base e sz (R.set k ⟨a,c,cs⟩) none :: Lr) (D.set j (.els2 (R.set k ⟨a,c,cs⟩) (m.set k x))):=by
 have ho:=(h.it _ (List.mem_cons_self ..)).1
 have hf:=(h.it _ (List.mem_cons_of_mem _ (List.mem_cons_self ..))).1
 have hpw:=List.pairwise_cons.1 h.pw
 have hpw2:=List.pairwise_cons.1 hpw.2
 have hget:∀ {i:Nat} {r:Rw},(R.set k ⟨a,c,cs⟩)[i]?=some r→i=k∧r=⟨a,c,cs⟩ ∨ i≠k∧R[i]?=some r:=by
  intro i r hi
  rw [List.getElem?_set] at hi
  split at hi
  · rename_i hki
    split at hi
    · injection hi with hi;exact .inl ⟨hki.symm,hi.symm⟩
    · cases hi
  · rename_i hki
    exact .inr ⟨fun e=>hki e.symm,hi⟩
 have hap:∀ {i:Nat} {r:Rw} {b:Nat},i≠k→R[i]?=some r→rowOf r.a=some b→rowOf a≠some b:=fun {i r b} hne hi hb hc=>
  hpw.1 _ (List.mem_cons_self ..) b hc ⟨i,r,hi,by simpa using hne,hb⟩
 have h1:Bx w0 w Z G (.fam base e sz (R.set k ⟨a,c,cs⟩) none :: Lr) D:=by
  refine h.step (X:=fun _=>False) ((Ext.refl w).chgd _) (fun _ hx=>hx.elim) (fun it hi=>?_) (fun it hi b hb hl=>?_) (List.pairwise_cons.2 ⟨fun y hy b hb=>?_,hpw2.2⟩)
  · rcases List.mem_cons.1 hi with rfl | hi
    · refine ⟨fun i r h1 _=>?_,fun i j r s b h1 h2 _ _ h3 h4=>?_⟩
      · rcases hget h1 with ⟨_,rfl⟩|⟨hne,h1⟩
        · exact ho
        · exact hf.1 i r h1 (by simpa using hne)
      · rcases hget h1 with ⟨e1,er⟩|⟨hne,h1⟩
        · rcases hget h2 with ⟨e2,es⟩|⟨hne2,h2⟩
          · rw [e1,e2]
          · rw [er] at h3;exact absurd h3 (hap hne2 h2 h4)
        · rcases hget h2 with ⟨e2,es⟩|⟨hne2,h2⟩
          · rw [es] at h4;exact absurd h4 (hap hne h1 h3)
          · exact hf.2 i j r s b h1 h2 (by simpa using hne) (by simpa using hne2) h3 h4
    · exact (h.it it (List.mem_cons_of_mem _ (List.mem_cons_of_mem _ hi))).1
  · rcases List.mem_cons.1 hi with rfl | hi
    · obtain ⟨i,r,h1,_,h3⟩:=hb
      rcases hget h1 with ⟨rfl,rfl⟩|⟨hne,h1⟩
      · exact ⟨_,List.mem_cons_self ..,h3⟩
      · exact ⟨_,List.mem_cons_of_mem _ (List.mem_cons_self ..),i,r,h1,by simpa using hne,h3⟩
    · exact ⟨it,List.mem_cons_of_mem _ (List.mem_cons_of_mem _ hi),hb⟩
  · obtain ⟨i,r,h1,_,h3⟩:=hb
    rcases hget h1 with ⟨rfl,rfl⟩|⟨hne,h1⟩
    · exact hpw.1 y (List.mem_cons_of_mem _ hy) b h3
    · exact hpw2.1 y hy b ⟨i,r,h1,by simpa using hne,h3⟩
 exact h1.dset j (d:=.els2 _ _) ((h1.d2 j hj).set k (h1.de p hp))
theorem Bx.hd (h:Bx w0 w Z G L D) (i:Nat) {A:Option Addr} {c:Nat} {H H':List (List Value)} (hi:L[i]?=some (.own base A c e sz H)) (hH:H=H'):Bx w0 w Z G (L.set i (.own base A c e sz H')) D:=by
 subst hH
 exact h.put i hi ((Ext.refl w).chgd _) (h.bo i hi) (fun k hk=>.inl hk)
theorem hdrA {R:List Rw} {k:Nat} {a:Option Addr} {c:Nat} {cs cs':List (List Value)} (hr:R[k]?=some ⟨a,c,cs⟩) (hl:cs'.length=cs.length):R.map Rw.hdr=(R.set k ⟨a,c,cs'⟩).map Rw.hdr:=by
 refine List.ext_getElem? fun i=>?_
 rw [List.getElem?_map,List.getElem?_map,List.getElem?_set]
 split
 · rename_i hki
   subst hki
   rw [hr]
   split
   · simp [Rw.hdr,hl]
   · have:=lt_of_get hr;omega
 · rfl
theorem hdrB {R:List Rw} {k:Nat} {a:Option Addr} {c n:Nat} {cs':List (List Value)} (hl:cs'.length=n):(R.map Rw.hdr).set k [.slice a n c]=(R.set k ⟨a,c,cs'⟩).map Rw.hdr:=by
 rw [List.map_set,Rw.hdr,hl]
theorem hdr_flat (R:List Rw):(R.map Rw.hdr).flatten=R.map fun r=>Value.slice r.a r.cs.length r.c:=by
 induction R with
 | nil=>rfl
 | cons r R ih=>rw [List.map_cons,List.flatten_cons,ih];rfl
theorem Bx.hc (h:Bx w0 w Z G L D) (i:Nat) {A a:Option Addr} {c' c n:Nat} {cs:List (List Value)} (hi:L[i]?=some (.own base A c' e (Rp.sz (List α)) (R.map Rw.hdr))) (hr:R[k]?=some ⟨a,c,cs⟩) (hn:cs.length=n):Cells w (aBlk A) (aOff A+k * Rp.sz (List α)) [.slice a n c]:=by
 have ho:=h.bo i hi
 have hk:=lt_of_get hr
 obtain ⟨g,rfl⟩:=ho.adr (by simp;omega)
 rw [hdr_flat] at ho
 intro j v hv
 rcases j with _ | j
 · simp only [List.getElem?_cons_zero,Option.some.injEq] at hv
   subst hv
   show w.cell? ⟨g,0+k * 1+0,none⟩=_
   rw [show 0+k * 1+0=k by omega]
   exact ho.cell (by rw [List.getElem?_map,hr];simp [hn])
 · simp at hv
theorem xIdH {P:Program} {w w1:World} {ρ:Operand→Value} {d:Option Nat} {ty:TypeId} {pos:String} {af:Array Edge} {g:Option (Nat × Bool)} {α:Type} [Rp α] {base et:Nat} {A:Option Addr} {c n:Nat} {R:List Rw} {r:Rw} {t e:TypeId} {x y:Operand} {kk:IntKind} {i:Int} {z:Value} {by_ k:Nat} (ht:P.underlying t=some (.slice e)) (he:TI P e z (Rp.sz (List α)) by_) (hx:ρ x=.slice A n c)
  (hy:ρ y=.int kk i) (hi:i=(k:Int)) (ho:Own w1 base et (Rp.sz (List α)) A (R.map Rw.hdr).length c (R.map Rw.hdr).flatten) (hr:R[k]?=some r) (hn:R.length=n):Yl P ρ (.indexAddr t x y) d ty pos af g w (.pointer (some ⟨aBlk A,aOff A+k * Rp.sz (List α),none⟩)):=by
 have hk:=lt_of_get hr
 obtain ⟨g0,rfl⟩:=ho.adr (by simp;omega)
 exact xIdx (P:=P) (w:=w) (d:=d) (ty:=ty) (pos:=pos) (af:=af) (g:=g) k ht he hx hy hi (by omega)
theorem tStH {P:Program} {ρ:Operand→Value} {d:Option Nat} {ty:TypeId} {pos:String} {af:Array Edge} {g:Option (Nat × Bool)} (hL:Bx w0 w Z G L D) (i:Nat) {t:TypeId} {x y:Operand} {z:Value} {by_:Nat} {A a:Option Addr} {c' c n:Nat} {r:Rw} (hi:L[i]?=some (.own base A c' e (Rp.sz (List α)) (R.map Rw.hdr))) (hr:R[k]?=some r) (ht:TI P t z 1 by_)
  (hx:ρ x=.pointer (some ⟨aBlk A,aOff A+k * Rp.sz (List α),none⟩)) (hy:ρ y=.slice a n c):ToS P ρ ⟨d,.store t x y,ty,pos,af,g⟩ w fun w'=>Bx w0 w' Z G (L.set i (.own base A c' e (Rp.sz (List α)) ((R.map Rw.hdr).set k [.slice a n c]))) D:=by
 have ho:=hL.bo i hi
 have hk:=lt_of_get hr
 obtain ⟨g0,rfl⟩:=ho.adr (by simp;omega)
 have hx':ρ x=.pointer (some ⟨g0,k,none⟩):=by rw [hx];simp [aBlk,aOff,Rp.sz]
 have hcell:w.cell? ⟨g0,k,none⟩=some (.slice r.a r.cs.length r.c):=ho.cell (by rw [hdr_flat,List.getElem?_map,hr];rfl)
 refine ⟨_,tStore ht hx' hy rfl hcell (ho.frozen k),?_⟩
 have h1:=ho.set k (.slice a n c)
 have hfl:(R.map Rw.hdr).flatten.set k (.slice a n c)=((R.map Rw.hdr).set k [.slice a n c]).flatten:=by
  clear hi ho hr hk hcell h1 hx hx'
  induction R generalizing k with
  | nil=>simp
  | cons q R ih=>
   cases k with
   | zero=>rw [List.map_cons,List.set_cons_zero,List.flatten_cons,List.flatten_cons];rfl
   | succ k=>
    rw [List.map_cons,List.set_cons_succ,List.flatten_cons,List.flatten_cons,← ih]
    rfl
 rw [hfl] at h1
 refine hL.rowTo i hi h1 (by simp) rfl (Chg.setCell w g0 k _) (.inl rfl)
theorem aApp2N {P:Program} {ρ:Operand→Value} {d:Option Nat} {ty:TypeId} {pos:String} {af:Array Edge} {g:Option (Nat × Bool)} {b1 e1:Nat} {t:TypeId} {s y:Operand} {z:Value} {by_:Nat} {A A':Option Addr} {c c' b' cy:Nat} {r:List (List α)} (q i j:Nat) (hL:Bx w0 w Z G L D)
   (hq:L[q]?=some (.own b1 A c e1 (Rp.sz (List α)) (R.map Rw.hdr))) (hi:L[i]?=some (.fam base e sz R none)) (hqi:q≠i) (hj:D[j]?=some (.els2 R m)) (ht:P.underlying t=some (.slice e1)) (hti:TI P e1 z (Rp.sz (List α)) by_) (hz:z.cells.size=Rp.sz (List α)) (hb:by_≤100000) (hbase:b1≤w0.heap.size)
   (hs:ρ s=.slice A m.length c) (hx:ρ y=.slice A' 1 c') {iy:Nat} (hy:L[iy]?=some (.own b' A' cy e1 (Rp.sz (List α)) [[.slice none 0 0]])) (hr:Fw.app m [[]]=some r) :
   To P ρ ⟨d,.call { callee:=.builtin .append,args:=#[s,y],argTypes:=#[t,t] },ty,pos,af,g⟩ w fun v w'=>
     ∃ A2 c2 R2,v=.slice A2 r.length c2∧Bx w0 w' Z G ((L.set q (.own b1 A2 c2 e1 (Rp.sz (List α)) (R2.map Rw.hdr))).set i (.fam base e sz R2 none)) (D.set j (.els2 R2 r)):=by
 obtain ⟨hm,rfl⟩:=app_inv hr
 have hE:=hL.d2 j hj
 have ho:=hL.bo q hq
 have hlen:(R.map Rw.hdr).length=m.length:=by rw [List.length_map,hE.len]
 rw [hlen] at ho
 have hbb:(m.length+1) * by_≤140737488355328:=Nat.le_trans (Nat.mul_le_mul hm hb) (by decide)
 have hsl:=(hL.bo iy hy).sl
 obtain ⟨v,w',h1,A2,c2,rfl,h2,h3,h4⟩:=aAppend (P:=P) (ρ:=ρ) (w:=w) (d:=d) (ty:=ty) (pos:=pos) (af:=af) (g:=g) b1 (m ++ [[]]).length ht hti hz (show 0 < 1 by decide) hs hx ho hsl (by simp [Value.oneCell']) (Nat.le_trans hbase hL.chg.size) (by simp at hm;omega) hbb (by simp)
 refine ⟨_,w',h1,A2,c2,R ++ [⟨none,0,[]⟩],rfl,?_⟩
 have hgetn:∀ {i:Nat} {r:Rw},(R ++ [(⟨none,0,[]⟩:Rw)])[i]?=some r→R[i]?=some r ∨ r=⟨none,0,[]⟩:=by
   intro i r hi
   rw [List.getElem?_append] at hi
   split at hi
   · exact .inl hi
   · right
     rcases Nat.eq_zero_or_pos (i - R.length) with h0 | h0
     · rw [h0] at hi;simpa using hi.symm
     · rw [List.getElem?_eq_none (by simp;omega)] at hi;cases hi
 have h5:Bx w0 w Z G L (D.set j (.els2 (R ++ [⟨none,0,[]⟩]) (m ++ [[]]))):=hL.dset j (d:=.els2 _ _) (hE.app ⟨trivial,trivial⟩)
 have h6:=h5.rowTo (ds:=(R ++ [(⟨none,0,[]⟩:Rw)]).map Rw.hdr) q hq h2 (by rw [List.length_map,List.length_append,List.length_append,hE.len];rfl) (by rw [List.map_append,List.flatten_append];rfl) h3 h4
 have hi':(L.set q (.own b1 A2 c2 e1 (Rp.sz (List α)) ((R ++ [(⟨none,0,[]⟩:Rw)]).map Rw.hdr)))[i]?=some (.fam base e sz R none):=by rw [List.getElem?_set_ne hqi];exact hi
 have hfam:=h6.at i hi'
 refine h6.put i hi' ((Ext.refl w').chgd _) ⟨fun i r h1 _=>?_,fun i j r s b h1 h2 _ _ h3 h4=>?_⟩ (fun b ⟨i,r,h1,_,h3⟩=>?_)
 · rcases hgetn h1 with h1 | rfl
   · exact hfam.1 i r h1 (by simp)
   · exact Own.nil w' base e sz
 · rcases hgetn h1 with h1 | rfl
   · rcases hgetn h2 with h2 | rfl
     · exact hfam.2 i j r s b h1 h2 (by simp) (by simp) h3 h4
     · cases h4
   · cases h3
 · rcases hgetn h1 with h1 | rfl
   · exact .inl ⟨i,r,h1,by simp,h3⟩
   · cases h3
theorem lrep2 {F:Nat→Prop} {A:Option Addr} {c b1 e1:Nat} (ho:Own w b1 e1 (Rp.sz (List α)) A (R.map Rw.hdr).length c (R.map Rw.hdr).flatten) (hf:(It.fam base e (Rp.sz α) R none).p w) (hE:Els2 F w R m) (hA:∀ b,rowOf A=some b→F b) (hR:∀ b,(It.fam base e (Rp.sz α) R none).F b→F b):LRep F w A c m:=by
 have hc:=ho.cap
 rw [List.length_map,hE.len] at hc
 refine ⟨hc.1,hc.2,fun h0=>?_⟩
 obtain ⟨g,rfl⟩:=ho.adr (by rw [List.length_map,hE.len];exact h0)
 refine ⟨rfl,hA g rfl,(ho.row g rfl).2,fun i x hx=>?_⟩
 obtain ⟨r,hr,hEx⟩:=hE.get hx
 have hor:=hf.1 i r hr (by simp)
 refine ⟨[.slice r.a x.length r.c],fun j v hv=>?_,r.a,r.c,rfl,hor.lrep hEx fun b hb=>hR b ⟨i,r,hr,by simp,hb⟩⟩
 rcases j with _ | j
 · simp only [List.getElem?_cons_zero,Option.some.injEq] at hv
   subst hv
   show w.cell? ⟨g,0+i * 1+0,none⟩=_
   rw [show 0+i * 1+0=i by omega]
   exact ho.cell (by rw [hdr_flat,List.getElem?_map,hr];simp [hEx.len])
 · simp at hv
theorem Bx.vw2 (h:Bx w0 w Z G L D) (q i j:Nat) {A:Option Addr} {c b1 e1:Nat} (hq:L[q]?=some (.own b1 A c e1 (Rp.sz (List α)) (R.map Rw.hdr))) (hi:L[i]?=some (.fam base e (Rp.sz α) R none)) (hj:D[j]?=some (.els2 R m)):LRep (fun _=>True) w A c m:=
 lrep2 (h.bo q hq) (h.at i hi) ((h.d2 j hj).mv (.same fun _ _ _=>trivial)) (fun _ _=>trivial) (fun _ _=>trivial)
theorem Bx.frz2 {A:Option Addr} {c e1:Nat} (h:Bx w0 w Z G (.own w0.heap.size A c e1 (Rp.sz (List α)) (R.map Rw.hdr) :: .fam w0.heap.size e (Rp.sz α) R none :: Lr) D) (j:Nat) (hj:D[j]?=some (.els2 R m)):Bx w0 w Z G Lr (.l A c m :: D.eraseIdx j):=by
 have hpw:=List.pairwise_cons.1 h.pw
 have hpw2:=List.pairwise_cons.1 hpw.2
 have h1:Bx w0 w Z G Lr (D.eraseIdx j):=(h.tl.tl).dsub fun d hd=>(List.eraseIdx_sublist D j).subset hd
 have ho:=(h.it _ (List.mem_cons_self ..)).1
 have hf:=(h.it _ (List.mem_cons_of_mem _ (List.mem_cons_self ..))).1
 refine h1.dadd (d:=.l A c m) (lrep2 ho hf ((h.tl.tl).d2 j hj) (fun b hb=>⟨fun hl=>?_,fun it hi=>hpw.1 it (List.mem_cons_of_mem _ hi) b hb⟩) (fun b hb=>⟨fun hl=>?_,fun it hi=>hpw2.1 it hi b hb⟩))
 · have:=(ho.row b hb).1;omega
 · obtain ⟨i,r,h1,h2,h3⟩:=hb
   have:=((hf.1 i r h1 h2).row b h3).1;omega
end
theorem Pre.all {w:World} {Dc:List Da} (hD:∀ d ∈ Dc,d.ok (fun _=>True) w):Pre w (fun _=>True) [] Dc:={ it:=fun _ h=>(List.not_mem_nil h).elim,z:=fun _ h=>(List.not_mem_nil h).elim,pw:=List.Pairwise.nil,da:=hD }
theorem LRep.all {α:Type} [Rp α] {F:Nat→Prop} {w:World} {a:Option Addr} {c:Nat} {l:List α} (h:LRep F w a c l):LRep (fun _=>True) w a c l:=h.mv (.same fun _ _ _=>trivial)
end Go.Fw
namespace Go.Fw
open Go.RowKit
section
variable {α:Type} [Rp α] {w0 w w':World} {Z G:Nat→Prop} {L Lr:List It} {D:List Da} {base e sz:Nat} {R:List Rw} {m:List (List α)} {k:Nat} {x:List α}
theorem set_self {β:Type} {l:List β} {k:Nat} {x:β} (h:l[k]?=some x):l.set k x=l:=by
 refine List.ext_getElem? fun i=>?_
 rw [List.getElem?_set]
 split
 · rename_i hki
   subst hki
   rw [h]
   split
   · rfl
   · have:=lt_of_get h;omega
 · rfl
theorem Bx.unf0 {a:Option Addr} {c:Nat} {cs:List (List Value)} (h:Bx w0 w Z G (.own base a c e sz cs :: .fam base e sz R (some k) :: Lr) D) (j p:Nat) (hj:D[j]?=some (.els2 R m)) (hp:D[p]?=some (.els cs x)) (hR:R[k]?=some ⟨a,c,cs⟩) :
  Bx w0 w Z G (.fam base e sz R none :: Lr) D:=by
 have h1:=h.unf j p hj hp
 rw [set_self hR] at h1
 have h2:Bx w0 w Z G (.fam base e sz R none :: Lr) D:=⟨h1.chg,h1.zg,h1.it,h1.pw,fun d hd=>by
  obtain ⟨i,hi⟩:=List.getElem?_of_mem hd
  by_cases hij:i=j
  · subst hij
    rw [hj] at hi
    injection hi with hi
    subst hi
    have h3:=h.d2 i hj
    exact h3.mv (.same fun b hb _=>⟨hb.1,fun it hit=>by
     rcases List.mem_cons.1 hit with rfl | hit
     · intro hf
       obtain ⟨q,r,h4,_,h5⟩:=hf
       by_cases hqk:q=k
       · subst hqk
         rw [hR] at h4
         injection h4 with h4
         subst h4
         exact hb.2 _ (List.mem_cons_self ..) h5
       · exact hb.2 _ (List.mem_cons_of_mem _ (List.mem_cons_self ..)) ⟨q,r,h4,by simpa using hqk,h5⟩
     · exact hb.2 it (List.mem_cons_of_mem _ (List.mem_cons_of_mem _ hit))⟩)
  · refine h1.da d (List.mem_of_getElem? (i:=i) ?_)
    rw [List.getElem?_set_ne (fun e=>hij e.symm)]
    exact hi⟩
 exact h2
theorem Bx.own2N (h:Bx w0 w Z G L D) (α:Type) [Rp α] (e1 e:TypeId):Bx w0 w Z G (.own w0.heap.size none 0 e1 (Rp.sz (List α)) (([]:List Rw).map Rw.hdr) :: .fam w0.heap.size e (Rp.sz α) [] none :: L) (.els2 ([]:List Rw) ([]:List (List α)) :: D):=by
 have h1:Bx w0 w Z G (.fam w0.heap.size e (Rp.sz α) [] none :: L) D:=h.push (Ext.refl w) ⟨fun i r hi _=>by simp at hi,fun i j r s b hi=>by simp at hi⟩ (fun k ⟨i,r,hi,_⟩=>by simp at hi)
 exact (h1.owN e1 (Rp.sz (List α))).dadd (d:=.els2 [] []) trivial
theorem LRep.partE {F:Nat→Prop} {a A:Option Addr} {c C:Nat} {l r:List α} {i j:Nat} (h:LRep F w a c l) (hij:i≤j) (hj:j≤l.length) (hr:(l.drop i).take (j - i)=r) (hA:(if c=i then a else a.map (·.add (i * Rp.sz α)))=A) (hC:c - i=C):LRep F w A C r:=by
 subst hr hA hC
 exact h.part hij hj
end
end Go.Fw
