/- Texts and lists of bytes. Over any program. -/
import Derived.Test.YtfglbdkfnphjgaaMw
import Derived.Lib.ConvBytes
set_option linter.unusedVariables false
namespace Go.Fw
open Go.RowKit
structure GU8 where
 n:Int
deriving DecidableEq
instance:Rp GU8:=⟨1,1,fun _ _ cs x=>cs=[.int .u8 x.n],fun h=>by rw [h];rfl,fun h=>by rw [h];rfl,fun h _=>h⟩
def bst (l:List GU8):ByteArray:=strOf (l.map GU8.n)
section
variable {P:Program} {w0 w:World} {Z G:Nat→Prop} {L:List It} {D:List Da} {ρ:Operand→Value} {d:Option Nat} {ty:TypeId} {pos:String} {af:Array Edge} {g:Option (Nat × Bool)}
theorem els8 {F:Nat→Prop}:∀ {cs:List (List Value)} {l:List GU8},Els F w cs l→cs.flatten=(l.map GU8.n).map (Value.int .u8)
 | [],[],_=>rfl
 | c :: cs,x :: l,h=>by
  have h1:c=[.int .u8 x.n]:=h.1
  rw [List.flatten_cons,h1,els8 h.2];rfl
 | [],_ :: _,h=>h.elim
 | _ :: _,[],h=>h.elim
theorem xBtS {F:Nat→Prop} {t s e:TypeId} {x:Operand} {a:Option Addr} {c:Nat} {l:List GU8} (ht:P.underlying t=some (.slice e)) (he:P.underlying e=some (.int .u8)) (hs:P.underlying s=some .string) (hx:ρ x=.slice a l.length c) (h:LRep F w a c l) :
  Yl P ρ (.convert t s x) d ty pos af g w (.string (bst l)):=by
 obtain ⟨cs,h1,h2⟩:=h.els
 rw [els8 h1] at h2
 exact xStr (bs:=l.map GU8.n) ht he hs hx h2
end
end Go.Fw
namespace Go.Fw
open Go.RowKit
def It.nil:It:=⟨fun _=>False,fun _=>True,fun _ _ _ h=>h.elim,fun _ _ _ _ _=>trivial⟩
theorem LRep.same {α:Type} [Rp α] {F:Nat→Prop} {w w':World} {a:Option Addr} {c:Nat} {l:List α} (h:LRep F w a c l) (hs:w.heap.size≤w'.heap.size) (hc:∀ o,w'.cell? ⟨aBlk a,o,none⟩=w.cell? ⟨aBlk a,o,none⟩) (hm:Mv F F w w' ∨ ∀ {cs:List Value} {x:α},Rp.rep F w cs x→Rp.rep F w' cs x):LRep F w' a c l:=by
 refine ⟨h.1,h.2.1,fun h0=>?_⟩
 obtain ⟨h1,h2,h3,h4⟩:=h.2.2 h0
 refine ⟨h1,h2,Nat.lt_of_lt_of_le h3 hs,fun i x hx=>?_⟩
 obtain ⟨cs,h5,h6⟩:=h4 i x hx
 refine ⟨cs,fun j v hv=>by rw [hc];exact h5 j v hv,?_⟩
 rcases hm with hm | hm
 · exact Rp.mv h6 hm
 · exact hm h6
theorem run_mark {P:Program} {w:World} {t e tt:TypeId} {b o n c:Nat} {cs:Array Value} (ht:P.underlying t=some (.slice e)) (he:P.underlying e=some (.int .u8)) (hb:w.heap[b]?=some (.cells cs tt (0,0))) :
  (convert t t (.slice (some ⟨b,o,none⟩) n c)).run P w=.ok (.slice (some ⟨b,o,none⟩) n c) (w.freeze ⟨b,cs.size,none⟩ 1):=by
 have hsh:w.shape? b=some (tt,cs.size):=by simp [World.shape?,hb]
 simp [convert,run_underlying ht,run_underlying he,markStringish,hsh]
theorem aMrkB {P:Program} {w0 w:World} {Z G:Nat→Prop} {L:List It} {D:List Da} {ρ:Operand→Value} {d:Option Nat} {ty:TypeId} {pos:String} {af:Array Edge} {g:Option (Nat × Bool)} (hL:Bx w0 w Z G L D) (i j:Nat) {t e:TypeId} {x:Operand} {b c:Nat} {cs:List (List Value)} {l:List GU8}
   (hi:L[i]?=some (.own w0.heap.size (some ⟨b,0,none⟩) c e (Rp.sz GU8) cs)) (hj:D[j]?=some (.els cs l)) (ht:P.underlying t=some (.slice e)) (he:P.underlying e=some (.int .u8)) (hx:ρ x=.slice (some ⟨b,0,none⟩) l.length c) :
   To P ρ ⟨d,.convert t t x,ty,pos,af,g⟩ w fun v w'=>v=.slice (some ⟨b,0,none⟩) l.length c∧Bx w0 w' Z G (L.eraseIdx i) (.l (some ⟨b,0,none⟩) c l :: D.eraseIdx j):=by
 have ho:=hL.bo i hi
 rcases ho.blk with ⟨h1,_⟩|⟨q,cur,h1,h2,h3,_⟩
 · cases h1
 · injection h1 with h1;injection h1 with h1;subst h1
   have hrun:=run_mark (P:=P) (w:=w) (o:=0) (n:=l.length) (c:=c) ht he h3
   have hfa:(w.freeze ⟨b,cur.size,none⟩ 1).heap[b]?=some (.cells cur e (cur.size,cur.size+1)):=by
    unfold World.freeze
    rw [if_neg (by decide)]
    have h3':w.heap[b]?=some (.cells cur e (0,0)):=h3
    simp [Array.getElem?_modify,h3']
   have hch:Chg b w (w.freeze ⟨b,cur.size,none⟩ 1):=by
    unfold World.freeze
    rw [if_neg (by decide)]
    exact ⟨rfl,rfl,rfl,by simp,fun i hi hne=>by simp [Array.getElem?_modify];intro e;subst e;exact absurd rfl hne⟩
   refine ⟨_,w.freeze ⟨b,cur.size,none⟩ 1,by simp [execOp,hx,hrun],rfl,?_⟩
   have hfz:=hL.frz i j hi hj
   have hl0:=hfz.dl 0 rfl
   have h5:=hL.put (it':=It.nil) i hi ⟨hch.os,hch.tape,hch.output,hch.size,fun k hk hn=>hch.block k hk (by intro e;injection e with e;exact hn (show rowOf (some ⟨b,0,none⟩)=some k by rw [e];rfl))⟩ trivial (fun k hk=>hk.elim)
   have h6:=h5.er i
   rw [List.eraseIdx_set_eq] at h6
   have h7:=h6.dsub (D':=D.eraseIdx j) fun d hd=>(List.eraseIdx_sublist D j).subset hd
   refine h7.dadd (d:=.l _ _ _) (hl0.same hch.size (fun o=>?_) (.inr fun h=>h))
   have h3':w.heap[b]?=some (.cells cur e (0,0)):=h3
   simp [aBlk,World.cell?,hfa,h3']
end Go.Fw
namespace Go.Fw
open Go.RowKit
theorem set_flat {sz:Nat}:∀ {cs:List (List Value)} {k:Nat} {d d':List Value},(∀ c ∈ cs,c.length=sz)→cs[k]?=some d→d'.length=sz→(cs.set k d').flatten=cs.flatten.take (k * sz) ++ d' ++ cs.flatten.drop ((k+1) * sz)
 | c :: cs,0,d,d',h,hd,hl=>by
  have hc:=h c (List.mem_cons_self ..)
  rw [List.set_cons_zero,List.flatten_cons,List.flatten_cons,Nat.zero_mul,List.take_zero,List.nil_append,Nat.zero_add,Nat.one_mul,← hc,List.drop_left]
 | c :: cs,k+1,d,d',h,hd,hl=>by
  have hc:=h c (List.mem_cons_self ..)
  have ih:=set_flat (k:=k) (fun c hc=>h c (List.mem_cons_of_mem _ hc)) (by simpa using hd) hl
  have e1:(k+1) * sz=c.length+k * sz:=by rw [hc,Nat.succ_mul,Nat.add_comm]
  have e2:(k+1+1) * sz=c.length+(k+1) * sz:=by rw [hc,Nat.succ_mul (k+1),Nat.add_comm]
  rw [List.set_cons_succ,List.flatten_cons,List.flatten_cons,ih,e2,← List.drop_drop,List.drop_left,e1,List.take_length_add_append,List.append_assoc,List.append_assoc,List.append_assoc]
theorem splice {β : Type} (cur F vs q : List β) (N ks sz off : Nat) (hF : cur.take N = F) (hN : N ≤ cur.length) (hk : ks + sz ≤ N) (hl : off + vs.length ≤ sz) (hq : q = (F.drop ks).take sz) :
    (cur.take (ks + off) ++ vs ++ cur.drop (ks + off + vs.length)).take N = F.take ks ++ (q.take off ++ vs ++ q.drop (off + vs.length)) ++ F.drop (ks + sz) := by
  have h1 : F.take ks ++ q.take off = F.take (ks + off) := by
    rw [hq, List.take_take, Nat.min_eq_left (by omega), List.take_add]
  have h2 : q.drop (off + vs.length) ++ F.drop (ks + sz) = F.drop (ks + off + vs.length) := by
    rw [hq, List.drop_take, List.drop_drop, show ks + (off + vs.length) = ks + off + vs.length by omega]
    have : F.drop (ks + sz) = (F.drop (ks + off + vs.length)).drop (sz - (off + vs.length)) := by rw [List.drop_drop]; congr 1; omega
    rw [this, List.take_append_drop]
  have h3 : F.take (ks + off) = cur.take (ks + off) := by rw [← hF, List.take_take, Nat.min_eq_left (by omega)]
  have h4 : F.drop (ks + off + vs.length) = (cur.drop (ks + off + vs.length)).take (N - (ks + off + vs.length)) := by rw [← hF, List.drop_take]
  have hlen : (cur.take (ks + off) ++ vs).length = ks + off + vs.length := by rw [List.length_append, List.length_take]; omega
  calc (cur.take (ks + off) ++ vs ++ cur.drop (ks + off + vs.length)).take N
      = cur.take (ks + off) ++ vs ++ (cur.drop (ks + off + vs.length)).take (N - (ks + off + vs.length)) := by
        rw [List.take_append, hlen, List.take_of_length_le (by rw [hlen]; omega)]
    _ = F.take (ks + off) ++ vs ++ F.drop (ks + off + vs.length) := by rw [h3, h4]
    _ = _ := by rw [← h1, ← h2]; simp only [List.append_assoc]
theorem Els.lens {α:Type} [Rp α] {F:Nat→Prop} {w:World}:∀ {cs:List (List Value)} {l:List α},Els F w cs l→∀ c ∈ cs,c.length=Rp.sz α
 | [],[],_,c,hc=>by cases hc
 | d :: cs,x :: l,h,c,hc=>by
  rcases List.mem_cons.1 hc with rfl | hc
  · exact Rp.len h.1
  · exact Els.lens h.2 c hc
 | [],_ :: _,h,_,_=>h.elim
 | _ :: _,[],h,_,_=>h.elim
theorem tStO {P:Program} {w0 w:World} {Z G:Nat→Prop} {L:List It} {D:List Da} {ρ:Operand→Value} {d:Option Nat} {ty:TypeId} {pos:String} {af:Array Edge} {g:Option (Nat × Bool)} (hL:Bx w0 w Z G L D) {α:Type} [Rp α] (i j k off:Nat) {t e:TypeId} {x y:Operand} {z:Value} {s by_ base c:Nat} {A:Option Addr} {cs:List (List Value)} {l l2:List α} {q q':List Value} {v':α} (vs:List Value)
   (hi:L[i]?=some (.own base A c e (Rp.sz α) cs)) (hj:D[j]?=some (.els cs l)) (hq:cs[k]?=some q) (ht:TI P t z s by_) (hs:s=vs.length) (hx:ρ x=.pointer (some ⟨aBlk A,aOff A+k * Rp.sz α+off,none⟩)) (hy:(ρ y).cells=vs.toArray) (h1:vs.all (fun v=>v.oneCell')=true)
   (hl:Nat.ble (off+vs.length) (Rp.sz α)=true) (hq':q.take off ++ vs ++ q.drop (off+vs.length)=q') (hr:Rp.rep (Frz w0 Z L) w q' v') (hst:l.set k v'=l2) :
   ToS P ρ ⟨d,.store t x y,ty,pos,af,g⟩ w fun w'=>∃ cs2,Bx w0 w' Z G (L.set i (.own base A c e (Rp.sz α) cs2)) (D.set j (.els cs2 l2)):=by
 subst hs
 have hl:=Nat.le_of_ble_eq_true hl
 have hE:=hL.de j hj
 have ho:=hL.bo i hi
 have hk:=lt_of_get hq
 have hlen:=hE.lens
 have hql:q.length=Rp.sz α:=hlen q (List.mem_of_getElem? hq)
 have hq'l:q'.length=Rp.sz α:=Rp.len hr
 obtain ⟨g0,rfl⟩:=ho.adr (by omega)
 rcases ho.blk with ⟨h0,_⟩|⟨b,cur,hA,hb,hB,hn,hc,hsz,htk⟩
 · cases h0
 · injection hA with hA;injection hA with hA;subst hA
   obtain ⟨ti,hi1,hi2,hi3,hi4⟩:=ht
   have hsz':cs.length * Rp.sz α≤cur.size:=by rw [hsz];exact Nat.mul_le_mul_right _ hn
   have hpos:(k+1) * Rp.sz α≤cs.length * Rp.sz α:=Nat.mul_le_mul_right _ hk
   have hpk:(k+1) * Rp.sz α=k * Rp.sz α+Rp.sz α:=Nat.succ_mul k _
   have hst':=run_storeCells_at (P:=P) g0 (k * Rp.sz α+off) e vs 0 cur w hB (by omega) (fun v hv=>List.all_eq_true.1 h1 v hv)
   rw [Nat.add_zero] at hst'
   have hx':ρ x=.pointer (some ⟨g0,k * Rp.sz α+off,none⟩):=by rw [hx];simp [aBlk,aOff]
   refine ⟨_,by simp [execOp,hx',Instr.storeAt,Instr.sureAddr,storeVar,sizeOf,typeInfo,hi1,hi3,hy,hst'];rfl,cs.set k q',?_⟩
   have hfl:(cs.set k q').flatten=cs.flatten.take (k * Rp.sz α) ++ q' ++ cs.flatten.drop ((k+1) * Rp.sz α):=set_flat hlen hq hq'l
   have hels:Els (Frz w0 Z L) w (cs.set k q') l2:=by rw [← hst];exact hE.set k hr
   have h6:Bx w0 w Z G L (D.set j (.els (cs.set k q') l2)):=hL.dset j hels
   have hlf:cs.flatten.length=cs.length * Rp.sz α:=by rw [hE.flen,hE.len]
   have hcells:q=(cs.flatten.drop (k * Rp.sz α)).take (Rp.sz α):=by
     have key:∀ {cs:List (List Value)} {k:Nat},(∀ c ∈ cs,c.length=Rp.sz α)→cs[k]?=some q→q=(cs.flatten.drop (k * Rp.sz α)).take (Rp.sz α):=by
      intro cs
      induction cs with
      | nil=>intro k _ h;simp at h
      | cons c cs ih=>
       intro k hlen h
       have hc:=hlen c (List.mem_cons_self ..)
       cases k with
       | zero=>
        simp only [List.getElem?_cons_zero,Option.some.injEq] at h
        subst h
        rw [Nat.zero_mul,List.drop_zero,List.flatten_cons,← hc,List.take_left]
       | succ k=>
        rw [List.flatten_cons,show (k+1) * Rp.sz α=c.length+k * Rp.sz α by rw [hc,Nat.succ_mul,Nat.add_comm],← List.drop_drop,List.drop_left]
        exact ih (fun c hc=>hlen c (List.mem_cons_of_mem _ hc)) (by simpa using h)
     exact key hlen hq
   have htake:∀ n,n≤cs.length * Rp.sz α→cs.flatten.take n=cur.toList.take n:=fun n hn=>by rw [← htk,List.take_take,Nat.min_eq_left hn]
   refine h6.rowTo (n2:=cs.length) (ys:=(cs.set k q').flatten) i hi ⟨by rw [hfl];simp only [List.length_append,List.length_take,List.length_drop,hlf,hq'l];omega,.inr ⟨g0,c,_,rfl,hb,hB.setRow _,hn,hc,?_,?_⟩⟩ (by simp) rfl (Chg.setRow w g0 _) (.inl rfl)
   · simp only [List.size_toArray,List.length_append,List.length_take,List.length_drop,Array.length_toList];omega
   · rw [hfl,← hq',hpk]
     have hsp:=splice cur.toList cs.flatten vs q _ _ _ off htk (by rw [Array.length_toList];exact hsz') (by omega) hl hcells
     rw [List.append_assoc] at hsp
     simpa using hsp
end Go.Fw
