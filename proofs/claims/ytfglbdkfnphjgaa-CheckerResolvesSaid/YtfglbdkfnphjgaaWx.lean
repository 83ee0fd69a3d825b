/- Laws of single operations, over what a walk knows (Vx). Over any program. -/
import Derived.Test.YtfglbdkfnphjgaaVx
import Derived.Laws.CopyRow
set_option linter.unusedVariables false
namespace Go.Fw
open Go.RowKit
def ToS (P:Program) (ρ:Operand→Value) (o:Oper) (w:World) (R:World→Prop):Prop:=∃ w',(execOp ρ o).run P w=.ok .skip w'∧R w'
section
variable {P:Program} {N:Nat} {ops:Array Oper} {K:Fr→World→Prop} {rest:List Oper} {f:Fr} {w:World} {d:Option Nat} {op:Op} {ty:TypeId} {pos:String} {af:Array Edge}
theorem sTs {R:World→Prop} (h:ToS P (ev f) ⟨d,op,ty,pos,af,none⟩ w R) (k:∀ w',R w'→WPs P N ops K rest (updO f d undef) w'):WPs P N ops K (⟨d,op,ty,pos,af,none⟩ :: rest) f w:=by
 obtain ⟨w',h1,h2⟩:=h
 exact sDo h1 (k w' h2)
end
section
variable {P:Program} {N:Nat} {ops:Array Oper} {S:World→Prop} {T:List Nat} {K:Fr→World→Prop} {f:Fr} {w:World} {n:Nat} {L:Array Bool}
end
section
variable {α:Type} [Rp α] {F:Nat→Prop} {w0 w w':World} {Z G:Nat→Prop} {L:List It} {D:List Da}
theorem elF {a:Option Addr} {c:Nat} {l:List α} {k:Nat} {x:α} {ds:List Value} (h:LRep F w a c l) (hx:l[k]?=some x) (hr:∀ cs,Rp.rep F w cs x→cs=ds):Cells w (aBlk a) (aOff a+k * Rp.sz α) ds:=by
 obtain ⟨cs,h1,h2⟩:=h.el hx
 rw [← hr cs h2];exact h1
theorem Bx.vw (h:Bx w0 w Z G L D) (i j:Nat) {base:Nat} {A:Option Addr} {c:Nat} {e:TypeId} {cs:List (List Value)} {l:List α} (hi:L[i]?=some (.own base A c e (Rp.sz α) cs)) (hj:D[j]?=some (.els cs l)):LRep (fun _=>True) w A c l:=
 (h.bo i hi).lrep ((h.de j hj).mv (.same fun _ _ _=>trivial)) (fun _ _=>trivial)
theorem Bx.oc (h:Bx w0 w Z G L D) (i j:Nat) {base:Nat} {A:Option Addr} {c k:Nat} {e:TypeId} {cs:List (List Value)} {l:List α} {d:List Value} (hi:L[i]?=some (.own base A c e (Rp.sz α) cs)) (hj:D[j]?=some (.els cs l)) (hd:cs[k]?=some d):Cells w (aBlk A) (aOff A+k * Rp.sz α) d:=by
 have h1:=h.bo i hi
 have h2:=h.de j hj
 obtain ⟨g,rfl⟩:=h1.adr (by have:=lt_of_get hd;omega)
 intro q v hv
 show w.cell? ⟨g,0+k * Rp.sz α+q,none⟩=some v
 rw [Nat.zero_add]
 exact h1.cell (h2.cells hd q v hv)
theorem Bx.nm (h:Bx w0 w Z G L D) (i:Nat) {a:Option Addr} {c:Nat} {l:List α} (hi:D[i]?=some (.l a c l)) {k:Nat} {x:α} (hx:l[k]?=some x):∃ cs,Rp.rep (Frz w0 Z L) w cs x∧Bx w0 w Z G L (.at (aBlk a) (aOff a+k * Rp.sz α) cs :: D):=by
 obtain ⟨cs,h1,h2⟩:=(h.dl i hi).el hx
 have h3:=(h.dl i hi).fb hx
 exact ⟨cs,h2,h.dadd (d:=.at _ _ cs) ⟨h3.1,h3.2,h1⟩⟩
end
section
variable {P:Program} {w:World} {ρ:Operand→Value} {d:Option Nat} {ty:TypeId} {pos:String} {af:Array Edge} {g:Option (Nat × Bool)}
theorem xIdR {α:Type} [Rp α] {F:Nat→Prop} {w1:World} {a:Option Addr} {c:Nat} {l:List α} {v:α} {t e:TypeId} {x y:Operand} {k:IntKind} {i:Int} {z:Value} {by_:Nat} {j:Nat} (ht:P.underlying t=some (.slice e)) (he:TI P e z (Rp.sz α) by_) (hx:ρ x=.slice a l.length c)
  (hy:ρ y=.int k i) (hi:i=(j:Int)) (hs:LRep F w1 a c l) (hj:l[j]?=some v):Yl P ρ (.indexAddr t x y) d ty pos af g w (.pointer (some ⟨aBlk a,aOff a+j * Rp.sz α,none⟩)):=by
 rw [hs.adr hj] at hx
 exact xIdx (P:=P) (w:=w) (d:=d) (ty:=ty) (pos:=pos) (af:=af) (g:=g) j ht he hx hy hi (lt_of_get hj)
theorem xLnR {n:Nat} {a:Option Addr} {c:Nat} {t e:TypeId} {x:Operand} (ht:P.underlying t=some (.slice e)) (hx:ρ x=.slice a n c) :
 Yl P ρ (.call { callee:=.builtin .len,args:=#[x],argTypes:=#[t] }) d ty pos af g w (.int .i64 (n:Nat)):=xLen ht hx
def wr (n:Int):Int:=IntKind.i64.wrap n
theorem xAddW {t t':TypeId} {x y:Operand} {a b:Int} (hx:ρ x=.int .i64 a) (hy:ρ y=.int .i64 b):Yl P ρ (.binOp .add t x y t') d ty pos af g w (.int .i64 (wr (a+b))):=xAdd hx hy
theorem xSubW {t t':TypeId} {x y:Operand} {a b:Int} (hx:ρ x=.int .i64 a) (hy:ρ y=.int .i64 b):Yl P ρ (.binOp .sub t x y t') d ty pos af g w (.int .i64 (wr (a - b))):=xSub hx hy
theorem xMulW {t t':TypeId} {x y:Operand} {a b:Int} (hx:ρ x=.int .i64 a) (hy:ρ y=.int .i64 b):Yl P ρ (.binOp .mul t x y t') d ty pos af g w (.int .i64 (wr (a * b))):=xMul hx hy
theorem xQuoW {t t':TypeId} {x y:Operand} {a b:Int} (hx:ρ x=.int .i64 a) (hy:ρ y=.int .i64 b) (h0:¬ b=0):Yl P ρ (.binOp .quo t x y t') d ty pos af g w (.int .i64 (wr (a.tdiv b))):=xQuo hx hy h0
theorem xRemW {t t':TypeId} {x y:Operand} {a b:Int} (hx:ρ x=.int .i64 a) (hy:ρ y=.int .i64 b) (h0:¬ b=0):Yl P ρ (.binOp .rem t x y t') d ty pos af g w (.int .i64 (a.tmod b)):=xRem hx hy h0
def w8 (n:Int):Int:=IntKind.u8.wrap n
theorem xSub8 {t t':TypeId} {x y:Operand} {a b:Int} (hx:ρ x=.int .u8 a) (hy:ρ y=.int .u8 b):Yl P ρ (.binOp .sub t x y t') d ty pos af g w (.int .u8 (w8 (a - b))):=xSub hx hy
theorem xCvW {k:IntKind} {a:Int} {s t:TypeId} {x:Operand} (hs:∃ dsc,P.underlying s=some dsc) (ht:P.underlying t=some (.int .i64)) (hx:ρ x=.int k a):Yl P ρ (.convert s t x) d ty pos af g w (.int .i64 (wr a)):=xConv _ hs ht hx
theorem xCv8 {k:IntKind} {a:Int} {s t:TypeId} {x:Operand} (hs:∃ dsc,P.underlying s=some dsc) (ht:P.underlying t=some (.int .u8)) (hx:ρ x=.int k a):Yl P ρ (.convert s t x) d ty pos af g w (.int .u8 (w8 a)):=xConv _ hs ht hx
def ixs (s:ByteArray) (i:Int):Option Int:=if i < 0 then none else (s[i.toNat]?).map fun b=>((b.toNat:Nat):Int)
theorem ixs_inv {s:ByteArray} {i x:Int} (h:ixs s i=some x):∃ k:Nat,i=(k:Int)∧∃ b,s[k]?=some b∧((b.toNat:Nat):Int)=x:=by
 unfold ixs at h
 split at h
 · cases h
 · obtain ⟨b,h1,h2⟩:=Option.map_eq_some_iff.1 h
   exact ⟨i.toNat,by omega,b,h1,h2⟩
def sls (s:ByteArray) (a b:Int):Option ByteArray:=if 0≤a∧a≤b∧b≤s.size then some (s.extract a.toNat b.toNat) else none
theorem sls_inv {s r:ByteArray} {a b:Int} (h:sls s a b=some r):∃ i j:Nat,a=(i:Int)∧b=(j:Int)∧i≤j∧j≤s.size∧s.extract i j=r:=by
 unfold sls at h
 split at h
 · rename_i hc
   exact ⟨a.toNat,b.toNat,by omega,by omega,by omega,by omega,sm h⟩
 · cases h
theorem xIxS {t:TypeId} {x y:Operand} {s:ByteArray} {k:IntKind} {i v:Int} (ht:P.underlying t=some .string) (hx:ρ x=.string s) (hy:ρ y=.int k i) (h:ixs s i=some v):Yl P ρ (.index t x y) d ty pos af g w (.int .u8 v):=by
 obtain ⟨j,rfl,b,h1,rfl⟩:=ixs_inv h
 simp [Yl,execOp,Instr.index,run_underlying ht,hx,hy,asIntOf,h1]
theorem xSlS {t:TypeId} {x y z:Operand} {s r:ByteArray} {k k':IntKind} {a b:Int} (ht:P.underlying t=some .string) (hx:ρ x=.string s) (hy:ρ y=.int k a) (hz:ρ z=.int k' b) (h:sls s a b=some r):Yl P ρ (.slice t x (some y) (some z) none) d ty pos af g w (.string r):=by
 obtain ⟨i,j,rfl,rfl,h1,h2,rfl⟩:=sls_inv h
 have h3:(i:Int)≤(j:Int):=by omega
 have h4:(j:Int)≤(s.size:Int):=by omega
 simp [Yl,execOp,Instr.sliceAt,Instr.slice,run_underlying ht,hx,hy,hz,Instr.sliceBounds,Instr.sliceBound,asIntOf,h1,h2]
theorem xCat {t t':TypeId} {x y:Operand} {a b r:ByteArray} (hx:ρ x=.string a) (hy:ρ y=.string b) (h:cat a b=some r):Yl P ρ (.binOp .add t x y t') d ty pos af g w (.string r):=by
 obtain ⟨h1,rfl⟩:=cat_inv h
 have hm:¬ (((a.size+b.size:Nat):Int) > IntKind.i64.max):=by
  have:IntKind.i64.max=9223372036854775807:=by decide
  rw [this];omega
 simp only [Yl,execOp,hx,hy,eqGuard,binOp,Op.stringOp]
 simp only [if_neg hm]
 rfl
theorem beq_tb (a b:ByteArray):(a.toList == b.toList)=decide (a=b):=by
 by_cases h:a=b
 · subst h;simp
 · rw [decide_eq_false h]
   refine beq_false_of_ne fun e=>h ?_
   rw [ByteArray.toList_eq,ByteArray.toList_eq] at e
   obtain ⟨⟨x⟩⟩:=a
   obtain ⟨⟨y⟩⟩:=b
   simpa using e
theorem xEqlT' {t t':TypeId} {x y:Operand} {a b:ByteArray} (hx:ρ x=.string a) (hy:ρ y=.string b):Yl P ρ (.binOp .eql t x y t') d ty pos af g w (.bool (decide (a=b))):=by
 have h:=beq_tb a b
 simp [Yl,execOp,hx,hy,eqGuard,binOp,Op.stringOp,h]
theorem xNeqT' {t t':TypeId} {x y:Operand} {a b:ByteArray} (hx:ρ x=.string a) (hy:ρ y=.string b):Yl P ρ (.binOp .neq t x y t') d ty pos af g w (.bool (decide (¬ a=b))):=by
 have h:=beq_tb a b
 simp [Yl,execOp,hx,hy,eqGuard,binOp,Op.stringOp,h]
end
section
variable {P:Program} {w0 w w':World} {Z G:Nat→Prop} {L:List It} {D:List Da} {ρ:Operand→Value} {d:Option Nat} {ty:TypeId} {pos:String} {af:Array Edge} {g:Option (Nat × Bool)}
theorem aNewB (hL:Bx w0 w Z G L D) {o:Oper} {t:TypeId} {cs:Array Value} (h:(execOp ρ o).run P w=.ok (.value (.pointer (some ⟨w.heap.size,0,none⟩))) (w.alloc (.cells cs t))) :
  To P ρ o w fun v w'=>∃ b,v=.pointer (some ⟨b,0,none⟩)∧Bx w0 w' Z G (.box b t cs :: L) D:=
 ⟨_,_,h,_,rfl,hL.new (Nat.le_refl _) (Blk.new w t cs) ((Ext.refl w).alloc _)⟩
theorem aRowB (hL:Bx w0 w Z G L D) {α:Type} [Rp α] {o:Oper} {e:TypeId} {cs:Array Value} {n:Nat} (ds:List (List Value)) (l:List α) (h:(execOp ρ o).run P w=.ok (.value (.slice (some ⟨w.heap.size,0,none⟩) n n)) (w.alloc (.cells cs e)))
   (hc:cs.toList=ds.flatten) (hn:n=l.length) (hm:n≤maxLen) (he:Els (Frz w0 Z L) w ds l) :
   To P ρ o w fun v w'=>∃ b,v=.slice (some ⟨b,0,none⟩) l.length n∧Bx w0 w' Z G (.own w0.heap.size (some ⟨b,0,none⟩) n e (Rp.sz α) ds :: L) (.els ds l :: D):=by
 subst hn
 refine ⟨_,_,h,_,rfl,?_⟩
 have hB:=Blk.new w e cs
 have he1:Ext w (w.alloc (.cells cs e)):=(Ext.refl w).alloc _
 have hfl:=he.flen
 have ho:Own (w.alloc (.cells cs e)) w0.heap.size e (Rp.sz α) (some ⟨w.heap.size,0,none⟩) l.length l.length cs.toList:=hB.own hL.chg.size hm (by rw [← hfl,← hc];simp)
 rw [hc,← he.len] at ho
 have h1:Bx w0 (w.alloc (.cells cs e)) Z G (.own w0.heap.size (some ⟨w.heap.size,0,none⟩) l.length e (Rp.sz α) ds :: L) D:=
   hL.push he1 (by rw [← he.len];exact ho) (fun k hk=>by simp [It.own,rowOf] at hk;omega)
 refine h1.dadd (d:=.els ds l) (he.mv ⟨fun b hb hl=>⟨⟨hb.1,fun it hi hf=>?_⟩,he1.block b hl⟩,he1.size⟩)
 rcases List.mem_cons.1 hi with rfl | hi
 · simp [It.own,rowOf] at hf;omega
 · exact hb.2 it hi hf
theorem tStB (hL:Bx w0 w Z G L D) (i:Nat) {t te:TypeId} {x y:Operand} {z:Value} {s by_ b o:Nat} {old cs':Array Value} (vs:List Value) (hi:L[i]?=some (.box b te old)) (ht:TI P t z s by_) (hs:s=vs.length)
  (hx:ρ x=.pointer (some ⟨b,o,none⟩)) (hy:(ρ y).cells=vs.toArray) (h1:vs.all (fun v=>v.oneCell')=true) (hl:Nat.ble (o+vs.length) old.size=true) (hc:(old.toList.take o ++ vs ++ old.toList.drop (o+vs.length)).toArray=cs') :
  ToS P ρ ⟨d,.store t x y,ty,pos,af,g⟩ w fun w'=>Bx w0 w' Z G (L.set i (.box b te cs')) D:=by
 subst hc hs
 obtain ⟨q,hi1,hi2,hi3,hi4⟩:=ht
 have hB:=hL.bk i hi
 have hst:=run_storeCells_at (P:=P) b o te vs 0 old w hB (by have:=Nat.le_of_ble_eq_true hl;omega) (fun v hv=>List.all_eq_true.1 h1 v hv)
 rw [Nat.add_zero] at hst
 refine ⟨_,?_,hL.wr i hi (Chg.setRow w b _) (hB.setRow _)⟩
 simp [execOp,hx,Instr.storeAt,Instr.sureAddr,storeVar,sizeOf,typeInfo,hi1,hi3,hy,hst]
theorem aAppB (hL:Bx w0 w Z G L D) {α:Type} [Rp α] (i j:Nat) {t e:TypeId} {s x:Operand} {z:Value} {by_ base:Nat} {A A':Option Addr} {c c':Nat} {cs:List (List Value)} {l m r:List α}
  (hi:L[i]?=some (.own base A c e (Rp.sz α) cs)) (hj:D[j]?=some (.els cs l)) (ht:P.underlying t=some (.slice e)) (hti:TI P e z (Rp.sz α) by_) (hz:z.cells.size=Rp.sz α) (h0:0 < Rp.sz α) (hb:by_≤100000) (hbase:base≤w0.heap.size)
  (hs:ρ s=.slice A l.length c) (hx:ρ x=.slice A' m.length c') (hy:∃ ds,Els (Frz w0 Z L) w ds m∧Sl w w.heap.size (Rp.sz α) A' m.length ds.flatten) (hr:Fw.app l m=some r) :
  To P ρ ⟨d,.call { callee:=.builtin .append,args:=#[s,x],argTypes:=#[t,t] },ty,pos,af,g⟩ w fun v w'=>
   ∃ A2 c2 cs2,v=.slice A2 r.length c2∧Bx w0 w' Z G (L.set i (.own base A2 c2 e (Rp.sz α) cs2)) (D.set j (.els cs2 r)):=by
 obtain ⟨hm,rfl⟩:=app_inv hr
 obtain ⟨ds,hd,hsl⟩:=hy
 have hE:=hL.de j hj
 have ho:=hL.bo i hi
 rw [hE.len] at ho
 have hbb:(l.length+m.length) * by_≤140737488355328:=Nat.le_trans (Nat.mul_le_mul hm hb) (by decide)
 obtain ⟨v,w',h1,A2,c2,rfl,h2,h3,h4⟩:=aAppend (P:=P) (ρ:=ρ) (w:=w) (d:=d) (ty:=ty) (pos:=pos) (af:=af) (g:=g) base (l ++ m).length ht hti hz h0 hs hx ho hsl (Els.one hd) (Nat.le_trans hbase hL.chg.size) (by omega) hbb (by simp)
 have h5:Els (Frz w0 Z L) w (cs ++ ds) (l ++ m):=hE.app hd
 refine ⟨_,w',h1,A2,c2,cs ++ ds,rfl,?_⟩
 have h6:Bx w0 w Z G L (D.set j (.els (cs ++ ds) (l ++ m))):=hL.dset j h5
 exact h6.rowTo i hi h2 h5.len.symm (by simp) h3 h4
theorem Bx.ysO (hL:Bx w0 w Z G L D) {α:Type} [Rp α] (i j:Nat) {e:TypeId} {base c:Nat} {A:Option Addr} {cs:List (List Value)} {l:List α} (hi:L[i]?=some (.own base A c e (Rp.sz α) cs)) (hj:D[j]?=some (.els cs l)):∃ ds,Els (Frz w0 Z L) w ds l∧Sl w w.heap.size (Rp.sz α) A l.length ds.flatten:=
 ⟨cs,hL.de j hj,by have:=(hL.bo i hi).sl;rwa [(hL.de j hj).len] at this⟩
theorem Bx.ysP (hL:Bx w0 w Z G L D) {α:Type} [Rp α] (i j:Nat) {e:TypeId} {base c n:Nat} {A:Option Addr} {cs:List (List Value)} {l r:List α} (hi:L[i]?=some (.own base A c e (Rp.sz α) cs)) (hj:D[j]?=some (.els cs l)) (hn:n≤l.length) (hr:(l.drop 0).take (n - 0)=r):∃ ds,Els (Frz w0 Z L) w ds r∧Sl w w.heap.size (Rp.sz α) A r.length ds.flatten:=by
 subst hr
 rw [List.drop_zero,Nat.sub_zero]
 have hE:=hL.de j hj
 have hs:=(hL.bo i hi).sl
 rw [hE.len] at hs
 have h1:=hs.take hn
 have hl:(l.take n).length=n:=by rw [List.length_take];omega
 refine ⟨cs.take n,hE.take n,?_⟩
 rw [hl]
 have key:∀ {cs:List (List Value)} {l:List α} (n:Nat),n≤l.length→Els (Frz w0 Z L) w cs l→(cs.take n).flatten=cs.flatten.take (n * Rp.sz α):=by
  intro cs
  induction cs with
  | nil=>intro l n _ _;simp
  | cons c cs ih=>
   intro l n hn hE
   cases l with
   | nil=>exact hE.elim
   | cons x l=>
    cases n with
    | zero=>simp
    | succ n=>
     have hc:=Rp.len hE.1
     have h2:(n+1) * Rp.sz α - c.length=n * Rp.sz α:=by rw [hc,Nat.succ_mul];omega
     have h3:c.length≤(n+1) * Rp.sz α:=by rw [hc,Nat.succ_mul];omega
     rw [List.take_succ_cons,List.flatten_cons,List.flatten_cons,ih n (by simpa using hn) hE.2,List.take_append,h2,List.take_of_length_le h3]
 rw [key n hn hE]
 exact h1
theorem Bx.ysD (hL:Bx w0 w Z G L D) {α:Type} [Rp α] (i:Nat) {a:Option Addr} {c:Nat} {l:List α} (hi:D[i]?=some (.l a c l)):∃ ds,Els (Frz w0 Z L) w ds l∧Sl w w.heap.size (Rp.sz α) a l.length ds.flatten:=(hL.dl i hi).els
theorem LRep.part {α:Type} [Rp α] {F:Nat→Prop} {w:World} {a:Option Addr} {c:Nat} {l:List α} (h:LRep F w a c l) {i j:Nat} (hij:i≤j) (hj:j≤l.length):LRep F w (if c=i then a else a.map (·.add (i * Rp.sz α))) (c - i) ((l.drop i).take (j - i)):=by
 have hc:=h.1
 have hlen:((l.drop i).take (j - i)).length=j - i:=by rw [List.length_take,List.length_drop];omega
 refine ⟨by omega,by have:=h.2.1;omega,fun h0=>?_⟩
 obtain ⟨h1,h2,h3,h4⟩:=h.2.2 (by omega)
 rw [if_neg (by omega)]
 have hb:aBlk (a.map (·.add (i * Rp.sz α)))=aBlk a:=by rw [h1];simp [Addr.add_lit,aBlk]
 have ho:aOff (a.map (·.add (i * Rp.sz α)))=aOff a+i * Rp.sz α:=by rw [h1];simp [Addr.add_lit,aOff]
 rw [hb,ho]
 refine ⟨by rw [h1];simp [Addr.add_lit,aBlk,aOff],h2,h3,fun k x hx=>?_⟩
 rw [List.getElem?_take] at hx
 split at hx
 · rw [List.getElem?_drop] at hx
   obtain ⟨cs,h5,h6⟩:=h4 _ x hx
   refine ⟨cs,?_,h6⟩
   have:aOff a+(i+k) * Rp.sz α=aOff a+i * Rp.sz α+k * Rp.sz α:=by rw [Nat.add_mul];omega
   rw [this] at h5
   exact h5
 · cases hx
end
section
variable {P:Program} {w:World} {ρ:Operand→Value} {d:Option Nat} {ty:TypeId} {pos:String} {af:Array Edge} {g:Option (Nat × Bool)}
theorem LRep.head {α:Type} [Rp α] {F:Nat→Prop} {w:World} {a:Option Addr} {c:Nat} {l:List α} (h:LRep F w a c l) {j:Nat} (hj:j≤l.length):LRep F w a c ((l.drop 0).take (j - 0)):=by
 rw [List.drop_zero,Nat.sub_zero]
 have hl:(l.take j).length=j:=by rw [List.length_take];omega
 refine ⟨by have:=h.1;omega,h.2.1,fun h0=>?_⟩
 obtain ⟨h1,h2,h3,h4⟩:=h.2.2 (by omega)
 refine ⟨h1,h2,h3,fun i x hx=>h4 i x ?_⟩
 rw [List.getElem?_take] at hx
 split at hx
 · exact hx
 · cases hx
end
theorem xNil {P:Program} {w:World} {ρ:Operand→Value} {d:Option Nat} {ty:TypeId} {pos:String} {af:Array Edge} {g:Option (Nat × Bool)} {x:Operand} {a:Addr} (hx:ρ x=.pointer (some a)):Yl P ρ (.nilCheck x) d ty pos af g w (.pointer (some a)):=by
 simp [Yl,execOp,hx]
theorem bt {p:Prop} [Decidable p] (h:p):Value.bool (decide p)=.bool true:=by rw [decide_eq_true h]
theorem bf {p:Prop} [Decidable p] (h:¬ p):Value.bool (decide p)=.bool false:=by rw [decide_eq_false h]
theorem nt {b:Bool} (h:¬ b=true):b=false:=by cases b with
 | true=>exact absurd rfl h
 | false=>rfl
theorem wJ {P:Program} {N:Nat} {Q:Post} {f:Fr} {w:World} {x:Code} (J:Fr→World→Prop) (h:WP P N x { Q with n:=J } f w) (k:∀ f w,J f w→Q.n f w):WP P N x Q f w:=
 h.mono (fun f w hj=>k f w hj) (fun _ _ _ h=>h) (fun _ _ h=>h)
end Go.Fw
namespace Go.Fw
open Go.RowKit
def RdR (P:Program) (f:Fr) (w:World):ResultVar→Value→Prop
 | .tmp t,v=>f t=v
 | .cell t ty,v=>∃ b te cs,f t=.pointer (some ⟨b,0,none⟩)∧Blk w b te cs∧(loadVar ty ⟨b,0,none⟩).run P w=.ok v w
theorem rdA {P:Program} {f:Fr} {w:World} {t b:Nat} {ty te:TypeId} {D:TypeDesc} {z:Value} {s by_:Nat} {cs:Array Value} (hf:f t=.pointer (some ⟨b,0,none⟩)) (hu:P.underlying ty=some D) (hD:aggD D=true) (hi:TI P ty z s by_) (hs:s=cs.size) (hB:Blk w b te cs):RdR P f w (.cell t ty) (.agg cs):=by
 refine ⟨b,te,cs,hf,hB,?_⟩
 have hl := xLoadS (P := P) (w := w) (ρ := fun _ => .pointer (some ⟨b, 0, none⟩)) (d := none) (ty := 0) (pos := "") (af := #[]) (g := none) (x := .tmp 0) cs.toList hu hD hi (by simpa using hs) rfl hB.cells
 simp only [Yl,execOp,Instr.loadAt,Instr.sureAddr,Sem.run_bind,Sem.run_pure,Result.andThen_ok] at hl
 cases hq:(loadVar ty ⟨b,0,none⟩).run P w with
 | ok v w'=>rw [hq] at hl;simp at hl;rw [hl.1,hl.2]
 | halt h w'=>rw [hq] at hl;simp at hl
theorem rdT {P:Program} {f:Fr} {w:World} {t:Nat} {v:Value} (hf:f t=v):RdR P f w (.tmp t) v:=hf
theorem rd_run {P:Program} {f:Fr} {w:World} {r:ResultVar} {v:Value} (h:RdR P f w r v) (a:Array Value) (ha:∀ t,a.getD t undef=f t) :
  (∃ t,r=.tmp t∧a[t]?.getD undef=v) ∨ ∃ q ty b,r=.cell q ty∧a[q]?.getD undef=.pointer (some ⟨b,0,none⟩)∧(loadVar ty ⟨b,0,none⟩).run P w=.ok v w:=by
 cases r with
 | tmp t=>have h:f t=v:=h;exact .inl ⟨t,rfl,by have:=ha t;rw [Array.getD_eq_getD_getElem?] at this;rw [this];exact h⟩
 | cell t ty=>
  obtain ⟨b,te,cs,h1,h2,h3⟩:=h
  exact .inr ⟨t,ty,b,rfl,by have:=ha t;rw [Array.getD_eq_getD_getElem?] at this;rw [this];exact h1,h3⟩
theorem resV1 {P:Program} {fn:Func} {R:Value→World→Prop} {f:Fr} {w:World} {r:ResultVar} {v:Value} (hr:fn.results=#[r]) (h1:RdR P f w r v) (h:R v w):Reads P fn R f w:=by
 unfold Reads
 intro a ha
 refine ⟨v,?_,h⟩
 rcases rd_run h1 a ha with ⟨t1,rfl,e1⟩|⟨q1,ty1,b1,rfl,e1,k1⟩ <;> clear ha h1 <;> simp [results,asAddr, *]
theorem resV2 {P:Program} {fn:Func} {R:Value→World→Prop} {f:Fr} {w:World} {r r':ResultVar} {v v':Value} (hr:fn.results=#[r,r']) (h1:RdR P f w r v) (h2:RdR P f w r' v') (h:R (.tuple #[v,v']) w):Reads P fn R f w:=by
 unfold Reads
 intro a ha
 refine ⟨_,?_,h⟩
 rcases rd_run h1 a ha with ⟨t1,rfl,e1⟩|⟨q1,ty1,b1,rfl,e1,k1⟩ <;> rcases rd_run h2 a ha with ⟨t2,rfl,e2⟩|⟨q2,ty2,b2,rfl,e2,k2⟩ <;> clear ha h1 h2 <;> simp [results,asAddr, *]
theorem resV3 {P:Program} {fn:Func} {R:Value→World→Prop} {f:Fr} {w:World} {r r' r'':ResultVar} {v v' v'':Value} (hr:fn.results=#[r,r',r'']) (h1:RdR P f w r v) (h2:RdR P f w r' v') (h3:RdR P f w r'' v'') (h:R (.tuple #[v,v',v'']) w):Reads P fn R f w:=by
 unfold Reads
 intro a ha
 refine ⟨_,?_,h⟩
 rcases rd_run h1 a ha with ⟨t1,rfl,e1⟩|⟨q1,ty1,b1,rfl,e1,k1⟩ <;> rcases rd_run h2 a ha with ⟨t2,rfl,e2⟩|⟨q2,ty2,b2,rfl,e2,k2⟩ <;> rcases rd_run h3 a ha with ⟨t3,rfl,e3⟩|⟨q3,ty3,b3,rfl,e3,k3⟩ <;> clear ha h1 h2 h3 <;> simp [results,asAddr, *]
end Go.Fw
