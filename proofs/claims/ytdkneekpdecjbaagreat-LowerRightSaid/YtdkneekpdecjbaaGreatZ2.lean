/- Lemmas. -/
import Derived.Test.YtdkneekpdecjbaaGreatZ1
import Derived.Laws.CopyRow
import Derived.Lib.ConvBytes
set_option linter.all false
namespace Go.Fw
open Go.RowKit
def Zh (P:Program)(ρ:Operand->Value)(o:Oper)(w:World)(R:World->Prop):Prop:=∃ w',(execOp ρ o).run P w=.ok .skip w'/\R w'
section
variable {P:Program}{N:Fz}{ops:Array Oper}{K:KK}{rest:List Oper}{f:Fr}{w:World}{d:Option Nat}{op:Op}{ty:TypeId}{pos:String}{af:Array Edge}
theorem kV {R:World->Prop}(h:Zh P (ev f) ⟨d,op,ty,pos,af,none⟩ w R)(k:∀ w',R w'->pq P N ops K rest (lD f d undef) w'):pq P N ops K (⟨d,op,ty,pos,af,none⟩ :: rest) f w:=by obtain ⟨w',h1,h2⟩:=h;exact sDo h1 (k w' h2)
end
section
variable {P:Program}{N:Fz}{ops:Array Oper}{S:World->Prop}{T:List Nat}{K:KK}{f:Fr}{w:World}{n:Nat}{L:Array Bool}
end
section
variable {α:Type}[Rp α]{F:Nat->Prop}{w0 w w':World}{Z G:Nat->Prop}{L:List It}{D:List Da}
theorem uY {a:Option Addr}{c:Nat}{l:List α}{k:Nat}{x:α}{ds:List Value}(h:l5 F w a c l)(hx:l[k]?=some x)(hr:∀ cs,Rp.rep F w cs x->cs=ds):Cells w (oH a) (qo a+k * Rp.sz α) ds:=by obtain ⟨cs,h1,h2⟩:=h.el hx;rw [<-hr cs h2];exact h1
theorem Bx.vw (h:Bx w0 w Z G L D)(i j:Nat){base:Nat}{A:Option Addr}{c:Nat}{e:TypeId}{cs:List (List Value)}{l:List α}(hi:L[i]?=some (.own base A c e (Rp.sz α) cs))(hj:D[j]?=some (.els cs l)):l5 (fun _=>True) w A c l:=
 (h.bo i hi).WO ((h.de j hj).mv (.same fun _ _ _=>trivial)) (fun _ _=>trivial)
theorem Bx.oc (h:Bx w0 w Z G L D)(i j:Nat){base:Nat}{A:Option Addr}{c k:Nat}{e:TypeId}{cs:List (List Value)}{l:List α}{d:List Value}(hi:L[i]?=some (.own base A c e (Rp.sz α) cs))(hj:D[j]?=some (.els cs l))(hd:cs[k]?=some d):Cells w (oH A) (qo A+k * Rp.sz α) d:=by have h1:=h.bo i hi;have h2:=h.de j hj;obtain ⟨g,rfl⟩:=h1.VP (by have:=ku hd;omega);intro q v hv;show w.cell? ⟨g,0+k * Rp.sz α+q,none⟩=some v;rw [DV];exact h1.cell (h2.cells hd q v hv)
theorem Bx.nm (h:Bx w0 w Z G L D)(i:Nat){a:Option Addr}{c:Nat}{l:List α}(hi:D[i]?=some (.l a c l)){k:Nat}{x:α}(hx:l[k]?=some x):∃ cs,Rp.rep (IU w0 Z L) w cs x/\Bx w0 w Z G L (.at (oH a) (qo a+k * Rp.sz α) cs :: D):=by obtain ⟨cs,h1,h2⟩:=(h.dl i hi).el hx;have h3:=(h.dl i hi).fb hx;exact ⟨cs,h2,h.ko (d:=.at _ _ cs) ⟨h3.1,h3.2,h1⟩⟩
end
section
variable {P:Program}{w:World}{ρ:Operand->Value}{d:Option Nat}{ty:TypeId}{pos:String}{af:Array Edge}{g:Option (Nat × Bool)}
theorem kR {α:Type}[Rp α]{F:Nat->Prop}{w1:World}{a:Option Addr}{c:Nat}{l:List α}{v:α}{t e:TypeId}{x y:Operand}{k:IntKind}{i:Int}{z:Value}{by_ j:Nat}(ht:P.underlying t=some (.slice e))(he:TI P e z (Rp.sz α) by_)(hx:ρ x=.slice a l.length c)(hy:ρ y=.int k i)(hi:i=(j:Int))(hs:l5 F w1 a c l)(hj:l[j]?=some v):Yl P ρ (.indexAddr t x y) d ty pos af g w (.pointer (some ⟨oH a,qo a+j * Rp.sz α,none⟩)):=by rw [hs.VP hj] at hx;exact xIdx (P:=P) (w:=w) (d:=d) (ty:=ty) (pos:=pos) (af:=af) (g:=g) j ht he hx hy hi (ku hj)
theorem qG {n:Nat}{a:Option Addr}{c:Nat}{t e:TypeId}{x:Operand}(ht:P.underlying t=some (.slice e))(hx:ρ x=.slice a n c) :
 Yl P ρ (.call { callee:=.builtin .len,args:=#[x],argTypes:=#[t] }) d ty pos af g w (.int .i64 (n:Nat)):=agp ht hx
def wr (n:Int):Int:=IntKind.i64.wrap n
theorem mg {t t':TypeId}{x y:Operand}{a b:Int}(hx:ρ x=.int .i64 a)(hy:ρ y=.int .i64 b):Yl P ρ (.binOp .add t x y t') d ty pos af g w (.int .i64 (wr (a+b))):=afv hx hy
theorem ER {t t':TypeId}{x y:Operand}{a b:Int}(hx:ρ x=.int .i64 a)(hy:ρ y=.int .i64 b):Yl P ρ (.binOp .sub t x y t') d ty pos af g w (.int .i64 (wr (a - b))):=afX hx hy
theorem abF {t t':TypeId}{x y:Operand}{a b:Int}(hx:ρ x=.int .i64 a)(hy:ρ y=.int .i64 b):Yl P ρ (.binOp .mul t x y t') d ty pos af g w (.int .i64 (wr (a * b))):=ahm hx hy
theorem aeU {t t':TypeId}{x y:Operand}{a b:Int}(hx:ρ x=.int .i64 a)(hy:ρ y=.int .i64 b)(h0:¬ b=0):Yl P ρ (.binOp .quo t x y t') d ty pos af g w (.int .i64 (wr (a.tdiv b))):=agQ hx hy h0
theorem aa7 {t t':TypeId}{x y:Operand}{a b:Int}(hx:ρ x=.int .i64 a)(hy:ρ y=.int .i64 b)(h0:¬ b=0):Yl P ρ (.binOp .rem t x y t') d ty pos af g w (.int .i64 (a.tmod b)):=agq hx hy h0
def w8 (n:Int):Int:=IntKind.u8.wrap n
theorem afQ {t t':TypeId}{x y:Operand}{a b:Int}(hx:ρ x=.int .u8 a)(hy:ρ y=.int .u8 b):Yl P ρ (.binOp .sub t x y t') d ty pos af g w (.int .u8 (w8 (a - b))):=afX hx hy
theorem agv {k:IntKind}{a:Int}{s t:TypeId}{x:Operand}(hs:∃ dsc,P.underlying s=some dsc)(ht:P.underlying t=some (.int .i64))(hx:ρ x=.int k a):Yl P ρ (.convert s t x) d ty pos af g w (.int .i64 (wr a)):=abK _ hs ht hx
theorem ag1 {k:IntKind}{a:Int}{s t:TypeId}{x:Operand}(hs:∃ dsc,P.underlying s=some dsc)(ht:P.underlying t=some (.int .u8))(hx:ρ x=.int k a):Yl P ρ (.convert s t x) d ty pos af g w (.int .u8 (w8 a)):=abK _ hs ht hx
def ixs (s:ByteArray)(i:Int):Option Int:=if i < 0 then none else (s[i.toNat]?).map fun b=>((b.toNat:Nat):Int)
theorem ZT {s:ByteArray}{i x:Int}(h:ixs s i=some x):∃ k:Nat,i=(k:Int)/\∃ b,s[k]?=some b/\((b.toNat:Nat):Int)=x:=by
 unfold ixs at h;split at h
 · cases h
 · obtain ⟨b,h1,h2⟩:=Option.map_eq_some_iff.1 h;exact ⟨i.toNat,by omega,b,h1,h2⟩
def Zp (s:ByteArray)(a b:Int):Option ByteArray:=if 0<=a/\a<=b/\b<=s.size then some (s.extract a.toNat b.toNat) else none
theorem ZA {s r:ByteArray}{a b:Int}(h:Zp s a b=some r):∃ i j:Nat,a=(i:Int)/\b=(j:Int)/\i<=j/\j<=s.size/\s.extract i j=r:=by
 unfold Zp at h;split at h
 · rename_i hc;exact ⟨a.toNat,b.toNat,by omega,by omega,by omega,by omega,sm h⟩
 · cases h
theorem MQ {t:TypeId}{x y:Operand}{s:ByteArray}{k:IntKind}{i v:Int}(ht:P.underlying t=some .string)(hx:ρ x=.string s)(hy:ρ y=.int k i)(h:ixs s i=some v):Yl P ρ (.index t x y) d ty pos af g w (.int .u8 v):=by obtain ⟨j,rfl,b,h1,rfl⟩:=ZT h;simp [Yl,execOp,Instr.index,run_underlying ht,hx,hy,asIntOf,h1]
theorem ada {t:TypeId}{x y z:Operand}{s r:ByteArray}{k k':IntKind}{a b:Int}(ht:P.underlying t=some .string)(hx:ρ x=.string s)(hy:ρ y=.int k a)(hz:ρ z=.int k' b)(h:Zp s a b=some r):Yl P ρ (.slice t x (some y) (some z) none) d ty pos af g w (.string r):=by
 obtain ⟨i,j,rfl,rfl,h1,h2,rfl⟩:=ZA h;have h3:(i:Int)<=(j:Int):=by omega
 have h4:(j:Int)<=(s.size:Int):=by omega
 simp [Yl,execOp,Instr.sliceAt,Instr.slice,run_underlying ht,hx,hy,hz,Instr.sliceBounds,Instr.sliceBound,asIntOf,h1,h2]
theorem mE {t t':TypeId}{x y:Operand}{a b r:ByteArray}(hx:ρ x=.string a)(hy:ρ y=.string b)(h:cat a b=some r):Yl P ρ (.binOp .add t x y t') d ty pos af g w (.string r):=by
 obtain ⟨h1,rfl⟩:=ZW h;have hm:¬ (((a.size+b.size:Nat):Int) > IntKind.i64.max):=by
  have:IntKind.i64.max=9223372036854775807:=by decide
  rw [this];omega
 simp only [Yl,execOp,hx,hy,eqGuard,binOp,Op.stringOp];simp only [kQ hm];rfl
theorem Ym (a b:ByteArray):(a.toList == b.toList)=decide (a=b):=by
 by_cases h:a=b
 · subst h;simp
 · rw [sS h];refine beq_false_of_ne fun e=>h ?_;rw [ByteArray.toList_eq,ByteArray.toList_eq] at e;obtain ⟨⟨x⟩⟩:=a;obtain ⟨⟨y⟩⟩:=b;simpa using e
theorem uj {t t':TypeId}{x y:Operand}{a b:ByteArray}(hx:ρ x=.string a)(hy:ρ y=.string b):Yl P ρ (.binOp .eql t x y t') d ty pos af g w (.bool (decide (a=b))):=by have h:=Ym a b;simp [Yl,execOp,hx,hy,eqGuard,binOp,Op.stringOp,h]
theorem Qc {t t':TypeId}{x y:Operand}{a b:ByteArray}(hx:ρ x=.string a)(hy:ρ y=.string b):Yl P ρ (.binOp .neq t x y t') d ty pos af g w (.bool (decide (¬ a=b))):=by have h:=Ym a b;simp [Yl,execOp,hx,hy,eqGuard,binOp,Op.stringOp,h]
end
section
variable {P:Program}{w0 w w':World}{Z G:Nat->Prop}{L:List It}{D:List Da}{ρ:Operand->Value}{d:Option Nat}{ty:TypeId}{pos:String}{af:Array Edge}{g:Option (Nat × Bool)}
theorem ql (hL:Bx w0 w Z G L D){o:Oper}{t:TypeId}{cs:Array Value}(h:(execOp ρ o).run P w=.ok (.value (.pointer (some ⟨w.heap.size,0,none⟩))) (w.alloc (.cells cs t))) :To P ρ o w fun v w'=>∃ b,v=.pointer (some ⟨b,0,none⟩)/\Bx w0 w' Z G (.box b t cs :: L) D:=
 ⟨_,_,h,_,rfl,hL.new (nD _) (yA.new w t cs) ((Ext.refl w).alloc _)⟩
theorem jT (hL:Bx w0 w Z G L D){α:Type}[Rp α]{o:Oper}{e:TypeId}{cs:Array Value}{n:Nat}(ds:List (List Value))(l:List α)(h:(execOp ρ o).run P w=.ok (.value (.slice (some ⟨w.heap.size,0,none⟩) n n)) (w.alloc (.cells cs e)))(hc:cs.toList=ds.flatten)(hn:n=l.length)(he:xC (IU w0 Z L) w ds l)(hm:n<=maxLen:=by decide) :To P ρ o w fun v w'=>∃ b,v=.slice (some ⟨b,0,none⟩) l.length n/\Bx w0 w' Z G (.own w0.heap.size (some ⟨b,0,none⟩) n e (Rp.sz α) ds :: L) (.els ds l :: D):=by
 subst hn;refine ⟨_,_,h,_,rfl,?_⟩;have hB:=yA.new w e cs;have he1:Ext w (w.alloc (.cells cs e)):=(Ext.refl w).alloc _;have hfl:=he.YK;have ho:Own (w.alloc (.cells cs e)) w0.heap.size e (Rp.sz α) (some ⟨w.heap.size,0,none⟩) l.length l.length cs.toList:=hB.own hL.uo.size hm (by rw [<-hfl,<-hc];simp);rw [hc,<-he.len] at ho;have h1:Bx w0 (w.alloc (.cells cs e)) Z G (.own w0.heap.size (some ⟨w.heap.size,0,none⟩) l.length e (Rp.sz α) ds :: L) D:=
   hL.push he1 (by rw [<-he.len];exact ho) (fun k hk=>by simp [It.own,rowOf] at hk;omega)
 refine h1.ko (d:=.els ds l) (he.mv ⟨fun b hb hl=>⟨⟨hb.1,fun it hi hf=>?_⟩,he1.block b hl⟩,he1.size⟩);obtain rfl | hi:=nM.1 hi
 · simp [It.own,rowOf] at hf;omega
 · exact hb.2 it hi hf
theorem QZ (hL:Bx w0 w Z G L D)(i:Nat){t te:TypeId}{x y:Operand}{z:Value}{s by_ b o:Nat}{old cs':Array Value}(vs:List Value)(hi:L[i]?=some (.box b te old))(ht:TI P t z s by_)(hs:s=vs.length)(hx:ρ x=.pointer (some ⟨b,o,none⟩))(hy:(ρ y).cells=vs.toArray)(h1:vs.all (fun v=>v.oneCell')=true)(hl:Nat.ble (o+vs.length) old.size=true)(hc:(old.toList.take o ++ vs ++ old.toList.drop (o+vs.length)).toArray=cs') :Zh P ρ ⟨d,.store t x y,ty,pos,af,g⟩ w fun w'=>Bx w0 w' Z G (L.set i (.box b te cs')) D:=by subst hc hs;obtain ⟨q,hi1,hi2,hi3,hi4⟩:=ht;have hB:=hL.bk i hi;have hst:=run_storeCells_at (P:=P) b o te vs 0 old w hB (by have:=Nat.le_of_ble_eq_true hl;omega) (fun v hv=>List.all_eq_true.1 h1 v hv);rw [Nat.add_zero] at hst;refine ⟨_,?_,hL.wr i hi (HZ.setRow w b _) (hB.setRow _)⟩;simp [execOp,hx,Instr.storeAt,Instr.sureAddr,storeVar,sizeOf,typeInfo,hi1,hi3,hy,hst]
theorem kJ (hL:Bx w0 w Z G L D){α:Type}[Rp α](i j:Nat){t e:TypeId}{s x:Operand}{z:Value}{by_ base:Nat}{A A':Option Addr}{c c':Nat}{cs:List (List Value)}{l m r:List α}(hi:L[i]?=some (.own base A c e (Rp.sz α) cs))(hj:D[j]?=some (.els cs l))(ht:P.underlying t=some (.slice e))(hti:TI P e z (Rp.sz α) by_)(hz:z.cells.size=Rp.sz α)(hbase:base<=w0.heap.size)(hs:ρ s=.slice A l.length c)(hx:ρ x=.slice A' m.length c')(hy:∃ ds,xC (IU w0 Z L) w ds m/\Sl w w.heap.size (Rp.sz α) A' m.length ds.flatten)(hr:Fw.app l m=some r)(h0:0 < Rp.sz α:=by decide)(hb:by_<=100000:=by decide) :To P ρ ⟨d,.call { callee:=.builtin .append,args:=#[s,x],argTypes:=#[t,t] },ty,pos,af,g⟩ w fun v w'=>∃ A2 c2 cs2,v=.slice A2 r.length c2/\Bx w0 w' Z G (L.set i (.own base A2 c2 e (Rp.sz α) cs2)) (D.set j (.els cs2 r)):=by obtain ⟨hm,rfl⟩:=pY hr;obtain ⟨ds,hd,hsl⟩:=hy;have hE:=hL.de j hj;have ho:=hL.bo i hi;rw [hE.len] at ho;have hbb:(l.length+m.length) * by_<=140737488355328:=sO (Nat.mul_le_mul hm hb) (by decide);obtain ⟨v,w',h1,A2,c2,rfl,h2,h3,h4⟩:=U1 (P:=P) (ρ:=ρ) (w:=w) (d:=d) (ty:=ty) (pos:=pos) (af:=af) (g:=g) base (l ++ m).length ht hti hz h0 hs hx ho hsl (xC.one hd) (sO hbase hL.uo.size) (by omega) hbb (by simp);have h5:xC (IU w0 Z L) w (cs ++ ds) (l ++ m):=hE.app hd;refine ⟨_,w',h1,A2,c2,cs ++ ds,rfl,?_⟩;have h6:Bx w0 w Z G L (D.set j (.els (cs ++ ds) (l ++ m))):=hL.KD j h5;exact h6.U2 i hi h2 h5.len.symm (by simp) h3 h4
theorem Bx.Cj (hL:Bx w0 w Z G L D){α:Type}[Rp α](i j:Nat){e:TypeId}{base c:Nat}{A:Option Addr}{cs:List (List Value)}{l:List α}(hi:L[i]?=some (.own base A c e (Rp.sz α) cs))(hj:D[j]?=some (.els cs l)):∃ ds,xC (IU w0 Z L) w ds l/\Sl w w.heap.size (Rp.sz α) A l.length ds.flatten:=
 ⟨cs,hL.de j hj,by have:=(hL.bo i hi).sl;rwa [(hL.de j hj).len] at this⟩
theorem Bx.Dq (hL:Bx w0 w Z G L D){α:Type}[Rp α](i j:Nat){e:TypeId}{base c n:Nat}{A:Option Addr}{cs:List (List Value)}{l r:List α}(hi:L[i]?=some (.own base A c e (Rp.sz α) cs))(hj:D[j]?=some (.els cs l))(hn:n<=l.length)(hr:(l.drop 0).take (n - 0)=r):∃ ds,xC (IU w0 Z L) w ds r/\Sl w w.heap.size (Rp.sz α) A r.length ds.flatten:=by
 subst hr;rw [List.drop_zero,Nat.sub_zero];have hE:=hL.de j hj;have hs:=(hL.bo i hi).sl;rw [hE.len] at hs;have h1:=hs.take hn;have hl:(l.take n).length=n:=by rw [zM];omega
 refine ⟨cs.take n,hE.take n,?_⟩;rw [hl];have key:∀ {cs:List (List Value)}{l:List α}(n:Nat),n<=l.length->xC (IU w0 Z L) w cs l->(cs.take n).flatten=cs.flatten.take (n * Rp.sz α):=by
  intro cs
  induction cs with
  | nil=>intro l n _ _;simp
  | cons c cs ih=>
   intro l n hn hE;cases l with
   | nil=>exact hE.elim
   | cons x l=>
    cases n with
    | zero=>simp
    | succ n=>
     have hc:=Rp.len hE.1;have h2:(n+1) * Rp.sz α - c.length=n * Rp.sz α:=by rw [hc,Nat.succ_mul];omega
     have h3:c.length<=(n+1) * Rp.sz α:=by rw [hc,Nat.succ_mul];omega
     rw [List.take_succ_cons,Bh,Bh,ih n (by simpa using hn) hE.2,List.take_append,h2,List.take_of_length_le h3]
 rw [key n hn hE];exact h1
theorem Bx.ysD (hL:Bx w0 w Z G L D){α:Type}[Rp α](i:Nat){a:Option Addr}{c:Nat}{l:List α}(hi:D[i]?=some (.l a c l)):∃ ds,xC (IU w0 Z L) w ds l/\Sl w w.heap.size (Rp.sz α) a l.length ds.flatten:=(hL.dl i hi).els
theorem l5.part {α:Type}[Rp α]{F:Nat->Prop}{w:World}{a:Option Addr}{c:Nat}{l:List α}(h:l5 F w a c l){i j:Nat}(hij:i<=j)(hj:j<=l.length):l5 F w (if c=i then a else a.map (·.add (i * Rp.sz α))) (c - i) ((l.drop i).take (j - i)):=by
 have hc:=h.1;have hlen:((l.drop i).take (j - i)).length=j - i:=by rw [zM,GV];omega
 refine ⟨by omega,by have:=h.2.1;omega,fun h0=>?_⟩;obtain ⟨h1,h2,h3,h4⟩:=h.2.2 (by omega);rw [kQ (by omega)];have hb:oH (a.map (·.add (i * Rp.sz α)))=oH a:=by rw [h1];simp [Addr.add_lit,oH]
 have ho:qo (a.map (·.add (i * Rp.sz α)))=qo a+i * Rp.sz α:=by rw [h1];simp [Addr.add_lit,qo]
 rw [hb,ho];refine ⟨by rw [h1];simp [Addr.add_lit,oH,qo],h2,h3,fun k x hx=>?_⟩;rw [List.getElem?_take] at hx;split at hx
 · rw [List.getElem?_drop] at hx;obtain ⟨cs,h5,h6⟩:=h4 _ x hx;refine ⟨cs,?_,h6⟩;have:qo a+(i+k) * Rp.sz α=qo a+i * Rp.sz α+k * Rp.sz α:=by rw [Nat.add_mul];omega
   rw [this] at h5;exact h5
 · cases hx
end
section
variable {P:Program}{w:World}{ρ:Operand->Value}{d:Option Nat}{ty:TypeId}{pos:String}{af:Array Edge}{g:Option (Nat × Bool)}
theorem l5.head {α:Type}[Rp α]{F:Nat->Prop}{w:World}{a:Option Addr}{c:Nat}{l:List α}(h:l5 F w a c l){j:Nat}(hj:j<=l.length):l5 F w a c ((l.drop 0).take (j - 0)):=by
 rw [List.drop_zero,Nat.sub_zero];have hl:(l.take j).length=j:=by rw [zM];omega
 refine ⟨by have:=h.1;omega,h.2.1,fun h0=>?_⟩;obtain ⟨h1,h2,h3,h4⟩:=h.2.2 (by omega);refine ⟨h1,h2,h3,fun i x hx=>h4 i x ?_⟩;rw [List.getElem?_take] at hx;split at hx
 · exact hx
 · cases hx
end
theorem Ye {P:Program}{w:World}{ρ:Operand->Value}{d:Option Nat}{ty:TypeId}{pos:String}{af:Array Edge}{g:Option (Nat × Bool)}{x:Operand}{a:Addr}(hx:ρ x=.pointer (some a)):Yl P ρ (.nilCheck x) d ty pos af g w (.pointer (some a)):=by simp [Yl,execOp,hx]
theorem bt {p:Prop}[Decidable p](h:p):Value.bool (decide p)=.bool true:=by rw [sP h]
theorem bf {p:Prop}[Decidable p](h:¬ p):Value.bool (decide p)=.bool false:=by rw [sS h]
theorem nt {b:Bool}(h:¬ b=true):b=false:=by cases b with
 | true=>exact absurd rfl h
 | false=>rfl
theorem wJ {P:Program}{N:Fz}{Q:Post}{f:Fr}{w:World}{x:Code}(J:Fr->World->Prop)(h:WP P N x { Q with n:=J } f w)(k:∀ f w,J f w->Q.n f w):WP P N x Q f w:=
 h.mono (fun f w hj=>k f w hj) (fun _ _ _ h=>h) (fun _ _ h=>h) (fun _ _ _ h=>h)
def Zr (P:Program)(f:Fr)(w:World):ResultVar→Value→Prop
 | .tmp t,v=>f t=v
 | .cell t ty,v=>∃ b te cs,f t=.pointer (some ⟨b,0,none⟩)/\yA w b te cs/\(loadVar ty ⟨b,0,none⟩).run P w=.ok v w
theorem uS {P:Program}{f:Fr}{w:World}{t b:Nat}{ty te:TypeId}{D:TypeDesc}{z:Value}{s by_:Nat}{cs:Array Value}(hf:f t=.pointer (some ⟨b,0,none⟩))(hu:P.underlying ty=some D)(hD:MU D=true)(hi:TI P ty z s by_)(hs:s=cs.size)(hB:yA w b te cs):Zr P f w (.cell t ty) (.agg cs):=by
 refine ⟨b,te,cs,hf,hB,?_⟩;have hl := lK (P := P) (w := w) (ρ := fun _ => .pointer (some ⟨b, 0, none⟩)) (d := none) (ty := 0) (pos := "") (af := #[]) (g := none) (x := .tmp 0) cs.toList hu hD hi (by simpa using hs) rfl hB.cells
 simp only [Yl,execOp,Instr.loadAt,Instr.sureAddr,Sem.run_bind,Sem.run_pure,Result.andThen_ok] at hl;cases hq:(loadVar ty ⟨b,0,none⟩).run P w with
 | ok v w'=>rw [hq] at hl;simp at hl;rw [hl.1,hl.2]
 | halt h w'=>rw [hq] at hl;simp at hl
theorem mI {P:Program}{f:Fr}{w:World}{t:Nat}{v:Value}(hf:f t=v):Zr P f w (.tmp t) v:=hf
theorem JQ {P:Program}{f:Fr}{w:World}{r:ResultVar}{v:Value}(h:Zr P f w r v)(a:Array Value)(ha:∀ t,a.getD t undef=f t) :(∃ t,r=.tmp t/\a[t]?.getD undef=v)\/∃ q ty b,r=.cell q ty/\a[q]?.getD undef=.pointer (some ⟨b,0,none⟩)/\(loadVar ty ⟨b,0,none⟩).run P w=.ok v w:=by
 cases r with
 | tmp t=>have h:f t=v:=h;exact .inl ⟨t,rfl,by have:=ha t;rw [Array.getD_eq_getD_getElem?] at this;rw [this];exact h⟩
 | cell t ty=>
  obtain ⟨b,te,cs,h1,h2,h3⟩:=h;exact .inr ⟨t,ty,b,rfl,by have:=ha t;rw [Array.getD_eq_getD_getElem?] at this;rw [this];exact h1,h3⟩
theorem jK {P:Program}{fn:Func}{R:Value->World->Prop}{f:Fr}{w:World}{r:ResultVar}{v:Value}(hr:fn.results=#[r])(h1:Zr P f w r v)(h:R v w):Reads P fn R f w:=by unfold Reads;intro a ha;refine ⟨v,?_,h⟩;rcases JQ h1 a ha with ⟨t1,rfl,e1⟩|⟨q1,ty1,b1,rfl,e1,k1⟩ <;> clear ha h1 <;> simp [results,asAddr, *]
theorem Dp {P:Program}{fn:Func}{R:Value->World->Prop}{f:Fr}{w:World}{r r':ResultVar}{v v':Value}(hr:fn.results=#[r,r'])(h1:Zr P f w r v)(h2:Zr P f w r' v')(h:R (.tuple #[v,v']) w):Reads P fn R f w:=by unfold Reads;intro a ha;refine ⟨_,?_,h⟩;rcases JQ h1 a ha with ⟨t1,rfl,e1⟩|⟨q1,ty1,b1,rfl,e1,k1⟩ <;> rcases JQ h2 a ha with ⟨t2,rfl,e2⟩|⟨q2,ty2,b2,rfl,e2,k2⟩ <;> clear ha h1 h2 <;> simp [results,asAddr, *]
theorem BS {P:Program}{fn:Func}{R:Value->World->Prop}{f:Fr}{w:World}{r r' r'':ResultVar}{v v' v'':Value}(hr:fn.results=#[r,r',r''])(h1:Zr P f w r v)(h2:Zr P f w r' v')(h3:Zr P f w r'' v'')(h:R (.tuple #[v,v',v'']) w):Reads P fn R f w:=by unfold Reads;intro a ha;refine ⟨_,?_,h⟩;rcases JQ h1 a ha with ⟨t1,rfl,e1⟩|⟨q1,ty1,b1,rfl,e1,k1⟩ <;> rcases JQ h2 a ha with ⟨t2,rfl,e2⟩|⟨q2,ty2,b2,rfl,e2,k2⟩ <;> rcases JQ h3 a ha with ⟨t3,rfl,e3⟩|⟨q3,ty3,b3,rfl,e3,k3⟩ <;> clear ha h1 h2 h3 <;> simp [results,asAddr, *]
section
variable {κ ν:Type}[DecidableEq κ]
def pE:List (κ × ν)→κ→Option ν
 | [],_=>none
 | (a,b) :: l,k=>if k=a then some b else pE l k
def yt:List (κ × ν)→κ→ν→List (κ × ν)
 | [],k,v=>[(k,v)]
 | (a,b) :: l,k,v=>if k=a then (k,v) :: l else (a,b) :: yt l k v
def midx:List (κ × ν)→κ→Nat→Option (Nat × ν)
 | [],_,_=>none
 | (a,b) :: l,k,i=>if k=a then some (i,b) else midx l k (i+1)
theorem Qu:∀ (l:List (κ × ν))(k:κ)(i:Nat),(midx l k i).map (·.2)=pE l k
 | [],_,_=>rfl
 | (a,b) :: l,k,i=>by
  unfold midx pE;split
  · rfl
  · exact Qu l k (i+1)
theorem N7:∀ (l:List (κ × ν))(k:κ)(v:ν)(i:Nat),midx l k i=none→yt l k v=l ++ [(k,v)]
 | [],_,_,_,_=>rfl
 | (a,b) :: l,k,v,i,h=>by
  unfold midx at h;unfold yt;split at h
  · cases h
  · rename_i hne;rw [kQ hne,N7 l k v (i+1) h];rfl
theorem Oe:∀ (l:List (κ × ν))(k:κ)(v:ν)(i j:Nat)(u:ν),midx l k i=some (j,u)→∃ pre post,l=pre ++ (k,u) :: post∧i+pre.length=j∧yt l k v=pre ++ (k,v) :: post
 | (a,b) :: l,k,v,i,j,u,h=>by
  unfold midx at h;unfold yt;split at h
  · rename_i he;simp only [Dk,Prod.mk.injEq] at h;obtain ⟨rfl,rfl⟩:=h;subst he;exact ⟨[],l,rfl,rfl,by rw [lF rfl];rfl⟩
  · rename_i hne;obtain ⟨pre,post,h1,h2,h3⟩:=Oe l k v (i+1) j u h;exact ⟨(a,b) :: pre,post,by rw [h1];rfl,by rw [uM];omega,by rw [kQ hne,h3];rfl⟩
theorem xK (l:List (κ × ν))(k k':κ)(v:ν):pE (yt l k v) k'=if k'=k then some v else pE l k':=by
 induction l with
 | nil=>simp [yt,pE]
 | cons a l ih=>
  obtain ⟨a,b⟩:=a;unfold yt;split
  · rename_i h;subst h;by_cases h:k'=k <;> simp [pE,h]
  · rename_i h;by_cases h1:k'=a
    · subst h1;simp [pE,Ne.symm h]
    · simp only [pE,kQ h1,ih]
end
section
variable {P:Program}{w:World}{ρ:Operand->Value}{d:Option Nat}{ty:TypeId}{pos:String}{af:Array Edge}{g:Option (Nat × Bool)}
def RS (P : Program) (f : Field) (o : Nat) : Bool := f.name != "_" && f.offset == o && (match P.underlying f.type with | some (.int _) => true | _ => false)
theorem FT {f:Field}{fs:List Field}{o dp:Nat}{xs ys:Array Value}{a b:Int}(h:RS P f o=true)(hx:xs[o]?=some (.int .i64 a))(hy:ys[o]?=some (.int .i64 b)) :(Op.eqFields (dp+1) xs ys (f :: fs)).run P w=if a=b then (Op.eqFields (dp+1) xs ys fs).run P w else .ok false w:=by
 simp only [RS,Ei,bne_iff_ne,ne_eq,beq_iff_eq] at h;obtain ⟨⟨h1,rfl⟩,h3⟩:=h;cases hu:P.underlying f.type with
 | none=>rw [hu] at h3;cases h3
 | some D=>
  rw [hu] at h3;cases D with
  | int k=>
   have hagg:(isAgg f.type).run P w=.ok false w:=by unfold isAgg;rw [Sem.run_bind,run_underlying hu w];simp
   have hp1:(part f.type xs f.offset).run P w=.ok (.int .i64 a) w:=by simp [part,hagg,hx]
   have hp2:(part f.type ys f.offset).run P w=.ok (.int .i64 b) w:=by simp [part,hagg,hy]
   have he:=run_equalIn_int (P:=P) w dp f.type .i64 k a b hu
   conv=>lhs;unfold Op.eqFields
   rw [lF h1];simp only [Sem.run_bind,hp1,hp2,Result.andThen_ok,he];by_cases hab:a=b
   · subst hab;simp
   · have:(a == b)=false:=beq_false_of_ne hab;simp [this,hab]
  | _=>cases h3
theorem XJ {t:TypeId}{f0 f1 f2:Field}{a b c a' b' c':Int}(ht:P.underlying t=some (.struct #[f0,f1,f2]))(hf:(RS P f0 0 && RS P f1 1 && RS P f2 2)=true)(hp:P.stoodInHeld t=false) :(Op.equalIn 10000 t (.agg #[.int .i64 a,.int .i64 b,.int .i64 c]) (.agg #[.int .i64 a',.int .i64 b',.int .i64 c'])).run P w=.ok (decide ([a,b,c]=[a',b',c'])) w:=by
 simp only [Ei] at hf;have hfs:P.fieldsOf t=#[f0,f1,f2]:=by unfold Program.fieldsOf;rw [ht]
 rw [run_equalIn_struct (P:=P) w 9999 t _ _ (by rw [hfs,ht]) hp,hfs];rw [show (#[f0,f1,f2]:Array Field).toList=[f0,f1,f2] from rfl];rw [FT (P:=P) (dp:=9998) hf.1.1 rfl rfl,FT (P:=P) (dp:=9998) hf.1.2 rfl rfl,FT (P:=P) (dp:=9998) hf.2 rfl rfl];by_cases h1:a=a' <;> by_cases h2:b=b' <;> by_cases h3:c=c' <;> simp [h1,h2,h3,Op.eqFields]
theorem adt {t t':TypeId}{x y:Operand}{f0 f1 f2:Field}{a b c a' b' c':Int}(ht:P.underlying t=some (.struct #[f0,f1,f2]))(hf:(RS P f0 0 && RS P f1 1 && RS P f2 2)=true)(hp:P.stoodInHeld t=false)(hm:P.eqGuardType P.depth t=false)(hx:ρ x=.agg #[.int .i64 a,.int .i64 b,.int .i64 c])(hy:ρ y=.agg #[.int .i64 a',.int .i64 b',.int .i64 c']):Yl P ρ (.binOp .neq t x y t') d ty pos af g w (.bool (decide (¬ [a,b,c]=[a',b',c']))):=by
 have h1:=run_neq_struct (P:=P) w t #[.int .i64 a,.int .i64 b,.int .i64 c] #[.int .i64 a',.int .i64 b',.int .i64 c'];rw [XJ ht hf hp] at h1;have h2:=run_eqGuard_agg (P:=P) w .neq t x y #[.int .i64 a,.int .i64 b,.int .i64 c] #[.int .i64 a',.int .i64 b',.int .i64 c'] hm;have e:decide (¬ [a,b,c]=[a',b',c'])=!decide ([a,b,c]=[a',b',c']):=by by_cases h:[a,b,c]=[a',b',c'] <;> simp [h]
 rw [e];simp only [Yl,execOp,hx,hy,Sem.run_bind,h2,Result.andThen_ok,h1];rfl
end
def Mp {κ ν:Type}(ek:κ->Value)(ev:ν->Value)(w:World)(b:Nat)(l:List (κ × ν)):Prop:=∃ ents clock,w.heap[b]?=some (.map ents clock)/\ents.toList.map (fun e=>(e.key,e.val))=l.map (fun p=>(ek p.1,ev p.2))
structure FK {κ:Type}[DecidableEq κ](P:Program)(kt:TypeId)(ek:κ->Value):Prop where
 find:∀ {ν:Type}(ev:ν->Value)(k:κ)(l:List (κ × ν))(ents:List MapEntry)(w:World),ents.map (fun e=>(e.key,e.val))=l.map (fun p=>(ek p.1,ev p.2))->(Instr.findKey kt (ek k) ents).run P w=.ok ((midx l k 0).map (fun p=>(p.1,ev p.2))) w
 chk:∀ (emp:Bool)(k:κ)(w:World),(Instr.checkKey emp 10000 kt (ek k)).run P w=.ok () w
 bits:∀ (k:κ),Instr.sameBits 10000 (ek k) (ek k)=true
abbrev Zl (v:Int):Value:=.int .i64 v
theorem Iu {P:Program}{w:World}{b:Nat}{es:Array MapEntry}{k:Nat}(h:w.heap[b]?=some (.map es k)):(getObj b).run P w=.ok (.map es k) w:=by simp [getObj,Sem.run,h]
section
variable {P:Program}{w:World}{ρ:Operand->Value}{d:Option Nat}{ty:TypeId}{pos:String}{af:Array Edge}{g:Option (Nat × Bool)}
variable {κ ν:Type}[DecidableEq κ]{ek:κ->Value}{ev:ν->Value}
theorem WR {t kt et:TypeId}{b:Nat}{l:List (κ × ν)}{k:κ}{z:ν}{ok:Bool}(ht:P.underlying t=some (.map kt et))(hk:FK P kt ek)(hz:(zeroValue et).run P w=.ok (ev z) w)(hm:Mp ek ev w b l) :(Instr.lookup t (.map (some b)) (ek k) ok).run P w=.ok (if ok then .tuple #[ev ((pE l k).getD z),.bool (pE l k).isSome] else ev ((pE l k).getD z)) w:=by
 obtain ⟨ents,clock,h1,h2⟩:=hm;have ro:(getObj b).run P w=.ok (.map ents clock) w:=Iu h1;have hf:=hk.find ev k l ents.toList w h2;have hg:=Qu l k 0;unfold Instr.lookup;simp only [Sem.run_bind,run_underlying ht,Result.andThen_ok,ro,Sem.run_pure,hk.chk,hf];cases hq:midx l k 0 with
 | none=>
  rw [hq] at hg;rw [<-hg];simp [hz]
 | some q=>
  rw [hq] at hg;rw [<-hg];simp
theorem Zk {t kt et:TypeId}{x y:Operand}{b:Nat}{l:List (κ × ν)}{k:κ}{z:ν}(ht:P.underlying t=some (.map kt et))(hk:FK P kt ek)(hz:(zeroValue et).run P w=.ok (ev z) w)(hm:Mp ek ev w b l)(hx:ρ x=.map (some b))(hy:ρ y=ek k) :Yl P ρ (.lookup t x y false) d ty pos af g w (ev ((pE l k).getD z)):=by have:=WR (ok:=false) (k:=k) ht hk hz hm;simp [Yl,execOp,hx,hy,this]
theorem aez {t kt et:TypeId}{x y v:Operand}{b:Nat}{l:List (κ × ν)}{k:κ}{u:ν}(ht:P.underlying t=some (.map kt et))(hk:FK P kt ek)(hm:Mp ek ev w b l)(hx:ρ x=.map (some b))(hy:ρ y=ek k)(hv:ρ v=ev u) :∃ w',St P ρ (.mapUpdate t x y v) d ty pos af g w w'/\Mp ek ev w' b (yt l k u)/\HZ b w w':=by
 obtain ⟨ents,clock,h1,h2⟩:=hm;have ro:(getObj b).run P w=.ok (.map ents clock) w:=Iu h1;have hf:=hk.find ev k l ents.toList w h2;have hb:b < w.heap.size:=(Array.getElem?_eq_some_iff.1 h1).1;have so:∀ o:Obj,(setObj b o).run P w=.ok () { w with heap:=w.heap.setIfInBounds b o }:=fun o=>by simp [setObj,Sem.run,h1]
 have uo:∀ o:Obj,HZ b w { w with heap:=w.heap.setIfInBounds b o }:=fun o=>
  ⟨rfl,rfl,rfl,by simp,fun i hi hne=>by simp only;rw [Array.getElem?_setIfInBounds_ne (by simpa using hne.symm)]⟩
 have at':∀ o:Obj,({ w with heap:=w.heap.setIfInBounds b o }:World).heap[b]?=some o:=fun o=>by simp [hb]
 cases hq:midx l k 0 with
 | none=>
  rw [hq] at hf;refine ⟨_,?_,⟨ents.push { key:=ek k,val:=ev u,born:=clock },clock+1,at' _,?_⟩,uo _⟩
  · simp only [St,execOp,Instr.mapUpdate,hx,hy,hv,Sem.run_bind,run_underlying ht,Result.andThen_ok,ro,hk.chk,hf,Option.map_none,so];rfl
  · rw [N7 l k u 0 hq];simp [h2]
 | some q=>
  obtain ⟨j,u0⟩:=q;rw [hq] at hf;obtain ⟨pre,post,e1,e2,e3⟩:=Oe l k u 0 j u0 hq;have hj:j=pre.length:=by omega
  subst hj;have hlen:ents.toList.length=l.length:=by have:=congrArg List.length h2;simpa using this
  have hent:∃ e,ents[pre.length]?=some e/\e.key=ek k:=by
    have h3:(ents.toList.map (fun e=>(e.key,e.val)))[pre.length]?=some (ek k,ev u0):=by rw [h2,e1];simp
    rw [zZ] at h3;cases he:ents.toList[pre.length]? with
    | none=>rw [he] at h3;cases h3
    | some e=>
      rw [he] at h3;simp only [Option.map_some,Dk,Prod.mk.injEq] at h3;exact ⟨e,by simpa using he,h3.1⟩
  obtain ⟨e,he1,he2⟩:=hent;refine ⟨_,?_,⟨ents.modify pre.length fun e=>{ e with key:=ek k,val:=ev u },clock,at' _,?_⟩,uo _⟩
  · have hst:(Instr.keyThatStays (((ents[pre.length]?).map (·.key)).getD (ek k)) (ek k)).run P w=.ok (ek k) w:=by rw [he1];simp [Instr.keyThatStays,he2,hk.bits]
    simp only [St,execOp,Instr.mapUpdate,hx,hy,hv,Sem.run_bind,run_underlying ht,Result.andThen_ok,ro,hk.chk,hf,Option.map_some,hst,so];rfl
  · rw [Array.toList_modify,e3];refine List.ext_getElem? fun i=>?_;rw [zZ,zZ,List.getElem?_modify];have h3:∀ i:Nat,(ents.toList[i]?).map (fun e:MapEntry=>(e.key,e.val))=(l[i]?).map (fun p:κ × ν=>(ek p.1,ev p.2)):=fun i=>by rw [<-zZ,<-zZ,h2]
    have h4:=h3 i;rw [e1] at h4;obtain hi | hi | hi:=Nat.lt_trichotomy i pre.length
    · rw [zQ hi] at h4 ⊢;have hne:¬ pre.length=i:=by omega
      simpa [hne] using h4
    · subst hi;have he1':ents.toList[pre.length]?=some e:=by simpa using he1
      simp [he1']
    · obtain ⟨m,rfl⟩:∃ m,i=pre.length+1+m:=⟨i - pre.length - 1,by omega⟩;have a1:(pre ++ (k,u0) :: post)[pre.length+1+m]?=post[m]?:=by rw [EX (by omega),show pre.length+1+m - pre.length=m+1 by omega];rfl
      have a2:(pre ++ (k,u) :: post)[pre.length+1+m]?=post[m]?:=by rw [EX (by omega),show pre.length+1+m - pre.length=m+1 by omega];rfl
      rw [a1] at h4;rw [a2,<-h4];have hne:¬ pre.length=pre.length+1+m:=by omega
      simp [hne]
end
theorem Mp.same {κ ν:Type}{ek:κ->Value}{ev:ν->Value}{w w':World}{b:Nat}{l:List (κ × ν)}(h:Mp ek ev w b l)(e:w'.heap[b]?=w.heap[b]?):Mp ek ev w' b l:=by obtain ⟨ents,clock,h1,h2⟩:=h;exact ⟨ents,clock,by rw [e];exact h1,h2⟩
theorem Mp.lt {κ ν:Type}{ek:κ->Value}{ev:ν->Value}{w:World}{b:Nat}{l:List (κ × ν)}(h:Mp ek ev w b l):b < w.heap.size:=by obtain ⟨ents,clock,h1,h2⟩:=h;exact (Array.getElem?_eq_some_iff.1 h1).1
def It.map {κ ν:Type}(ek:κ->Value)(ev:ν->Value)(b:Nat)(l:List (κ × ν)):It where
 F k:=k=b
 p w:=Mp ek ev w b l
 bd w h k hk:=by subst hk;exact h.lt
 st w w' h k _:=h.same (k b rfl)
section
variable {P:Program}{w0 w w':World}{Z G:Nat->Prop}{L:List It}{D:List Da}{ρ:Operand->Value}{d:Option Nat}{ty:TypeId}{pos:String}{af:Array Edge}{g:Option (Nat × Bool)}
theorem abC {t:TypeId}{z:Value}{s b:Nat}(h:TI P t z s b):(zeroValue t).run P w=.ok z w:=by obtain ⟨i,h1,h2,_,_⟩:=h;simp [zeroValue,typeInfo,h1,h2]
theorem Bx.mp (h:Bx w0 w Z G L D)(i:Nat){κ ν:Type}{ek:κ->Value}{ev:ν->Value}{b:Nat}{l:List (κ × ν)}(hi:L[i]?=some (.map ek ev b l)):Mp ek ev w b l:=h.at i hi
theorem abx (hL:Bx w0 w Z G L D){κ ν:Type}(ek:κ->Value)(ev:ν->Value){t kt et:TypeId}(ht:P.underlying t=some (.map kt et)) :To P ρ ⟨d,.makeMap t none,ty,pos,af,g⟩ w fun v w'=>∃ b,v=.map (some b)/\Bx w0 w' Z G (.map ek ev b ([]:List (κ × ν)) :: L) D:=
 ⟨_,_,by simp [execOp,Instr.makeMap],_,rfl,hL.push ((Ext.refl w).alloc _) ⟨#[],0,heap_alloc_new w _,rfl⟩ (fun k hk=>by have hk:k=w.heap.size:=hk;omega)⟩
theorem ae4 (hL:Bx w0 w Z G L D)(i:Nat){κ ν:Type}[DecidableEq κ]{ek:κ->Value}{ev:ν->Value}{t kt et:TypeId}{x y v:Operand}{b:Nat}{l:List (κ × ν)}{k:κ}{u:ν}(hi:L[i]?=some (.map ek ev b l))(ht:P.underlying t=some (.map kt et))(hk:FK P kt ek)(hx:ρ x=.map (some b))(hy:ρ y=ek k)(hv:ρ v=ev u) :Zh P ρ ⟨d,.mapUpdate t x y v,ty,pos,af,g⟩ w fun w'=>Bx w0 w' Z G (L.set i (.map ek ev b (yt l k u))) D:=by obtain ⟨w',h1,h2,h3⟩:=aez (P:=P) (ρ:=ρ) (d:=d) (ty:=ty) (pos:=pos) (af:=af) (g:=g) ht hk (hL.mp i hi) hx hy hv;exact ⟨w',h1,hL.put i hi ⟨h3.os,h3.tape,h3.output,h3.size,fun k hk hn=>h3.block k hk (by intro e;injection e with e;exact hn e)⟩ h2 (fun k hk=>.inl hk)⟩
end
structure Jc where
 n:Int
deriving DecidableEq
instance:Rp Jc:=⟨1,1,fun _ _ cs x=>cs=[.int .u8 x.n],fun h=>by rw [h];rfl,fun h=>by rw [h];rfl,fun h _=>h⟩
def bst (l:List Jc):ByteArray:=strOf (l.map Jc.n)
section
variable {P:Program}{w0 w:World}{Z G:Nat->Prop}{L:List It}{D:List Da}{ρ:Operand->Value}{d:Option Nat}{ty:TypeId}{pos:String}{af:Array Edge}{g:Option (Nat × Bool)}
theorem afE {F:Nat→Prop}:∀ {cs:List (List Value)}{l:List Jc},xC F w cs l→cs.flatten=(l.map Jc.n).map (Value.int .u8)
 | [],[],_=>rfl
 | c :: cs,x :: l,h=>by have h1:c=[.int .u8 x.n]:=h.1;rw [Bh,h1,afE h.2];rfl
 | [],_ :: _,h=>h.elim
 | _ :: _,[],h=>h.elim
theorem agT {F:Nat->Prop}{t s e:TypeId}{x:Operand}{a:Option Addr}{c:Nat}{l:List Jc}(ht:P.underlying t=some (.slice e))(he:P.underlying e=some (.int .u8))(hs:P.underlying s=some .string)(hx:ρ x=.slice a l.length c)(h:l5 F w a c l) :Yl P ρ (.convert t s x) d ty pos af g w (.string (bst l)):=by obtain ⟨cs,h1,h2⟩:=h.els;rw [afE h1] at h2;exact agA (bs:=l.map Jc.n) ht he hs hx h2
end
def It.nil:It:=⟨fun _=>False,fun _=>True,fun _ _ _ h=>h.elim,fun _ _ _ _ _=>trivial⟩
theorem l5.same {α:Type}[Rp α]{F:Nat->Prop}{w w':World}{a:Option Addr}{c:Nat}{l:List α}(h:l5 F w a c l)(hs:w.heap.size<=w'.heap.size)(hc:∀ o,w'.cell? ⟨oH a,o,none⟩=w.cell? ⟨oH a,o,none⟩)(hm:Mv F F w w'\/∀ {cs:List Value} {x:α},Rp.rep F w cs x->Rp.rep F w' cs x):l5 F w' a c l:=by
 refine ⟨h.1,h.2.1,fun h0=>?_⟩;obtain ⟨h1,h2,h3,h4⟩:=h.2.2 h0;refine ⟨h1,h2,Nat.lt_of_lt_of_le h3 hs,fun i x hx=>?_⟩;obtain ⟨cs,h5,h6⟩:=h4 i x hx;refine ⟨cs,fun j v hv=>by rw [hc];exact h5 j v hv,?_⟩;obtain hm | hm:=hm
 · exact Rp.mv h6 hm
 · exact hm h6
theorem run_mark {P:Program}{w:World}{t e tt:TypeId}{b o n c:Nat}{cs:Array Value}(ht:P.underlying t=some (.slice e))(he:P.underlying e=some (.int .u8))(hb:w.heap[b]?=some (.cells cs tt (0,0))) :(convert t t (.slice (some ⟨b,o,none⟩) n c)).run P w=.ok (.slice (some ⟨b,o,none⟩) n c) (w.freeze ⟨b,cs.size,none⟩ 1):=by
 have hsh:w.shape? b=some (tt,cs.size):=by simp [World.shape?,hb]
 simp [convert,run_underlying ht,run_underlying he,markStringish,hsh]
theorem afK {P:Program}{w0 w:World}{Z G:Nat->Prop}{L:List It}{D:List Da}{ρ:Operand->Value}{d:Option Nat}{ty:TypeId}{pos:String}{af:Array Edge}{g:Option (Nat × Bool)}(hL:Bx w0 w Z G L D)(i j:Nat){t e:TypeId}{x:Operand}{b c:Nat}{cs:List (List Value)}{l:List Jc}(hi:L[i]?=some (.own w0.heap.size (some ⟨b,0,none⟩) c e (Rp.sz Jc) cs))(hj:D[j]?=some (.els cs l))(ht:P.underlying t=some (.slice e))(he:P.underlying e=some (.int .u8))(hx:ρ x=.slice (some ⟨b,0,none⟩) l.length c) :To P ρ ⟨d,.convert t t x,ty,pos,af,g⟩ w fun v w'=>v=.slice (some ⟨b,0,none⟩) l.length c/\Bx w0 w' Z G (L.eraseIdx i) (.l (some ⟨b,0,none⟩) c l :: D.eraseIdx j):=by
 have ho:=hL.bo i hi;obtain ⟨h1,_⟩|⟨q,cur,h1,h2,h3,_⟩:=ho.blk
 · cases h1
 · injection h1 with h1;injection h1 with h1;subst h1;have hrun:=run_mark (P:=P) (w:=w) (o:=0) (n:=l.length) (c:=c) ht he h3;have hfa:(w.freeze ⟨b,cur.size,none⟩ 1).heap[b]?=some (.cells cur e (cur.size,cur.size+1)):=by unfold World.freeze;rw [kQ (by decide)];have h3':w.heap[b]?=some (.cells cur e (0,0)):=h3;simp [Array.getElem?_modify,h3']
   have hch:HZ b w (w.freeze ⟨b,cur.size,none⟩ 1):=by unfold World.freeze;rw [kQ (by decide)];exact ⟨rfl,rfl,rfl,by simp,fun i hi hne=>by simp [Array.getElem?_modify];intro e;subst e;exact absurd rfl hne⟩
   refine ⟨_,w.freeze ⟨b,cur.size,none⟩ 1,by simp [execOp,hx,hrun],rfl,?_⟩;have hfz:=hL.frz i j hi hj;have hl0:=hfz.dl 0 rfl;have h5:=hL.put (it':=It.nil) i hi ⟨hch.os,hch.tape,hch.output,hch.size,fun k hk hn=>hch.block k hk (by intro e;injection e with e;exact hn (show rowOf (some ⟨b,0,none⟩)=some k by rw [e];rfl))⟩ kE (fun k hk=>hk.elim);have h6:=h5.er i;rw [List.eraseIdx_set_eq] at h6;have h7:=h6.Bl (D':=D.eraseIdx j) fun d hd=>(List.eraseIdx_sublist D j).subset hd;refine h7.ko (d:=.l _ _ _) (hl0.same hch.size (fun o=>?_) (.inr fun h=>h));have h3':w.heap[b]?=some (.cells cur e (0,0)):=h3;simp [oH,World.cell?,hfa,h3']
theorem Q7 {sz:Nat}:∀ {cs:List (List Value)}{k:Nat}{d d':List Value},(∀ c ∈ cs,c.length=sz)→cs[k]?=some d→d'.length=sz→(cs.set k d').flatten=cs.flatten.take (k * sz) ++ d' ++ cs.flatten.drop ((k+1) * sz)
 | c :: cs,0,d,d',h,hd,hl=>by have hc:=h c (Ca ..);rw [List.set_cons_zero,Bh,Bh,Nat.zero_mul,List.take_zero,BZ,DV,Nat.one_mul,<-hc,List.drop_left]
 | c :: cs,k+1,d,d',h,hd,hl=>by
  have hc:=h c (Ca ..);have ih:=Q7 (k:=k) (fun c hc=>h c (yO _ hc)) (by simpa using hd) hl;have e1:(k+1) * sz=c.length+k * sz:=by rw [hc,Nat.succ_mul,Nat.add_comm]
  have e2:(k+1+1) * sz=c.length+(k+1) * sz:=by rw [hc,Nat.succ_mul (k+1),Nat.add_comm]
  rw [List.set_cons_succ,Bh,Bh,ih,e2,<-List.drop_drop,List.drop_left,e1,List.take_length_add_append,ES,ES,ES]
theorem splice {β:Type}(cur F vs q:List β)(N ks sz off:Nat)(hF:cur.take N=F)(hN:N<=cur.length)(hk:ks + sz<=N)(hl:off + vs.length<=sz)(hq:q=(F.drop ks).take sz) :
    (cur.take (ks + off) ++ vs ++ cur.drop (ks + off + vs.length)).take N=F.take ks ++ (q.take off ++ vs ++ q.drop (off + vs.length)) ++ F.drop (ks + sz):=by
  have h1:F.take ks ++ q.take off=F.take (ks + off):=by
    rw [hq,List.take_take,Nat.min_eq_left (by omega),List.take_add]
  have h2:q.drop (off + vs.length) ++ F.drop (ks + sz)=F.drop (ks + off + vs.length):=by
    rw [hq,List.drop_take,List.drop_drop,show ks + (off + vs.length)=ks + off + vs.length by omega];have:F.drop (ks + sz)=(F.drop (ks + off + vs.length)).drop (sz - (off + vs.length)):=by rw [List.drop_drop]; congr 1; omega
    rw [this,List.take_append_drop]
  have h3:F.take (ks + off)=cur.take (ks + off):=by rw [<-hF,List.take_take,Nat.min_eq_left (by omega)]
  have h4:F.drop (ks + off + vs.length)=(cur.drop (ks + off + vs.length)).take (N - (ks + off + vs.length)):=by rw [<-hF,List.drop_take]
  have hlen:(cur.take (ks + off) ++ vs).length=ks + off + vs.length:=by rw [F9,zM]; omega
  calc (cur.take (ks + off) ++ vs ++ cur.drop (ks + off + vs.length)).take N
      = cur.take (ks + off) ++ vs ++ (cur.drop (ks + off + vs.length)).take (N - (ks + off + vs.length)):=by
        rw [List.take_append,hlen,List.take_of_length_le (by rw [hlen]; omega)]
    _=F.take (ks + off) ++ vs ++ F.drop (ks + off + vs.length):=by rw [h3,h4]
    _=_:=by rw [<-h1,<- h2]; simp only [ES]
theorem xC.lens {α:Type}[Rp α]{F:Nat→Prop}{w:World}:∀ {cs:List (List Value)}{l:List α},xC F w cs l→∀ c ∈ cs,c.length=Rp.sz α
 | [],[],_,c,hc=>by cases hc
 | d :: cs,x :: l,h,c,hc=>by
  obtain rfl | hc:=nM.1 hc
  · exact Rp.len h.1
  · exact xC.lens h.2 c hc
 | [],_ :: _,h,_,_=>h.elim
 | _ :: _,[],h,_,_=>h.elim
theorem Nk {P:Program}{w0 w:World}{Z G:Nat->Prop}{L:List It}{D:List Da}{ρ:Operand->Value}{d:Option Nat}{ty:TypeId}{pos:String}{af:Array Edge}{g:Option (Nat × Bool)}(hL:Bx w0 w Z G L D){α:Type}[Rp α](i j k off:Nat){t e:TypeId}{x y:Operand}{z:Value}{s by_ base c:Nat}{A:Option Addr}{cs:List (List Value)}{l l2:List α}{q q':List Value}{v':α}(vs:List Value)(hi:L[i]?=some (.own base A c e (Rp.sz α) cs))(hj:D[j]?=some (.els cs l))(hq:cs[k]?=some q)(ht:TI P t z s by_)(hs:s=vs.length)(hx:ρ x=.pointer (some ⟨oH A,qo A+k * Rp.sz α+off,none⟩))(hy:(ρ y).cells=vs.toArray)(h1:vs.all (fun v=>v.oneCell')=true)(hl:Nat.ble (off+vs.length) (Rp.sz α)=true)(hq':q.take off ++ vs ++ q.drop (off+vs.length)=q')(hr:Rp.rep (IU w0 Z L) w q' v')(hst:l.set k v'=l2) :Zh P ρ ⟨d,.store t x y,ty,pos,af,g⟩ w fun w'=>∃ cs2,Bx w0 w' Z G (L.set i (.own base A c e (Rp.sz α) cs2)) (D.set j (.els cs2 l2)):=by
 subst hs;have hl:=Nat.le_of_ble_eq_true hl;have hE:=hL.de j hj;have ho:=hL.bo i hi;have hk:=ku hq;have hlen:=hE.lens;have hql:q.length=Rp.sz α:=hlen q (vS hq);have hq'l:q'.length=Rp.sz α:=Rp.len hr;obtain ⟨g0,rfl⟩:=ho.VP (by omega);obtain ⟨h0,_⟩|⟨b,cur,hA,hb,hB,hn,hc,hsz,htk⟩:=ho.blk
 · cases h0
 · injection hA with hA;injection hA with hA;subst hA;obtain ⟨ti,hi1,hi2,hi3,hi4⟩:=ht;have hsz':cs.length * Rp.sz α<=cur.size:=by rw [hsz];exact Nat.mul_le_mul_right _ hn
   have hpos:(k+1) * Rp.sz α<=cs.length * Rp.sz α:=Nat.mul_le_mul_right _ hk;have hpk:(k+1) * Rp.sz α=k * Rp.sz α+Rp.sz α:=Nat.succ_mul k _;have hst':=run_storeCells_at (P:=P) g0 (k * Rp.sz α+off) e vs 0 cur w hB (by omega) (fun v hv=>List.all_eq_true.1 h1 v hv);rw [Nat.add_zero] at hst';have hx':ρ x=.pointer (some ⟨g0,k * Rp.sz α+off,none⟩):=by rw [hx];simp [oH,qo]
   refine ⟨_,by simp [execOp,hx',Instr.storeAt,Instr.sureAddr,storeVar,sizeOf,typeInfo,hi1,hi3,hy,hst'];rfl,cs.set k q',?_⟩;have hfl:(cs.set k q').flatten=cs.flatten.take (k * Rp.sz α) ++ q' ++ cs.flatten.drop ((k+1) * Rp.sz α):=Q7 hlen hq hq'l;have hels:xC (IU w0 Z L) w (cs.set k q') l2:=by rw [<-hst];exact hE.set k hr
   have h6:Bx w0 w Z G L (D.set j (.els (cs.set k q') l2)):=hL.KD j hels;have hlf:cs.flatten.length=cs.length * Rp.sz α:=by rw [hE.YK,hE.len]
   have hcells:q=(cs.flatten.drop (k * Rp.sz α)).take (Rp.sz α):=by
     have key:∀ {cs:List (List Value)}{k:Nat},(∀ c ∈ cs,c.length=Rp.sz α)->cs[k]?=some q->q=(cs.flatten.drop (k * Rp.sz α)).take (Rp.sz α):=by
      intro cs
      induction cs with
      | nil=>intro k _ h;simp at h
      | cons c cs ih=>
       intro k hlen h;have hc:=hlen c (Ca ..);cases k with
       | zero=>
        simp only [EC,Dk] at h;subst h;rw [Nat.zero_mul,List.drop_zero,Bh,<-hc,List.take_left]
       | succ k=>
        rw [Bh,show (k+1) * Rp.sz α=c.length+k * Rp.sz α by rw [hc,Nat.succ_mul,Nat.add_comm],<-List.drop_drop,List.drop_left];exact ih (fun c hc=>hlen c (yO _ hc)) (by simpa using h)
     exact key hlen hq
   have htake:∀ n,n<=cs.length * Rp.sz α->cs.flatten.take n=cur.toList.take n:=fun n hn=>by rw [<-htk,List.take_take,Nat.min_eq_left hn]
   refine h6.U2 (n2:=cs.length) (ys:=(cs.set k q').flatten) i hi ⟨by rw [hfl];simp only [F9,zM,GV,hlf,hq'l];omega,.inr ⟨g0,c,_,rfl,hb,hB.setRow _,hn,hc,?_,?_⟩⟩ (by simp) rfl (HZ.setRow w g0 _) (.inl rfl)
   · simp only [List.size_toArray,F9,zM,GV,Array.length_toList];omega
   · rw [hfl,<-hq',hpk];have hsp:=splice cur.toList cs.flatten vs q _ _ _ off htk (by rw [Array.length_toList];exact hsz') (by omega) hl hcells;rw [ES] at hsp;simpa using hsp
def Cn (S1:World->Prop)(T:List Nat)(S:World->Prop)(L:Array Bool)(w:World):Prop:=S1 w/\((∀ t ∈ T,L.getD t false=false)->S w)
def OG (P:Program)(ops:Array Oper)(Q:Exit→Act→World→Prop)(S1 S:World→Prop)(T:List Nat):Nat→Array Bool→Act→World→Prop
 | 0,L,a,w=>Region.ready .any ops L=[]/\Q .normal a w
 | n+1,L,a,w=>(Region.ready .any ops L=[]→Q .normal a w)∧
  ∀ i ∈ Region.ready .any ops L,wpOp P ops Q i (fun a' w'=>Cn S1 T S (L.setIfInBounds i true) w'/\OG P ops Q S1 S T n (L.setIfInBounds i true) a' w') a w
theorem Ol {P:Program}{ops:Array Oper}{Q:Exit→Act→World→Prop}{S1 S:World→Prop}{T:List Nat}:∀ (n:Nat)(L:Array Bool)(a:Act)(w:World),OG P ops Q S1 S T n L a w→wpAny P .any ops Q n L a w
 | 0,_,_,_,h=>h
 | n+1,_,_,_,h=>⟨h.1,fun i hi=>wpOp_mono (fun a' w' h'=>Ol n _ a' w' h'.2) (h.2 i hi)⟩
theorem Rc {P:Program}{ops:Array Oper}{Q:Exit->Act->World->Prop}{S1 S S2:World->Prop}{T:List Nat}{i:Nat}{oi:Oper}{v:Value}(hi:ops[i]?=some oi)(hsel:∀ (j:Nat) (o:Oper) cs b,ops[j]?=some o->o.op≠.select cs b)(hQ:∀ c a w,Q (.panic c) (a.put oi.dst v) w->Q (.panic c) a w)(hT:i ∉ T)(hS2:∀ L w,Closed ops L->L.getD i false=false->Cn S1 T S L w->S2 w) :∀ (n:Nat)(L:Array Bool)(a:Act)(w:World),Closed ops L->(∀ j oj,ops[j]?=some oj->j≠i->L.getD j true=false->(∀ e ∈ oj.after,Region.binds .any e=true->e.on≠i)->oi.apart ops oj=true)->i ∈ Region.ready .any ops L->YieldsIf P ops S2 oi v a->Cn S1 T S L w->OG P ops Q S1 S T n (L.setIfInBounds i true) (a.put oi.dst v) w->OG P ops Q S1 S T (n+1) L a w:=by
 have unl:∀ L,i ∈ Region.ready .any ops L->L.getD i false=false:=by
  intro L hr;have h0:=(mem_ready.1 hr).1;obtain h' | h':=xw i L.size
  · simp [h'] at h0 ⊢;exact h0
  · simp [Array.getElem?_eq_none h']
 have sl:∀ L w,Cn S1 T S (L.setIfInBounds i true) w->Cn S1 T S L w:=by intro L w h;refine ⟨h.1,fun ht=>h.2 fun t hm=>?_⟩;rw [BU false (fun e=>hT (by rw [e];exact hm))];exact ht t hm
 have sl':∀ L w,Cn S1 T S L w->Cn S1 T S (L.setIfInBounds i true) w:=by
  intro L w h;refine ⟨h.1,fun ht=>h.2 fun t hm=>?_⟩;have:=ht t hm
  rwa [BU false (fun e=>hT (by rw [e];exact hm))] at this
 intro n
 induction n with
 | zero=>
  intro L a w hcl _ hr hy hS H;refine ⟨fun h=>(by rw [h] at hr;cases hr),fun j hj=>?_⟩;by_cases hji:j=i
  · subst hji;exact hy.wpOp hi (hS2 L w hcl (unl L hr) hS) ⟨sl' L w hS,H⟩
  · have:=ready_mono hj hji;rw [H.1] at this;cases this
 | succ n ih=>
  intro L a w hcl hfree hr hy hS H;refine ⟨fun h=>(by rw [h] at hr;cases hr),fun j hj=>?_⟩;by_cases hji:j=i
  · subst hji;exact hy.wpOp hi (hS2 L w hcl (unl L hr) hS) ⟨sl' L w hS,H⟩
  · have h1:=H.2 j (ready_mono hj hji);obtain ⟨hjun,oj,hoj,hall⟩:=mem_ready.1 hj;have hnot:∀ e ∈ oj.after,Region.binds .any e=true->e.on≠i:=fun e he hb heq=>by have h1:=hall e he hb;have h0:=unl L hr;rw [heq,h0] at h1;cases h1
    have h2:=wpOp_putIf hoj (hfree j oj hoj hji hjun hnot) (fun cs b=>hsel i oi cs b hi) (fun cs b=>hsel j oj cs b hoj) hQ hy h1
    have hfree':∀ k ok,ops[k]?=some ok→k≠i→(L.setIfInBounds j true).getD k true=false→
       (∀ e ∈ ok.after,Region.binds .any e=true->e.on≠i)->oi.apart ops ok=true:=fun k ok hk hki hun hno=>by
     refine hfree k ok hk hki ?_ hno;by_cases hjk:j=k
     · subst hjk;exact hjun
     · rw [BU true hjk] at hun;exact hun
    have hcomm:(L.setIfInBounds i true).setIfInBounds j true=(L.setIfInBounds j true).setIfInBounds i true:=Array.setIfInBounds_comm _ _ (Ne.symm hji);refine wpOp_mono (fun a' w' h3=>?_) h2;have h4:=h3.2.1;rw [hcomm] at h4;have h5:=sl _ _ h4;refine ⟨h5,ih (L.setIfInBounds j true) a' w' (hcl.step hj) hfree' (ready_mono hr (Ne.symm hji)) h3.1 h5 ?_⟩;rw [<-hcomm];exact h3.2.2
def nV (P:Program)(N:Fz)(ops:Array Oper)(S1 S:World->Prop)(T:List Nat)(K:KK)(n:Nat)(L:Array Bool)(f:Fr)(w:World):Prop:=(∀ o ∈ ops.toList,BF N o=true)->Closed ops L->∀ a,Nb N f a->OG P ops (UW N K.i) S1 S T n L a w
section
variable {P:Program}{N:Fz}{ops:Array Oper}{S1 S:World->Prop}{T:List Nat}{K:KK}{f:Fr}{w:World}{n:Nat}{L:Array Bool}
theorem OQ {Q:Post}{i:Nat}(S1 S:World->Prop)(T:List Nat)(hm:P.follows .mixedOrders=true)(h:nV P N ops S1 S T ⟨Q.n,Q.p⟩ ops.size (Array.replicate ops.size false) f w.drew):WP P N (.region i ops true) Q f w:=by
 unfold WP;intro hok a ha;have hl:∀ o ∈ ops.toList,BF N o=true:=by intro o ho;have:=Array.all_eq_true_iff_forall_mem.1 (show ops.all (BF N)=true from hok);exact this o (by simpa using ho)
 refine Code.wp_mono (fun e a w q=>?_) (wp_region_any hm (Ol _ _ _ _ (h hl (Closed.start ops _) a ha)));cases e with
 | normal=>exact q
 | panic c=>obtain ⟨f,h1,h2⟩:=q;exact ⟨f,h1,h2 f⟩
 | _=>exact q.elim
theorem Jq (hr:Region.ready .any ops L=[])(h:K.n f w):nV P N ops S1 S T K n L f w:=by
 intro _ _ a ha;cases n with
 | zero=>exact ⟨hr,f,ha,h⟩
 | succ n=>exact ⟨fun _=>⟨f,ha,h⟩,by rw [hr];simp⟩
theorem KH (S2:World->Prop)(i:Nat){oi:Oper}{v:Value}(hi:ops[i]?=some oi)(hc:may ops T L i=true)(hS2:∀ L w,Closed ops L->L.getD i false=false->Cn S1 T S L w->S2 w)(hw:(rZ ops f oi.guard=true/\∀ w,S2 w->(execOp (ev f) oi).run P w=.ok (.value v) w)\/(rZ ops f oi.guard=false/\v=undef))(hS:Cn S1 T S L w)(k:nV P N ops S1 S T K n (L.setIfInBounds i true) (lD f oi.dst v) w):nV P N ops S1 S T K (n+1) L f w:=by
 intro hok hcl a ha;simp only [may,Ei,Bool.not_eq_true',List.contains_eq_mem] at hc;have hd:BF N oi=true:=hok oi (by have:=Array.mem_of_getElem? hi;simpa using this);have hr:i ∈ Region.ready .any ops L:=by simpa using hc.1.2
 have hT:i ∉ T:=by simpa using hc.2
 refine Rc (S2:=S2) (v:=v) hi (Region.noSelect_spec hc.1.1.1) (fun c a w h=>by
  obtain ⟨f,h1,h2⟩:=h;refine ⟨_,⟨?_,fun t=>rfl,?_⟩,fun f=>h2 f⟩
  · have:=h1.size;cases hd:oi.dst <;> simpa [Act.put,hd] using this
  · have:=h1.dfr;cases hd:oi.dst <;> simpa [Act.put,hd] using this) hT hS2 n L a w hcl (Region.free_spec hi hc.1.1.2) hr ?_ hS (k hok (hcl.step hr) _ (ha.put _ (uz hd) v))
 obtain ⟨h1,h2⟩|⟨h1,h2⟩:=hw
 · exact .inl ⟨by rw [vK ha];exact h1,fun w hw=>by rw [ha.BR];exact h2 w hw⟩
 · exact .inr ⟨by rw [vK ha];exact h1,h2⟩
theorem TG (i:Nat){oi:Oper}{v:Value}(hi:ops[i]?=some oi)(hc:may ops T L i=true)(hw:rZ ops f oi.guard=true)(hy:∀ w,(execOp (ev f) oi).run P w=.ok (.value v) w)(hS:Cn S1 T S L w)(k:nV P N ops S1 S T K n (L.setIfInBounds i true) (lD f oi.dst v) w):nV P N ops S1 S T K (n+1) L f w:=
 KH (fun _=>True) i hi hc (fun _ _ _ _ _=>trivial) (.inl ⟨hw,fun w _=>hy w⟩) hS k
theorem KJ (dp i:Nat){oi:Oper}{v:Value}(hi:ops[i]?=some oi)(hc:may ops T L i=true)(hT:(T.all fun t=>Tt ops dp t i)=true)(hw:rZ ops f oi.guard=true)(hy:∀ w,S w->(execOp (ev f) oi).run P w=.ok (.value v) w)(hS:Cn S1 T S L w)(k:nV P N ops S1 S T K n (L.setIfInBounds i true) (lD f oi.dst v) w):nV P N ops S1 S T K (n+1) L f w:=
 KH S i hi hc (fun L w hcl hu hs=>hs.2 fun t ht=>by
  have h1:=List.all_eq_true.1 hT t ht;cases hl:L.getD t false with
  | false=>rfl
  | true=>rw [hcl.Tt i dp t h1 hl] at hu;cases hu) (.inl ⟨hw,hy⟩) hS k
theorem Xn (i:Nat){oi:Oper}(hi:ops[i]?=some oi)(hc:may ops T L i=true)(hw:rZ ops f oi.guard=false)(hS:Cn S1 T S L w)(k:nV P N ops S1 S T K n (L.setIfInBounds i true) (lD f oi.dst undef) w):nV P N ops S1 S T K (n+1) L f w:=
 KH (fun _=>True) i hi hc (fun _ _ _ _ _=>trivial) (.inr ⟨hw,rfl⟩) hS k
def CG (P:Program)(N:Fz)(ops:Array Oper)(S1 S:World->Prop)(T:List Nat)(K:KK)(n:Nat)(L:Array Bool)(f:Fr)(w:World)(i:Nat):Prop:=(∀ o ∈ ops.toList,BF N o=true)->Closed ops (L.setIfInBounds i true)->∀ a,Nb N f a->wpOp P ops (UW N K.i) i (fun a' w'=>Cn S1 T S (L.setIfInBounds i true) w'/\OG P ops (UW N K.i) S1 S T n (L.setIfInBounds i true) a' w') a w
theorem aem (i:Nat)(hr:Region.ready .any ops L=[i])(h:CG P N ops S1 S T K n L f w i):nV P N ops S1 S T K (n+1) L f w:=fun hok hcl a ha=>
 ⟨fun h0=>(by rw [hr] at h0;cases h0),fun j hj=>by
  have hcl':=hcl.step hj;rw [hr] at hj;have hj':j=i:=by simpa using hj
  subst hj';exact h hok hcl' a ha⟩
theorem vg {i:Nat}{oi:Oper}{v:Value}{w':World}(hi:ops[i]?=some oi)(hw:rZ ops f oi.guard=true)(h:(execOp (ev f) oi).run P w=.ok (.value v) w')(hS:Cn S1 T S (L.setIfInBounds i true) w')(k:nV P N ops S1 S T K n (L.setIfInBounds i true) (lD f oi.dst v) w'):CG P N ops S1 S T K n L f w i:=by intro hok hcl a ha;have hd:BF N oi=true:=hok oi (by have:=Array.mem_of_getElem? hi;simpa using this);unfold wpOp;simp only [hi];rw [lF (by rw [vK ha];exact hw)];left;unfold Oper.wp;rw [ha.BR,h];exact ⟨hS,k hok hcl _ (ha.put _ (uz hd) v)⟩
theorem ahh {i:Nat}{oi:Oper}{w':World}(hi:ops[i]?=some oi)(hw:rZ ops f oi.guard=true)(h:(execOp (ev f) oi).run P w=.ok .skip w')(hS:Cn S1 T S (L.setIfInBounds i true) w')(k:nV P N ops S1 S T K n (L.setIfInBounds i true) (lD f oi.dst undef) w'):CG P N ops S1 S T K n L f w i:=by intro hok hcl a ha;have hd:BF N oi=true:=hok oi (by have:=Array.mem_of_getElem? hi;simpa using this);unfold wpOp;simp only [hi];rw [lF (by rw [vK ha];exact hw)];left;unfold Oper.wp;rw [ha.BR,h];exact ⟨hS,k hok hcl _ (ha.put _ (uz hd) undef)⟩
theorem X7 {i:Nat}{oi:Oper}{w':World}{g:FuncId}{args:Array Value}{R:Value->World->Prop}(hi:ops[i]?=some oi)(hw:rZ ops f oi.guard=true)(h:(execOp (ev f) oi).run P w=.ok (.enter g args) w')(hc:Calls P g args w' (rV R))(k:∀ v w'',R v w''->Cn S1 T S (L.setIfInBounds i true) w''/\nV P N ops S1 S T K n (L.setIfInBounds i true) (lD f oi.dst v) w''):CG P N ops S1 S T K n L f w i:=by intro hok hcl a ha;have hd:BF N oi=true:=hok oi (by have:=Array.mem_of_getElem? hi;simpa using this);unfold wpOp;simp only [hi];rw [lF (by rw [vK ha];exact hw)];left;unfold Oper.wp;rw [ha.BR,h];refine hc.mono fun e w'' he=>?_;obtain ⟨v,rfl,hR⟩:=he;exact ⟨(k v w'' hR).1,(k v w'' hR).2 hok hcl _ (ha.put _ (uz hd) v)⟩
theorem jL {w:World}(h1:S1 w)(h:S w):Cn S1 T S L w:=⟨h1,fun _=>h⟩
theorem Xy (t:Nat){w:World}(h1:S1 w)(h:(T.contains t && L.getD t false)=true):Cn S1 T S L w:=⟨h1,fun ht=>by
 simp only [Ei,List.contains_eq_mem] at h;have:=ht t (by simpa using h.1);rw [this] at h;cases h.2⟩
theorem YG (i:Nat){oi:Oper}{v:Value}(hi:ops[i]?=some oi)(hc:may ops T L i=true)(hw:rZ ops f oi.guard=true)(hy:∀ w,S1 w->(execOp (ev f) oi).run P w=.ok (.value v) w)(hS:Cn S1 T S L w)(k:nV P N ops S1 S T K n (L.setIfInBounds i true) (lD f oi.dst v) w):nV P N ops S1 S T K (n+1) L f w:=
 KH S1 i hi hc (fun _ _ _ _ h=>h.1) (.inl ⟨hw,hy⟩) hS k
theorem afC {i:Nat}{oi:Oper}{R:Value->World->Prop}(hi:ops[i]?=some oi)(hw:rZ ops f oi.guard=true)(h:To P (ev f) oi w R)(k:∀ v w',R v w'->Cn S1 T S (L.setIfInBounds i true) w'/\nV P N ops S1 S T K n (L.setIfInBounds i true) (lD f oi.dst v) w'):CG P N ops S1 S T K n L f w i:=by obtain ⟨v,w',h1,h2⟩:=h;exact vg hi hw h1 (k v w' h2).1 (k v w' h2).2
theorem aeK {i:Nat}{oi:Oper}{R:World->Prop}(hi:ops[i]?=some oi)(hw:rZ ops f oi.guard=true)(h:Zh P (ev f) oi w R)(k:∀ w',R w'->Cn S1 T S (L.setIfInBounds i true) w'/\nV P N ops S1 S T K n (L.setIfInBounds i true) (lD f oi.dst undef) w'):CG P N ops S1 S T K n L f w i:=by obtain ⟨w',h1,h2⟩:=h;exact ahh hi hw h1 (k w' h2).1 (k w' h2).2
theorem nQ (i:Nat)(l:List Nat)(hr:Region.ready .any ops L=i :: l)(h:∀ j ∈ i :: l,CG P N ops S1 S T K n L f w j):nV P N ops S1 S T K (n+1) L f w:=by
 unfold nV;intro hok hcl a ha;refine ⟨fun h0=>?_,fun j hj=>?_⟩
 · rw [hr] at h0;cases h0
 · have hcl':=hcl.step hj;rw [hr] at hj;have:=h j hj;unfold CG at this;exact this hok hcl' a ha
theorem mM:∀ i ∈ ([]:List Nat),CG P N ops S1 S T K n L f w i:=fun _ h=>by cases h
theorem jU {i:Nat}{l:List Nat}(h:CG P N ops S1 S T K n L f w i)(k:∀ j ∈ l,CG P N ops S1 S T K n L f w j):∀ j ∈ i :: l,CG P N ops S1 S T K n L f w j:=fun j hj=>by
 obtain rfl | hj:=nM.1 hj
 · exact h
 · exact k j hj
end
attribute [irreducible] nV CG
structure Rw where
 a:Option Addr
 c:Nat
 cs:List (List Value)
def Rw.hdr (r:Rw):List Value:=[.slice r.a r.cs.length r.c]
section
variable {α:Type}[Rp α]{F G:Nat->Prop}{w w':World}
def Cb (F:Nat→Prop)(w:World):List Rw→List (List α)→Prop
 | [],[]=>True
 | r :: R,l :: m=>xC F w r.cs l/\Cb F w R m
 | _,_=>False
theorem Cb.mv:∀ {R:List Rw}{m:List (List α)},Cb F w R m→Mv F G w w'→Cb G w' R m
 | [],[],_,_=>trivial
 | _ :: _,_ :: _,h,k=>⟨h.1.mv k,Cb.mv h.2 k⟩
 | [],_ :: _,h,_=>h.elim
 | _ :: _,[],h,_=>h.elim
theorem Cb.len:∀ {R:List Rw}{m:List (List α)},Cb F w R m→R.length=m.length
 | [],[],_=>rfl
 | _ :: _,_ :: _,h=>congrArg (·+1) (Cb.len h.2)
 | [],_ :: _,h=>h.elim
 | _ :: _,[],h=>h.elim
theorem Cb.get:∀ {R:List Rw}{m:List (List α)}{k:Nat}{x:List α},Cb F w R m→m[k]?=some x→∃ r,R[k]?=some r∧xC F w r.cs x
 | r :: _,_ :: _,0,x,h,hx=>by simp only [EC,Dk] at hx;subst hx;exact ⟨r,rfl,h.1⟩
 | _ :: _,_ :: _,k+1,x,h,hx=>Cb.get (k:=k) h.2 (by simpa using hx)
 | [],[],_,_,_,hx=>by simp at hx
 | [],_ :: _,_,_,h,_=>h.elim
 | _ :: _,[],_,_,h,_=>h.elim
theorem Cb.set:∀ {R:List Rw}{m:List (List α)}(k:Nat){r:Rw}{x:List α},Cb F w R m→xC F w r.cs x→Cb F w (R.set k r) (m.set k x)
 | [],[],_,_,_,_,_=>trivial
 | _ :: _,_ :: _,0,_,_,h,k=>⟨k,h.2⟩
 | _ :: _,_ :: _,n+1,_,_,h,k=>⟨h.1,Cb.set n h.2 k⟩
 | [],_ :: _,_,_,_,h,_=>h.elim
 | _ :: _,[],_,_,_,h,_=>h.elim
theorem Cb.app:∀ {R:List Rw}{m:List (List α)}{S:List Rw}{n:List (List α)},Cb F w R m→Cb F w S n→Cb F w (R ++ S) (m ++ n)
 | [],[],_,_,_,k=>k
 | _ :: _,_ :: _,_,_,h,k=>⟨h.1,Cb.app h.2 k⟩
 | [],_ :: _,_,_,h,_=>h.elim
 | _ :: _,[],_,_,h,_=>h.elim
end
def Da.nA {α:Type}[Rp α](R:List Rw)(m:List (List α)):Da:=⟨fun F w=>Cb F w R m,Cb.mv⟩
theorem Own.same {w w':World}{base:Nat}{e:TypeId}{sz n c:Nat}{A:Option Addr}{xs:List Value}(h:Own w base e sz A n c xs)(k:∀ b,rowOf A=some b->w'.heap[b]?=w.heap[b]?):Own w' base e sz A n c xs:=by
 refine ⟨h.1,?_⟩;obtain h1 | ⟨g,cap,cur,h3,h4,h5,h6⟩:=h.2
 · exact .inl h1
 · refine .inr ⟨g,cap,cur,h3,h4,?_,h6⟩;injection h3 with h3 _ _;rw [k g (by rw [h3];rfl)];exact h5
def It.uH (base:Nat)(e:TypeId)(sz:Nat)(R:List Rw)(x:Option Nat):It where
 F k:=∃ (i:Nat)(r:Rw),R[i]?=some r/\some i≠x/\rowOf r.a=some k
 p w:=(∀ (i:Nat)(r:Rw),R[i]?=some r->some i≠x->Own w base e sz r.a r.cs.length r.c r.cs.flatten)/\∀ (i j:Nat)(r s:Rw)(b:Nat),R[i]?=some r->R[j]?=some s->some i≠x->some j≠x->rowOf r.a=some b->rowOf s.a=some b->i=j
 bd w h k hk:=by obtain ⟨i,r,h1,h2,h3⟩:=hk;exact ((h.1 i r h1 h2).row k h3).2
 st w w' h k hs:=⟨fun i r h1 h2=>Own.same (h.1 i r h1 h2) (fun b hb=>k b ⟨i,r,h1,h2,hb⟩),h.2⟩
section
variable {α:Type}[Rp α]{w0 w w':World}{Z G:Nat->Prop}{L Lr:List It}{D:List Da}{base e sz:Nat}{R:List Rw}{m:List (List α)}{k:Nat}{x:List α}
theorem Bx.d2 (h:Bx w0 w Z G L D)(j:Nat)(hj:D[j]?=some (.nA R m)):Cb (IU w0 Z L) w R m:=h.d j hj
theorem Bx.foc (h:Bx w0 w Z G (.uH base e sz R none :: Lr) D)(j:Nat)(hj:D[j]?=some (.nA R m))(hx:m[k]?=some x) :∃ a c cs,R[k]?=some ⟨a,c,cs⟩/\cs.length=x.length/\Bx w0 w Z G (.own base a c e sz cs :: .uH base e sz R (some k) :: Lr) (.els cs x :: D):=by
 obtain ⟨⟨a,c,cs⟩,hr,hE⟩:=(h.d2 j hj).get hx;have hf:=(h.it _ (Ca ..)).1;have hpw:=Cr.1 h.pw;refine ⟨a,c,cs,hr,hE.len,?_⟩;have h1:Bx w0 w Z G (.own base a c e sz cs :: .uH base e sz R (some k) :: Lr) D:=by
  refine h.step (X:=fun _=>False) ((Ext.refl w).Hf _) (fun _ hx=>hx.elim) (fun it hi=>?_) (fun it hi b hb hl=>?_) (Cr.2 ⟨fun y hy b hb hc=>?_,Cr.2 ⟨fun y hy b hb=>?_,hpw.2⟩⟩)
  · obtain rfl | hi:=nM.1 hi
    · exact hf.1 k _ hr (by simp)
    · obtain rfl | hi:=nM.1 hi
      · exact ⟨fun i r h1 h2=>hf.1 i r h1 (by simp),fun i j r s b h1 h2 _ _ h3 h4=>hf.2 i j r s b h1 h2 (by simp) (by simp) h3 h4⟩
      · exact (h.it it (yO _ hi)).1
  · obtain rfl | hi:=nM.1 hi
    · exact ⟨_,Ca ..,k,_,hr,by simp,hb⟩
    · obtain rfl | hi:=nM.1 hi
      · obtain ⟨i,r,h1,h2,h3⟩:=hb;exact ⟨_,Ca ..,i,r,h1,by simp,h3⟩
      · exact ⟨it,yO _ hi,hb⟩
  · obtain rfl | hy:=nM.1 hy
    · obtain ⟨i,r,h1,h2,h3⟩:=hc;have:=hf.2 i k r _ b h1 hr (by simp) (by simp) h3 hb;subst this;exact h2 rfl
    · exact hpw.1 y hy b ⟨k,_,hr,by simp,hb⟩ hc
  · obtain ⟨i,r,h1,h2,h3⟩:=hb;exact hpw.1 y hy b ⟨i,r,h1,by simp,h3⟩
 refine h1.ko (d:=.els cs x) ?_;obtain ⟨r',hr',hE'⟩:=(h1.d2 j hj).get hx;rw [hr] at hr';injection hr' with hr';subst hr';exact hE'
theorem Bx.unf {a:Option Addr}{c:Nat}{cs:List (List Value)}(h:Bx w0 w Z G (.own base a c e sz cs :: .uH base e sz R (some k) :: Lr) D)(j p:Nat)(hj:D[j]?=some (.nA R m))(hp:D[p]?=some (.els cs x)) :Bx w0 w Z G (.uH base e sz (R.set k ⟨a,c,cs⟩) none :: Lr) (D.set j (.nA (R.set k ⟨a,c,cs⟩) (m.set k x))):=by
 have ho:=(h.it _ (Ca ..)).1;have hf:=(h.it _ (yO _ (Ca ..))).1;have hpw:=Cr.1 h.pw;have hpw2:=Cr.1 hpw.2;have hget:∀ {i:Nat}{r:Rw},(R.set k ⟨a,c,cs⟩)[i]?=some r->i=k/\r=⟨a,c,cs⟩\/i≠k/\R[i]?=some r:=by
  intro i r hi;rw [List.getElem?_set] at hi;split at hi
  · rename_i hki;split at hi
    · injection hi with hi;exact .inl ⟨hki.symm,hi.symm⟩
    · cases hi
  · rename_i hki;exact .inr ⟨fun e=>hki e.symm,hi⟩
 have hap:∀ {i:Nat}{r:Rw}{b:Nat},i≠k->R[i]?=some r->rowOf r.a=some b->rowOf a≠some b:=fun {i r b} hne hi hb hc=>
  hpw.1 _ (Ca ..) b hc ⟨i,r,hi,by simpa using hne,hb⟩
 have h1:Bx w0 w Z G (.uH base e sz (R.set k ⟨a,c,cs⟩) none :: Lr) D:=by
  refine h.step (X:=fun _=>False) ((Ext.refl w).Hf _) (fun _ hx=>hx.elim) (fun it hi=>?_) (fun it hi b hb hl=>?_) (Cr.2 ⟨fun y hy b hb=>?_,hpw2.2⟩)
  · obtain rfl | hi:=nM.1 hi
    · refine ⟨fun i r h1 _=>?_,fun i j r s b h1 h2 _ _ h3 h4=>?_⟩
      · obtain ⟨_,rfl⟩|⟨hne,h1⟩:=hget h1
        · exact ho
        · exact hf.1 i r h1 (by simpa using hne)
      · obtain ⟨e1,er⟩|⟨hne,h1⟩:=hget h1
        · obtain ⟨e2,es⟩|⟨hne2,h2⟩:=hget h2
          · rw [e1,e2]
          · rw [er] at h3;exact absurd h3 (hap hne2 h2 h4)
        · obtain ⟨e2,es⟩|⟨hne2,h2⟩:=hget h2
          · rw [es] at h4;exact absurd h4 (hap hne h1 h3)
          · exact hf.2 i j r s b h1 h2 (by simpa using hne) (by simpa using hne2) h3 h4
    · exact (h.it it (yO _ (yO _ hi))).1
  · obtain rfl | hi:=nM.1 hi
    · obtain ⟨i,r,h1,_,h3⟩:=hb;obtain ⟨rfl,rfl⟩|⟨hne,h1⟩:=hget h1
      · exact ⟨_,Ca ..,h3⟩
      · exact ⟨_,yO _ (Ca ..),i,r,h1,by simpa using hne,h3⟩
    · exact ⟨it,yO _ (yO _ hi),hb⟩
  · obtain ⟨i,r,h1,_,h3⟩:=hb;obtain ⟨rfl,rfl⟩|⟨hne,h1⟩:=hget h1
    · exact hpw.1 y (yO _ hy) b h3
    · exact hpw2.1 y hy b ⟨i,r,h1,by simpa using hne,h3⟩
 exact h1.KD j (d:=.nA _ _) ((h1.d2 j hj).set k (h1.de p hp))
theorem Bx.hd (h:Bx w0 w Z G L D)(i:Nat){A:Option Addr}{c:Nat}{H H':List (List Value)}(hi:L[i]?=some (.own base A c e sz H))(hH:H=H'):Bx w0 w Z G (L.set i (.own base A c e sz H')) D:=by subst hH;exact h.put i hi ((Ext.refl w).Hf _) (h.bo i hi) (fun k hk=>.inl hk)
theorem acy {R:List Rw}{k:Nat}{a:Option Addr}{c:Nat}{cs cs':List (List Value)}(hr:R[k]?=some ⟨a,c,cs⟩)(hl:cs'.length=cs.length):R.map Rw.hdr=(R.set k ⟨a,c,cs'⟩).map Rw.hdr:=by
 refine List.ext_getElem? fun i=>?_;rw [zZ,zZ,List.getElem?_set];split
 · rename_i hki;subst hki;rw [hr];split
   · simp [Rw.hdr,hl]
   · have:=ku hr;omega
 · rfl
theorem ahu {R:List Rw}{k:Nat}{a:Option Addr}{c n:Nat}{cs':List (List Value)}(hl:cs'.length=n):(R.map Rw.hdr).set k [.slice a n c]=(R.set k ⟨a,c,cs'⟩).map Rw.hdr:=by rw [List.map_set,Rw.hdr,hl]
theorem MO (R:List Rw):(R.map Rw.hdr).flatten=R.map fun r=>Value.slice r.a r.cs.length r.c:=by
 induction R with
 | nil=>rfl
 | cons r R ih=>rw [List.map_cons,Bh,ih];rfl
theorem Bx.hc (h:Bx w0 w Z G L D)(i:Nat){A a:Option Addr}{c' c n:Nat}{cs:List (List Value)}(hi:L[i]?=some (.own base A c' e (Rp.sz (List α)) (R.map Rw.hdr)))(hr:R[k]?=some ⟨a,c,cs⟩)(hn:cs.length=n):Cells w (oH A) (qo A+k * Rp.sz (List α)) [.slice a n c]:=by
 have ho:=h.bo i hi;have hk:=ku hr;obtain ⟨g,rfl⟩:=ho.VP (by simp;omega);rw [MO] at ho;intro j v hv;obtain _ | j:=j
 · simp only [EC,Dk] at hv;subst hv;show w.cell? ⟨g,0+k * 1+0,none⟩=_;rw [show 0+k * 1+0=k by omega];exact ho.cell (by rw [zZ,hr];simp [hn])
 · simp at hv
theorem Sg {P:Program}{w w1:World}{ρ:Operand->Value}{d:Option Nat}{ty:TypeId}{pos:String}{af:Array Edge}{g:Option (Nat × Bool)}{α:Type}[Rp α]{base et:Nat}{A:Option Addr}{c n:Nat}{R:List Rw}{r:Rw}{t e:TypeId}{x y:Operand}{kk:IntKind}{i:Int}{z:Value}{by_ k:Nat}(ht:P.underlying t=some (.slice e))(he:TI P e z (Rp.sz (List α)) by_)(hx:ρ x=.slice A n c)(hy:ρ y=.int kk i)(hi:i=(k:Int))(ho:Own w1 base et (Rp.sz (List α)) A (R.map Rw.hdr).length c (R.map Rw.hdr).flatten)(hr:R[k]?=some r)(hn:R.length=n):Yl P ρ (.indexAddr t x y) d ty pos af g w (.pointer (some ⟨oH A,qo A+k * Rp.sz (List α),none⟩)):=by have hk:=ku hr;obtain ⟨g0,rfl⟩:=ho.VP (by simp;omega);exact xIdx (P:=P) (w:=w) (d:=d) (ty:=ty) (pos:=pos) (af:=af) (g:=g) k ht he hx hy hi (by omega)
theorem ag0 {P:Program}{ρ:Operand->Value}{d:Option Nat}{ty:TypeId}{pos:String}{af:Array Edge}{g:Option (Nat × Bool)}(hL:Bx w0 w Z G L D)(i:Nat){t:TypeId}{x y:Operand}{z:Value}{by_:Nat}{A a:Option Addr}{c' c n:Nat}{r:Rw}(hi:L[i]?=some (.own base A c' e (Rp.sz (List α)) (R.map Rw.hdr)))(hr:R[k]?=some r)(ht:TI P t z 1 by_)(hx:ρ x=.pointer (some ⟨oH A,qo A+k * Rp.sz (List α),none⟩))(hy:ρ y=.slice a n c):Zh P ρ ⟨d,.store t x y,ty,pos,af,g⟩ w fun w'=>Bx w0 w' Z G (L.set i (.own base A c' e (Rp.sz (List α)) ((R.map Rw.hdr).set k [.slice a n c]))) D:=by
 have ho:=hL.bo i hi;have hk:=ku hr;obtain ⟨g0,rfl⟩:=ho.VP (by simp;omega);have hx':ρ x=.pointer (some ⟨g0,k,none⟩):=by rw [hx];simp [oH,qo,Rp.sz]
 have hcell:w.cell? ⟨g0,k,none⟩=some (.slice r.a r.cs.length r.c):=ho.cell (by rw [MO,zZ,hr];rfl);refine ⟨_,abZ ht hx' hy rfl hcell (ho.frozen k),?_⟩;have h1:=ho.set k (.slice a n c);have hfl:(R.map Rw.hdr).flatten.set k (.slice a n c)=((R.map Rw.hdr).set k [.slice a n c]).flatten:=by
  clear hi ho hr hk hcell h1 hx hx'
  induction R generalizing k with
  | nil=>simp
  | cons q R ih=>
   cases k with
   | zero=>rw [List.map_cons,List.set_cons_zero,Bh,Bh];rfl
   | succ k=>
    rw [List.map_cons,List.set_cons_succ,Bh,Bh,<-ih];rfl
 rw [hfl] at h1;refine hL.U2 i hi h1 (by simp) rfl (HZ.setCell w g0 k _) (.inl rfl)
theorem adg {P:Program}{ρ:Operand->Value}{d:Option Nat}{ty:TypeId}{pos:String}{af:Array Edge}{g:Option (Nat × Bool)}{b1 e1:Nat}{t:TypeId}{s y:Operand}{z:Value}{by_:Nat}{A A':Option Addr}{c c' b' cy:Nat}{r:List (List α)}(q i j:Nat)(hL:Bx w0 w Z G L D)(hq:L[q]?=some (.own b1 A c e1 (Rp.sz (List α)) (R.map Rw.hdr)))(hi:L[i]?=some (.uH base e sz R none))(hqi:q≠i)(hj:D[j]?=some (.nA R m))(ht:P.underlying t=some (.slice e1))(hti:TI P e1 z (Rp.sz (List α)) by_)(hz:z.cells.size=Rp.sz (List α))(hb:by_<=100000)(hbase:b1<=w0.heap.size)(hs:ρ s=.slice A m.length c)(hx:ρ y=.slice A' 1 c'){iy:Nat}(hy:L[iy]?=some (.own b' A' cy e1 (Rp.sz (List α)) [[.slice none 0 0]]))(hr:Fw.app m [[]]=some r) :To P ρ ⟨d,.call { callee:=.builtin .append,args:=#[s,y],argTypes:=#[t,t] },ty,pos,af,g⟩ w fun v w'=>∃ A2 c2 R2,v=.slice A2 r.length c2/\Bx w0 w' Z G ((L.set q (.own b1 A2 c2 e1 (Rp.sz (List α)) (R2.map Rw.hdr))).set i (.uH base e sz R2 none)) (D.set j (.nA R2 r)):=by
 obtain ⟨hm,rfl⟩:=pY hr;have hE:=hL.d2 j hj;have ho:=hL.bo q hq;have hlen:(R.map Rw.hdr).length=m.length:=by rw [Dg,hE.len]
 rw [hlen] at ho;have hbb:(m.length+1) * by_<=140737488355328:=sO (Nat.mul_le_mul hm hb) (by decide);have hsl:=(hL.bo iy hy).sl;obtain ⟨v,w',h1,A2,c2,rfl,h2,h3,h4⟩:=U1 (P:=P) (ρ:=ρ) (w:=w) (d:=d) (ty:=ty) (pos:=pos) (af:=af) (g:=g) b1 (m ++ [[]]).length ht hti hz (show 0 < 1 by decide) hs hx ho hsl (by simp [Value.oneCell']) (sO hbase hL.uo.size) (by simp at hm;omega) hbb (by simp);refine ⟨_,w',h1,A2,c2,R ++ [⟨none,0,[]⟩],rfl,?_⟩;have hgetn:∀ {i:Nat}{r:Rw},(R ++ [(⟨none,0,[]⟩:Rw)])[i]?=some r->R[i]?=some r\/r=⟨none,0,[]⟩:=by
   intro i r hi;rw [List.getElem?_append] at hi;split at hi
   · exact .inl hi
   · right;obtain h0 | h0:=Nat.eq_zero_or_pos (i - R.length)
     · rw [h0] at hi;simpa using hi.symm
     · rw [List.getElem?_eq_none (by simp;omega)] at hi;cases hi
 have h5:Bx w0 w Z G L (D.set j (.nA (R ++ [⟨none,0,[]⟩]) (m ++ [[]]))):=hL.KD j (d:=.nA _ _) (hE.app ⟨kE,kE⟩);have h6:=h5.U2 (ds:=(R ++ [(⟨none,0,[]⟩:Rw)]).map Rw.hdr) q hq h2 (by rw [Dg,F9,F9,hE.len];rfl) (by rw [List.map_append,List.flatten_append];rfl) h3 h4;have hi':(L.set q (.own b1 A2 c2 e1 (Rp.sz (List α)) ((R ++ [(⟨none,0,[]⟩:Rw)]).map Rw.hdr)))[i]?=some (.uH base e sz R none):=by rw [zV hqi];exact hi
 have hfam:=h6.at i hi';refine h6.put i hi' ((Ext.refl w').Hf _) ⟨fun i r h1 _=>?_,fun i j r s b h1 h2 _ _ h3 h4=>?_⟩ (fun b ⟨i,r,h1,_,h3⟩=>?_)
 · obtain h1 | rfl:=hgetn h1
   · exact hfam.1 i r h1 (by simp)
   · exact Own.nil w' base e sz
 · obtain h1 | rfl:=hgetn h1
   · obtain h2 | rfl:=hgetn h2
     · exact hfam.2 i j r s b h1 h2 (by simp) (by simp) h3 h4
     · cases h4
   · cases h3
 · obtain h1 | rfl:=hgetn h1
   · exact .inl ⟨i,r,h1,by simp,h3⟩
   · cases h3
theorem abw {F:Nat->Prop}{A:Option Addr}{c b1 e1:Nat}(ho:Own w b1 e1 (Rp.sz (List α)) A (R.map Rw.hdr).length c (R.map Rw.hdr).flatten)(hf:(It.uH base e (Rp.sz α) R none).p w)(hE:Cb F w R m)(hA:∀ b,rowOf A=some b->F b)(hR:∀ b,(It.uH base e (Rp.sz α) R none).F b->F b):l5 F w A c m:=by
 have hc:=ho.cap;rw [Dg,hE.len] at hc;refine ⟨hc.1,hc.2,fun h0=>?_⟩;obtain ⟨g,rfl⟩:=ho.VP (by rw [Dg,hE.len];exact h0);refine ⟨rfl,hA g rfl,(ho.row g rfl).2,fun i x hx=>?_⟩;obtain ⟨r,hr,hEx⟩:=hE.get hx;have hor:=hf.1 i r hr (by simp);refine ⟨[.slice r.a x.length r.c],fun j v hv=>?_,r.a,r.c,rfl,hor.WO hEx fun b hb=>hR b ⟨i,r,hr,by simp,hb⟩⟩;obtain _ | j:=j
 · simp only [EC,Dk] at hv;subst hv;show w.cell? ⟨g,0+i * 1+0,none⟩=_;rw [show 0+i * 1+0=i by omega];exact ho.cell (by rw [MO,zZ,hr];simp [hEx.len])
 · simp at hv
theorem Bx.vw2 (h:Bx w0 w Z G L D)(q i j:Nat){A:Option Addr}{c b1 e1:Nat}(hq:L[q]?=some (.own b1 A c e1 (Rp.sz (List α)) (R.map Rw.hdr)))(hi:L[i]?=some (.uH base e (Rp.sz α) R none))(hj:D[j]?=some (.nA R m)):l5 (fun _=>True) w A c m:=
 abw (h.bo q hq) (h.at i hi) ((h.d2 j hj).mv (.same fun _ _ _=>trivial)) (fun _ _=>trivial) (fun _ _=>trivial)
theorem Bx.ahf {A:Option Addr}{c e1:Nat}(h:Bx w0 w Z G (.own w0.heap.size A c e1 (Rp.sz (List α)) (R.map Rw.hdr) :: .uH w0.heap.size e (Rp.sz α) R none :: Lr) D)(j:Nat)(hj:D[j]?=some (.nA R m)):Bx w0 w Z G Lr (.l A c m :: D.eraseIdx j):=by
 have hpw:=Cr.1 h.pw;have hpw2:=Cr.1 hpw.2;have h1:Bx w0 w Z G Lr (D.eraseIdx j):=(h.tl.tl).Bl fun d hd=>(List.eraseIdx_sublist D j).subset hd;have ho:=(h.it _ (Ca ..)).1;have hf:=(h.it _ (yO _ (Ca ..))).1;refine h1.ko (d:=.l A c m) (abw ho hf ((h.tl.tl).d2 j hj) (fun b hb=>⟨fun hl=>?_,fun it hi=>hpw.1 it (yO _ hi) b hb⟩) (fun b hb=>⟨fun hl=>?_,fun it hi=>hpw2.1 it hi b hb⟩))
 · have:=(ho.row b hb).1;omega
 · obtain ⟨i,r,h1,h2,h3⟩:=hb;have:=((hf.1 i r h1 h2).row b h3).1;omega
end
theorem Pre.all {w:World}{Dc:List Da}(hD:∀ d ∈ Dc,d.ok (fun _=>True) w):Pre w (fun _=>True) [] Dc:={ it:=fun _ h=>(Dl h).elim,z:=fun _ h=>(Dl h).elim,pw:=List.Pairwise.nil,da:=hD }
theorem l5.all {α:Type}[Rp α]{F:Nat->Prop}{w:World}{a:Option Addr}{c:Nat}{l:List α}(h:l5 F w a c l):l5 (fun _=>True) w a c l:=h.mv (.same fun _ _ _=>trivial)
section
variable {α:Type}[Rp α]{w0 w w':World}{Z G:Nat->Prop}{L Lr:List It}{D:List Da}{base e sz:Nat}{R:List Rw}{m:List (List α)}{k:Nat}{x:List α}
theorem set_self {β:Type}{l:List β}{k:Nat}{x:β}(h:l[k]?=some x):l.set k x=l:=by
 refine List.ext_getElem? fun i=>?_;rw [List.getElem?_set];split
 · rename_i hki;subst hki;rw [h];split
   · rfl
   · have:=ku h;omega
 · rfl
theorem Bx.acr {a:Option Addr}{c:Nat}{cs:List (List Value)}(h:Bx w0 w Z G (.own base a c e sz cs :: .uH base e sz R (some k) :: Lr) D)(j p:Nat)(hj:D[j]?=some (.nA R m))(hp:D[p]?=some (.els cs x))(hR:R[k]?=some ⟨a,c,cs⟩) :Bx w0 w Z G (.uH base e sz R none :: Lr) D:=by
 have h1:=h.unf j p hj hp;rw [set_self hR] at h1;have h2:Bx w0 w Z G (.uH base e sz R none :: Lr) D:=⟨h1.uo,h1.it,h1.pw,fun d hd=>by
  obtain ⟨i,hi⟩:=QK hd;by_cases hij:i=j
  · subst hij;rw [hj] at hi;injection hi with hi;subst hi;have h3:=h.d2 i hj;exact h3.mv (.same fun b hb _=>⟨hb.1,fun it hit=>by
     obtain rfl | hit:=nM.1 hit
     · intro hf;obtain ⟨q,r,h4,_,h5⟩:=hf;by_cases hqk:q=k
       · subst hqk;rw [hR] at h4;injection h4 with h4;subst h4;exact hb.2 _ (Ca ..) h5
       · exact hb.2 _ (yO _ (Ca ..)) ⟨q,r,h4,by simpa using hqk,h5⟩
     · exact hb.2 it (yO _ (yO _ hit))⟩)
  · refine h1.da d (vS (i:=i) ?_);rw [zV (fun e=>hij e.symm)];exact hi⟩
 exact h2
theorem Bx.afu (h:Bx w0 w Z G L D)(α:Type)[Rp α](e1 e:TypeId):Bx w0 w Z G (.own w0.heap.size none 0 e1 (Rp.sz (List α)) (([]:List Rw).map Rw.hdr) :: .uH w0.heap.size e (Rp.sz α) [] none :: L) (.nA ([]:List Rw) ([]:List (List α)) :: D):=by have h1:Bx w0 w Z G (.uH w0.heap.size e (Rp.sz α) [] none :: L) D:=h.push (Ext.refl w) ⟨fun i r hi _=>by simp at hi,fun i j r s b hi=>by simp at hi⟩ (fun k ⟨i,r,hi,_⟩=>by simp at hi);exact (h1.owN e1 (Rp.sz (List α))).ko (d:=.nA [] []) kE
theorem l5.Zd {F:Nat->Prop}{a A:Option Addr}{c C:Nat}{l r:List α}{i j:Nat}(h:l5 F w a c l)(hij:i<=j)(hj:j<=l.length)(hr:(l.drop i).take (j - i)=r)(hA:(if c=i then a else a.map (·.add (i * Rp.sz α)))=A)(hC:c - i=C):l5 F w A C r:=by subst hr hA hC;exact h.part hij hj
end
section
variable {w0 w w':World}{Z G:Nat->Prop}{L:List It}{D:List Da}
theorem Tg {α:Type}(L:List α)(a b:List Nat):pick L (a ++ b)=pick L a ++ pick L b:=by
 induction a with
 | nil=>rfl
 | cons i a ih=>rw [List.cons_append,pick,pick,ih,ES]
theorem Bx.pr (h:Bx w0 w Z G L D)(i r d:List Nat)(hn:nodup (i ++ r)=true):Pre w (IU w0 Z (pick L i ++ pick L r)) (pick L i) (pick D d):=by have h2:=(h.arr (i ++ r) hn).dp d;rw [Tg] at h2;exact h2.pre h2.da
theorem Bx.cl (h:Bx w0 w Z G L D)(i r:List Nat)(hn:nodup (i ++ r)=true){Lc L1:List It}{D1:List Da}(k:Bx w w' (IU w0 Z (pick L i ++ pick L r)) (mD Lc) L1 D1)(e:pick L i=Lc):Bx w0 w' Z G (L1 ++ pick L r) (D1 ++ D):=by subst e;have h2:=h.arr (i ++ r) hn;rw [Tg] at h2;exact h2.call k
end
section
variable {P:Program}{N:Fz}{ops:Array Oper}{f:Fr}{w w0:World}{n:Nat}{K:KK}{Lb:Array Bool}{T:List Nat}{Z G:Nat->Prop}{L:List It}{D:List Da}{S1 S:World->Prop}
theorem Sj {Q:Post}{i:Nat}(h:Bx w0 w Z G L D)(i1 d1 i2 d2 T:List Nat)(hm:P.follows .mixedOrders=true)(k:nV P N ops (fun u=>Bx w0 u Z G (pick L i1) (pick D d1)) (fun u=>Bx w0 u Z G (pick L i2) (pick D d2)) T ⟨Q.n,Q.p⟩ ops.size (Array.replicate ops.size false) f w.drew):WP P N (.region i ops true) Q f w:=
 OQ _ _ T hm k
theorem rz {Q:Post}{i:Nat}(h:Bx w0 w Z G L D)(i1 d1 T:List Nat)(hm:P.follows .mixedOrders=true)(k:nV P N ops (fun u=>Bx w0 u Z G (pick L i1) (pick D d1)) (fun _=>True) T ⟨Q.n,Q.p⟩ ops.size (Array.replicate ops.size false) f w.drew):WP P N (.region i ops true) Q f w:=
 OQ _ _ T hm k
theorem sF {w:World}(h:S1 w):Cn S1 T (fun _=>True) Lb w:=⟨h,fun _=>trivial⟩
theorem tP (i:Nat){oi:Oper}{v:Value}(hi:ops[i]?=some oi)(hy:∀ w,(execOp (ev f) oi).run P w=.ok (.value v) w)(hS:Cn S1 T S Lb w)
 (k:nV P N ops S1 S T K n (Lb.setIfInBounds i true) (lD f oi.dst v) w) (hw:rZ ops f oi.guard=true:=by exact rfl) (hc:may ops T Lb i=true:=by kernel_rfl):nV P N ops S1 S T K (n+1) Lb f w:=TG i hi hc hw hy hS k
theorem tU (i:Nat){oi:Oper}{v:Value}(hi:ops[i]?=some oi)(hy:∀ w,S1 w→(execOp (ev f) oi).run P w=.ok (.value v) w)(hS:Cn S1 T S Lb w)
 (k:nV P N ops S1 S T K n (Lb.setIfInBounds i true) (lD f oi.dst v) w) (hw:rZ ops f oi.guard=true:=by exact rfl) (hc:may ops T Lb i=true:=by kernel_rfl):nV P N ops S1 S T K (n+1) Lb f w:=YG i hi hc hw hy hS k
theorem tS (dp i:Nat){oi:Oper}{v:Value}(hi:ops[i]?=some oi)(hy:∀ w,S w→(execOp (ev f) oi).run P w=.ok (.value v) w)(hS:Cn S1 T S Lb w)
 (k:nV P N ops S1 S T K n (Lb.setIfInBounds i true) (lD f oi.dst v) w) (hw:rZ ops f oi.guard=true:=by exact rfl) (hc:may ops T Lb i=true:=by kernel_rfl) (hT:(T.all fun t=>Tt ops dp t i)=true:=by kernel_rfl):nV P N ops S1 S T K (n+1) Lb f w:=KJ dp i hi hc hT hw hy hS k
end
abbrev Vi (n:Int):Value:=Value.int IntKind.i64 n
abbrev Vt (s:ByteArray):Value:=Value.string s
abbrev Pt (b:Nat):Value:=Value.pointer (some ⟨b,0,none⟩)
abbrev ad (b:Nat):Option Addr:=some ⟨b,0,none⟩
abbrev sn:Value:=Value.slice none 0 0
abbrev be:ByteArray:=ByteArray.empty
section
variable {P:Program}{N:Fz}{n R:Fr->World->Prop}{X:Nat->Fr->World->Prop}{V:Fr->List PanicEntry->World->Prop}{f:Fr}{w:World}
theorem tV {x y:Code}(h:WP P N x ⟨fun f w=>WP P N y ⟨n,X,R,V⟩ f w,X,R,V⟩ f w):WP P N (.seq x y) ⟨n,X,R,V⟩ f w:=ag6 h
theorem oN {i:Nat}{c:Code}(h:WP P N c ⟨n,fun j=>bif Nat.beq j i then n else X j,R,V⟩ f w):WP P N (.block i c) ⟨n,X,R,V⟩ f w:=adP h
theorem qQ {x:Code}(J:Fr->World->Prop)(h:∀ J':Fr->World->Prop,(∀ f w,J f w->J' f w)->WP P N x ⟨J',X,R,V⟩ f w)(k:∀ f w,J f w->n f w):WP P N x ⟨n,X,R,V⟩ f w:=
 wJ J (h J fun _ _ h=>h) k
theorem kG {c:Code}(I:Nat->Fr->World->Prop)(n0:Nat)(h0:I n0 f w)(hr:∀ n f w,I n f w->∀ J':Fr->World->Prop,(∀ m f w,m < n->I m f w->J' f w)->WP P N c ⟨J',X,R,V⟩ f w):WP P N (.loop c) ⟨n,X,R,V⟩ f w:=
 acT I n0 h0 fun n f w h=>hr n f w h _ fun m f w hm hi=>⟨m,hm,hi⟩
theorem uw {i:Nat}(h:X i f w):WP P N (.exit i) ⟨n,X,R,V⟩ f w:=afi h
theorem lG (h:R f w):WP P N .ret ⟨n,X,R,V⟩ f w:=agI h
end
theorem Own.shr {w:World}{base:Nat}{e:TypeId}{sz n c:Nat}{A:Option Addr}{xs:List Value}(h:Own w base e sz A n c xs)(m:Nat)(hm:m<=n):Own w base e sz A m c (xs.take (m * sz)):=by
 refine ⟨by rw [zM,h.len];exact Nat.min_eq_left (Nat.mul_le_mul_right _ hm),?_⟩;obtain ⟨h2,hn⟩|⟨b,cap,cur,h3,h4,h5,h6,h7,h8,h9⟩:=h.2
 · subst hn;obtain rfl:m=0:=by omega
   exact .inl ⟨h2,rfl⟩
 · injection h3 with h3a h3b h3c;refine .inr ⟨b,cap,cur,by rw [h3a,h3c],h4,h5,by omega,h7,h8,?_⟩;rw [<-h9,List.take_take,Nat.min_eq_left (Nat.mul_le_mul_right _ hm)]
theorem xC.aej {α:Type}[Rp α]{F:Nat->Prop}{w:World}{cs:List (List Value)}{l:List α}(h:xC F w cs l)(m:Nat)(hm:m<=l.length):(cs.take m).flatten=cs.flatten.take (m * Rp.sz α):=by
 have h1:=(h.take m).YK;rw [zM,Nat.min_eq_left hm] at h1;have h2:cs.flatten=(cs.take m).flatten ++ (cs.drop m).flatten:=by rw [<-List.flatten_append,List.take_append_drop]
 rw [<-h1,h2,List.take_append_of_le_length (nD _),List.take_length]
theorem Bx.shr {α:Type}[Rp α]{w0 w:World}{Z G:Nat->Prop}{L:List It}{D:List Da}(h:Bx w0 w Z G L D)(i j:Nat){base:Nat}{A:Option Addr}{c:Nat}{e:TypeId}{cs:List (List Value)}{l r:List α}{m:Nat}(hi:L[i]?=some (.own base A c e (Rp.sz α) cs))(hj:D[j]?=some (.els cs l))(hm:m<=l.length)(hr:(l.drop 0).take (m - 0)=r):Bx w0 w Z G (L.set i (.own base A c e (Rp.sz α) (cs.take m))) (D.set j (.els (cs.take m) r)):=by
 have he:=h.de j hj;have hr':l.take m=r:=by rw [<-hr,List.drop_zero,Nat.sub_zero]
 have h1:Bx w0 w Z G L (.els (cs.take m) r :: D):=h.ko (by rw [<-hr'];exact he.take m);have h2:Bx w0 w Z G L (D.set j (.els (cs.take m) r)):=h1.Bl fun d hd=>by
  obtain hd | hd:=Jw hd
  · exact yO _ hd
  · rw [hd];exact Ca
 refine h2.put i hi ((Ext.refl w).Hf _) ?_ (fun k hk=>.inl hk);have ho:=(h.bo i hi).shr m (by rw [he.len];exact hm);rw [<-he.aej m hm] at ho;have hl:(cs.take m).length=m:=by rw [zM,he.len,Nat.min_eq_left hm]
 show Own w base e (Rp.sz α) A (cs.take m).length c (cs.take m).flatten;rw [hl];exact ho
inductive Lf where
 | i (n:Int)
 | t (s:ByteArray)
 | b (x:Bool)
deriving DecidableEq
def Lf.v:Lf→Value
 | .i n=>.int .i64 n
 | .t s=>.string s
 | .b x=>.bool x
def Lf.k:Lf→Nat
 | .i _=>0
 | .t _=>1
 | .b _=>2
section
variable {P:Program}{w:World}{ρ:Operand->Value}{d:Option Nat}{ty:TypeId}{pos:String}{af:Array Edge}{g:Option (Nat × Bool)}
end
end Go.Fw
