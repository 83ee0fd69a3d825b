/- Tables of the program's types, and the steps that need no choice by them. -/
import Derived.Test.YtdkneekpdecjbaaGreatZ5
import Derived.Test.YtdkneekpdecjbaaGreatZ19
import Derived.Test.YtdkneekpdecjbaaGreatZ4
import Derived.Test.YtdkneekpdecjbaaGreatZ3
import Derived.Laws.StructEq
import Derived.Test.YtdkneekpdecjbaaGreatZ6
set_option linter.unusedVariables false
namespace Go.Proofs.YtdkneekpdecjbaaGreat
open Go.RowKit Go.Fw Go.Proofs.Tryz
def tbO (t:Nat):List Nat:=bif Nat.beq t 26 then [0,1] else bif Nat.beq t 30 then [0,2,3] else bif Nat.beq t 36 then [0] else bif Nat.beq t 52 then [0,1,2,3] else bif Nat.beq t 55 then [0,1,2,3,4,5,6] else bif Nat.beq t 57 then [0,1,2] else bif Nat.beq t 61 then [0,1,2,3] else bif Nat.beq t 64 then [0,1] else bif Nat.beq t 67 then [0,1,2,3,4] else bif Nat.beq t 69 then [0,1,2] else bif Nat.beq t 71 then [0,1,2] else bif Nat.beq t 73 then [0,1,2,3,4,5,6,7,8] else bif Nat.beq t 78 then [0] else bif Nat.beq t 90 then [0,4,5,9,10,11,12,13,14,15,16,17] else bif Nat.beq t 99 then [0,1,2,3] else bif Nat.beq t 103 then [0,4,5,6,7] else bif Nat.beq t 107 then [0,1,2] else bif Nat.beq t 115 then [0,1,2,3,4,5,6,7,8,9,10,11,12] else bif Nat.beq t 123 then [0,4,5,9,10,11,12,13,14,15] else bif Nat.beq t 125 then [0,1,2] else bif Nat.beq t 137 then [0,1,2,3] else bif Nat.beq t 143 then [0,1] else bif Nat.beq t 159 then [0,1] else bif Nat.beq t 163 then [0,1,2,3,4,5,6,7,8] else bif Nat.beq t 166 then [0,1,2,3,4,5] else bif Nat.beq t 170 then [0,1] else bif Nat.beq t 172 then [0,1] else bif Nat.beq t 225 then [0,1] else []
def gtO:List Nat→Nat→Option Nat
 | [],_=>none
 | a :: _,0=>some a
 | _ :: l,n+1=>gtO l n
def fT (t n:Nat):Option Nat:=gtO (tbO t) n
noncomputable def fo (t n:Nat):Option Nat:=match prog.underlying t with
 | some (.struct fs)=>match fs[n]? with
  | some f=>match prog.info? f.type with
   | some i=>bif i.zero.isSome && !Nat.beq i.size 0 then some f.offset else none
   | none=>none
  | none=>none
 | _=>none
def ZB (t:Nat):Bool:=Nat.beq (Nat.mod (Nat.shiftRight 0x8000000000000100200000000302800041c000004c27002419c00238 t) 2) 1
def slB (t:Nat):Bool:=Nat.beq (Nat.mod (Nat.shiftRight 0x10000000001000000000003020000410000004c27000419c00000 t) 2) 1
noncomputable def okT:Bool:=(List.range 247).all fun t=>((List.range 16).all fun n=>(match fT t n with | none=>true | some j=>(match fo t n with | some i=>Nat.beq i j | none=>false))) && (!ZB t || (match prog.underlying t with | some D=>!MK D | none=>false)) && (!slB t || (match prog.underlying t with | some (.slice _)=>true | _=>false))
theorem aft:okT=true:=by kernel_rfl
theorem SC {t:Nat}(ht:Nat.blt t 247=true):(((List.range 16).all fun n=>(match fT t n with | none=>true | some j=>(match fo t n with | some i=>Nat.beq i j | none=>false))) && (!ZB t || (match prog.underlying t with | some D=>!MK D | none=>false)) && (!slB t || (match prog.underlying t with | some (.slice _)=>true | _=>false)))=true:=by have h:=aft;unfold okT at h;exact List.all_eq_true.1 h t (List.mem_range.2 (by simpa using ht))
def RB:Nat:=247
theorem aeC {t n j:Nat}(hj:fT t n=some j)(ht:Nat.blt t RB=true)(hn:Nat.blt n 16=true):∃ fs fd,prog.underlying t=some (.struct fs)/\fs[n]?=some fd/\fd.offset=j/\∃ i z,prog.info? fd.type=some i/\i.zero=some z/\Nat.beq i.size 0=false:=by
 have h1:=SC ht;simp only [Ep] at h1;have h2:=List.all_eq_true.1 h1.1.1 n (List.mem_range.2 (by simpa using hn));rw [hj] at h2;dsimp only at h2;cases hf:fo t n with
 | none=>rw [hf] at h2;cases h2
 | some j'=>
  rw [hf] at h2;have hjj:j'=j:=Nat.eq_of_beq_eq_true h2;subst hjj;unfold fo at hf;cases hu:prog.underlying t with
  | none=>rw [hu] at hf;cases hf
  | some D=>
   rw [hu] at hf;cases D with
   | struct fs=>
    dsimp only at hf;cases hfs:fs[n]? with
    | none=>rw [hfs] at hf;cases hf
    | some fd=>
     rw [hfs] at hf;dsimp only at hf;cases hi:prog.info? fd.type with
     | none=>rw [hi] at hf;cases hf
     | some i=>
      rw [hi] at hf;dsimp only at hf;cases hz:i.zero with
      | none=>rw [hz] at hf;cases hf
      | some z=>
       rw [hz] at hf;cases hs:Nat.beq i.size 0 with
       | true=>rw [hs] at hf;cases hf
       | false=>
        rw [hs] at hf;exact ⟨fs,fd,rfl,hfs,JD hf,i,z,hi,hz,hs⟩
   | _=>cases hf
theorem Z9 {t:Nat}(hs:ZB t=true)(ht:Nat.blt t RB=true):∃ D,prog.underlying t=some D/\MK D=false:=by
 have h1:=SC ht;simp only [Ep] at h1;have h2:=h1.1.2;rw [hs,Bool.not_true,Bool.false_or] at h2;cases hu:prog.underlying t with
 | none=>rw [hu] at h2;cases h2
 | some D=>
  rw [hu] at h2;exact ⟨D,rfl,by simpa using h2⟩
theorem aeh {t:Nat}(hs:slB t=true)(ht:Nat.blt t RB=true):∃ e,prog.underlying t=some (.slice e):=by
 have h1:=SC ht;simp only [Ep] at h1;have h2:=h1.2;rw [hs,Bool.not_true,Bool.false_or] at h2;cases hu:prog.underlying t with
 | none=>rw [hu] at h2;cases h2
 | some D=>
  rw [hu] at h2;cases D with
  | slice e=>exact ⟨e,rfl⟩
  | _=>cases h2
section
variable {ρ:Operand->Value}{w:World}{d:Option Nat}{ty:TypeId}{pos:String}{af:Array Edge}{g:Option (Nat × Bool)}{x:Operand}{b o t n j:Nat}
theorem yF (h:ρ x=.pointer (some ⟨b,o,none⟩))(hj:fT t n=some j)(ht:Nat.blt t RB=true)(hn:Nat.blt n 16=true):Yl prog ρ (.fieldAddr t x n) d ty pos af g w (.pointer (some ⟨b,o+j,none⟩)):=by obtain ⟨fs,fd,hu,hfs,ho,i,z,hi,hz,hs⟩:=aeC hj ht hn;exact qj (k:=j) hu hfs ho ⟨i,hi,hz,rfl,rfl⟩ (fun e=>by rw [e] at hs;cases hs) h
theorem yL {t':TypeId}{cs:Array Value}{v:Value}(h:ρ x=.pointer (some ⟨b,o,none⟩))(hb:uO w b t' cs)(hi:cs[o]?=some v)(hs:ZB t=true)(ht:Nat.blt t RB=true):Yl prog ρ (.load t x) d ty pos af g w v:=by obtain ⟨D,hu,hD⟩:=Z9 hs ht;exact kC hu hD h (hb.cell hi)
theorem yC {a:Addr}{v:Value}(h:ρ x=.pointer (some a))(hc:w.cell? a=some v)(hs:ZB t=true)(ht:Nat.blt t RB=true):Yl prog ρ (.load t x) d ty pos af g w v:=by obtain ⟨D,hu,hD⟩:=Z9 hs ht;exact kC hu hD h hc
theorem yN {A:Option Addr}{m c:Nat}(h:ρ x=.slice A m c)(hs:slB t=true)(ht:Nat.blt t RB=true):Yl prog ρ (.call { callee:=.builtin .len,args:=#[x],argTypes:=#[t] }) d ty pos af g w (V (m:Int)):=by obtain ⟨e,hu⟩:=aeh hs ht;exact mV hu h
end
section
variable {N:Fz}{ops:Array Oper}{K:KK}{rest:List Oper}{f:Fr}{w:World}{d:Option Nat}{ty:TypeId}{pos:String}{af:Array Edge}{x:Operand}{b o t n j:Nat}
theorem gF (h:ev f x=.pointer (some ⟨b,o,none⟩))(hj:fT t n=some j)(k:o8 prog N ops K rest (lH f d (.pointer (some ⟨b,o+j,none⟩))) w)(ht:Nat.blt t RB=true:=by exact rfl)(hn:Nat.blt n 16=true:=by exact rfl):o8 prog N ops K (⟨d,.fieldAddr t x n,ty,pos,af,none⟩ :: rest) f w:=kU (yF h hj ht hn) k
theorem gL {t':TypeId}{cs:Array Value}{v:Value}(h:ev f x=.pointer (some ⟨b,o,none⟩))(hb:uO w b t' cs)(hi:cs[o]?=some v)(hs:ZB t=true)(k:o8 prog N ops K rest (lH f d v) w)(ht:Nat.blt t RB=true:=by exact rfl):o8 prog N ops K (⟨d,.load t x,ty,pos,af,none⟩ :: rest) f w:=kU (yL h hb hi hs ht) k
theorem gC {a:Addr}{v:Value}(h:ev f x=.pointer (some a))(hc:w.cell? a=some v)(hs:ZB t=true)(k:o8 prog N ops K rest (lH f d v) w)(ht:Nat.blt t RB=true:=by exact rfl):o8 prog N ops K (⟨d,.load t x,ty,pos,af,none⟩ :: rest) f w:=kU (yC h hc hs ht) k
theorem gN {A:Option Addr}{m c:Nat}(h:ev f x=.slice A m c)(hs:slB t=true)(k:o8 prog N ops K rest (lH f d (V (m:Int))) w)(ht:Nat.blt t RB=true:=by exact rfl):o8 prog N ops K (⟨d,.call { callee:=.builtin .len,args:=#[x],argTypes:=#[t] },ty,pos,af,none⟩ :: rest) f w:=kU (yN h hs ht) k
end
theorem goC {w0 w:World}{Z G':Nat->Prop}{Lt:List It}{D:List Da}{G R:Prop}(e:Bx w0 w Z G' Lt D)(k:R) (h:Bx w0 w Z G' Lt D->R->G:=by
 intro e k
 repeat (first
  | refine GV ?_
  | refine yj ?_
  | refine Og ?_
  | refine Rl ?_
  | refine pW ?_
  | refine abJ rfl ?_
  | refine aat rfl ?_
  | refine abC rfl ?_
  | refine ab8 rfl ?_
  | refine acj rfl ?_
  | refine aNl rfl ?_
  | refine Zf rfl ?_
  | refine aaE rfl ?_
  | refine abj rfl ?_
  | refine aa8 rfl ?_
  | refine abF rfl ?_
  | refine ab4 rfl rfl ?_
  | refine acH rfl rfl ?_
  | refine abe rfl rfl ?_
  | refine acg rfl rfl ?_
  | refine acK rfl rfl ?_
  | refine acy rfl rfl ?_
  | refine abg rfl rfl ?_
  | refine aaR rfl rfl ?_
  | refine aaw rfl rfl ?_
  | refine abX rfl rfl ?_
  | refine abq rfl rfl ?_
  | refine aOr rfl rfl ?_
  | refine abD rfl rfl ?_
  | refine aaH rfl ?_
  | refine acB rfl rfl ?_
  | refine aaA rfl rfl ?_
  | refine acu rfl ?_
  | refine abT rfl ?_
  | refine ab0 rfl ?_
  | refine jM rfl ?_
  | refine jD rfl ?_
  | refine gF rfl rfl ?_
  | refine gN rfl rfl ?_
  | refine gL rfl (e.bk 0 rfl) rfl rfl ?_
  | refine gL rfl (e.bk 1 rfl) rfl rfl ?_
  | refine gL rfl (e.bk 2 rfl) rfl rfl ?_
  | refine gL rfl (e.bk 3 rfl) rfl rfl ?_
  | refine gL rfl (e.bk 4 rfl) rfl rfl ?_
  | refine gL rfl (e.bk 5 rfl) rfl rfl ?_
  | refine gL rfl (e.bk 6 rfl) rfl rfl ?_
  | refine gL rfl (e.bk 7 rfl) rfl rfl ?_
  | refine gL rfl (e.bk 8 rfl) rfl rfl ?_)
 exact k):G:=h e k
end Go.Proofs.YtdkneekpdecjbaaGreat
namespace Go.Fw
open Go.RowKit
def acX (a b:Int):Int:=IntKind.i64.wrap ((BitVec.ofInt 64 a &&& BitVec.ofInt 64 b).toNat)
def Vj (k:Int):Value:=.int .i64 k
theorem abm {P:Program}{kt:TypeId}{k':IntKind}(h:P.underlying kt=some (.int k')):FK P kt Vj:=by
 refine ⟨fun ev k l ents w he=>?_,fun emp k w=>?_,fun k=>?_⟩
 · have key:∀ (l:List (Int × _))(ents:List MapEntry)(i:Nat),ents.map (fun e=>(e.key,e.val))=l.map (fun p=>(Vj p.1,ev p.2))->Instr.findNow (.int k') (Vj k) ents i=some ((midx l k i).map (fun p=>(p.1,ev p.2))):=by
    intro l
    induction l with
    | nil=>intro ents i he;rw [List.map_nil,List.map_eq_nil_iff] at he;subst he;rfl
    | cons a l ih=>
     intro ents i he
     match ents,he with
     | e :: es,he=>
      simp only [List.map_cons,List.cons.injEq,Prod.mk.injEq] at he;obtain ⟨⟨h1,h2⟩,h3⟩:=he;unfold Instr.findNow;rw [h1];simp only [Vj,Instr.sameNow,if_true];by_cases hk:k=a.1
      · rw [show (k == a.1)=true from beq_iff_eq.2 hk];simp only [midx,lG hk,h2,Option.map_some]
      · rw [show (k == a.1)=false from beq_false_of_ne hk];simp only [midx,lD hk];exact ih es (i+1) h3
   unfold Instr.findKey;rw [Sem.run_bind,run_underlying h w];simp only [Result.andThen_ok,key l ents 0 he];rfl
 · unfold Instr.checkKey;rw [Sem.run_bind,run_underlying h w];simp [Vj]
 · simp [Vj,Instr.sameBits]
section
variable {P:Program}{w:World}{ρ:Operand->Value}{d:Option Nat}{ty:TypeId}{pos:String}{af:Array Edge}{g:Option (Nat × Bool)}
end
section
variable {P:Program}{w:World}{ρ:Operand->Value}{d:Option Nat}{ty:TypeId}{pos:String}{af:Array Edge}{g:Option (Nat × Bool)}
theorem GZ {t e:TypeId}{x y:Operand}{b o n:Nat}{k:IntKind}{i:Int}{z:Value}{s by_:Nat}(j:Nat)(ht:P.underlying t=some (.array n e))(he:TI P e z s by_)(hx:ρ x=.pointer (some ⟨b,o,none⟩))(hy:ρ y=.int k i)(hi:i=(j:Int))(hj:j < n):Yl P ρ (.indexAddr t x y) d ty pos af g w (.pointer (some ⟨b,o+j * s,none⟩)):=by
 subst hi;obtain ⟨i,hi1,hi2,hi3,hi4⟩:=he;have h2:(0:Int)<=j/\(j:Int) < n:=by omega
 simp [Yl,execOp,hx,hy,Instr.indexAt,Instr.sureAddr,run_underlying ht,asIntOf,sizeOf,typeInfo,hi1,hi3,Addr.add_lit,hj]
variable {x y:Operand}{k:IntKind}{a b:Int}{t t':TypeId}
theorem afx (hx:ρ x=.int k a)(hy:ρ y=.int k b):Yl P ρ (.binOp .and t x y t') d ty pos af g w (.int k (k.wrap ((BitVec.ofInt k.bits a &&& BitVec.ofInt k.bits b).toNat))):=by simp [Yl,execOp,hx,hy,binOp,eqGuard,Op.intBits]
theorem ZR {t t':TypeId}{x y:Operand}{a b:Int}(hx:ρ x=.int .i64 a)(hy:ρ y=.int .i64 b):Yl P ρ (.binOp .and t x y t') d ty pos af g w (.int .i64 (acX a b)):=afx hx hy
end
section
variable {P:Program}{w:World}
end
theorem XU {xs vs cur:List Value}{o k:Nat}(hx:cur.take k=xs)(hl:o+vs.length<=k)(hk:k<=cur.length):(cur.take o ++ vs ++ cur.drop (o+vs.length)).take k=xs.take o ++ vs ++ xs.drop (o+vs.length):=by
 subst hx;have h1:(cur.take o).length=o:=by rw [wI];omega
 rw [Fh,List.take_append,h1,List.take_append,List.take_of_length_le (by omega),List.take_of_length_le (l:=vs) (by omega),List.take_take,Nat.min_eq_left (by omega),List.drop_take,Fh]
 congr 3
 omega
theorem Own.afl {P:Program}{w:World}{base:Nat}{e:TypeId}{sz n c:Nat}{A:Option Addr}{xs:List Value}(h:Own w base e sz A n c xs)(o:Nat)(vs:List Value)(h1:∀ v ∈ vs,v.oneCell'=true)(hn:0 < n)(hl:o+vs.length<=xs.length) :∃ w',(storeCells ⟨mU A,nS A+o,none⟩ vs 0).run P w=.ok () w'/\Gc (mU A) w w'/\Own w' base e sz A n c (xs.take o ++ vs ++ xs.drop (o+vs.length)):=by
 have hlen:=h.1;rcases h.2 with ⟨_,h0⟩|⟨g,cap,cur,h3,h4,h5,h6,h7,h8,h9⟩
 · subst h0;omega
 · injection h3 with h3a h3b h3c;subst h3a;have hcs:cur.toList.length=cur.size:=by simp
   have hk:n * sz<=cur.toList.length:=by have:=congrArg List.length h9;rw [wI] at this;rw [hlen] at this;omega
   have hst:=run_storeCells_at (P:=P) g o e vs 0 cur w h5 (by rw [<-hcs,Nat.add_zero];rw [hlen] at hl;omega) h1;rw [Nat.add_zero] at hst;refine ⟨_,by show (storeCells ⟨g,0+o,none⟩ vs 0).run P w=_;rw [DV];exact hst,Gc.setRow w g _,?_,.inr ⟨g,cap,_,by rw [h3c],h4,setRow_heap w g cur _ e (0,0) h5,h6,h7,?_,?_⟩⟩
   · rw [Ij,Ij,wI,Cy];omega
   · rw [<-h8];simp only [List.size_toArray,Ij,wI,Cy];have:o+vs.length<=cur.toList.length:=by rw [hlen] at hl;omega
     simp only [Array.length_toList] at *
     omega
   · exact XU h9 (by rw [hlen] at hl;omega) hk
theorem Py {sz:Nat}:∀ {cs:List (List Value)}{k o:Nat}{d vs:List Value},cs[k]?=some d→(∀ x ∈ cs,x.length=sz)→o+vs.length≤sz→
  cs.flatten.take (k * sz+o) ++ vs ++ cs.flatten.drop (k * sz+o+vs.length)=(cs.set k (d.take o ++ vs ++ d.drop (o+vs.length))).flatten
 | c :: cs,0,o,d,vs,hk,hs,hl=>by simp only [Eu,Dz] at hk;subst hk;have hc:=hs c (Bl ..);rw [List.set_cons_zero,Ay,Ay,Nat.zero_mul,DV,List.take_append_of_le_length (by omega),List.drop_append_of_le_length (by omega)];simp
 | c :: cs,k+1,o,d,vs,hk,hs,hl=>by
  have hc:=hs c (Bl ..);have ih:=Py (k:=k) (o:=o) (vs:=vs) (by simpa using hk) (fun x hx=>hs x (yw _ hx)) hl;rw [List.set_cons_succ,Ay,Ay,<-ih];have e1:(k+1) * sz+o=c.length+(k * sz+o):=by rw [Nat.succ_mul,hc];omega
  have e2:(k+1) * sz+o+vs.length=c.length+(k * sz+o+vs.length):=by rw [e1];omega
  rw [e2,e1,List.take_length_add_append,List.drop_length_add_append];simp
 | [],_,_,_,_,hk,_,_=>by simp at hk
theorem Ri {sz:Nat}:∀ {cs:List (List Value)},(∀ x ∈ cs,x.length=sz)→cs.flatten.length=cs.length * sz
 | [],_=>by simp
 | c :: cs,h=>by rw [Ay,Ij,Ri fun x hx=>h x (yw _ hx),h c (Bl ..),uK,Nat.succ_mul];omega
section
variable {P:Program}{ρ:Operand->Value}{w w0:World}{Z G:Nat->Prop}{L:List It}{D:List Da}{d:Option Nat}{ty:TypeId}{pos:String}{af:Array Edge}{g:Option (Nat × Bool)}
theorem acF (hL:Bx w0 w Z G L D)(i:Nat){base c sz k o:Nat}{A:Option Addr}{t e:TypeId}{x y:Operand}{z:Value}{by_:Nat}{cs:List (List Value)}{u u':List Value}(vs:List Value)(hi:L[i]?=some (.own base A c e sz cs))(hk:cs[k]?=some u)(hs:∀ x ∈ cs,x.length=sz)(ht:TI P t z vs.length by_)(hx:ρ x=.pointer (some ⟨mU A,nS A+k * sz+o,none⟩))(hy:(ρ y).cells=vs.toArray)(hl:o+vs.length<=sz)(hc:u.take o ++ vs ++ u.drop (o+vs.length)=u')(h1:vs.all (fun v=>v.oneCell')=true:=by exact rfl) :Wm P ρ ⟨d,.store t x y,ty,pos,af,g⟩ w fun w'=>Bx w0 w' Z G (L.set i (.own base A c e sz (cs.set k u'))) D:=by
 subst hc;obtain ⟨q,hi1,hi2,hi3,hi4⟩:=ht;have hB:=hL.bo i hi;have hkl:=ko hk;have hfl:=Ri hs;have hm:k * sz+sz<=cs.length * sz:=by rw [<-Nat.succ_mul];exact Nat.mul_le_mul_right _ hkl
 obtain ⟨w',h2,h3,h4⟩:=hB.afl (P:=P) (k * sz+o) vs (fun v hv=>List.all_eq_true.1 h1 v hv) (by omega) (by omega);rw [Py hk hs hl] at h4;rw [<-Nat.add_assoc] at h2;refine ⟨w',?_,?_⟩
 · simp [execOp,hx,Instr.storeAt,Instr.sureAddr,storeVar,sizeOf,typeInfo,hi1,hi3,hy,h2]
 · refine hL.put i hi ⟨h3.os,h3.tape,h3.output,h3.size,fun b hb hn=>h3.block b hb fun e=>hn ?_⟩ (it':=.own base A c e sz _) ?_ (fun b hb=>.inl hb)
   · obtain ⟨g0,hg⟩:=hB.UO (by omega);show rowOf A=some b;subst hg;exact e.symm
   · show Own w' base e sz A (cs.set k _).length c (cs.set k _).flatten;rw [wU];exact h4
theorem Bx.aaC {α:Type}[Rp α]{base:Nat}{e:TypeId}{sz:Nat}{R:List Rw}{m:List (List α)}(h:Bx w0 w Z G L D)(i j:Nat)(hi:L[i]?=some (.tT base e sz R none))(hj:D[j]?=some (.nu R m)) :Bx w0 w Z G (L.set i (.tT base e sz (R ++ [⟨none,0,[]⟩]) none)) (D.set j (.nu (R ++ [⟨none,0,[]⟩]) (m ++ [[]]))):=by
 have hgetn:∀ {i:Nat}{r:Rw},(R ++ [(⟨none,0,[]⟩:Rw)])[i]?=some r->R[i]?=some r\/r=⟨none,0,[]⟩:=by
   intro i r hi;rw [List.getElem?_append] at hi;split at hi
   · exact .inl hi
   · right;rcases Nat.eq_zero_or_pos (i - R.length) with h0 | h0
     · rw [h0] at hi;simpa using hi.symm
     · rw [List.getElem?_eq_none (by simp;omega)] at hi;cases hi
 have hfam:=h.at i hi;have h5:Bx w0 w Z G L (D.set j (.nu (R ++ [⟨none,0,[]⟩]) (m ++ [[]]))):=h.JE j (d:=.nu _ _) ((h.d2 j hj).app ⟨kL,trivial⟩);refine h5.put i hi ((Ext.refl w).Gf _) ⟨fun i r h1 _=>?_,fun i j r s b h1 h2 _ _ h3 h4=>?_⟩ (fun b ⟨i,r,h1,_,h3⟩=>?_)
 · rcases hgetn h1 with h1 | rfl
   · exact hfam.1 i r h1 (by simp)
   · exact Own.nil w base e sz
 · rcases hgetn h1 with h1 | rfl
   · rcases hgetn h2 with h2 | rfl
     · exact hfam.2 i j r s b h1 h2 (by simp) (by simp) h3 h4
     · cases h4
   · cases h3
 · rcases hgetn h1 with h1 | rfl
   · exact .inl ⟨i,r,h1,by simp,h3⟩
   · cases h3
end
section
variable {P:Program}{ρ:Operand->Value}{w w0:World}{Z G:Nat->Prop}{L:List It}{D:List Da}{d:Option Nat}{ty:TypeId}{pos:String}{af:Array Edge}{g:Option (Nat × Bool)}
theorem afo (hL:Bx w0 w Z G L D)(i:Nat){k o b:Nat}{t te:TypeId}{x y:Operand}{z:Value}{by_:Nat}{B:List Nat}{C:List (List Value)}{u u':List Value}(vs:List Value)(hi:L[i]?=some (.Po te B C))(hk:C[k]?=some u)(hb:B[k]?=some b)(ht:TI P t z vs.length by_)(hx:ρ x=.pointer (some ⟨b,o,none⟩))(hy:(ρ y).cells=vs.toArray)(hl:o+vs.length<=u.length)(hc:u.take o ++ vs ++ u.drop (o+vs.length)=u')(h1:vs.all (fun v=>v.oneCell')=true:=by exact rfl) :Wm P ρ ⟨d,.store t x y,ty,pos,af,g⟩ w fun w'=>Bx w0 w' Z G (L.set i (.Po te B (C.set k u'))) D:=by subst hc;obtain ⟨q,hi1,hi2,hi3,hi4⟩:=ht;obtain ⟨hB,hn⟩:=hL.at i hi;obtain ⟨b',hb',hBk⟩:=hB.get hk;rw [hb] at hb';cases hb';have hst:=run_storeCells_at (P:=P) b o te vs 0 u.toArray w hBk (by simpa using hl) (fun v hv=>List.all_eq_true.1 h1 v hv);rw [Nat.add_zero] at hst;have hc:=Gc.setRow w b (u.take o ++ vs ++ u.drop (o+vs.length)).toArray;refine ⟨_,?_,hL.put i hi ⟨hc.os,hc.tape,hc.output,hc.size,fun k hk hn=>hc.block k hk (by intro e;injection e with e;exact hn (by subst e;exact vM hb))⟩ (it':=.Po te B _) ⟨hB.set hn hb (hBk.setRow _) fun x _ hne=>setRow_other w b x _ hne,hn⟩ (fun k hk=>.inl hk)⟩;simp [execOp,hx,Instr.storeAt,Instr.sureAddr,storeVar,sizeOf,typeInfo,hi1,hi3,hy,hst]
end
def Yi (p:Int × Int):Value:=.agg #[.int .i64 p.1,.int .i64 p.2]
theorem aaz {P:Program}{w:World}{t:TypeId}{f0 f1:Field}{a b a' b':Int}(ht:P.underlying t=some (.struct #[f0,f1]))(hf:(ZI P f0 0 && ZI P f1 1)=true)(hp:P.stoodInHeld t=false) :(Op.equalIn 10000 t (.agg #[.int .i64 a,.int .i64 b]) (.agg #[.int .i64 a',.int .i64 b'])).run P w=.ok (decide ([a,b]=[a',b'])) w:=by
 simp only [Ep] at hf;have hfs:P.fieldsOf t=#[f0,f1]:=by unfold Program.fieldsOf;rw [ht]
 rw [run_equalIn_struct (P:=P) w 9999 t _ _ (by rw [hfs,ht]) hp,hfs];rw [show (#[f0,f1]:Array Field).toList=[f0,f1] from rfl];rw [QW (P:=P) (dp:=9998) hf.1 rfl rfl,QW (P:=P) (dp:=9998) hf.2 rfl rfl];by_cases h1:a=a' <;> by_cases h2:b=b' <;> simp [h1,h2,Op.eqFields]
theorem afm {P:Program}{t:TypeId}{f0 f1:Field}(ht:P.underlying t=some (.struct #[f0,f1]))(hf:(ZI P f0 0 && ZI P f1 1)=true)(hp:P.stoodInHeld t=false):FK P t Yi:=by
 refine ⟨fun ev k l ents w he=>?_,fun emp k w=>?_,fun k=>?_⟩
 · have key:∀ (l:List ((Int × Int) × _))(ents:List MapEntry)(i:Nat),ents.map (fun e=>(e.key,e.val))=l.map (fun p=>(Yi p.1,ev p.2))->(Instr.findAsking t (Yi k) ents i).run P w=.ok ((midx l k i).map (fun p=>(p.1,ev p.2))) w:=by
    intro l
    induction l with
    | nil=>intro ents i he;rw [List.map_nil,List.map_eq_nil_iff] at he;subst he;rfl
    | cons a l ih=>
     intro ents i he
     match ents,he with
     | e :: es,he=>
      simp only [List.map_cons,List.cons.injEq,Prod.mk.injEq] at he;obtain ⟨⟨h1,h2⟩,h3⟩:=he;unfold Instr.findAsking;have hq:(Op.equal t (Yi k) e.key).run P w=.ok (decide (k=a.1)) w:=by
        rw [h1];have:=aaz (P:=P) (w:=w) (a:=k.1) (b:=k.2) (a':=a.1.1) (b':=a.1.2) ht hf hp;have e2:decide ([k.1,k.2]=[a.1.1,a.1.2])=decide (k=a.1):=by
         obtain ⟨x,y⟩:=k;obtain ⟨⟨x',y'⟩,v⟩:=a;by_cases h:(x,y)=(x',y')
         · simp only [Prod.mk.injEq] at h;obtain ⟨rfl,rfl⟩:=h;simp
         · rw [Ja h];refine Ja fun h'=>h ?_;simp only [List.cons.injEq,and_true] at h';rw [h'.1,h'.2]
        rw [e2] at this;exact this
      rw [Sem.run_bind,hq];simp only [Result.andThen_ok,h2];by_cases hk:k=a.1
      · simp only [IX hk,if_true,midx,lG hk,Option.map_some];rfl
      · simp only [Ja hk,midx,lD hk];exact ih es (i+1) h3
   unfold Instr.findKey;rw [Sem.run_bind,run_underlying ht w];simp only [Result.andThen_ok];cases ents with
   | nil=>
    cases l with
    | nil=>rfl
    | cons a l=>simp at he
   | cons e es=>
    have hn:Instr.findNow (.struct #[f0,f1]) (Yi k) (e :: es) 0=none:=by unfold Instr.findNow;have:Instr.sameNow (.struct #[f0,f1]) (Yi k) e.key=none:=rfl;rw [this]
    rw [hn];exact key l (e :: es) 0 he
 · simp only [Ep] at hf;have hpart : ∀ (f : Field) (o : Nat) (a : Int), ZI P f o = true -> (#[Value.int .i64 k.1, .int .i64 k.2] : Array Value)[o]? = some (.int .i64 a) -> (part f.type #[Value.int .i64 k.1, .int .i64 k.2] f.offset).run P w = .ok (.int .i64 a) w /\ (Instr.checkKey emp 9999 f.type (.int .i64 a)).run P w = .ok () w /\ ¬ f.name = "_" := by
    intro f o a h hx;simp only [ZI,Ep,bne_iff_ne,ne_eq,beq_iff_eq] at h;obtain ⟨⟨h1,rfl⟩,h3⟩:=h;cases hu:P.underlying f.type with
    | none=>rw [hu] at h3;cases h3
    | some D=>
     rw [hu] at h3;cases D with
     | int q=>
      have hagg:(isAgg f.type).run P w=.ok false w:=by unfold isAgg;rw [Sem.run_bind,run_underlying hu w];simp
      refine ⟨by simp [part,hagg,hx],?_,h1⟩;unfold Instr.checkKey;rw [Sem.run_bind,run_underlying hu w];simp
     | _=>cases h3
   have p0:=hpart f0 0 k.1 hf.1 rfl;have p1:=hpart f1 1 k.2 hf.2 rfl;unfold Instr.checkKey;rw [Sem.run_bind,run_underlying ht w];simp only [Result.andThen_ok,Yi];rw [<-Array.forIn_toList];simp [Sem.run_bind,p0.1,p0.2.1,p1.1,p1.2.1,p0.2.2,p1.2.2]
 · simp [Yi,Instr.sameBits]
section
variable {P:Program}{ρ:Operand->Value}{w w0:World}{Z G:Nat->Prop}{L:List It}{D:List Da}{d:Option Nat}{ty:TypeId}{pos:String}{af:Array Edge}{g:Option (Nat × Bool)}{κ ν:Type}{ek:κ->Value}{ev:ν->Value}
theorem Nl {i b:Option Nat}{l:Option (List (κ × ν))}{l':List (κ × ν)}(h:(It.OJ ek ev b l).p w)(hl:l=some l'):∃ q,b=some q/\Mp ek ev w q l':=by
 subst hl;cases b with
 | none=>exact h.elim
 | some q=>exact ⟨q,rfl,h⟩
theorem ac4 [DecidableEq κ] (hL:Bx w0 w Z G L D) (i:Nat) {t kt et:TypeId} {x y v:Operand} {b:Option Nat} {l:Option (List (κ × ν))} {l':List (κ × ν)} {k:κ} {u:ν} (hi:L[i]?=some (.OJ ek ev b l)) (hl:l=some l') (ht:P.underlying t=some (.map kt et)) (hk:FK P kt ek) (hx:ρ x=.map b) (hy:ρ y=ek k) (hv:ρ v=ev u) :Wm P ρ ⟨d,.mapUpdate t x y v,ty,pos,af,g⟩ w fun w'=>Bx w0 w' Z G (L.set i (.OJ ek ev b (some (yD l' k u)))) D:=by obtain ⟨q,rfl,hm⟩:=Nl (i:=none) (hL.at i hi) hl;obtain ⟨w',h1,h2,h3⟩:=aec (P:=P) (ρ:=ρ) (d:=d) (ty:=ty) (pos:=pos) (af:=af) (g:=g) ht hk hm hx hy hv;exact ⟨w',h1,hL.put i hi ⟨h3.os,h3.tape,h3.output,h3.size,fun k hk hn=>h3.block k hk (by intro e;injection e with e;exact hn (congrArg some e.symm))⟩ h2 (fun k hk=>.inl hk)⟩
end
end Go.Fw
set_option maxRecDepth 4000
namespace Go.Proofs.YtdkneekpdecjbaaGreat
open Go.RowKit Go.Fw Go.Proofs.Tryz
structure BC where
 cs:List Value
instance:Rp BC:=⟨10,152,fun _ _ cs x=>cs=x.cs/\cs.length=10/\cs.all (fun v=>v.oneCell')=true,fun h=>h.2.1,fun h=>h.2.2,fun h _=>h⟩
instance:Rp Pc:=⟨2,16,fun _ _ cs p=>cs=[V p.1,V p.2],fun h=>by rw [h];rfl,fun h=>by rw [h];rfl,fun h _=>h⟩
structure PB where
 b:Nat
instance:Rp PB:=⟨1,8,fun _ _ cs p=>cs=[Pt p.b],fun h=>by rw [h];rfl,fun h=>by rw [h];rfl,fun h _=>h⟩
abbrev ekP:Pc->Value:=Yi
structure afK where
 a1:Option Addr
 c1:Nat
 a2:Option Addr
 c2:Nat
 a3:Option Addr
 c3:Nat
 a4:Option Addr
 c4:Nat
structure Rn where
 B:Nat
 lb:Nat
 ob:Nat
 a:afK
 src:jR
structure zx where
 bA:Option Addr
 bC:Nat
 R:List Rw
 tc:List (List Value)
 cA:Option Addr
 cC:Nat
 oA:Option Addr
 oC:Nat
 oc:List (List Value)
 vb:Option Nat
 pA:Option Addr
 pC:Nat
 pc:List (List Value)
 hA:Option Addr
 hC:Nat
 hp:List Nat
 bs:List Nat
 lh:List (List Value)
abbrev D7 (R:Rn)(m:zx)(s:Lw):List Value:=[.slice R.a.a1 R.src.a.a.length R.a.c1,.slice R.a.a2 R.src.a.b.length R.a.c2,.slice R.a.a3 R.src.c.length R.a.c3,.slice R.a.a4 R.src.b.length R.a.c4,V s.f,V s.b,.slice m.bA s.blocks.length m.bC,.slice m.cA s.ctxs.length m.cC,.slice m.oA s.objs.length m.oC,.map (some R.ob),V s.ops,V s.blk,.bool s.opn,V s.next,.map m.vb,.slice m.pA s.pend.length m.pC,.slice m.hA s.hnd.length m.hC,V s.stmt]
def ou:List mP→List Rw→List (List Value)→List (List Value)
 | b :: bs,r :: R,t :: T=>(V b.a :: (r.hdr ++ t)) :: ou bs R T
 | _,_,_=>[]
def sZ:List (Int × List Pc)→List (List Value)→List (List Value)
 | t :: l,h :: H=>(V t.1 :: h) :: sZ l H
 | _,_=>[]
abbrev Cx (l:List Nat):List (List Value):=l.map fun b=>[Pt b]
def HP (hp bs hnd:List Nat):Prop:=hp.length=hnd.length/\∀ (k i:Nat),hnd[k]?=some i->∃ b:Nat,hp[k]?=some b/\bs[i]?=some b
abbrev Low (R:Rn)(m:zx)(s:Lw):List It:=
 [.box R.lb 90 (D7 R m s).toArray,.own R.B m.bA m.bC 69 10 (ou s.blocks m.R m.tc),.tT R.B 73 11 m.R none,.own R.B m.oA m.oC 57 3 m.oc,.map Vj VN R.ob s.omap,.OJ ekP VN m.vb s.vals,.own R.B m.pA m.pC 3 1 m.pc,.own R.B m.hA m.hC 111 1 (Cx m.hp),.Po 170 m.bs (sZ s.labs m.lh)]
abbrev kQ (R:Rn)(m:zx)(s:Lw):List Da:=
 [.nu m.R (s.blocks.map (·.c)),.els m.tc (s.blocks.map (·.b)),.els m.oc s.objs,.els m.pc s.pend,.els m.lh (s.labs.map (·.2)),.wp (.l m.cA m.cC s.ctxs) (HP m.hp m.bs s.hnd),.l R.a.a1 R.a.c1 R.src.a.a,.l R.a.a2 R.a.c2 R.src.a.b,.l R.a.a3 R.a.c3 R.src.c,.l R.a.a4 R.a.c4 R.src.b]
def Pb {α:Type}:Lo α→List PanicEntry→Prop
 | .ok _ _,_=>False
 | .lim,ch=>Pch (.iface 83 (.agg #[])) ch
 | .rt,ch=>∃ u,Pch (.iface prog.rt.boundsError u) ch
theorem Pb.then {α β:Type}{q:Lo α}{k:α->LM β}{p:Lo β}{ch:List PanicEntry}(h:Pb q ch)(e:q.then k=some p):Pb p ch:=by
 cases q with
 | ok a s=>exact h.elim
 | lim=>cases e;exact h
 | rt=>cases e;exact h
abbrev Zg (A G:Nat->Prop):Nat->Prop:=fun b=>A b\/G b
def LR {α:Type}(R:Rn)(m:zx)(w0:World)(Z G:Nat->Prop)(p:Lo α)(Vv:zx->α->Value->List Da->Prop):Ending->World->Prop:=RP (fun v w'=>∃ a s' m' ds,p=.ok a s'/\Vv m' a v ds/\(∃ t,m'.bs=m.bs ++ t)/\Bx w0 w' Z G (Low R m' s') (ds ++ kQ R m' s')) (fun ch w'=>Pb p ch/\Bx w0 w' Z G [] [])
def Cw {α:Type}(R:Rn)(H:zx->Prop)(g:FuncId)(args:Array Value)(mm:LM α)(Vv:zx->α->Value->List Da->Prop)(Yc:List Da):Prop:=∀ (w:World)(A:Nat->Prop)(m:zx)(s:Lw)(p:Lo α),Pre w A (Low R m s) (Yc ++ kQ R m s)->H m->R.B<=w.heap.size->mm s=some p-> Calls prog g args w (LR R m w (Zg A (mW (Low R m s))) (mW (Low R m s)) p Vv)
theorem qh {α:Type}{R:Rn}{H:zx->Prop}{g:FuncId}{args:Array Value}{mm:LM α}{Vv:zx->α->Value->List Da->Prop}{Yc:List Da}(h:∀ (w:World) (Z G:Nat->Prop) (m:zx) (s:Lw) (p:Lo α),Bx w w Z G (Low R m s ++ []) (kQ R m s ++ Yc)->(∀ b,G b->Z b)->H m->R.B<=w.heap.size->mm s=some p->Calls prog g args w (LR R m w Z G p Vv)):Cw R H g args mm Vv Yc:=by
 intro w A m s p hP hH hB hm;refine h _ _ _ _ _ _ ((hP.bx.wid fun b hb=>.inl hb).AR fun d hd=>?_) (fun b hb=>.inr hb) hH hB hm;rcases pX.1 hd with hd | hd
 · exact List.mem_append_right _ hd
 · exact List.mem_append_left _ hd
def VU:zx->Unit->Value->List Da->Prop:=fun _ _ v ds=>v=.tuple #[]/\ds=[]
def VI:zx->Int->Value->List Da->Prop:=fun _ a v ds=>v=V a/\ds=[]
def VL:zx->Nat->Value->List Da->Prop:=fun m a v ds=>(∃ b,m.bs[a]?=some b/\v=Pt b)/\ds=[]
def VE:zx->ug->Value->List Da->Prop:=fun _ a v ds=>∃ A c,v=.agg #[V a.b,.slice A a.a.length c]/\ds=[.l A c a.a]
theorem lbi {α β:Type}{mm:LM α}{k:α->LM β}{s:Lw}{p:Lo β}(h:(mm.bind k) s=some p):∃ q,mm s=some q/\q.then k=some p:=bs h
theorem DK {α:Type}{mm:LM α}:LM.bind mm oD=mm:=funext fun s=>by
 unfold LM.bind;cases mm s with
 | none=>rfl
 | some q=>cases q <;> rfl
theorem YI {α β γ:Type}{mm:LM α}{k:α->LM β}{j:β->LM γ}:(mm.bind k).bind j=mm.bind fun a=>(k a).bind j:=funext fun s=>by
 unfold LM.bind;cases mm s with
 | none=>rfl
 | some q=>cases q <;> rfl
theorem uj {B B':List Nat}{i b:Nat}(h:∃ t,B'=B ++ t)(k:B[i]?=some b):B'[i]?=some b:=by obtain ⟨t,rfl⟩:=h;rw [AL (ko k)];exact k
theorem lM {B B' B2:List Nat}(h:∃ t,B'=B ++ t)(k:∃ t,B2=B' ++ t):∃ t,B2=B ++ t:=by obtain ⟨t,rfl⟩:=h;obtain ⟨u,rfl⟩:=k;exact ⟨t ++ u,by simp⟩
theorem Pq {B:List Nat}:∃ t,B=B ++ t:=⟨[],by simp⟩
section
variable {α β:Type}{R:Rn}{H:zx->Prop}{g:FuncId}{args:Array Value}{mm:LM α}{Vv:zx->α->Value->List Da->Prop}{Yc:List Da}
variable {w0 w w1:World}{Z G:Nat->Prop}{X:List It}{Y:List Da}{m:zx}{s:Lw}{q:Lo β}{k:α->LM β}
theorem XH (hc:Cw R H g args mm Vv Yc)(b:Bx w0 w Z G (Low R m s ++ X) (kQ R m s ++ Y))(hZ:∀ b,G b->Z b)(hB:R.B<=w0.heap.size)(hH:H m)(hm:(mm.bind k) s=some q)(hY:∀ d ∈ Yc,d ∈ Y) :Calls prog g args w (RP (fun v w'=>∃ a s' m' ds,mm s=some (.ok a s')/\k a s'=some q/\Vv m' a v ds/\(∃ t,m'.bs=m.bs ++ t)/\Bx w0 w' Z G (Low R m' s' ++ X) (kQ R m' s' ++ (ds ++ Y))) (fun ch w'=>Pb q ch/\Bx w0 w' Z G [] [])):=by
 obtain ⟨p,hp,hq⟩:=lbi hm;have hpre:Pre w (HY w0 Z (Low R m s ++ X)) (Low R m s) (Yc ++ kQ R m s):=b.pre fun d hd=>by
  refine b.da d ?_;rcases pX.1 hd with hd | hd
  · exact List.mem_append_right _ (hY d hd)
  · exact List.mem_append_left _ hd
 refine (hc _ _ _ _ _ hpre hH (rE hB b.tQ.size) hp).mono fun e w' he=>?_;cases e with
 | returned v=>
  obtain ⟨a,s',m',ds,rfl,hv,hbs,hk⟩:=he;refine ⟨a,s',m',ds,hp,hq,hv,hbs,(b.MV hZ hk).AR fun d hd=>?_⟩;rcases pX.1 hd with hd | hd
  · exact List.mem_append_left _ (List.mem_append_right _ hd)
  · rcases pX.1 hd with hd | hd
    · exact List.mem_append_left _ (List.mem_append_left _ hd)
    · exact List.mem_append_right _ (List.mem_append_right _ hd)
 | panicked ch=>exact ⟨he.1.then hq,((b.MV hZ he.2).sub (List.nil_sublist _)).AR fun d hd=>by cases hd⟩
 | outgrown=>exact he.elim
variable {N:Fz}{ops:Array Oper}{K:KK}{rest:List Oper}{f:Fr}{d:Option Nat}{op:Op}{ty:TypeId}{pos:String}{af:Array Edge}
theorem lC (hc:Cw R H g args mm Vv Yc)(he:(execOp (ev f) ⟨d,op,ty,pos,af,none⟩).run prog w=.ok (.enter g args) w)(b:Bx w0 w Z G (Low R m s ++ X) (kQ R m s ++ Y))(hZ:∀ b,G b->Z b)(hB:R.B<=w0.heap.size)(hH:H m)(hm:(mm.bind k) s=some q)(kk:∀ a s' m' v ds w',Vv m' a v ds->k a s'=some q->(∃ t,m'.bs=m.bs ++ t)->Bx w0 w' Z G (Low R m' s' ++ X) (kQ R m' s' ++ (ds ++ Y))->o8 prog N ops K rest (lH f d v) w')(hY:∀ d ∈ Yc,d ∈ Y)(kp:∀ ch w',Pb q ch->Bx w0 w' Z G [] []->K.p f ch w':=by exact fun _ _ h1 h2=>⟨h1,h2⟩):o8 prog N ops K (⟨d,op,ty,pos,af,none⟩ :: rest) f w:=
 sCP he (XH hc b hZ hB hH hm hY) (fun ch w' h=>kp ch w' h.1 h.2) fun v w' ⟨a,s',m',ds,_,h1,h2,h3,h4⟩=>kk a s' m' v ds w' h2 h1 h3 h4
end
theorem yn {Y:List Da}:∀ d ∈ ([]:List Da),d ∈ Y:=fun _ h=>by cases h
section
variable {β:Type}{R:Rn}{H:zx->Prop}{g:FuncId}{args:Array Value}{Yc:List Da}
variable {w0 w w1:World}{Z G:Nat->Prop}{X:List It}{Y:List Da}{m:zx}{s:Lw}{q:Lo β}
variable {N:Fz}{ops:Array Oper}{K:KK}{rest:List Oper}{f:Fr}{d:Option Nat}{op:Op}{ty:TypeId}{pos:String}{af:Array Edge}
theorem vv {mm:LM Unit}{k:Unit->LM β}(hc:Cw R H g args mm VU Yc)(he:(execOp (ev f) ⟨d,op,ty,pos,af,none⟩).run prog w=.ok (.enter g args) w)(b:Bx w0 w Z G (Low R m s ++ X) (kQ R m s ++ Y))(hZ:∀ b,G b->Z b)(hB:R.B<=w0.heap.size)(hH:H m)(hm:(mm.bind k) s=some q)(kk:∀ s' m' w',k () s'=some q->(∃ t,m'.bs=m.bs ++ t)->Bx w0 w' Z G (Low R m' s' ++ X) (kQ R m' s' ++ Y)->o8 prog N ops K rest (lH f d (.tuple #[])) w')(hY:∀ d ∈ Yc,d ∈ Y:=by exact yn)(kp:∀ ch w',Pb q ch->Bx w0 w' Z G [] []->K.p f ch w':=by exact fun _ _ h1 h2=>⟨h1,h2⟩):o8 prog N ops K (⟨d,op,ty,pos,af,none⟩ :: rest) f w:=
 lC hc he b hZ hB hH hm (fun a s' m' v ds w' h1 h2 h3 h4=>by obtain ⟨rfl,rfl⟩:=h1;exact kk s' m' w' h2 h3 h4) hY kp
theorem afH {mm:LM Unit}{k:Unit->LM β}(hc:Cw R H g args mm VU Yc)(he:(execOp (ev f) ⟨d,op,ty,pos,af,none⟩).run prog w=.ok (.enter g args) w)(b:Bx w0 w Z G (Low R m s ++ X) (kQ R m s ++ Y))(hZ:∀ b,G b->Z b)(hB:R.B<=w0.heap.size)(hH:H m)(hm:(mm.bind k) s=some q)(kk:∀ s' m' w',mm s=some (.ok () s')->k () s'=some q->(∃ t,m'.bs=m.bs ++ t)->Bx w0 w' Z G (Low R m' s' ++ X) (kQ R m' s' ++ Y)->o8 prog N ops K rest (lH f d (.tuple #[])) w')(hY:∀ d ∈ Yc,d ∈ Y:=by exact yn)(kp:∀ ch w',Pb q ch->Bx w0 w' Z G [] []->K.p f ch w':=by exact fun _ _ h1 h2=>⟨h1,h2⟩):o8 prog N ops K (⟨d,op,ty,pos,af,none⟩ :: rest) f w:=
 sCP he (XH hc b hZ hB hH hm hY) (fun ch w' h=>kp ch w' h.1 h.2) fun v w' ⟨a,s',m',ds,h0,h1,h2,h3,h4⟩=>by obtain ⟨rfl,rfl⟩:=h2;exact kk s' m' w' h0 h1 h3 h4
theorem QN {mm:LM Int}{k:Int->LM β}(hc:Cw R H g args mm VI Yc)(he:(execOp (ev f) ⟨d,op,ty,pos,af,none⟩).run prog w=.ok (.enter g args) w)(b:Bx w0 w Z G (Low R m s ++ X) (kQ R m s ++ Y))(hZ:∀ b,G b->Z b)(hB:R.B<=w0.heap.size)(hH:H m)(hm:(mm.bind k) s=some q)(kk:∀ n s' m' w',k n s'=some q->(∃ t,m'.bs=m.bs ++ t)->Bx w0 w' Z G (Low R m' s' ++ X) (kQ R m' s' ++ Y)->o8 prog N ops K rest (lH f d (V n)) w')(hY:∀ d ∈ Yc,d ∈ Y:=by exact yn)(kp:∀ ch w',Pb q ch->Bx w0 w' Z G [] []->K.p f ch w':=by exact fun _ _ h1 h2=>⟨h1,h2⟩):o8 prog N ops K (⟨d,op,ty,pos,af,none⟩ :: rest) f w:=
 lC hc he b hZ hB hH hm (fun a s' m' v ds w' h1 h2 h3 h4=>by obtain ⟨rfl,rfl⟩:=h1;exact kk a s' m' w' h2 h3 h4) hY kp
theorem lCl {mm:LM Nat}{k:Nat->LM β}(hc:Cw R H g args mm VL Yc)(he:(execOp (ev f) ⟨d,op,ty,pos,af,none⟩).run prog w=.ok (.enter g args) w)(b:Bx w0 w Z G (Low R m s ++ X) (kQ R m s ++ Y))(hZ:∀ b,G b->Z b)(hB:R.B<=w0.heap.size)(hH:H m)(hm:(mm.bind k) s=some q)(kk:∀ n c s' m' w',m'.bs[n]?=some c->k n s'=some q->(∃ t,m'.bs=m.bs ++ t)->Bx w0 w' Z G (Low R m' s' ++ X) (kQ R m' s' ++ Y)->o8 prog N ops K rest (lH f d (Pt c)) w')(hY:∀ d ∈ Yc,d ∈ Y:=by exact yn)(kp:∀ ch w',Pb q ch->Bx w0 w' Z G [] []->K.p f ch w':=by exact fun _ _ h1 h2=>⟨h1,h2⟩):o8 prog N ops K (⟨d,op,ty,pos,af,none⟩ :: rest) f w:=
 lC hc he b hZ hB hH hm (fun a s' m' v ds w' h1 h2 h3 h4=>by obtain ⟨⟨c,h5,rfl⟩,rfl⟩:=h1;exact kk a c s' m' w' h5 h2 h3 h4) hY kp
theorem Vp {mm:LM ug}{k:ug->LM β}(hc:Cw R H g args mm VE Yc)(he:(execOp (ev f) ⟨d,op,ty,pos,af,none⟩).run prog w=.ok (.enter g args) w)(b:Bx w0 w Z G (Low R m s ++ X) (kQ R m s ++ Y))(hZ:∀ b,G b->Z b)(hB:R.B<=w0.heap.size)(hH:H m)(hm:(mm.bind k) s=some q)(kk:∀ e A c s' m' w',k e s'=some q->(∃ t,m'.bs=m.bs ++ t)->Bx w0 w' Z G (Low R m' s' ++ X) (kQ R m' s' ++ (.l A c e.a :: Y))->o8 prog N ops K rest (lH f d (.agg #[V e.b,.slice A e.a.length c])) w')(hY:∀ d ∈ Yc,d ∈ Y:=by exact yn)(kp:∀ ch w',Pb q ch->Bx w0 w' Z G [] []->K.p f ch w':=by exact fun _ _ h1 h2=>⟨h1,h2⟩):o8 prog N ops K (⟨d,op,ty,pos,af,none⟩ :: rest) f w:=
 lC hc he b hZ hB hH hm (fun a s' m' v ds w' h1 h2 h3 h4=>by obtain ⟨A,c,rfl,rfl⟩:=h1;exact kk a A c s' m' w' h2 h3 h4) hY kp
end
def Ux:List Oper→Nat→Option Oper
 | a :: _,0=>some a
 | _ :: l,n+1=>Ux l n
 | [],_=>none
theorem QC:∀ (l:List Oper)(i:Nat),Ux l i=l[i]?
 | _ :: _,0=>rfl
 | _ :: l,i+1=>by rw [Ux,QC l i];simp
 | [],_=>by simp [Ux]
def pk (o:Oper):Bool:=match o.op with
 | .move _=>true
 | .nilCheck _=>true
 | .fieldAddr _ _ _=>true
 | .load _ _=>true
 | .assign _=>true
 | .binOp .add _ _ _ _=>true
 | .binOp .sub _ _ _ _=>true
 | .call c=>match c.callee with
  | .builtin .len=>true
  | _=>false
 | _=>false
def rdy (L:Array Bool)(i:Nat)(o:Oper):Bool:=!(L.getD i false) && o.after.toList.all fun e=>L.getD e.on false
def DS (P:Program)(N:Fz)(ops:Array Oper)(S1 S:World->Prop)(T:List Nat)(K:KK)(n:Nat)(L:Array Bool)(i:Nat)(oi:Oper)(f:Fr)(w:World):Prop:=ops[i]?=some oi->may ops T L i=true->oL P N ops S1 S T K n L f w
section
variable {N:Fz}{ops:Array Oper}{S1:World->Prop}{T:List Nat}{K:KK}{n:Nat}{Lb:Array Bool}{f:Fr}{w w0:World}{Z G:Nat->Prop}{L:List It}{D:List Da}
theorem F4 {Q:Post}{i:Nat}(b:Bx w0 w Z G L D)(T:List Nat)(k:Bx w0 w.drew Z G L D->oL prog N ops (fun _=>True) (fun u=>Bx w0 u Z G L D) T ⟨Q.n,Q.p⟩ ops.size (Array.replicate ops.size false) f w.drew)(hm:prog.follows .mixedOrders=true:=by kernel_rfl):WP prog N (.region i ops true) Q f w:=
 Pn _ _ T hm (k b.drew)
theorem wZ (i:Nat){S:World->Prop}{oi:Oper}(hi:Ux ops.toList i=some oi)(k:DS prog N ops S1 S T K n Lb i oi f w)(hc:may ops T Lb i=true:=by kernel_rfl):oL prog N ops S1 S T K n Lb f w:=k (by rw [QC] at hi;simpa using hi) hc
theorem BN (i:Nat){S:World->Prop}{oi:Oper}(hi:Ux ops.toList i=some oi)(k:DS prog N ops S1 S T K n Lb i oi f w)(hq:(pk oi && rdy Lb i oi)=true:=by exact rfl)(hc:may ops T Lb i=true:=by kernel_rfl):oL prog N ops S1 S T K n Lb f w:=wZ i hi k hc
variable {S:World->Prop}{i:Nat}{d:Option Nat}{ty:TypeId}{pos:String}{af:Array Edge}{x y:Operand}{v:Value}
theorem dP {op:Op}(hy:∀ {w:World},Yl prog (ev f) op d ty pos af none w v)(hS:Cm S1 T S Lb w)(k:oL prog N ops S1 S T K n (Lb.setIfInBounds i true) (lH f d v) w):DS prog N ops S1 S T K (n+1) Lb i ⟨d,op,ty,pos,af,none⟩ f w:=
 fun hi hc=>WS i hi hc rfl (fun _=>hy) hS k
theorem dU {op:Op}(hy:∀ {u:World},S u->Yl prog (ev f) op d ty pos af none u v)(hS:Cm S1 T S Lb w)(k:oL prog N ops S1 S T K n (Lb.setIfInBounds i true) (lH f d v) w)(hT:(T.all fun t=>SH ops 20 t i)=true:=by kernel_rfl):DS prog N ops S1 S T K (n+1) Lb i ⟨d,op,ty,pos,af,none⟩ f w:=
 fun hi hc=>Tz 20 i hi hc hT rfl (fun _=>hy) hS k
theorem acT {p:Option Addr}(h:ev f x=.pointer p)(hS:Cm S1 T S Lb w)(k:oL prog N ops S1 S T K n (Lb.setIfInBounds i true) (lH f d (.pointer p)) w):DS prog N ops S1 S T K (n+1) Lb i ⟨d,.move x,ty,pos,af,none⟩ f w:=dP (YK h) hS k
theorem ad9 {p:Int}(h:ev f x=V p)(hS:Cm S1 T S Lb w)(k:oL prog N ops S1 S T K n (Lb.setIfInBounds i true) (lH f d (V p)) w):DS prog N ops S1 S T K (n+1) Lb i ⟨d,.move x,ty,pos,af,none⟩ f w:=dP (Zz h) hS k
theorem acW {p:Bool}(h:ev f x=.bool p)(hS:Cm S1 T S Lb w)(k:oL prog N ops S1 S T K n (Lb.setIfInBounds i true) (lH f d (.bool p)) w):DS prog N ops S1 S T K (n+1) Lb i ⟨d,.move x,ty,pos,af,none⟩ f w:=dP (lJ h) hS k
theorem ac5 {p:Option Addr}{a c:Nat}(h:ev f x=.slice p a c)(hS:Cm S1 T S Lb w)(k:oL prog N ops S1 S T K n (Lb.setIfInBounds i true) (lH f d (.slice p a c)) w):DS prog N ops S1 S T K (n+1) Lb i ⟨d,.move x,ty,pos,af,none⟩ f w:=dP (oF h) hS k
theorem ada {p:Option Addr}(h:ev f x=.pointer p)(hS:Cm S1 T S Lb w)(k:oL prog N ops S1 S T K n (Lb.setIfInBounds i true) (lH f d (.pointer p)) w):DS prog N ops S1 S T K (n+1) Lb i ⟨d,.assign x,ty,pos,af,none⟩ f w:=dP (U4 h) hS k
theorem adQ {p:Int}(h:ev f x=V p)(hS:Cm S1 T S Lb w)(k:oL prog N ops S1 S T K n (Lb.setIfInBounds i true) (lH f d (V p)) w):DS prog N ops S1 S T K (n+1) Lb i ⟨d,.assign x,ty,pos,af,none⟩ f w:=dP (Xx h) hS k
theorem dNl {p:Addr}(h:ev f x=.pointer (some p))(hS:Cm S1 T S Lb w)(k:oL prog N ops S1 S T K n (Lb.setIfInBounds i true) (lH f d (.pointer (some p))) w):DS prog N ops S1 S T K (n+1) Lb i ⟨d,.nilCheck x,ty,pos,af,none⟩ f w:=dP (Zh h) hS k
theorem adP {t t':TypeId}{p q:Int}(h:ev f x=V p)(h2:ev f y=V q)(hS:Cm S1 T S Lb w)(k:oL prog N ops S1 S T K n (Lb.setIfInBounds i true) (lH f d (V (wr (p+q)))) w):DS prog N ops S1 S T K (n+1) Lb i ⟨d,.binOp .add t x y t',ty,pos,af,none⟩ f w:=dP (kP h h2) hS k
theorem aeA {t t':TypeId}{p q:Int}(h:ev f x=V p)(h2:ev f y=V q)(hS:Cm S1 T S Lb w)(k:oL prog N ops S1 S T K n (Lb.setIfInBounds i true) (lH f d (V (wr (p - q)))) w):DS prog N ops S1 S T K (n+1) Lb i ⟨d,.binOp .sub t x y t',ty,pos,af,none⟩ f w:=dP (zy h h2) hS k
theorem dF {t j m b o:Nat}(h:ev f x=.pointer (some ⟨b,o,none⟩))(hj:fT t m=some j)(hS:Cm S1 T S Lb w)(k:oL prog N ops S1 S T K n (Lb.setIfInBounds i true) (lH f d (.pointer (some ⟨b,o+j,none⟩))) w)(ht:Nat.blt t RB=true:=by exact rfl)(hn:Nat.blt m 16=true:=by exact rfl):DS prog N ops S1 S T K (n+1) Lb i ⟨d,.fieldAddr t x m,ty,pos,af,none⟩ f w:=dP (yF h hj ht hn) hS k
theorem dN {t m c:Nat}{A:Option Addr}(h:ev f x=.slice A m c)(hs:slB t=true)(hS:Cm S1 T S Lb w)(k:oL prog N ops S1 S T K n (Lb.setIfInBounds i true) (lH f d (V (m:Int))) w)(ht:Nat.blt t RB=true:=by exact rfl):DS prog N ops S1 S T K (n+1) Lb i ⟨d,.call { callee:=.builtin .len,args:=#[x],argTypes:=#[t] },ty,pos,af,none⟩ f w:=dP (yN h hs ht) hS k
theorem dLk (j:Nat){t t' b o:Nat}{cs:Array Value}(h:ev f x=.pointer (some ⟨b,o,none⟩))(hj:L[j]?=some (.box b t' cs))(hi:cs[o]?=some v)(hs:ZB t=true)(hS:Cm S1 T (fun u=>Bx w0 u Z G L D) Lb w)(k:oL prog N ops S1 (fun u=>Bx w0 u Z G L D) T K n (Lb.setIfInBounds i true) (lH f d v) w)(ht:Nat.blt t RB=true:=by exact rfl)(hT:(T.all fun t=>SH ops 20 t i)=true:=by kernel_rfl):DS prog N ops S1 (fun u=>Bx w0 u Z G L D) T K (n+1) Lb i ⟨d,.load t x,ty,pos,af,none⟩ f w:=
 dU (fun hu=>yL h (hu.bk j hj) hi hs ht) hS k hT
end
theorem BD {w0 w:World}{Z G':Nat->Prop}{Lt:List It}{D:List Da}{G R:Prop}(e:Bx w0 w Z G' Lt D)(k:R) (h:Bx w0 w Z G' Lt D->R->G:=by
 intro e k
 repeat
  first
  | refine BN 0 rfl ?_
  | refine BN 1 rfl ?_
  | refine BN 2 rfl ?_
  | refine BN 3 rfl ?_
  | refine BN 4 rfl ?_
  | refine BN 5 rfl ?_
  | refine BN 6 rfl ?_
  | refine BN 7 rfl ?_
  | refine BN 8 rfl ?_
  | refine BN 9 rfl ?_
  | refine BN 10 rfl ?_
  | refine BN 11 rfl ?_
  | refine BN 12 rfl ?_
  | refine BN 13 rfl ?_
  | refine BN 14 rfl ?_
  | refine BN 15 rfl ?_
  | refine BN 16 rfl ?_
  | refine BN 17 rfl ?_
  | refine BN 18 rfl ?_
  | refine BN 19 rfl ?_
  | refine BN 20 rfl ?_
  | refine BN 21 rfl ?_
  | refine BN 22 rfl ?_
  | refine BN 23 rfl ?_
  first
  | refine acT rfl (jK kL e) ?_
  | refine ad9 rfl (jK kL e) ?_
  | refine dNl rfl (jK kL e) ?_
  | refine dF rfl rfl (jK kL e) ?_
  | refine dLk 0 rfl rfl rfl rfl (jK kL e) ?_
  | refine dLk 9 rfl rfl rfl rfl (jK kL e) ?_
  | refine dLk 10 rfl rfl rfl rfl (jK kL e) ?_
  | refine dLk 11 rfl rfl rfl rfl (jK kL e) ?_
  | refine dN rfl rfl (jK kL e) ?_
  | refine acW rfl (jK kL e) ?_
  | refine ac5 rfl (jK kL e) ?_
  | refine adP rfl rfl (jK kL e) ?_
  | refine aeA rfl rfl (jK kL e) ?_
  | refine ada rfl (jK kL e) ?_
  | refine adQ rfl (jK kL e) ?_
 exact k):G:=h e k
theorem jY {w0 w:World}{Z G':Nat->Prop}{Lt:List It}{D:List Da}{G R:Prop}(e:Bx w0 w Z G' Lt D)(k:R) (h:Bx w0 w Z G' Lt D->R->G:=by
 intro e k
 repeat (first
  | refine GV ?_
  | refine yj ?_
  | refine Og ?_
  | refine Rl ?_
  | refine pW ?_
  | refine abJ rfl ?_
  | refine aat rfl ?_
  | refine abC rfl ?_
  | refine ab8 rfl ?_
  | refine acj rfl ?_
  | refine aNl rfl ?_
  | refine Zf rfl ?_
  | refine aaE rfl ?_
  | refine abj rfl ?_
  | refine aa8 rfl ?_
  | refine abF rfl ?_
  | refine ab4 rfl rfl ?_
  | refine acH rfl rfl ?_
  | refine abe rfl rfl ?_
  | refine acg rfl rfl ?_
  | refine acK rfl rfl ?_
  | refine acy rfl rfl ?_
  | refine abg rfl rfl ?_
  | refine aaR rfl rfl ?_
  | refine aaw rfl rfl ?_
  | refine abX rfl rfl ?_
  | refine abq rfl rfl ?_
  | refine aOr rfl rfl ?_
  | refine abD rfl rfl ?_
  | refine aaH rfl ?_
  | refine acB rfl rfl ?_
  | refine aaA rfl rfl ?_
  | refine acu rfl ?_
  | refine abT rfl ?_
  | refine ab0 rfl ?_
  | refine jM rfl ?_
  | refine jD rfl ?_
  | refine gF rfl rfl ?_
  | refine gN rfl rfl ?_
  | refine gL rfl (e.bk 0 rfl) rfl rfl ?_
  | refine gL rfl (e.bk 9 rfl) rfl rfl ?_
  | refine gL rfl (e.bk 10 rfl) rfl rfl ?_
  | refine gL rfl (e.bk 11 rfl) rfl rfl ?_
  | refine gL rfl (e.bk 11 rfl) rfl rfl ?_)
 exact k):G:=h e k
set_option maxHeartbeats 12800000
section
variable {N:Fz}{ops:Array Oper}{K:KK}{rest:List Oper}{f:Fr}{w:World}{d:Option Nat}{ty:TypeId}{pos:String}{af:Array Edge}{x y z:Operand}
theorem Xy {t:TypeId}{a:Option Addr}{n c:Nat}{i:Int}{t2:TypeId}(ht:prog.underlying t=some (.slice t2))(h1:ev f y=.slice a n c)(h2:ev f z=V i)(hi:¬ (0<=i/\i < n))(h:∀ u w',w'=w\/w'=w.drew->K.p f [⟨.iface prog.rt.boundsError u,false,false⟩] w'):o8 prog N ops K (⟨d,.indexAddr t y z,ty,pos,af,none⟩ :: rest) f w:=by obtain ⟨w',v,hr,hw⟩:=TD (P:=prog) (w:=w) (d:=d) (ty:=ty) (pos:=pos) (af:=af) (g:=none) ht h1 h2 hi;exact Z4 hr (h v w' hw)
theorem wS {S1 S:World->Prop}{T':List Nat}{n':Nat}{L:Array Bool}{i:Nat}{t t2:TypeId}{a:Option Addr}{n c:Nat}{iv:Int}(hi:ops[i]?=some ⟨d,.indexAddr t y z,ty,pos,af,none⟩)(ht:prog.underlying t=some (.slice t2))(h1:ev f y=.slice a n c)(h2:ev f z=V iv)(hb:¬ (0<=iv/\iv < n))(h:∀ u w',w'=w\/w'=w.drew->∀ f,K.p f [⟨.iface prog.rt.boundsError u,false,false⟩] w'):Cj prog N ops S1 S T' K n' L f w i:=by obtain ⟨w',v,hr,hw⟩:=TD (P:=prog) (w:=w) (d:=d) (ty:=ty) (pos:=pos) (af:=af) (g:=none) ht h1 h2 hb;exact abI hi rfl hr (h v w' hw)
end
theorem ti4:TI prog 4 (.bool false) 1 1:=oq (by kernel_rfl)
theorem rJ:TI prog 64 (.agg #[V 0,sn]) 2 32:=oq (by kernel_rfl)
theorem WJ:TI prog 67 (.agg #[V 0,V 0,V 0,sn,V 0,sn,V 0,sn]) 8 112:=oq (by kernel_rfl)
theorem AJ:TI prog 172 (.agg #[V 0,V 0]) 2 16:=oq (by kernel_rfl)
theorem adp:TI prog 168 sn 1 24:=oq (by kernel_rfl)
theorem adI:TI prog 88 sn 1 24:=oq (by kernel_rfl)
theorem Tq:TI prog 111 (.pointer none) 1 8:=oq (by kernel_rfl)
theorem afJ:TI prog 87 (.map none) 1 8:=oq (by kernel_rfl)
theorem GZ {ρ:Operand->Value}{w:World}{d:Option Nat}{ty:TypeId}{pos:String}{af:Array Edge}{g:Option (Nat × Bool)}{t e:TypeId}{x y:Operand}{A:Option Addr}{n c:Nat}{i:Int}{z:Value}{s by_:Nat}(j:Nat)(h5:A=some ⟨mU A,nS A,none⟩)(ht:prog.underlying t=some (.slice e))(he:TI prog e z s by_)(hx:ρ x=.slice A n c)(hy:ρ y=V i)(hi:i=(j:Int))(hj:j < n):Yl prog ρ (.indexAddr t x y) d ty pos af g w (.pointer (some ⟨mU A,nS A+j * s,none⟩)):=by rw [h5] at hx;exact xIdx j ht he hx hy hi hj
theorem JQ {w:World}{base:Nat}{e:TypeId}{sz n c:Nat}{A:Option Addr}{xs:List Value}(h:Go.Fw.Own w base e sz A n c xs)(hn:0 < n):A=some ⟨mU A,nS A,none⟩:=by obtain ⟨g,rfl⟩:=h.UO hn;rfl
theorem Wn {α:Type}{l:List α}{i:Int}{x:α}(h:ix? l i=some x):∃ k:Nat,i=(k:Int)/\l[k]?=some x:=by
 unfold ix? at h;split at h
 · cases h
 · exact ⟨i.toNat,by omega,h⟩
theorem qU {α:Type}{l:List α}{i:Int}(h:ix? l i=none):¬ (0<=i/\i < l.length):=by
 unfold ix? at h;split at h
 · omega
 · have:=List.getElem?_eq_none_iff.1 h;omega
section
variable {α:Type}{w w0:World}{Z G:Nat->Prop}{L:List It}{D:List Da}
theorem bno (b:Bx w0 w Z G L D):Bx w0 w Z G [] []:=b.ad [] []
theorem prt (b:Bx w0 w Z G L D)(u:Value)(w':World)(h:w'=w\/w'=w.drew):Pb (Lo.rt:Lo α) [⟨.iface prog.rt.boundsError u,false,false⟩]/\Bx w0 w' Z G [] []:=by
 refine ⟨⟨u,aeu _⟩,?_⟩;rcases h with rfl | rfl
 · exact bno b
 · exact bno b.drew
theorem YQ (b:Bx w0 w Z G L D):Pb (Lo.lim:Lo α) [⟨.iface 83 (.agg #[]),false,false⟩]/\Bx w0 w Z G [] []:=⟨aeu _,bno b⟩
end
theorem YE {N:Fz}{ops:Array Oper}{K:KK}{rest:List Oper}{f:Fr}{w:World}{a b:Nat}{d:Option Nat}{ty ty2 ty3:TypeId}{pos pos2 pos3:String}{af af2 af3:Array Edge}(hab:(lH (lH f (some a) (.agg #[])) (some b) (.iface 83 (.agg #[]))) b=.iface 83 (.agg #[]))(kp:∀ f,K.p f [⟨.iface 83 (.agg #[]),false,false⟩] w):o8 prog N ops K (⟨some a,.build 83 #[],ty,pos,af,none⟩ :: ⟨some b,.makeInterface 83 (.tmp a),ty2,pos2,af2,none⟩ :: ⟨d,.panic (.tmp b),ty3,pos3,af3,none⟩ :: rest) f w:=by
 have e:(Instr.build 83 #[]).run prog w=.ok (.agg #[]) w:=by kernel_rfl
 have h1:(execOp (ev f) ⟨some a,.build 83 #[],ty,pos,af,none⟩).run prog w=.ok (.value (.agg #[])) w:=by simp [execOp,e]
 refine kU h1 ?_;refine kU (ae9 (v:=.agg #[]) ⟨.struct #[],by kernel_rfl,rfl⟩ ?_) ?_
 · show lH f (some a) (.agg #[]) a=_;simp [lH,upd]
 exact aaF hab (kp _)
theorem F9:∀ {bl:List mP}{R:List Rw}{T:List (List Value)},R.length=bl.length→T.length=bl.length→(ou bl R T).length=bl.length
 | [],_,_,_,_=>by simp [ou]
 | b :: bl,r :: R,t :: T,h1,h2=>by rw [ou,uK,F9 (by simpa using h1) (by simpa using h2),uK]
 | _ :: _,[],_,h,_=>by simp at h
 | _ :: _,_ :: _,[],_,h=>by simp at h
theorem LZ:∀ {bl:List mP}{R:List Rw}{T:List (List Value)}{k:Nat}{b:mP},R.length=bl.length→T.length=bl.length→bl[k]?=some b→∃ r t,R[k]?=some r∧T[k]?=some t∧(ou bl R T)[k]?=some (V b.a :: (r.hdr ++ t))
 | b :: bl,r :: R,t :: T,0,_,_,_,h=>by simp only [Eu,Dz] at h;subst h;exact ⟨r,t,rfl,rfl,rfl⟩
 | b :: bl,r :: R,t :: T,k+1,_,h1,h2,h=>LZ (bl:=bl) (R:=R) (T:=T) (k:=k) (by simpa using h1) (by simpa using h2) (by simpa using h)
 | [],_,_,_,_,_,_,h=>by simp at h
 | _ :: _,[],_,_,_,h,_,_=>by simp at h
 | _ :: _,_ :: _,[],_,_,_,h,_=>by simp at h
theorem LG:∀ {bl:List mP}{R:List Rw}{T:List (List Value)}{k:Nat}{b:mP}{r:Rw}{t:List Value},R.length=bl.length→T.length=bl.length→(ou bl R T).set k (V b.a :: (r.hdr ++ t))=ou (bl.set k b) (R.set k r) (T.set k t)
 | b :: bl,r :: R,t :: T,0,_,_,_,_,_=>rfl
 | b :: bl,r :: R,t :: T,k+1,_,_,_,h1,h2=>by simp only [ou,List.set_cons_succ];rw [LG (by simpa using h1) (by simpa using h2)]
 | [],_,_,_,_,_,_,_,_=>by simp [ou]
 | _ :: _,[],_,_,_,_,_,h,_=>by simp at h
 | _ :: _,_ :: _,[],_,_,_,_,_,h=>by simp at h
theorem Lg:∀ {bl:List mP}{R:List Rw}{T:List (List Value)}{b:mP}{r:Rw}{t:List Value},R.length=bl.length→T.length=bl.length→ou bl R T ++ [V b.a :: (r.hdr ++ t)]=ou (bl ++ [b]) (R ++ [r]) (T ++ [t])
 | b :: bl,r :: R,t :: T,_,_,_,h1,h2=>by simp only [ou,List.cons_append];rw [Lg (by simpa using h1) (by simpa using h2)]
 | [],[],[],_,_,_,_,_=>rfl
 | [],_ :: _,_,_,_,_,h,_=>by simp at h
 | [],[],_ :: _,_,_,_,_,h=>by simp at h
 | _ :: _,[],_,_,_,_,h,_=>by simp at h
 | _ :: _,_ :: _,[],_,_,_,_,h=>by simp at h
theorem Gx {F:Nat→Prop}{w:World}:∀ {bl:List mP}{R:List Rw}{T:List (List Value)}{q:List x9},xg F w T q→∀ x ∈ ou bl R T,x.length=10∧x.all (fun v=>v.oneCell')=true
 | b :: bl,r :: R,t :: T,q :: Q,h,x,hx=>by
  rcases oM.1 hx with rfl | hx
  · have h1:=Rp.len h.1;have h2:=Rp.one h.1;have h3:t.length=8:=h1;refine ⟨by simp [Rw.hdr,h3],?_⟩;simp only [List.all_cons,List.all_append,Rw.hdr,List.all_nil,h2];rfl
  · exact Gx h.2 x hx
 | _ :: _,_ :: _,_ :: _,[],h,_,_=>h.elim
 | [],_,_,_,_,_,hx=>by simp [ou] at hx
 | _ :: _,[],_,_,_,_,hx=>by simp [ou] at hx
 | _ :: _,_ :: _,[],_,_,_,hx=>by simp [ou] at hx
theorem R8 {F:Nat→Prop}{w:World}:∀ {C:List (List Value)},(∀ x ∈ C,x.length=10∧x.all (fun v=>v.oneCell')=true)→xg F w C (C.map BC.mk)
 | [],_=>trivial
 | c :: C,h=>⟨⟨rfl,h c (Bl ..)⟩,R8 fun x hx=>h x (yw _ hx)⟩
theorem Wt {F:Nat→Prop}{w:World}:∀ {C l:List (List Value)},xg F w C (l.map BC.mk)→C=l
 | [],[],_=>rfl
 | c :: C,x :: l,h=>by rw [h.1.1,Wt h.2]
 | [],_ :: _,h=>h.elim
 | _ :: _,[],h=>h.elim
theorem Sm {w0 w:World}{Z G:Nat->Prop}{L:List It}{D:List Da}{R:Rn}{m:zx}{s:Lw}{k:Nat}{bk:mP}(b:Bx w0 w Z G L D)(i j j2:Nat)(hi:L[i]?=some (.own R.B m.bA m.bC 69 10 (ou s.blocks m.R m.tc)))(hj:D[j]?=some (.nu m.R (s.blocks.map (·.c))))(hj2:D[j2]?=some (.els m.tc (s.blocks.map (·.b))))(hk:s.blocks[k]?=some bk) :m.R.length=s.blocks.length/\m.tc.length=s.blocks.length/\(∀ x ∈ ou s.blocks m.R m.tc,x.length=10/\x.all (fun v=>v.oneCell')=true)/\m.bA=some ⟨mU m.bA,nS m.bA,none⟩/\k < s.blocks.length/\∃ r t,m.R[k]?=some r/\m.tc[k]?=some t/\(ou s.blocks m.R m.tc)[k]?=some (V bk.a :: (r.hdr ++ t))/\r.cs.length=bk.c.length/\Cells w (mU m.bA) (nS m.bA+k * 10) (V bk.a :: (r.hdr ++ t)):=by
 have h1:m.R.length=s.blocks.length:=by rw [(b.d2 j hj).len,Dy]
 have h2:m.tc.length=s.blocks.length:=by rw [(b.de j2 hj2).len,Dy]
 have h3:=fun x hx=>Gx (R:=m.R) (bl:=s.blocks) (b.de j2 hj2) x hx;have hl:=F9 h1 h2;have hkl:=ko hk;obtain ⟨r,t,hr,ht,hc⟩:=LZ h1 h2 hk;have ho:=b.bo i hi;obtain ⟨r',hr',hE⟩:=(b.d2 j hj).get (k:=k) (x:=bk.c) (by rw [BF,hk];rfl);rw [hr] at hr';cases hr';refine ⟨h1,h2,h3,JQ ho (by omega),hkl,r,t,hr,ht,hc,hE.len,?_⟩;have b2:=b.jX (d:=.els (ou s.blocks m.R m.tc) ((ou s.blocks m.R m.tc).map BC.mk)) (R8 h3);have hi':L[i]?=some (.own R.B m.bA m.bC 69 (Rp.sz BC) (ou s.blocks m.R m.tc)):=hi;exact b2.oc i 0 hi' rfl hc
theorem Oy {R:Rn}{m:zx}{s:Lw}{k:Nat}(b1:mP)(r:Rw)(t:List Value)(h1:m.R.length=s.blocks.length)(h2:m.tc.length=s.blocks.length):Low R { m with R:=m.R.set k r,tc:=m.tc.set k t } { s with blocks:=s.blocks.set k b1 } =
  [.box R.lb 90 (D7 R m s).toArray,.own R.B m.bA m.bC 69 10 ((ou s.blocks m.R m.tc).set k (V b1.a :: (r.hdr ++ t))),.tT R.B 73 11 (m.R.set k r) none,.own R.B m.oA m.oC 57 3 m.oc,.map Vj VN R.ob s.omap,.OJ ekP VN m.vb s.vals,.own R.B m.pA m.pC 3 1 m.pc,.own R.B m.hA m.hC 111 1 (Cx m.hp),.Po 170 m.bs (sZ s.labs m.lh)]:=by
 simp only [Low,D7,wU,LG h1 h2]
theorem KV {R:Rn}{m:zx}{s:Lw}{k:Nat}(b1:mP)(r:Rw)(t:List Value):kQ R { m with R:=m.R.set k r,tc:=m.tc.set k t } { s with blocks:=s.blocks.set k b1 } =
  [.nu (m.R.set k r) ((s.blocks.map (·.c)).set k b1.c),.els (m.tc.set k t) ((s.blocks.map (·.b)).set k b1.b),.els m.oc s.objs,.els m.pc s.pend,.els m.lh (s.labs.map (·.2)),.wp (.l m.cA m.cC s.ctxs) (HP m.hp m.bs s.hnd),.l R.a.a1 R.a.c1 R.src.a.a,.l R.a.a2 R.a.c2 R.src.a.b,.l R.a.a3 R.a.c3 R.src.c,.l R.a.a4 R.a.c4 R.src.b]:=by
 simp only [kQ,List.map_set]
theorem Ca:∀ {l:List (Int × List Pc)}{H:List (List Value)},H.length=l.length→(sZ l H).length=l.length
 | [],_,_=>by simp [sZ]
 | t :: l,h :: H,e=>by rw [sZ,uK,Ca (by simpa using e),uK]
 | _ :: _,[],e=>by simp at e
theorem KU:∀ {l:List (Int × List Pc)}{H:List (List Value)}{k:Nat}{t:Int × List Pc},H.length=l.length→l[k]?=some t→∃ h,H[k]?=some h∧(sZ l H)[k]?=some (V t.1 :: h)
 | t :: l,h :: H,0,_,_,e=>by simp only [Eu,Dz] at e;subst e;exact ⟨h,rfl,rfl⟩
 | t :: l,h :: H,k+1,_,h1,e=>KU (l:=l) (H:=H) (k:=k) (by simpa using h1) (by simpa using e)
 | [],_,_,_,_,e=>by simp at e
 | _ :: _,[],_,_,h,_=>by simp at h
theorem Ll:∀ {l:List (Int × List Pc)}{H:List (List Value)}{k:Nat}{n:Int}{t:Int × List Pc}{h:List Value},l[k]?=some t→H[k]?=some h→(sZ l H).set k (V n :: h)=sZ (l.set k (n,t.2)) H
 | t :: l,h :: H,0,n,_,_,e1,e2=>by simp only [Eu,Dz] at e1 e2;subst e1 e2;rfl
 | t :: l,h :: H,k+1,n,_,_,e1,e2=>by simp only [sZ,List.set_cons_succ];rw [Ll (by simpa using e1) (by simpa using e2)]
 | [],_,_,_,_,_,e,_=>by simp at e
 | _ :: _,[],_,_,_,_,_,e=>by simp at e
theorem KW:∀ {l:List (Int × List Pc)}{H:List (List Value)}{t:Int × List Pc}{h:List Value},H.length=l.length→sZ l H ++ [V t.1 :: h]=sZ (l ++ [t]) (H ++ [h])
 | t :: l,h :: H,_,_,e=>by simp only [sZ,List.cons_append];rw [KW (by simpa using e)]
 | [],[],_,_,_=>rfl
 | [],_ :: _,_,_,e=>by simp at e
 | _ :: _,[],_,_,e=>by simp at e
end Go.Proofs.YtdkneekpdecjbaaGreat
