/- Maps: lists of pairs stand for them. Over any program. -/
import Derived.Test.YtdkneekpdecjbaaGreatZ2
import Derived.Lib.ConvBytes
set_option linter.unusedVariables false
namespace Go.Fw
open Go.RowKit
section
variable {κ ν:Type}[DecidableEq κ]
def rY:List (κ × ν)→κ→Option ν
 | [],_=>none
 | (a,b) :: l,k=>if k=a then some b else rY l k
def yD:List (κ × ν)→κ→ν→List (κ × ν)
 | [],k,v=>[(k,v)]
 | (a,b) :: l,k,v=>if k=a then (k,v) :: l else (a,b) :: yD l k v
def midx:List (κ × ν)→κ→Nat→Option (Nat × ν)
 | [],_,_=>none
 | (a,b) :: l,k,i=>if k=a then some (i,b) else midx l k (i+1)
theorem QI:∀ (l:List (κ × ν))(k:κ)(i:Nat),(midx l k i).map (·.2)=rY l k
 | [],_,_=>rfl
 | (a,b) :: l,k,i=>by
  unfold midx rY;split
  · rfl
  · exact QI l k (i+1)
theorem NG:∀ (l:List (κ × ν))(k:κ)(v:ν)(i:Nat),midx l k i=none→yD l k v=l ++ [(k,v)]
 | [],_,_,_,_=>rfl
 | (a,b) :: l,k,v,i,h=>by
  unfold midx at h;unfold yD;split at h
  · cases h
  · rename_i hne;rw [lD hne,NG l k v (i+1) h];rfl
theorem NH:∀ (l:List (κ × ν))(k:κ)(v:ν)(i j:Nat)(u:ν),midx l k i=some (j,u)→∃ pre post,l=pre ++ (k,u) :: post∧i+pre.length=j∧yD l k v=pre ++ (k,v) :: post
 | (a,b) :: l,k,v,i,j,u,h=>by
  unfold midx at h;unfold yD;split at h
  · rename_i he;simp only [Dz,Prod.mk.injEq] at h;obtain ⟨rfl,rfl⟩:=h;subst he;exact ⟨[],l,rfl,rfl,by rw [lG rfl];rfl⟩
  · rename_i hne;obtain ⟨pre,post,h1,h2,h3⟩:=NH l k v (i+1) j u h;exact ⟨(a,b) :: pre,post,by rw [h1];rfl,by rw [uK];omega,by rw [lD hne,h3];rfl⟩
theorem Fg (l:List (κ × ν))(k k':κ)(v:ν):rY (yD l k v) k'=if k'=k then some v else rY l k':=by
 induction l with
 | nil=>simp [yD,rY]
 | cons a l ih=>
  obtain ⟨a,b⟩:=a;unfold yD;split
  · rename_i h;subst h;by_cases h:k'=k <;> simp [rY,h]
  · rename_i h;by_cases h1:k'=a
    · subst h1;simp [rY,Ne.symm h]
    · simp only [rY,lD h1,ih]
end
section
variable {P:Program}{w:World}{ρ:Operand->Value}{d:Option Nat}{ty:TypeId}{pos:String}{af:Array Edge}{g:Option (Nat × Bool)}
def ZI (P : Program) (f : Field) (o : Nat) : Bool := f.name != "_" && f.offset == o && (match P.underlying f.type with | some (.int _) => true | _ => false)
theorem QW {f:Field}{fs:List Field}{o dp:Nat}{xs ys:Array Value}{a b:Int}(h:ZI P f o=true)(hx:xs[o]?=some (.int .i64 a))(hy:ys[o]?=some (.int .i64 b)) :(Op.eqFields (dp+1) xs ys (f :: fs)).run P w=if a=b then (Op.eqFields (dp+1) xs ys fs).run P w else .ok false w:=by
 simp only [ZI,Ep,bne_iff_ne,ne_eq,beq_iff_eq] at h;obtain ⟨⟨h1,rfl⟩,h3⟩:=h;cases hu:P.underlying f.type with
 | none=>rw [hu] at h3;cases h3
 | some D=>
  rw [hu] at h3;cases D with
  | int k=>
   have hagg:(isAgg f.type).run P w=.ok false w:=by unfold isAgg;rw [Sem.run_bind,run_underlying hu w];simp
   have hp1:(part f.type xs f.offset).run P w=.ok (.int .i64 a) w:=by simp [part,hagg,hx]
   have hp2:(part f.type ys f.offset).run P w=.ok (.int .i64 b) w:=by simp [part,hagg,hy]
   have he:=run_equalIn_int (P:=P) w dp f.type .i64 k a b hu
   conv=>lhs;unfold Op.eqFields
   rw [lG h1];simp only [Sem.run_bind,hp1,hp2,Result.andThen_ok,he];by_cases hab:a=b
   · subst hab;simp
   · have:(a == b)=false:=beq_false_of_ne hab;simp [this,hab]
  | _=>cases h3
end
def Mp {κ ν:Type}(ek:κ->Value)(ev:ν->Value)(w:World)(b:Nat)(l:List (κ × ν)):Prop:=∃ ents clock,w.heap[b]?=some (.map ents clock)/\ents.toList.map (fun e=>(e.key,e.val))=l.map (fun p=>(ek p.1,ev p.2))
structure FK {κ:Type}[DecidableEq κ](P:Program)(kt:TypeId)(ek:κ->Value):Prop where
 find:∀ {ν:Type}(ev:ν->Value)(k:κ)(l:List (κ × ν))(ents:List MapEntry)(w:World),ents.map (fun e=>(e.key,e.val))=l.map (fun p=>(ek p.1,ev p.2))->(Instr.findKey kt (ek k) ents).run P w=.ok ((midx l k 0).map (fun p=>(p.1,ev p.2))) w
 chk:∀ (emp:Bool)(k:κ)(w:World),(Instr.checkKey emp 10000 kt (ek k)).run P w=.ok () w
 bits:∀ (k:κ),Instr.sameBits 10000 (ek k) (ek k)=true
abbrev VN (v:Int):Value:=.int .i64 v
theorem G5 {P:Program}{w:World}{b:Nat}{es:Array MapEntry}{k:Nat}(h:w.heap[b]?=some (.map es k)):(getObj b).run P w=.ok (.map es k) w:=by simp [getObj,Sem.run,h]
section
variable {P:Program}{w:World}{ρ:Operand->Value}{d:Option Nat}{ty:TypeId}{pos:String}{af:Array Edge}{g:Option (Nat × Bool)}
variable {κ ν:Type}[DecidableEq κ]{ek:κ->Value}{ev:ν->Value}
theorem VK {t kt et:TypeId}{b:Nat}{l:List (κ × ν)}{k:κ}{z:ν}{ok:Bool}(ht:P.underlying t=some (.map kt et))(hk:FK P kt ek)(hz:(zeroValue et).run P w=.ok (ev z) w)(hm:Mp ek ev w b l) :(Instr.lookup t (.map (some b)) (ek k) ok).run P w=.ok (if ok then .tuple #[ev ((rY l k).getD z),.bool (rY l k).isSome] else ev ((rY l k).getD z)) w:=by
 obtain ⟨ents,clock,h1,h2⟩:=hm;have ro:(getObj b).run P w=.ok (.map ents clock) w:=G5 h1;have hf:=hk.find ev k l ents.toList w h2;have hg:=QI l k 0;unfold Instr.lookup;simp only [Sem.run_bind,run_underlying ht,Result.andThen_ok,ro,Sem.run_pure,hk.chk,hf];cases hq:midx l k 0 with
 | none=>
  rw [hq] at hg;rw [<-hg];simp [hz]
 | some q=>
  rw [hq] at hg;rw [<-hg];simp
theorem Ww {t kt et:TypeId}{x y:Operand}{b:Nat}{l:List (κ × ν)}{k:κ}{z:ν}(ht:P.underlying t=some (.map kt et))(hk:FK P kt ek)(hz:(zeroValue et).run P w=.ok (ev z) w)(hm:Mp ek ev w b l)(hx:ρ x=.map (some b))(hy:ρ y=ek k) :Yl P ρ (.lookup t x y false) d ty pos af g w (ev ((rY l k).getD z)):=by have:=VK (ok:=false) (k:=k) ht hk hz hm;simp [Yl,execOp,hx,hy,this]
theorem aec {t kt et:TypeId}{x y v:Operand}{b:Nat}{l:List (κ × ν)}{k:κ}{u:ν}(ht:P.underlying t=some (.map kt et))(hk:FK P kt ek)(hm:Mp ek ev w b l)(hx:ρ x=.map (some b))(hy:ρ y=ek k)(hv:ρ v=ev u) :∃ w',St P ρ (.mapUpdate t x y v) d ty pos af g w w'/\Mp ek ev w' b (yD l k u)/\Gc b w w':=by
 obtain ⟨ents,clock,h1,h2⟩:=hm;have ro:(getObj b).run P w=.ok (.map ents clock) w:=G5 h1;have hf:=hk.find ev k l ents.toList w h2;have hb:b < w.heap.size:=(Array.getElem?_eq_some_iff.1 h1).1;have so:∀ o:Obj,(setObj b o).run P w=.ok () { w with heap:=w.heap.setIfInBounds b o }:=fun o=>by simp [setObj,Sem.run,h1]
 have tQ:∀ o:Obj,Gc b w { w with heap:=w.heap.setIfInBounds b o }:=fun o=>
  ⟨rfl,rfl,rfl,by simp,fun i hi hne=>by simp only;rw [Array.getElem?_setIfInBounds_ne (by simpa using hne.symm)]⟩
 have at':∀ o:Obj,({ w with heap:=w.heap.setIfInBounds b o }:World).heap[b]?=some o:=fun o=>by simp [hb]
 cases hq:midx l k 0 with
 | none=>
  rw [hq] at hf;refine ⟨_,?_,⟨ents.push { key:=ek k,val:=ev u,born:=clock },clock+1,at' _,?_⟩,tQ _⟩
  · simp only [St,execOp,Instr.mapUpdate,hx,hy,hv,Sem.run_bind,run_underlying ht,Result.andThen_ok,ro,hk.chk,hf,Option.map_none,so];rfl
  · rw [NG l k u 0 hq];simp [h2]
 | some q=>
  obtain ⟨j,u0⟩:=q;rw [hq] at hf;obtain ⟨pre,post,e1,e2,e3⟩:=NH l k u 0 j u0 hq;have hj:j=pre.length:=by omega
  subst hj;have hlen:ents.toList.length=l.length:=by have:=congrArg List.length h2;simpa using this
  have hent:∃ e,ents[pre.length]?=some e/\e.key=ek k:=by
    have h3:(ents.toList.map (fun e=>(e.key,e.val)))[pre.length]?=some (ek k,ev u0):=by rw [h2,e1];simp
    rw [BF] at h3;cases he:ents.toList[pre.length]? with
    | none=>rw [he] at h3;cases h3
    | some e=>
      rw [he] at h3;simp only [Option.map_some,Dz,Prod.mk.injEq] at h3;exact ⟨e,by simpa using he,h3.1⟩
  obtain ⟨e,he1,he2⟩:=hent;refine ⟨_,?_,⟨ents.modify pre.length fun e=>{ e with key:=ek k,val:=ev u },clock,at' _,?_⟩,tQ _⟩
  · have hst:(Instr.keyThatStays (((ents[pre.length]?).map (·.key)).getD (ek k)) (ek k)).run P w=.ok (ek k) w:=by rw [he1];simp [Instr.keyThatStays,he2,hk.bits]
    simp only [St,execOp,Instr.mapUpdate,hx,hy,hv,Sem.run_bind,run_underlying ht,Result.andThen_ok,ro,hk.chk,hf,Option.map_some,hst,so];rfl
  · rw [Array.toList_modify,e3];refine List.ext_getElem? fun i=>?_;rw [BF,BF,List.getElem?_modify];have h3:∀ i:Nat,(ents.toList[i]?).map (fun e:MapEntry=>(e.key,e.val))=(l[i]?).map (fun p:κ × ν=>(ek p.1,ev p.2)):=fun i=>by rw [<-BF,<-BF,h2]
    have h4:=h3 i;rw [e1] at h4;rcases Nat.lt_trichotomy i pre.length with hi | hi | hi
    · rw [AL hi] at h4 ⊢;have hne:¬ pre.length=i:=by omega
      simpa [hne] using h4
    · subst hi;have he1':ents.toList[pre.length]?=some e:=by simpa using he1
      simp [he1']
    · obtain ⟨m,rfl⟩:∃ m,i=pre.length+1+m:=⟨i - pre.length - 1,by omega⟩;have a1:(pre ++ (k,u0) :: post)[pre.length+1+m]?=post[m]?:=by rw [Du (by omega),show pre.length+1+m - pre.length=m+1 by omega];rfl
      have a2:(pre ++ (k,u) :: post)[pre.length+1+m]?=post[m]?:=by rw [Du (by omega),show pre.length+1+m - pre.length=m+1 by omega];rfl
      rw [a1] at h4;rw [a2,<-h4];have hne:¬ pre.length=pre.length+1+m:=by omega
      simp [hne]
end
theorem Mp.same {κ ν:Type}{ek:κ->Value}{ev:ν->Value}{w w':World}{b:Nat}{l:List (κ × ν)}(h:Mp ek ev w b l)(e:w'.heap[b]?=w.heap[b]?):Mp ek ev w' b l:=by obtain ⟨ents,clock,h1,h2⟩:=h;exact ⟨ents,clock,by rw [e];exact h1,h2⟩
theorem Mp.lt {κ ν:Type}{ek:κ->Value}{ev:ν->Value}{w:World}{b:Nat}{l:List (κ × ν)}(h:Mp ek ev w b l):b < w.heap.size:=by obtain ⟨ents,clock,h1,h2⟩:=h;exact (Array.getElem?_eq_some_iff.1 h1).1
def It.map {κ ν:Type}(ek:κ->Value)(ev:ν->Value)(b:Nat)(l:List (κ × ν)):It where
 F k:=k=b
 p w:=Mp ek ev w b l
 bd w h k hk:=by subst hk;exact h.lt
 st w w' h k _:=h.same (k b rfl)
section
variable {P:Program}{w0 w w':World}{Z G:Nat->Prop}{L:List It}{D:List Da}{ρ:Operand->Value}{d:Option Nat}{ty:TypeId}{pos:String}{af:Array Edge}{g:Option (Nat × Bool)}
theorem ZY {t:TypeId}{z:Value}{s b:Nat}(h:TI P t z s b):(zeroValue t).run P w=.ok z w:=by obtain ⟨i,h1,h2,_,_⟩:=h;simp [zeroValue,typeInfo,h1,h2]
theorem Bx.mp (h:Bx w0 w Z G L D)(i:Nat){κ ν:Type}{ek:κ->Value}{ev:ν->Value}{b:Nat}{l:List (κ × ν)}(hi:L[i]?=some (.map ek ev b l)):Mp ek ev w b l:=h.at i hi
theorem aaj (hL:Bx w0 w Z G L D){κ ν:Type}(ek:κ->Value)(ev:ν->Value){t kt et:TypeId}(ht:P.underlying t=some (.map kt et)) :To P ρ ⟨d,.makeMap t none,ty,pos,af,g⟩ w fun v w'=>∃ b,v=.map (some b)/\Bx w0 w' Z G (.map ek ev b ([]:List (κ × ν)) :: L) D:=
 ⟨_,_,by simp [execOp,Instr.makeMap],_,rfl,hL.push ((Ext.refl w).alloc _) ⟨#[],0,heap_alloc_new w _,rfl⟩ (fun k hk=>by have hk:k=w.heap.size:=hk;omega)⟩
theorem aed (hL:Bx w0 w Z G L D)(i:Nat){κ ν:Type}[DecidableEq κ]{ek:κ->Value}{ev:ν->Value}{t kt et:TypeId}{x y v:Operand}{b:Nat}{l:List (κ × ν)}{k:κ}{u:ν}(hi:L[i]?=some (.map ek ev b l))(ht:P.underlying t=some (.map kt et))(hk:FK P kt ek)(hx:ρ x=.map (some b))(hy:ρ y=ek k)(hv:ρ v=ev u) :Wm P ρ ⟨d,.mapUpdate t x y v,ty,pos,af,g⟩ w fun w'=>Bx w0 w' Z G (L.set i (.map ek ev b (yD l k u))) D:=by obtain ⟨w',h1,h2,h3⟩:=aec (P:=P) (ρ:=ρ) (d:=d) (ty:=ty) (pos:=pos) (af:=af) (g:=g) ht hk (hL.mp i hi) hx hy hv;exact ⟨w',h1,hL.put i hi ⟨h3.os,h3.tape,h3.output,h3.size,fun k hk hn=>h3.block k hk (by intro e;injection e with e;exact hn e)⟩ h2 (fun k hk=>.inl hk)⟩
end
structure Iz where
 n:Int
deriving DecidableEq
instance:Rp Iz:=⟨1,1,fun _ _ cs x=>cs=[.int .u8 x.n],fun h=>by rw [h];rfl,fun h=>by rw [h];rfl,fun h _=>h⟩
def bst (l:List Iz):ByteArray:=strOf (l.map Iz.n)
section
variable {P:Program}{w0 w:World}{Z G:Nat->Prop}{L:List It}{D:List Da}{ρ:Operand->Value}{d:Option Nat}{ty:TypeId}{pos:String}{af:Array Edge}{g:Option (Nat × Bool)}
theorem adX {F:Nat→Prop}:∀ {cs:List (List Value)}{l:List Iz},xg F w cs l→cs.flatten=(l.map Iz.n).map (Value.int .u8)
 | [],[],_=>rfl
 | c :: cs,x :: l,h=>by have h1:c=[.int .u8 x.n]:=h.1;rw [Ay,h1,adX h.2];rfl
 | [],_ :: _,h=>h.elim
 | _ :: _,[],h=>h.elim
theorem afn {F:Nat->Prop}{t s e:TypeId}{x:Operand}{a:Option Addr}{c:Nat}{l:List Iz}(ht:P.underlying t=some (.slice e))(he:P.underlying e=some (.int .u8))(hs:P.underlying s=some .string)(hx:ρ x=.slice a l.length c)(h:kD F w a c l) :Yl P ρ (.convert t s x) d ty pos af g w (.string (bst l)):=by obtain ⟨cs,h1,h2⟩:=h.els;rw [adX h1] at h2;exact afN (bs:=l.map Iz.n) ht he hs hx h2
end
def It.nil:It:=⟨fun _=>False,fun _=>True,fun _ _ _ h=>h.elim,fun _ _ _ _ _=>trivial⟩
theorem kD.same {α:Type}[Rp α]{F:Nat->Prop}{w w':World}{a:Option Addr}{c:Nat}{l:List α}(h:kD F w a c l)(hs:w.heap.size<=w'.heap.size)(hc:∀ o,w'.cell? ⟨mU a,o,none⟩=w.cell? ⟨mU a,o,none⟩)(hm:Mv F F w w'\/∀ {cs:List Value} {x:α},Rp.rep F w cs x->Rp.rep F w' cs x):kD F w' a c l:=by
 refine ⟨h.1,h.2.1,fun h0=>?_⟩;obtain ⟨h1,h2,h3,h4⟩:=h.2.2 h0;refine ⟨h1,h2,Nat.lt_of_lt_of_le h3 hs,fun i x hx=>?_⟩;obtain ⟨cs,h5,h6⟩:=h4 i x hx;refine ⟨cs,fun j v hv=>by rw [hc];exact h5 j v hv,?_⟩;rcases hm with hm | hm
 · exact Rp.mv h6 hm
 · exact hm h6
theorem run_mark {P:Program}{w:World}{t e tt:TypeId}{b o n c:Nat}{cs:Array Value}(ht:P.underlying t=some (.slice e))(he:P.underlying e=some (.int .u8))(hb:w.heap[b]?=some (.cells cs tt (0,0))) :(convert t t (.slice (some ⟨b,o,none⟩) n c)).run P w=.ok (.slice (some ⟨b,o,none⟩) n c) (w.freeze ⟨b,cs.size,none⟩ 1):=by
 have hsh:w.shape? b=some (tt,cs.size):=by simp [World.shape?,hb]
 simp [convert,run_underlying ht,run_underlying he,markStringish,hsh]
theorem aeD {P:Program}{w0 w:World}{Z G:Nat->Prop}{L:List It}{D:List Da}{ρ:Operand->Value}{d:Option Nat}{ty:TypeId}{pos:String}{af:Array Edge}{g:Option (Nat × Bool)}(hL:Bx w0 w Z G L D)(i j:Nat){t e:TypeId}{x:Operand}{b c:Nat}{cs:List (List Value)}{l:List Iz}(hi:L[i]?=some (.own w0.heap.size (some ⟨b,0,none⟩) c e (Rp.sz Iz) cs))(hj:D[j]?=some (.els cs l))(ht:P.underlying t=some (.slice e))(he:P.underlying e=some (.int .u8))(hx:ρ x=.slice (some ⟨b,0,none⟩) l.length c) :To P ρ ⟨d,.convert t t x,ty,pos,af,g⟩ w fun v w'=>v=.slice (some ⟨b,0,none⟩) l.length c/\Bx w0 w' Z G (L.eraseIdx i) (.l (some ⟨b,0,none⟩) c l :: D.eraseIdx j):=by
 have ho:=hL.bo i hi;rcases ho.blk with ⟨h1,_⟩|⟨q,cur,h1,h2,h3,_⟩
 · cases h1
 · injection h1 with h1;injection h1 with h1;subst h1;have hrun:=run_mark (P:=P) (w:=w) (o:=0) (n:=l.length) (c:=c) ht he h3;have hfa:(w.freeze ⟨b,cur.size,none⟩ 1).heap[b]?=some (.cells cur e (cur.size,cur.size+1)):=by unfold World.freeze;rw [lD (by decide)];have h3':w.heap[b]?=some (.cells cur e (0,0)):=h3;simp [Array.getElem?_modify,h3']
   have hch:Gc b w (w.freeze ⟨b,cur.size,none⟩ 1):=by unfold World.freeze;rw [lD (by decide)];exact ⟨rfl,rfl,rfl,by simp,fun i hi hne=>by simp [Array.getElem?_modify];intro e;subst e;exact absurd rfl hne⟩
   refine ⟨_,w.freeze ⟨b,cur.size,none⟩ 1,by simp [execOp,hx,hrun],rfl,?_⟩;have hfz:=hL.frz i j hi hj;have hl0:=hfz.dl 0 rfl;have h5:=hL.put (it':=It.nil) i hi ⟨hch.os,hch.tape,hch.output,hch.size,fun k hk hn=>hch.block k hk (by intro e;injection e with e;exact hn (show rowOf (some ⟨b,0,none⟩)=some k by rw [e];rfl))⟩ kL (fun k hk=>hk.elim);have h6:=h5.er i;rw [List.eraseIdx_set_eq] at h6;have h7:=h6.AR (D':=D.eraseIdx j) fun d hd=>(List.eraseIdx_sublist D j).subset hd;refine h7.jX (d:=.l _ _ _) (hl0.same hch.size (fun o=>?_) (.inr fun h=>h));have h3':w.heap[b]?=some (.cells cur e (0,0)):=h3;simp [mU,World.cell?,hfa,h3']
theorem Qb {sz:Nat}:∀ {cs:List (List Value)}{k:Nat}{d d':List Value},(∀ c ∈ cs,c.length=sz)→cs[k]?=some d→d'.length=sz→(cs.set k d').flatten=cs.flatten.take (k * sz) ++ d' ++ cs.flatten.drop ((k+1) * sz)
 | c :: cs,0,d,d',h,hd,hl=>by have hc:=h c (Bl ..);rw [List.set_cons_zero,Ay,Ay,Nat.zero_mul,List.take_zero,DI,DV,Nat.one_mul,<-hc,List.drop_left]
 | c :: cs,k+1,d,d',h,hd,hl=>by
  have hc:=h c (Bl ..);have ih:=Qb (k:=k) (fun c hc=>h c (yw _ hc)) (by simpa using hd) hl;have e1:(k+1) * sz=c.length+k * sz:=by rw [hc,Nat.succ_mul,Nat.add_comm]
  have e2:(k+1+1) * sz=c.length+(k+1) * sz:=by rw [hc,Nat.succ_mul (k+1),Nat.add_comm]
  rw [List.set_cons_succ,Ay,Ay,ih,e2,<-List.drop_drop,List.drop_left,e1,List.take_length_add_append,Fh,Fh,Fh]
theorem splice {β:Type}(cur F vs q:List β)(N ks sz off:Nat)(hF:cur.take N=F)(hN:N<=cur.length)(hk:ks + sz<=N)(hl:off + vs.length<=sz)(hq:q=(F.drop ks).take sz) :
    (cur.take (ks + off) ++ vs ++ cur.drop (ks + off + vs.length)).take N=F.take ks ++ (q.take off ++ vs ++ q.drop (off + vs.length)) ++ F.drop (ks + sz):=by
  have h1:F.take ks ++ q.take off=F.take (ks + off):=by
    rw [hq,List.take_take,Nat.min_eq_left (by omega),List.take_add]
  have h2:q.drop (off + vs.length) ++ F.drop (ks + sz)=F.drop (ks + off + vs.length):=by
    rw [hq,List.drop_take,List.drop_drop,show ks + (off + vs.length)=ks + off + vs.length by omega];have:F.drop (ks + sz)=(F.drop (ks + off + vs.length)).drop (sz - (off + vs.length)):=by rw [List.drop_drop]; congr 1; omega
    rw [this,List.take_append_drop]
  have h3:F.take (ks + off)=cur.take (ks + off):=by rw [<-hF,List.take_take,Nat.min_eq_left (by omega)]
  have h4:F.drop (ks + off + vs.length)=(cur.drop (ks + off + vs.length)).take (N - (ks + off + vs.length)):=by rw [<-hF,List.drop_take]
  have hlen:(cur.take (ks + off) ++ vs).length=ks + off + vs.length:=by rw [Ij,wI]; omega
  calc (cur.take (ks + off) ++ vs ++ cur.drop (ks + off + vs.length)).take N
      = cur.take (ks + off) ++ vs ++ (cur.drop (ks + off + vs.length)).take (N - (ks + off + vs.length)):=by
        rw [List.take_append,hlen,List.take_of_length_le (by rw [hlen]; omega)]
    _=F.take (ks + off) ++ vs ++ F.drop (ks + off + vs.length):=by rw [h3,h4]
    _=_:=by rw [<-h1,<- h2]; simp only [Fh]
theorem xg.lens {α:Type}[Rp α]{F:Nat→Prop}{w:World}:∀ {cs:List (List Value)}{l:List α},xg F w cs l→∀ c ∈ cs,c.length=Rp.sz α
 | [],[],_,c,hc=>by cases hc
 | d :: cs,x :: l,h,c,hc=>by
  rcases oM.1 hc with rfl | hc
  · exact Rp.len h.1
  · exact xg.lens h.2 c hc
 | [],_ :: _,h,_,_=>h.elim
 | _ :: _,[],h,_,_=>h.elim
theorem Mq {P:Program}{w0 w:World}{Z G:Nat->Prop}{L:List It}{D:List Da}{ρ:Operand->Value}{d:Option Nat}{ty:TypeId}{pos:String}{af:Array Edge}{g:Option (Nat × Bool)}(hL:Bx w0 w Z G L D){α:Type}[Rp α](i j k off:Nat){t e:TypeId}{x y:Operand}{z:Value}{s by_ base c:Nat}{A:Option Addr}{cs:List (List Value)}{l l2:List α}{q q':List Value}{v':α}(vs:List Value)(hi:L[i]?=some (.own base A c e (Rp.sz α) cs))(hj:D[j]?=some (.els cs l))(hq:cs[k]?=some q)(ht:TI P t z s by_)(hs:s=vs.length)(hx:ρ x=.pointer (some ⟨mU A,nS A+k * Rp.sz α+off,none⟩))(hy:(ρ y).cells=vs.toArray)(h1:vs.all (fun v=>v.oneCell')=true)(hl:Nat.ble (off+vs.length) (Rp.sz α)=true)(hq':q.take off ++ vs ++ q.drop (off+vs.length)=q')(hr:Rp.rep (HY w0 Z L) w q' v')(hst:l.set k v'=l2) :Wm P ρ ⟨d,.store t x y,ty,pos,af,g⟩ w fun w'=>∃ cs2,Bx w0 w' Z G (L.set i (.own base A c e (Rp.sz α) cs2)) (D.set j (.els cs2 l2)):=by
 subst hs;have hl:=Nat.le_of_ble_eq_true hl;have hE:=hL.de j hj;have ho:=hL.bo i hi;have hk:=ko hq;have hlen:=hE.lens;have hql:q.length=Rp.sz α:=hlen q (vM hq);have hq'l:q'.length=Rp.sz α:=Rp.len hr;obtain ⟨g0,rfl⟩:=ho.UO (by omega);rcases ho.blk with ⟨h0,_⟩|⟨b,cur,hA,hb,hB,hn,hc,hsz,htk⟩
 · cases h0
 · injection hA with hA;injection hA with hA;subst hA;obtain ⟨ti,hi1,hi2,hi3,hi4⟩:=ht;have hsz':cs.length * Rp.sz α<=cur.size:=by rw [hsz];exact Nat.mul_le_mul_right _ hn
   have hpos:(k+1) * Rp.sz α<=cs.length * Rp.sz α:=Nat.mul_le_mul_right _ hk;have hpk:(k+1) * Rp.sz α=k * Rp.sz α+Rp.sz α:=Nat.succ_mul k _;have hst':=run_storeCells_at (P:=P) g0 (k * Rp.sz α+off) e vs 0 cur w hB (by omega) (fun v hv=>List.all_eq_true.1 h1 v hv);rw [Nat.add_zero] at hst';have hx':ρ x=.pointer (some ⟨g0,k * Rp.sz α+off,none⟩):=by rw [hx];simp [mU,nS]
   refine ⟨_,by simp [execOp,hx',Instr.storeAt,Instr.sureAddr,storeVar,sizeOf,typeInfo,hi1,hi3,hy,hst'];rfl,cs.set k q',?_⟩;have hfl:(cs.set k q').flatten=cs.flatten.take (k * Rp.sz α) ++ q' ++ cs.flatten.drop ((k+1) * Rp.sz α):=Qb hlen hq hq'l;have hels:xg (HY w0 Z L) w (cs.set k q') l2:=by rw [<-hst];exact hE.set k hr
   have h6:Bx w0 w Z G L (D.set j (.els (cs.set k q') l2)):=hL.JE j hels;have hlf:cs.flatten.length=cs.length * Rp.sz α:=by rw [hE.VG,hE.len]
   have hcells:q=(cs.flatten.drop (k * Rp.sz α)).take (Rp.sz α):=by
     have key:∀ {cs:List (List Value)}{k:Nat},(∀ c ∈ cs,c.length=Rp.sz α)->cs[k]?=some q->q=(cs.flatten.drop (k * Rp.sz α)).take (Rp.sz α):=by
      intro cs
      induction cs with
      | nil=>intro k _ h;simp at h
      | cons c cs ih=>
       intro k hlen h;have hc:=hlen c (Bl ..);cases k with
       | zero=>
        simp only [Eu,Dz] at h;subst h;rw [Nat.zero_mul,List.drop_zero,Ay,<-hc,List.take_left]
       | succ k=>
        rw [Ay,show (k+1) * Rp.sz α=c.length+k * Rp.sz α by rw [hc,Nat.succ_mul,Nat.add_comm],<-List.drop_drop,List.drop_left];exact ih (fun c hc=>hlen c (yw _ hc)) (by simpa using h)
     exact key hlen hq
   have htake:∀ n,n<=cs.length * Rp.sz α->cs.flatten.take n=cur.toList.take n:=fun n hn=>by rw [<-htk,List.take_take,Nat.min_eq_left hn]
   refine h6.Ul (n2:=cs.length) (ys:=(cs.set k q').flatten) i hi ⟨by rw [hfl];simp only [Ij,wI,Cy,hlf,hq'l];omega,.inr ⟨g0,c,_,rfl,hb,hB.setRow _,hn,hc,?_,?_⟩⟩ (by simp) rfl (Gc.setRow w g0 _) (.inl rfl)
   · simp only [List.size_toArray,Ij,wI,Cy,Array.length_toList];omega
   · rw [hfl,<-hq',hpk];have hsp:=splice cur.toList cs.flatten vs q _ _ _ off htk (by rw [Array.length_toList];exact hsz') (by omega) hl hcells;rw [Fh] at hsp;simpa using hsp
def Cm (S1:World->Prop)(T:List Nat)(S:World->Prop)(L:Array Bool)(w:World):Prop:=S1 w/\((∀ t ∈ T,L.getD t false=false)->S w)
def Nn (P:Program)(ops:Array Oper)(Q:Exit→Act→World→Prop)(S1 S:World→Prop)(T:List Nat):Nat→Array Bool→Act→World→Prop
 | 0,L,a,w=>Region.ready .any ops L=[]/\Q .normal a w
 | n+1,L,a,w=>(Region.ready .any ops L=[]→Q .normal a w)∧
  ∀ i ∈ Region.ready .any ops L,wpOp P ops Q i (fun a' w'=>Cm S1 T S (L.setIfInBounds i true) w'/\Nn P ops Q S1 S T n (L.setIfInBounds i true) a' w') a w
theorem Np {P:Program}{ops:Array Oper}{Q:Exit→Act→World→Prop}{S1 S:World→Prop}{T:List Nat}:∀ (n:Nat)(L:Array Bool)(a:Act)(w:World),Nn P ops Q S1 S T n L a w→wpAny P .any ops Q n L a w
 | 0,_,_,_,h=>h
 | n+1,_,_,_,h=>⟨h.1,fun i hi=>wpOp_mono (fun a' w' h'=>Np n _ a' w' h'.2) (h.2 i hi)⟩
theorem PV {P:Program}{ops:Array Oper}{Q:Exit->Act->World->Prop}{S1 S S2:World->Prop}{T:List Nat}{i:Nat}{oi:Oper}{v:Value}(hi:ops[i]?=some oi)(hsel:∀ (j:Nat) (o:Oper) cs b,ops[j]?=some o->o.op≠.select cs b)(hQ:∀ c a w,Q (.panic c) (a.put oi.dst v) w->Q (.panic c) a w)(hT:i ∉ T)(hS2:∀ L w,Closed ops L->L.getD i false=false->Cm S1 T S L w->S2 w) :∀ (n:Nat)(L:Array Bool)(a:Act)(w:World),Closed ops L->(∀ j oj,ops[j]?=some oj->j≠i->L.getD j true=false->(∀ e ∈ oj.after,Region.binds .any e=true->e.on≠i)->oi.apart ops oj=true)->i ∈ Region.ready .any ops L->YieldsIf P ops S2 oi v a->Cm S1 T S L w->Nn P ops Q S1 S T n (L.setIfInBounds i true) (a.put oi.dst v) w->Nn P ops Q S1 S T (n+1) L a w:=by
 have unl:∀ L,i ∈ Region.ready .any ops L->L.getD i false=false:=by
  intro L hr;have h0:=(mem_ready.1 hr).1;rcases wz i L.size with h' | h'
  · simp [h'] at h0 ⊢;exact h0
  · simp [Array.getElem?_eq_none h']
 have sl:∀ L w,Cm S1 T S (L.setIfInBounds i true) w->Cm S1 T S L w:=by intro L w h;refine ⟨h.1,fun ht=>h.2 fun t hm=>?_⟩;rw [Bw false (fun e=>hT (by rw [e];exact hm))];exact ht t hm
 have sl':∀ L w,Cm S1 T S L w->Cm S1 T S (L.setIfInBounds i true) w:=by
  intro L w h;refine ⟨h.1,fun ht=>h.2 fun t hm=>?_⟩;have:=ht t hm
  rwa [Bw false (fun e=>hT (by rw [e];exact hm))] at this
 intro n
 induction n with
 | zero=>
  intro L a w hcl _ hr hy hS H;refine ⟨fun h=>(by rw [h] at hr;cases hr),fun j hj=>?_⟩;by_cases hji:j=i
  · subst hji;exact hy.wpOp hi (hS2 L w hcl (unl L hr) hS) ⟨sl' L w hS,H⟩
  · have:=ready_mono hj hji;rw [H.1] at this;cases this
 | succ n ih=>
  intro L a w hcl hfree hr hy hS H;refine ⟨fun h=>(by rw [h] at hr;cases hr),fun j hj=>?_⟩;by_cases hji:j=i
  · subst hji;exact hy.wpOp hi (hS2 L w hcl (unl L hr) hS) ⟨sl' L w hS,H⟩
  · have h1:=H.2 j (ready_mono hj hji);obtain ⟨hjun,oj,hoj,hall⟩:=mem_ready.1 hj;have hnot:∀ e ∈ oj.after,Region.binds .any e=true->e.on≠i:=fun e he hb heq=>by have h1:=hall e he hb;have h0:=unl L hr;rw [heq,h0] at h1;cases h1
    have h2:=wpOp_putIf hoj (hfree j oj hoj hji hjun hnot) (fun cs b=>hsel i oi cs b hi) (fun cs b=>hsel j oj cs b hoj) hQ hy h1
    have hfree':∀ k ok,ops[k]?=some ok→k≠i→(L.setIfInBounds j true).getD k true=false→
       (∀ e ∈ ok.after,Region.binds .any e=true->e.on≠i)->oi.apart ops ok=true:=fun k ok hk hki hun hno=>by
     refine hfree k ok hk hki ?_ hno;by_cases hjk:j=k
     · subst hjk;exact hjun
     · rw [Bw true hjk] at hun;exact hun
    have hcomm:(L.setIfInBounds i true).setIfInBounds j true=(L.setIfInBounds j true).setIfInBounds i true:=Array.setIfInBounds_comm _ _ (Ne.symm hji);refine wpOp_mono (fun a' w' h3=>?_) h2;have h4:=h3.2.1;rw [hcomm] at h4;have h5:=sl _ _ h4;refine ⟨h5,ih (L.setIfInBounds j true) a' w' (hcl.step hj) hfree' (ready_mono hr (Ne.symm hji)) h3.1 h5 ?_⟩;rw [<-hcomm];exact h3.2.2
def oL (P:Program)(N:Fz)(ops:Array Oper)(S1 S:World->Prop)(T:List Nat)(K:KK)(n:Nat)(L:Array Bool)(f:Fr)(w:World):Prop:=(∀ o ∈ ops.toList,Az N o=true)->Closed ops L->∀ a,L6 N f a->Nn P ops (Uf N K.i) S1 S T n L a w
section
variable {P:Program}{N:Fz}{ops:Array Oper}{S1 S:World->Prop}{T:List Nat}{K:KK}{f:Fr}{w:World}{n:Nat}{L:Array Bool}
theorem Pn {Q:Post}{i:Nat}(S1 S:World->Prop)(T:List Nat)(hm:P.follows .mixedOrders=true)(h:oL P N ops S1 S T ⟨Q.n,Q.p⟩ ops.size (Array.replicate ops.size false) f w.drew):WP P N (.region i ops true) Q f w:=by
 unfold WP;intro hok a ha;have hl:∀ o ∈ ops.toList,Az N o=true:=by intro o ho;have:=Array.all_eq_true_iff_forall_mem.1 (show ops.all (Az N)=true from hok);exact this o (by simpa using ho)
 refine Code.wp_mono (fun e a w q=>?_) (wp_region_any hm (Np _ _ _ _ (h hl (Closed.start ops _) a ha)));cases e with
 | normal=>exact q
 | panic c=>obtain ⟨f,h1,h2⟩:=q;exact ⟨f,h1,h2 f⟩
 | _=>exact q.elim
theorem abd (hr:Region.ready .any ops L=[])(h:K.n f w):oL P N ops S1 S T K n L f w:=by
 intro _ _ a ha;cases n with
 | zero=>exact ⟨hr,f,ha,h⟩
 | succ n=>exact ⟨fun _=>⟨f,ha,h⟩,by rw [hr];simp⟩
theorem JM (S2:World->Prop)(i:Nat){oi:Oper}{v:Value}(hi:ops[i]?=some oi)(hc:may ops T L i=true)(hS2:∀ L w,Closed ops L->L.getD i false=false->Cm S1 T S L w->S2 w)(hw:(uL ops f oi.guard=true/\∀ w,S2 w->(execOp (ev f) oi).run P w=.ok (.value v) w)\/(uL ops f oi.guard=false/\v=undef))(hS:Cm S1 T S L w)(k:oL P N ops S1 S T K n (L.setIfInBounds i true) (lH f oi.dst v) w):oL P N ops S1 S T K (n+1) L f w:=by
 intro hok hcl a ha;simp only [may,Ep,Bool.not_eq_true',List.contains_eq_mem] at hc;have hd:Az N oi=true:=hok oi (by have:=Array.mem_of_getElem? hi;simpa using this);have hr:i ∈ Region.ready .any ops L:=by simpa using hc.1.2
 have hT:i ∉ T:=by simpa using hc.2
 refine PV (S2:=S2) (v:=v) hi (Region.noSelect_spec hc.1.1.1) (fun c a w h=>by
  obtain ⟨f,h1,h2⟩:=h;refine ⟨_,⟨?_,fun t=>rfl,?_⟩,fun f=>h2 f⟩
  · have:=h1.size;cases hd:oi.dst <;> simpa [Act.put,hd] using this
  · have:=h1.dfr;cases hd:oi.dst <;> simpa [Act.put,hd] using this) hT hS2 n L a w hcl (Region.free_spec hi hc.1.1.2) hr ?_ hS (k hok (hcl.step hr) _ (ha.put _ (tZ hd) v))
 rcases hw with ⟨h1,h2⟩|⟨h1,h2⟩
 · exact .inl ⟨by rw [uY ha];exact h1,fun w hw=>by rw [ha.Bp];exact h2 w hw⟩
 · exact .inr ⟨by rw [uY ha];exact h1,h2⟩
theorem WS (i:Nat){oi:Oper}{v:Value}(hi:ops[i]?=some oi)(hc:may ops T L i=true)(hw:uL ops f oi.guard=true)(hy:∀ w,(execOp (ev f) oi).run P w=.ok (.value v) w)(hS:Cm S1 T S L w)(k:oL P N ops S1 S T K n (L.setIfInBounds i true) (lH f oi.dst v) w):oL P N ops S1 S T K (n+1) L f w:=
 JM (fun _=>True) i hi hc (fun _ _ _ _ _=>trivial) (.inl ⟨hw,fun w _=>hy w⟩) hS k
theorem Tz (dp i:Nat){oi:Oper}{v:Value}(hi:ops[i]?=some oi)(hc:may ops T L i=true)(hT:(T.all fun t=>SH ops dp t i)=true)(hw:uL ops f oi.guard=true)(hy:∀ w,S w->(execOp (ev f) oi).run P w=.ok (.value v) w)(hS:Cm S1 T S L w)(k:oL P N ops S1 S T K n (L.setIfInBounds i true) (lH f oi.dst v) w):oL P N ops S1 S T K (n+1) L f w:=
 JM S i hi hc (fun L w hcl hu hs=>hs.2 fun t ht=>by
  have h1:=List.all_eq_true.1 hT t ht;cases hl:L.getD t false with
  | false=>rfl
  | true=>rw [hcl.SH i dp t h1 hl] at hu;cases hu) (.inl ⟨hw,hy⟩) hS k
theorem qc (i:Nat){oi:Oper}(hi:ops[i]?=some oi)(hc:may ops T L i=true)(hw:uL ops f oi.guard=false)(hS:Cm S1 T S L w)(k:oL P N ops S1 S T K n (L.setIfInBounds i true) (lH f oi.dst undef) w):oL P N ops S1 S T K (n+1) L f w:=
 JM (fun _=>True) i hi hc (fun _ _ _ _ _=>trivial) (.inr ⟨hw,rfl⟩) hS k
def Cj (P:Program)(N:Fz)(ops:Array Oper)(S1 S:World->Prop)(T:List Nat)(K:KK)(n:Nat)(L:Array Bool)(f:Fr)(w:World)(i:Nat):Prop:=(∀ o ∈ ops.toList,Az N o=true)->Closed ops (L.setIfInBounds i true)->∀ a,L6 N f a->wpOp P ops (Uf N K.i) i (fun a' w'=>Cm S1 T S (L.setIfInBounds i true) w'/\Nn P ops (Uf N K.i) S1 S T n (L.setIfInBounds i true) a' w') a w
theorem ac3 (i:Nat)(hr:Region.ready .any ops L=[i])(h:Cj P N ops S1 S T K n L f w i):oL P N ops S1 S T K (n+1) L f w:=fun hok hcl a ha=>
 ⟨fun h0=>(by rw [hr] at h0;cases h0),fun j hj=>by
  have hcl':=hcl.step hj;rw [hr] at hj;have hj':j=i:=by simpa using hj
  subst hj';exact h hok hcl' a ha⟩
theorem vP {i:Nat}{oi:Oper}{v:Value}{w':World}(hi:ops[i]?=some oi)(hw:uL ops f oi.guard=true)(h:(execOp (ev f) oi).run P w=.ok (.value v) w')(hS:Cm S1 T S (L.setIfInBounds i true) w')(k:oL P N ops S1 S T K n (L.setIfInBounds i true) (lH f oi.dst v) w'):Cj P N ops S1 S T K n L f w i:=by intro hok hcl a ha;have hd:Az N oi=true:=hok oi (by have:=Array.mem_of_getElem? hi;simpa using this);unfold wpOp;simp only [hi];rw [lG (by rw [uY ha];exact hw)];left;unfold Oper.wp;rw [ha.Bp,h];exact ⟨hS,k hok hcl _ (ha.put _ (tZ hd) v)⟩
theorem aff {i:Nat}{oi:Oper}{w':World}(hi:ops[i]?=some oi)(hw:uL ops f oi.guard=true)(h:(execOp (ev f) oi).run P w=.ok .skip w')(hS:Cm S1 T S (L.setIfInBounds i true) w')(k:oL P N ops S1 S T K n (L.setIfInBounds i true) (lH f oi.dst undef) w'):Cj P N ops S1 S T K n L f w i:=by intro hok hcl a ha;have hd:Az N oi=true:=hok oi (by have:=Array.mem_of_getElem? hi;simpa using this);unfold wpOp;simp only [hi];rw [lG (by rw [uY ha];exact hw)];left;unfold Oper.wp;rw [ha.Bp,h];exact ⟨hS,k hok hcl _ (ha.put _ (tZ hd) undef)⟩
theorem VZ {i:Nat}{oi:Oper}{w':World}{g:FuncId}{args:Array Value}{R:Value->World->Prop}(hi:ops[i]?=some oi)(hw:uL ops f oi.guard=true)(h:(execOp (ev f) oi).run P w=.ok (.enter g args) w')(hc:Calls P g args w' (tV R))(k:∀ v w'',R v w''->Cm S1 T S (L.setIfInBounds i true) w''/\oL P N ops S1 S T K n (L.setIfInBounds i true) (lH f oi.dst v) w''):Cj P N ops S1 S T K n L f w i:=by intro hok hcl a ha;have hd:Az N oi=true:=hok oi (by have:=Array.mem_of_getElem? hi;simpa using this);unfold wpOp;simp only [hi];rw [lG (by rw [uY ha];exact hw)];left;unfold Oper.wp;rw [ha.Bp,h];refine hc.mono fun e w'' he=>?_;obtain ⟨v,rfl,hR⟩:=he;exact ⟨(k v w'' hR).1,(k v w'' hR).2 hok hcl _ (ha.put _ (tZ hd) v)⟩
theorem jK {w:World}(h1:S1 w)(h:S w):Cm S1 T S L w:=⟨h1,fun _=>h⟩
theorem WU (t:Nat){w:World}(h1:S1 w)(h:(T.contains t && L.getD t false)=true):Cm S1 T S L w:=⟨h1,fun ht=>by
 simp only [Ep,List.contains_eq_mem] at h;have:=ht t (by simpa using h.1);rw [this] at h;cases h.2⟩
theorem acv (i:Nat){oi:Oper}{v:Value}(hi:ops[i]?=some oi)(hc:may ops T L i=true)(hw:uL ops f oi.guard=true)(hy:∀ w,S1 w->(execOp (ev f) oi).run P w=.ok (.value v) w)(hS:Cm S1 T S L w)(k:oL P N ops S1 S T K n (L.setIfInBounds i true) (lH f oi.dst v) w):oL P N ops S1 S T K (n+1) L f w:=
 JM S1 i hi hc (fun _ _ _ _ h=>h.1) (.inl ⟨hw,hy⟩) hS k
theorem aeH {i:Nat}{oi:Oper}{R:Value->World->Prop}(hi:ops[i]?=some oi)(hw:uL ops f oi.guard=true)(h:To P (ev f) oi w R)(k:∀ v w',R v w'->Cm S1 T S (L.setIfInBounds i true) w'/\oL P N ops S1 S T K n (L.setIfInBounds i true) (lH f oi.dst v) w'):Cj P N ops S1 S T K n L f w i:=by obtain ⟨v,w',h1,h2⟩:=h;exact vP hi hw h1 (k v w' h2).1 (k v w' h2).2
theorem adl {i:Nat}{oi:Oper}{R:World->Prop}(hi:ops[i]?=some oi)(hw:uL ops f oi.guard=true)(h:Wm P (ev f) oi w R)(k:∀ w',R w'->Cm S1 T S (L.setIfInBounds i true) w'/\oL P N ops S1 S T K n (L.setIfInBounds i true) (lH f oi.dst undef) w'):Cj P N ops S1 S T K n L f w i:=by obtain ⟨w',h1,h2⟩:=h;exact aff hi hw h1 (k w' h2).1 (k w' h2).2
theorem mZ (i:Nat)(l:List Nat)(hr:Region.ready .any ops L=i :: l)(h:∀ j ∈ i :: l,Cj P N ops S1 S T K n L f w j):oL P N ops S1 S T K (n+1) L f w:=by
 unfold oL;intro hok hcl a ha;refine ⟨fun h0=>?_,fun j hj=>?_⟩
 · rw [hr] at h0;cases h0
 · have hcl':=hcl.step hj;rw [hr] at hj;have:=h j hj;unfold Cj at this;exact this hok hcl' a ha
theorem l5:∀ i ∈ ([]:List Nat),Cj P N ops S1 S T K n L f w i:=fun _ h=>by cases h
theorem jJ {i:Nat}{l:List Nat}(h:Cj P N ops S1 S T K n L f w i)(k:∀ j ∈ l,Cj P N ops S1 S T K n L f w j):∀ j ∈ i :: l,Cj P N ops S1 S T K n L f w j:=fun j hj=>by
 rcases oM.1 hj with rfl | hj
 · exact h
 · exact k j hj
end
attribute [irreducible] oL Cj
structure Rw where
 a:Option Addr
 c:Nat
 cs:List (List Value)
def Rw.hdr (r:Rw):List Value:=[.slice r.a r.cs.length r.c]
section
variable {α:Type}[Rp α]{F G:Nat->Prop}{w w':World}
def BK (F:Nat→Prop)(w:World):List Rw→List (List α)→Prop
 | [],[]=>True
 | r :: R,l :: m=>xg F w r.cs l/\BK F w R m
 | _,_=>False
theorem BK.mv:∀ {R:List Rw}{m:List (List α)},BK F w R m→Mv F G w w'→BK G w' R m
 | [],[],_,_=>trivial
 | _ :: _,_ :: _,h,k=>⟨h.1.mv k,BK.mv h.2 k⟩
 | [],_ :: _,h,_=>h.elim
 | _ :: _,[],h,_=>h.elim
theorem BK.len:∀ {R:List Rw}{m:List (List α)},BK F w R m→R.length=m.length
 | [],[],_=>rfl
 | _ :: _,_ :: _,h=>congrArg (·+1) (BK.len h.2)
 | [],_ :: _,h=>h.elim
 | _ :: _,[],h=>h.elim
theorem BK.get:∀ {R:List Rw}{m:List (List α)}{k:Nat}{x:List α},BK F w R m→m[k]?=some x→∃ r,R[k]?=some r∧xg F w r.cs x
 | r :: _,_ :: _,0,x,h,hx=>by simp only [Eu,Dz] at hx;subst hx;exact ⟨r,rfl,h.1⟩
 | _ :: _,_ :: _,k+1,x,h,hx=>BK.get (k:=k) h.2 (by simpa using hx)
 | [],[],_,_,_,hx=>by simp at hx
 | [],_ :: _,_,_,h,_=>h.elim
 | _ :: _,[],_,_,h,_=>h.elim
theorem BK.set:∀ {R:List Rw}{m:List (List α)}(k:Nat){r:Rw}{x:List α},BK F w R m→xg F w r.cs x→BK F w (R.set k r) (m.set k x)
 | [],[],_,_,_,_,_=>trivial
 | _ :: _,_ :: _,0,_,_,h,k=>⟨k,h.2⟩
 | _ :: _,_ :: _,n+1,_,_,h,k=>⟨h.1,BK.set n h.2 k⟩
 | [],_ :: _,_,_,_,h,_=>h.elim
 | _ :: _,[],_,_,_,h,_=>h.elim
theorem BK.app:∀ {R:List Rw}{m:List (List α)}{S:List Rw}{n:List (List α)},BK F w R m→BK F w S n→BK F w (R ++ S) (m ++ n)
 | [],[],_,_,_,k=>k
 | _ :: _,_ :: _,_,_,h,k=>⟨h.1,BK.app h.2 k⟩
 | [],_ :: _,_,_,h,_=>h.elim
 | _ :: _,[],_,_,h,_=>h.elim
end
def Da.nu {α:Type}[Rp α](R:List Rw)(m:List (List α)):Da:=⟨fun F w=>BK F w R m,BK.mv⟩
theorem Own.same {w w':World}{base:Nat}{e:TypeId}{sz n c:Nat}{A:Option Addr}{xs:List Value}(h:Own w base e sz A n c xs)(k:∀ b,rowOf A=some b->w'.heap[b]?=w.heap[b]?):Own w' base e sz A n c xs:=by
 refine ⟨h.1,?_⟩;rcases h.2 with h1 | ⟨g,cap,cur,h3,h4,h5,h6⟩
 · exact .inl h1
 · refine .inr ⟨g,cap,cur,h3,h4,?_,h6⟩;injection h3 with h3 _ _;rw [k g (by rw [h3];rfl)];exact h5
def It.tT (base:Nat)(e:TypeId)(sz:Nat)(R:List Rw)(x:Option Nat):It where
 F k:=∃ (i:Nat)(r:Rw),R[i]?=some r/\some i≠x/\rowOf r.a=some k
 p w:=(∀ (i:Nat)(r:Rw),R[i]?=some r->some i≠x->Own w base e sz r.a r.cs.length r.c r.cs.flatten)/\∀ (i j:Nat)(r s:Rw)(b:Nat),R[i]?=some r->R[j]?=some s->some i≠x->some j≠x->rowOf r.a=some b->rowOf s.a=some b->i=j
 bd w h k hk:=by obtain ⟨i,r,h1,h2,h3⟩:=hk;exact ((h.1 i r h1 h2).row k h3).2
 st w w' h k hs:=⟨fun i r h1 h2=>Own.same (h.1 i r h1 h2) (fun b hb=>k b ⟨i,r,h1,h2,hb⟩),h.2⟩
section
variable {α:Type}[Rp α]{w0 w w':World}{Z G:Nat->Prop}{L Lr:List It}{D:List Da}{base e sz:Nat}{R:List Rw}{m:List (List α)}{k:Nat}{x:List α}
theorem Bx.d2 (h:Bx w0 w Z G L D)(j:Nat)(hj:D[j]?=some (.nu R m)):BK (HY w0 Z L) w R m:=h.d j hj
theorem Bx.foc (h:Bx w0 w Z G (.tT base e sz R none :: Lr) D)(j:Nat)(hj:D[j]?=some (.nu R m))(hx:m[k]?=some x) :∃ a c cs,R[k]?=some ⟨a,c,cs⟩/\cs.length=x.length/\Bx w0 w Z G (.own base a c e sz cs :: .tT base e sz R (some k) :: Lr) (.els cs x :: D):=by
 obtain ⟨⟨a,c,cs⟩,hr,hE⟩:=(h.d2 j hj).get hx;have hf:=(h.it _ (Bl ..)).1;have hpw:=Bu.1 h.pw;refine ⟨a,c,cs,hr,hE.len,?_⟩;have h1:Bx w0 w Z G (.own base a c e sz cs :: .tT base e sz R (some k) :: Lr) D:=by
  refine h.step (X:=fun _=>False) ((Ext.refl w).Gf _) (fun _ hx=>hx.elim) (fun it hi=>?_) (fun it hi b hb hl=>?_) (Bu.2 ⟨fun y hy b hb hc=>?_,Bu.2 ⟨fun y hy b hb=>?_,hpw.2⟩⟩)
  · rcases oM.1 hi with rfl | hi
    · exact hf.1 k _ hr (by simp)
    · rcases oM.1 hi with rfl | hi
      · exact ⟨fun i r h1 h2=>hf.1 i r h1 (by simp),fun i j r s b h1 h2 _ _ h3 h4=>hf.2 i j r s b h1 h2 (by simp) (by simp) h3 h4⟩
      · exact (h.it it (yw _ hi)).1
  · rcases oM.1 hi with rfl | hi
    · exact ⟨_,Bl ..,k,_,hr,by simp,hb⟩
    · rcases oM.1 hi with rfl | hi
      · obtain ⟨i,r,h1,h2,h3⟩:=hb;exact ⟨_,Bl ..,i,r,h1,by simp,h3⟩
      · exact ⟨it,yw _ hi,hb⟩
  · rcases oM.1 hy with rfl | hy
    · obtain ⟨i,r,h1,h2,h3⟩:=hc;have:=hf.2 i k r _ b h1 hr (by simp) (by simp) h3 hb;subst this;exact h2 rfl
    · exact hpw.1 y hy b ⟨k,_,hr,by simp,hb⟩ hc
  · obtain ⟨i,r,h1,h2,h3⟩:=hb;exact hpw.1 y hy b ⟨i,r,h1,by simp,h3⟩
 refine h1.jX (d:=.els cs x) ?_;obtain ⟨r',hr',hE'⟩:=(h1.d2 j hj).get hx;rw [hr] at hr';injection hr' with hr';subst hr';exact hE'
theorem Bx.unf {a:Option Addr}{c:Nat}{cs:List (List Value)}(h:Bx w0 w Z G (.own base a c e sz cs :: .tT base e sz R (some k) :: Lr) D)(j p:Nat)(hj:D[j]?=some (.nu R m))(hp:D[p]?=some (.els cs x)) :Bx w0 w Z G (.tT base e sz (R.set k ⟨a,c,cs⟩) none :: Lr) (D.set j (.nu (R.set k ⟨a,c,cs⟩) (m.set k x))):=by
 have ho:=(h.it _ (Bl ..)).1;have hf:=(h.it _ (yw _ (Bl ..))).1;have hpw:=Bu.1 h.pw;have hpw2:=Bu.1 hpw.2;have hget:∀ {i:Nat}{r:Rw},(R.set k ⟨a,c,cs⟩)[i]?=some r->i=k/\r=⟨a,c,cs⟩\/i≠k/\R[i]?=some r:=by
  intro i r hi;rw [List.getElem?_set] at hi;split at hi
  · rename_i hki;split at hi
    · injection hi with hi;exact .inl ⟨hki.symm,hi.symm⟩
    · cases hi
  · rename_i hki;exact .inr ⟨fun e=>hki e.symm,hi⟩
 have hap:∀ {i:Nat}{r:Rw}{b:Nat},i≠k->R[i]?=some r->rowOf r.a=some b->rowOf a≠some b:=fun {i r b} hne hi hb hc=>
  hpw.1 _ (Bl ..) b hc ⟨i,r,hi,by simpa using hne,hb⟩
 have h1:Bx w0 w Z G (.tT base e sz (R.set k ⟨a,c,cs⟩) none :: Lr) D:=by
  refine h.step (X:=fun _=>False) ((Ext.refl w).Gf _) (fun _ hx=>hx.elim) (fun it hi=>?_) (fun it hi b hb hl=>?_) (Bu.2 ⟨fun y hy b hb=>?_,hpw2.2⟩)
  · rcases oM.1 hi with rfl | hi
    · refine ⟨fun i r h1 _=>?_,fun i j r s b h1 h2 _ _ h3 h4=>?_⟩
      · rcases hget h1 with ⟨_,rfl⟩|⟨hne,h1⟩
        · exact ho
        · exact hf.1 i r h1 (by simpa using hne)
      · rcases hget h1 with ⟨e1,er⟩|⟨hne,h1⟩
        · rcases hget h2 with ⟨e2,es⟩|⟨hne2,h2⟩
          · rw [e1,e2]
          · rw [er] at h3;exact absurd h3 (hap hne2 h2 h4)
        · rcases hget h2 with ⟨e2,es⟩|⟨hne2,h2⟩
          · rw [es] at h4;exact absurd h4 (hap hne h1 h3)
          · exact hf.2 i j r s b h1 h2 (by simpa using hne) (by simpa using hne2) h3 h4
    · exact (h.it it (yw _ (yw _ hi))).1
  · rcases oM.1 hi with rfl | hi
    · obtain ⟨i,r,h1,_,h3⟩:=hb;rcases hget h1 with ⟨rfl,rfl⟩|⟨hne,h1⟩
      · exact ⟨_,Bl ..,h3⟩
      · exact ⟨_,yw _ (Bl ..),i,r,h1,by simpa using hne,h3⟩
    · exact ⟨it,yw _ (yw _ hi),hb⟩
  · obtain ⟨i,r,h1,_,h3⟩:=hb;rcases hget h1 with ⟨rfl,rfl⟩|⟨hne,h1⟩
    · exact hpw.1 y (yw _ hy) b h3
    · exact hpw2.1 y hy b ⟨i,r,h1,by simpa using hne,h3⟩
 exact h1.JE j (d:=.nu _ _) ((h1.d2 j hj).set k (h1.de p hp))
theorem Bx.hd (h:Bx w0 w Z G L D)(i:Nat){A:Option Addr}{c:Nat}{H H':List (List Value)}(hi:L[i]?=some (.own base A c e sz H))(hH:H=H'):Bx w0 w Z G (L.set i (.own base A c e sz H')) D:=by subst hH;exact h.put i hi ((Ext.refl w).Gf _) (h.bo i hi) (fun k hk=>.inl hk)
theorem abl {R:List Rw}{k:Nat}{a:Option Addr}{c:Nat}{cs cs':List (List Value)}(hr:R[k]?=some ⟨a,c,cs⟩)(hl:cs'.length=cs.length):R.map Rw.hdr=(R.set k ⟨a,c,cs'⟩).map Rw.hdr:=by
 refine List.ext_getElem? fun i=>?_;rw [BF,BF,List.getElem?_set];split
 · rename_i hki;subst hki;rw [hr];split
   · simp [Rw.hdr,hl]
   · have:=ko hr;omega
 · rfl
theorem afB {R:List Rw}{k:Nat}{a:Option Addr}{c n:Nat}{cs':List (List Value)}(hl:cs'.length=n):(R.map Rw.hdr).set k [.slice a n c]=(R.set k ⟨a,c,cs'⟩).map Rw.hdr:=by rw [List.map_set,Rw.hdr,hl]
theorem Lx (R:List Rw):(R.map Rw.hdr).flatten=R.map fun r=>Value.slice r.a r.cs.length r.c:=by
 induction R with
 | nil=>rfl
 | cons r R ih=>rw [List.map_cons,Ay,ih];rfl
theorem Bx.hc (h:Bx w0 w Z G L D)(i:Nat){A a:Option Addr}{c' c n:Nat}{cs:List (List Value)}(hi:L[i]?=some (.own base A c' e (Rp.sz (List α)) (R.map Rw.hdr)))(hr:R[k]?=some ⟨a,c,cs⟩)(hn:cs.length=n):Cells w (mU A) (nS A+k * Rp.sz (List α)) [.slice a n c]:=by
 have ho:=h.bo i hi;have hk:=ko hr;obtain ⟨g,rfl⟩:=ho.UO (by simp;omega);rw [Lx] at ho;intro j v hv;rcases j with _ | j
 · simp only [Eu,Dz] at hv;subst hv;show w.cell? ⟨g,0+k * 1+0,none⟩=_;rw [show 0+k * 1+0=k by omega];exact ho.cell (by rw [BF,hr];simp [hn])
 · simp at hv
theorem Qd {P:Program}{w w1:World}{ρ:Operand->Value}{d:Option Nat}{ty:TypeId}{pos:String}{af:Array Edge}{g:Option (Nat × Bool)}{α:Type}[Rp α]{base et:Nat}{A:Option Addr}{c n:Nat}{R:List Rw}{r:Rw}{t e:TypeId}{x y:Operand}{kk:IntKind}{i:Int}{z:Value}{by_ k:Nat}(ht:P.underlying t=some (.slice e))(he:TI P e z (Rp.sz (List α)) by_)(hx:ρ x=.slice A n c)(hy:ρ y=.int kk i)(hi:i=(k:Int))(ho:Own w1 base et (Rp.sz (List α)) A (R.map Rw.hdr).length c (R.map Rw.hdr).flatten)(hr:R[k]?=some r)(hn:R.length=n):Yl P ρ (.indexAddr t x y) d ty pos af g w (.pointer (some ⟨mU A,nS A+k * Rp.sz (List α),none⟩)):=by have hk:=ko hr;obtain ⟨g0,rfl⟩:=ho.UO (by simp;omega);exact xIdx (P:=P) (w:=w) (d:=d) (ty:=ty) (pos:=pos) (af:=af) (g:=g) k ht he hx hy hi (by omega)
theorem aeX {P:Program}{ρ:Operand->Value}{d:Option Nat}{ty:TypeId}{pos:String}{af:Array Edge}{g:Option (Nat × Bool)}(hL:Bx w0 w Z G L D)(i:Nat){t:TypeId}{x y:Operand}{z:Value}{by_:Nat}{A a:Option Addr}{c' c n:Nat}{r:Rw}(hi:L[i]?=some (.own base A c' e (Rp.sz (List α)) (R.map Rw.hdr)))(hr:R[k]?=some r)(ht:TI P t z 1 by_)(hx:ρ x=.pointer (some ⟨mU A,nS A+k * Rp.sz (List α),none⟩))(hy:ρ y=.slice a n c):Wm P ρ ⟨d,.store t x y,ty,pos,af,g⟩ w fun w'=>Bx w0 w' Z G (L.set i (.own base A c' e (Rp.sz (List α)) ((R.map Rw.hdr).set k [.slice a n c]))) D:=by
 have ho:=hL.bo i hi;have hk:=ko hr;obtain ⟨g0,rfl⟩:=ho.UO (by simp;omega);have hx':ρ x=.pointer (some ⟨g0,k,none⟩):=by rw [hx];simp [mU,nS,Rp.sz]
 have hcell:w.cell? ⟨g0,k,none⟩=some (.slice r.a r.cs.length r.c):=ho.cell (by rw [Lx,BF,hr];rfl);refine ⟨_,aay ht hx' hy rfl hcell (ho.frozen k),?_⟩;have h1:=ho.set k (.slice a n c);have hfl:(R.map Rw.hdr).flatten.set k (.slice a n c)=((R.map Rw.hdr).set k [.slice a n c]).flatten:=by
  clear hi ho hr hk hcell h1 hx hx'
  induction R generalizing k with
  | nil=>simp
  | cons q R ih=>
   cases k with
   | zero=>rw [List.map_cons,List.set_cons_zero,Ay,Ay];rfl
   | succ k=>
    rw [List.map_cons,List.set_cons_succ,Ay,Ay,<-ih];rfl
 rw [hfl] at h1;refine hL.Ul i hi h1 (by simp) rfl (Gc.setCell w g0 k _) (.inl rfl)
theorem aau {P:Program}{ρ:Operand->Value}{d:Option Nat}{ty:TypeId}{pos:String}{af:Array Edge}{g:Option (Nat × Bool)}{b1 e1:Nat}{t:TypeId}{s y:Operand}{z:Value}{by_:Nat}{A A':Option Addr}{c c' b' cy:Nat}{r:List (List α)}(q i j:Nat)(hL:Bx w0 w Z G L D)(hq:L[q]?=some (.own b1 A c e1 (Rp.sz (List α)) (R.map Rw.hdr)))(hi:L[i]?=some (.tT base e sz R none))(hqi:q≠i)(hj:D[j]?=some (.nu R m))(ht:P.underlying t=some (.slice e1))(hti:TI P e1 z (Rp.sz (List α)) by_)(hz:z.cells.size=Rp.sz (List α))(hb:by_<=100000)(hbase:b1<=w0.heap.size)(hs:ρ s=.slice A m.length c)(hx:ρ y=.slice A' 1 c'){iy:Nat}(hy:L[iy]?=some (.own b' A' cy e1 (Rp.sz (List α)) [[.slice none 0 0]]))(hr:Fw.app m [[]]=some r) :To P ρ ⟨d,.call { callee:=.builtin .append,args:=#[s,y],argTypes:=#[t,t] },ty,pos,af,g⟩ w fun v w'=>∃ A2 c2 R2,v=.slice A2 r.length c2/\Bx w0 w' Z G ((L.set q (.own b1 A2 c2 e1 (Rp.sz (List α)) (R2.map Rw.hdr))).set i (.tT base e sz R2 none)) (D.set j (.nu R2 r)):=by
 obtain ⟨hm,rfl⟩:=qy hr;have hE:=hL.d2 j hj;have ho:=hL.bo q hq;have hlen:(R.map Rw.hdr).length=m.length:=by rw [Dy,hE.len]
 rw [hlen] at ho;have hbb:(m.length+1) * by_<=140737488355328:=rE (Nat.mul_le_mul hm hb) (by decide);have hsl:=(hL.bo iy hy).sl;obtain ⟨v,w',h1,A2,c2,rfl,h2,h3,h4⟩:=TR (P:=P) (ρ:=ρ) (w:=w) (d:=d) (ty:=ty) (pos:=pos) (af:=af) (g:=g) b1 (m ++ [[]]).length ht hti hz (show 0 < 1 by decide) hs hx ho hsl (by simp [Value.oneCell']) (rE hbase hL.tQ.size) (by simp at hm;omega) hbb (by simp);refine ⟨_,w',h1,A2,c2,R ++ [⟨none,0,[]⟩],rfl,?_⟩;have hgetn:∀ {i:Nat}{r:Rw},(R ++ [(⟨none,0,[]⟩:Rw)])[i]?=some r->R[i]?=some r\/r=⟨none,0,[]⟩:=by
   intro i r hi;rw [List.getElem?_append] at hi;split at hi
   · exact .inl hi
   · right;rcases Nat.eq_zero_or_pos (i - R.length) with h0 | h0
     · rw [h0] at hi;simpa using hi.symm
     · rw [List.getElem?_eq_none (by simp;omega)] at hi;cases hi
 have h5:Bx w0 w Z G L (D.set j (.nu (R ++ [⟨none,0,[]⟩]) (m ++ [[]]))):=hL.JE j (d:=.nu _ _) (hE.app ⟨kL,kL⟩);have h6:=h5.Ul (ds:=(R ++ [(⟨none,0,[]⟩:Rw)]).map Rw.hdr) q hq h2 (by rw [Dy,Ij,Ij,hE.len];rfl) (by rw [List.map_append,List.flatten_append];rfl) h3 h4;have hi':(L.set q (.own b1 A2 c2 e1 (Rp.sz (List α)) ((R ++ [(⟨none,0,[]⟩:Rw)]).map Rw.hdr)))[i]?=some (.tT base e sz R none):=by rw [zu hqi];exact hi
 have hfam:=h6.at i hi';refine h6.put i hi' ((Ext.refl w').Gf _) ⟨fun i r h1 _=>?_,fun i j r s b h1 h2 _ _ h3 h4=>?_⟩ (fun b ⟨i,r,h1,_,h3⟩=>?_)
 · rcases hgetn h1 with h1 | rfl
   · exact hfam.1 i r h1 (by simp)
   · exact Own.nil w' base e sz
 · rcases hgetn h1 with h1 | rfl
   · rcases hgetn h2 with h2 | rfl
     · exact hfam.2 i j r s b h1 h2 (by simp) (by simp) h3 h4
     · cases h4
   · cases h3
 · rcases hgetn h1 with h1 | rfl
   · exact .inl ⟨i,r,h1,by simp,h3⟩
   · cases h3
theorem aak {F:Nat->Prop}{A:Option Addr}{c b1 e1:Nat}(ho:Own w b1 e1 (Rp.sz (List α)) A (R.map Rw.hdr).length c (R.map Rw.hdr).flatten)(hf:(It.tT base e (Rp.sz α) R none).p w)(hE:BK F w R m)(hA:∀ b,rowOf A=some b->F b)(hR:∀ b,(It.tT base e (Rp.sz α) R none).F b->F b):kD F w A c m:=by
 have hc:=ho.cap;rw [Dy,hE.len] at hc;refine ⟨hc.1,hc.2,fun h0=>?_⟩;obtain ⟨g,rfl⟩:=ho.UO (by rw [Dy,hE.len];exact h0);refine ⟨rfl,hA g rfl,(ho.row g rfl).2,fun i x hx=>?_⟩;obtain ⟨r,hr,hEx⟩:=hE.get hx;have hor:=hf.1 i r hr (by simp);refine ⟨[.slice r.a x.length r.c],fun j v hv=>?_,r.a,r.c,rfl,hor.WQ hEx fun b hb=>hR b ⟨i,r,hr,by simp,hb⟩⟩;rcases j with _ | j
 · simp only [Eu,Dz] at hv;subst hv;show w.cell? ⟨g,0+i * 1+0,none⟩=_;rw [show 0+i * 1+0=i by omega];exact ho.cell (by rw [Lx,BF,hr];simp [hEx.len])
 · simp at hv
theorem Bx.vw2 (h:Bx w0 w Z G L D)(q i j:Nat){A:Option Addr}{c b1 e1:Nat}(hq:L[q]?=some (.own b1 A c e1 (Rp.sz (List α)) (R.map Rw.hdr)))(hi:L[i]?=some (.tT base e (Rp.sz α) R none))(hj:D[j]?=some (.nu R m)):kD (fun _=>True) w A c m:=
 aak (h.bo q hq) (h.at i hi) ((h.d2 j hj).mv (.same fun _ _ _=>trivial)) (fun _ _=>trivial) (fun _ _=>trivial)
theorem Bx.afS {A:Option Addr}{c e1:Nat}(h:Bx w0 w Z G (.own w0.heap.size A c e1 (Rp.sz (List α)) (R.map Rw.hdr) :: .tT w0.heap.size e (Rp.sz α) R none :: Lr) D)(j:Nat)(hj:D[j]?=some (.nu R m)):Bx w0 w Z G Lr (.l A c m :: D.eraseIdx j):=by
 have hpw:=Bu.1 h.pw;have hpw2:=Bu.1 hpw.2;have h1:Bx w0 w Z G Lr (D.eraseIdx j):=(h.tl.tl).AR fun d hd=>(List.eraseIdx_sublist D j).subset hd;have ho:=(h.it _ (Bl ..)).1;have hf:=(h.it _ (yw _ (Bl ..))).1;refine h1.jX (d:=.l A c m) (aak ho hf ((h.tl.tl).d2 j hj) (fun b hb=>⟨fun hl=>?_,fun it hi=>hpw.1 it (yw _ hi) b hb⟩) (fun b hb=>⟨fun hl=>?_,fun it hi=>hpw2.1 it hi b hb⟩))
 · have:=(ho.row b hb).1;omega
 · obtain ⟨i,r,h1,h2,h3⟩:=hb;have:=((hf.1 i r h1 h2).row b h3).1;omega
end
theorem Pre.all {w:World}{Dc:List Da}(hD:∀ d ∈ Dc,d.ok (fun _=>True) w):Pre w (fun _=>True) [] Dc:={ it:=fun _ h=>(CF h).elim,z:=fun _ h=>(CF h).elim,pw:=List.Pairwise.nil,da:=hD }
theorem kD.all {α:Type}[Rp α]{F:Nat->Prop}{w:World}{a:Option Addr}{c:Nat}{l:List α}(h:kD F w a c l):kD (fun _=>True) w a c l:=h.mv (.same fun _ _ _=>trivial)
section
variable {α:Type}[Rp α]{w0 w w':World}{Z G:Nat->Prop}{L Lr:List It}{D:List Da}{base e sz:Nat}{R:List Rw}{m:List (List α)}{k:Nat}{x:List α}
theorem set_self {β:Type}{l:List β}{k:Nat}{x:β}(h:l[k]?=some x):l.set k x=l:=by
 refine List.ext_getElem? fun i=>?_;rw [List.getElem?_set];split
 · rename_i hki;subst hki;rw [h];split
   · rfl
   · have:=ko h;omega
 · rfl
theorem Bx.abt {a:Option Addr}{c:Nat}{cs:List (List Value)}(h:Bx w0 w Z G (.own base a c e sz cs :: .tT base e sz R (some k) :: Lr) D)(j p:Nat)(hj:D[j]?=some (.nu R m))(hp:D[p]?=some (.els cs x))(hR:R[k]?=some ⟨a,c,cs⟩) :Bx w0 w Z G (.tT base e sz R none :: Lr) D:=by
 have h1:=h.unf j p hj hp;rw [set_self hR] at h1;have h2:Bx w0 w Z G (.tT base e sz R none :: Lr) D:=⟨h1.tQ,h1.it,h1.pw,fun d hd=>by
  obtain ⟨i,hi⟩:=QY hd;by_cases hij:i=j
  · subst hij;rw [hj] at hi;injection hi with hi;subst hi;have h3:=h.d2 i hj;exact h3.mv (.same fun b hb _=>⟨hb.1,fun it hit=>by
     rcases oM.1 hit with rfl | hit
     · intro hf;obtain ⟨q,r,h4,_,h5⟩:=hf;by_cases hqk:q=k
       · subst hqk;rw [hR] at h4;injection h4 with h4;subst h4;exact hb.2 _ (Bl ..) h5
       · exact hb.2 _ (yw _ (Bl ..)) ⟨q,r,h4,by simpa using hqk,h5⟩
     · exact hb.2 it (yw _ (yw _ hit))⟩)
  · refine h1.da d (vM (i:=i) ?_);rw [zu (fun e=>hij e.symm)];exact hi⟩
 exact h2
theorem Bx.adO (h:Bx w0 w Z G L D)(α:Type)[Rp α](e1 e:TypeId):Bx w0 w Z G (.own w0.heap.size none 0 e1 (Rp.sz (List α)) (([]:List Rw).map Rw.hdr) :: .tT w0.heap.size e (Rp.sz α) [] none :: L) (.nu ([]:List Rw) ([]:List (List α)) :: D):=by have h1:Bx w0 w Z G (.tT w0.heap.size e (Rp.sz α) [] none :: L) D:=h.push (Ext.refl w) ⟨fun i r hi _=>by simp at hi,fun i j r s b hi=>by simp at hi⟩ (fun k ⟨i,r,hi,_⟩=>by simp at hi);exact (h1.owN e1 (Rp.sz (List α))).jX (d:=.nu [] []) kL
theorem kD.X7 {F:Nat->Prop}{a A:Option Addr}{c C:Nat}{l r:List α}{i j:Nat}(h:kD F w a c l)(hij:i<=j)(hj:j<=l.length)(hr:(l.drop i).take (j - i)=r)(hA:(if c=i then a else a.map (·.add (i * Rp.sz α)))=A)(hC:c - i=C):kD F w A C r:=by subst hr hA hC;exact h.part hij hj
end
section
variable {w0 w w':World}{Z G:Nat->Prop}{L:List It}{D:List Da}
theorem QS {α:Type}(L:List α)(a b:List Nat):pick L (a ++ b)=pick L a ++ pick L b:=by
 induction a with
 | nil=>rfl
 | cons i a ih=>rw [List.cons_append,pick,pick,ih,Fh]
theorem Bx.pr (h:Bx w0 w Z G L D)(i r d:List Nat)(hn:nodup (i ++ r)=true):Pre w (HY w0 Z (pick L i ++ pick L r)) (pick L i) (pick D d):=by have h2:=(h.arr (i ++ r) hn).dp d;rw [QS] at h2;exact h2.pre h2.da
theorem Bx.cl (h:Bx w0 w Z G L D)(i r:List Nat)(hn:nodup (i ++ r)=true){Lc L1:List It}{D1:List Da}(k:Bx w w' (HY w0 Z (pick L i ++ pick L r)) (mW Lc) L1 D1)(e:pick L i=Lc):Bx w0 w' Z G (L1 ++ pick L r) (D1 ++ D):=by subst e;have h2:=h.arr (i ++ r) hn;rw [QS] at h2;exact h2.call k
end
section
variable {P:Program}{N:Fz}{ops:Array Oper}{f:Fr}{w w0:World}{n:Nat}{K:KK}{Lb:Array Bool}{T:List Nat}{Z G:Nat->Prop}{L:List It}{D:List Da}{S1 S:World->Prop}
theorem Qm {Q:Post}{i:Nat}(h:Bx w0 w Z G L D)(i1 d1 i2 d2 T:List Nat)(hm:P.follows .mixedOrders=true)(k:oL P N ops (fun u=>Bx w0 u Z G (pick L i1) (pick D d1)) (fun u=>Bx w0 u Z G (pick L i2) (pick D d2)) T ⟨Q.n,Q.p⟩ ops.size (Array.replicate ops.size false) f w.drew):WP P N (.region i ops true) Q f w:=
 Pn _ _ T hm k
theorem qJ {Q:Post}{i:Nat}(h:Bx w0 w Z G L D)(i1 d1 T:List Nat)(hm:P.follows .mixedOrders=true)(k:oL P N ops (fun u=>Bx w0 u Z G (pick L i1) (pick D d1)) (fun _=>True) T ⟨Q.n,Q.p⟩ ops.size (Array.replicate ops.size false) f w.drew):WP P N (.region i ops true) Q f w:=
 Pn _ _ T hm k
theorem sF {w:World}(h:S1 w):Cm S1 T (fun _=>True) Lb w:=⟨h,fun _=>trivial⟩
theorem tP (i:Nat){oi:Oper}{v:Value}(hi:ops[i]?=some oi)(hy:∀ w,(execOp (ev f) oi).run P w=.ok (.value v) w)(hS:Cm S1 T S Lb w)
 (k:oL P N ops S1 S T K n (Lb.setIfInBounds i true) (lH f oi.dst v) w) (hw:uL ops f oi.guard=true:=by exact rfl) (hc:may ops T Lb i=true:=by kernel_rfl):oL P N ops S1 S T K (n+1) Lb f w:=WS i hi hc hw hy hS k
theorem tU (i:Nat){oi:Oper}{v:Value}(hi:ops[i]?=some oi)(hy:∀ w,S1 w→(execOp (ev f) oi).run P w=.ok (.value v) w)(hS:Cm S1 T S Lb w)
 (k:oL P N ops S1 S T K n (Lb.setIfInBounds i true) (lH f oi.dst v) w) (hw:uL ops f oi.guard=true:=by exact rfl) (hc:may ops T Lb i=true:=by kernel_rfl):oL P N ops S1 S T K (n+1) Lb f w:=acv i hi hc hw hy hS k
theorem tS (dp i:Nat){oi:Oper}{v:Value}(hi:ops[i]?=some oi)(hy:∀ w,S w→(execOp (ev f) oi).run P w=.ok (.value v) w)(hS:Cm S1 T S Lb w)
 (k:oL P N ops S1 S T K n (Lb.setIfInBounds i true) (lH f oi.dst v) w) (hw:uL ops f oi.guard=true:=by exact rfl) (hc:may ops T Lb i=true:=by kernel_rfl) (hT:(T.all fun t=>SH ops dp t i)=true:=by kernel_rfl):oL P N ops S1 S T K (n+1) Lb f w:=Tz dp i hi hc hT hw hy hS k
end
abbrev Vi (n:Int):Value:=Value.int IntKind.i64 n
abbrev Vt (s:ByteArray):Value:=Value.string s
abbrev Pt (b:Nat):Value:=Value.pointer (some ⟨b,0,none⟩)
abbrev ad (b:Nat):Option Addr:=some ⟨b,0,none⟩
abbrev sn:Value:=Value.slice none 0 0
abbrev be:ByteArray:=ByteArray.empty
end Go.Fw
