/- Maps: lists of pairs stand for them. Over any program. -/
import Derived.Test.YtfglbdkfnphjgaaWx
set_option linter.unusedVariables false
namespace Go.Fw
open Go.RowKit
section
variable {κ ν:Type} [DecidableEq κ]
def mget:List (κ × ν)→κ→Option ν
 | [],_=>none
 | (a,b) :: l,k=>if k=a then some b else mget l k
def mput:List (κ × ν)→κ→ν→List (κ × ν)
 | [],k,v=>[(k,v)]
 | (a,b) :: l,k,v=>if k=a then (k,v) :: l else (a,b) :: mput l k v
def midx:List (κ × ν)→κ→Nat→Option (Nat × ν)
 | [],_,_=>none
 | (a,b) :: l,k,i=>if k=a then some (i,b) else midx l k (i+1)
theorem midx_get:∀ (l:List (κ × ν)) (k:κ) (i:Nat),(midx l k i).map (·.2)=mget l k
 | [],_,_=>rfl
 | (a,b) :: l,k,i=>by
  unfold midx mget
  split
  · rfl
  · exact midx_get l k (i+1)
theorem midx_none:∀ (l:List (κ × ν)) (k:κ) (v:ν) (i:Nat),midx l k i=none→mput l k v=l ++ [(k,v)]
 | [],_,_,_,_=>rfl
 | (a,b) :: l,k,v,i,h=>by
  unfold midx at h
  unfold mput
  split at h
  · cases h
  · rename_i hne
    rw [if_neg hne,midx_none l k v (i+1) h];rfl
theorem midx_some:∀ (l:List (κ × ν)) (k:κ) (v:ν) (i j:Nat) (u:ν),midx l k i=some (j,u)→∃ pre post,l=pre ++ (k,u) :: post∧i+pre.length=j∧mput l k v=pre ++ (k,v) :: post
 | (a,b) :: l,k,v,i,j,u,h=>by
  unfold midx at h
  unfold mput
  split at h
  · rename_i he
    simp only [Option.some.injEq,Prod.mk.injEq] at h
    obtain ⟨rfl,rfl⟩:=h
    subst he
    exact ⟨[],l,rfl,rfl,by rw [if_pos rfl];rfl⟩
  · rename_i hne
    obtain ⟨pre,post,h1,h2,h3⟩:=midx_some l k v (i+1) j u h
    exact ⟨(a,b) :: pre,post,by rw [h1];rfl,by rw [List.length_cons];omega,by rw [if_neg hne,h3];rfl⟩
theorem mget_put (l:List (κ × ν)) (k k':κ) (v:ν):mget (mput l k v) k'=if k'=k then some v else mget l k':=by
 induction l with
 | nil=>simp [mput,mget]
 | cons a l ih=>
  obtain ⟨a,b⟩:=a
  unfold mput
  split
  · rename_i h;subst h
    by_cases h:k'=k <;> simp [mget,h]
  · rename_i h
    by_cases h1:k'=a
    · subst h1;simp [mget,Ne.symm h]
    · simp only [mget,if_neg h1,ih]
end
section
variable {P:Program} {w:World} {ρ:Operand→Value} {d:Option Nat} {ty:TypeId} {pos:String} {af:Array Edge} {g:Option (Nat × Bool)}
end
def Mp {κ ν:Type} (ek:κ→Value) (ev:ν→Value) (w:World) (b:Nat) (l:List (κ × ν)):Prop:=
 ∃ ents clock,w.heap[b]?=some (.map ents clock)∧ents.toList.map (fun e=>(e.key,e.val))=l.map (fun p=>(ek p.1,ev p.2))
structure FK {κ:Type} [DecidableEq κ] (P:Program) (kt:TypeId) (ek:κ→Value):Prop where
 find:∀ {ν:Type} (ev:ν→Value) (k:κ) (l:List (κ × ν)) (ents:List MapEntry) (w:World),ents.map (fun e=>(e.key,e.val))=l.map (fun p=>(ek p.1,ev p.2))→(Instr.findKey kt (ek k) ents).run P w=.ok ((midx l k 0).map (fun p=>(p.1,ev p.2))) w
 chk:∀ (emp:Bool) (k:κ) (w:World),(Instr.checkKey emp 10000 kt (ek k)).run P w=.ok () w
 bits:∀ (k:κ),Instr.sameBits 10000 (ek k) (ek k)=true
abbrev evI (v:Int):Value:=.int .i64 v
abbrev evB (v:Bool):Value:=.bool v
def ekT (k:ByteArray):Value:=.string k
theorem fk_txt {P:Program} {kt:TypeId} (h:P.underlying kt=some .string):FK P kt ekT:=by
 refine ⟨fun ev k l ents w he=>?_,fun emp k w=>?_,fun k=>?_⟩
 · have key:∀ (l:List (ByteArray × _)) (ents:List MapEntry) (i:Nat),ents.map (fun e=>(e.key,e.val))=l.map (fun p=>(ekT p.1,ev p.2))→Instr.findNow .string (ekT k) ents i=some ((midx l k i).map (fun p=>(p.1,ev p.2))):=by
    intro l
    induction l with
    | nil=>intro ents i he;rw [List.map_nil,List.map_eq_nil_iff] at he;subst he;rfl
    | cons a l ih=>
     intro ents i he
     match ents,he with
     | e :: es,he=>
      simp only [List.map_cons,List.cons.injEq,Prod.mk.injEq] at he
      obtain ⟨⟨h1,h2⟩,h3⟩:=he
      unfold Instr.findNow
      rw [h1]
      simp only [ekT,Instr.sameNow]
      rw [beq_toListBytes,beq_tb]
      by_cases hk:k=a.1
      · simp only [decide_eq_true hk,midx,if_pos hk,h2,Option.map_some];try rfl
      · simp only [decide_eq_false hk,midx,if_neg hk]
        exact ih es (i+1) h3
   unfold Instr.findKey
   rw [Sem.run_bind,run_underlying h w]
   simp only [Result.andThen_ok,key l ents 0 he]
   rfl
 · unfold Instr.checkKey
   rw [Sem.run_bind,run_underlying h w]
   simp [ekT]
 · simp only [ekT,Instr.sameBits]
   rw [beq_toListBytes,beq_tb];simp
theorem run_getObj_m {P:Program} {w:World} {b:Nat} {es:Array MapEntry} {k:Nat} (h:w.heap[b]?=some (.map es k)):(getObj b).run P w=.ok (.map es k) w:=by simp [getObj,Sem.run,h]
section
variable {P:Program} {w:World} {ρ:Operand→Value} {d:Option Nat} {ty:TypeId} {pos:String} {af:Array Edge} {g:Option (Nat × Bool)}
variable {κ ν:Type} [DecidableEq κ] {ek:κ→Value} {ev:ν→Value}
theorem run_look {t kt et:TypeId} {b:Nat} {l:List (κ × ν)} {k:κ} {z:ν} {ok:Bool} (ht:P.underlying t=some (.map kt et)) (hk:FK P kt ek) (hz:(zeroValue et).run P w=.ok (ev z) w) (hm:Mp ek ev w b l) :
  (Instr.lookup t (.map (some b)) (ek k) ok).run P w=.ok (if ok then .tuple #[ev ((mget l k).getD z),.bool (mget l k).isSome] else ev ((mget l k).getD z)) w:=by
 obtain ⟨ents,clock,h1,h2⟩:=hm
 have ro:(getObj b).run P w=.ok (.map ents clock) w:=run_getObj_m h1
 have hf:=hk.find ev k l ents.toList w h2
 have hg:=midx_get l k 0
 unfold Instr.lookup
 simp only [Sem.run_bind,run_underlying ht,Result.andThen_ok,ro,Sem.run_pure,hk.chk,hf]
 cases hq:midx l k 0 with
 | none=>
  rw [hq] at hg
  rw [← hg]
  simp [hz]
 | some q=>
  rw [hq] at hg
  rw [← hg]
  simp
theorem xLook {t kt et:TypeId} {x y:Operand} {b:Nat} {l:List (κ × ν)} {k:κ} {z:ν} (ht:P.underlying t=some (.map kt et)) (hk:FK P kt ek) (hz:(zeroValue et).run P w=.ok (ev z) w) (hm:Mp ek ev w b l) (hx:ρ x=.map (some b)) (hy:ρ y=ek k) :
  Yl P ρ (.lookup t x y true) d ty pos af g w (.tuple #[ev ((mget l k).getD z),.bool (mget l k).isSome]):=by
 have:=run_look (ok:=true) (k:=k) ht hk hz hm
 simp [Yl,execOp,hx,hy,this]
theorem xLook1 {t kt et:TypeId} {x y:Operand} {b:Nat} {l:List (κ × ν)} {k:κ} {z:ν} (ht:P.underlying t=some (.map kt et)) (hk:FK P kt ek) (hz:(zeroValue et).run P w=.ok (ev z) w) (hm:Mp ek ev w b l) (hx:ρ x=.map (some b)) (hy:ρ y=ek k) :
  Yl P ρ (.lookup t x y false) d ty pos af g w (ev ((mget l k).getD z)):=by
 have:=run_look (ok:=false) (k:=k) ht hk hz hm
 simp [Yl,execOp,hx,hy,this]
theorem tUpd {t kt et:TypeId} {x y v:Operand} {b:Nat} {l:List (κ × ν)} {k:κ} {u:ν} (ht:P.underlying t=some (.map kt et)) (hk:FK P kt ek) (hm:Mp ek ev w b l) (hx:ρ x=.map (some b)) (hy:ρ y=ek k) (hv:ρ v=ev u) :
  ∃ w',St P ρ (.mapUpdate t x y v) d ty pos af g w w'∧Mp ek ev w' b (mput l k u)∧Chg b w w':=by
 obtain ⟨ents,clock,h1,h2⟩:=hm
 have ro:(getObj b).run P w=.ok (.map ents clock) w:=run_getObj_m h1
 have hf:=hk.find ev k l ents.toList w h2
 have hb:b < w.heap.size:=(Array.getElem?_eq_some_iff.1 h1).1
 have so:∀ o:Obj,(setObj b o).run P w=.ok () { w with heap:=w.heap.setIfInBounds b o }:=fun o=>by simp [setObj,Sem.run,h1]
 have chg:∀ o:Obj,Chg b w { w with heap:=w.heap.setIfInBounds b o }:=fun o=>
  ⟨rfl,rfl,rfl,by simp,fun i hi hne=>by simp only;rw [Array.getElem?_setIfInBounds_ne (by simpa using hne.symm)]⟩
 have at':∀ o:Obj,({ w with heap:=w.heap.setIfInBounds b o }:World).heap[b]?=some o:=fun o=>by simp [hb]
 cases hq:midx l k 0 with
 | none=>
  rw [hq] at hf
  refine ⟨_,?_,⟨ents.push { key:=ek k,val:=ev u,born:=clock },clock+1,at' _,?_⟩,chg _⟩
  · simp only [St,execOp,Instr.mapUpdate,hx,hy,hv,Sem.run_bind,run_underlying ht,Result.andThen_ok,ro,hk.chk,hf,Option.map_none,so]
    rfl
  · rw [midx_none l k u 0 hq]
    simp [h2]
 | some q=>
  obtain ⟨j,u0⟩:=q
  rw [hq] at hf
  obtain ⟨pre,post,e1,e2,e3⟩:=midx_some l k u 0 j u0 hq
  have hj:j=pre.length:=by omega
  subst hj
  have hlen:ents.toList.length=l.length:=by have:=congrArg List.length h2;simpa using this
  have hent:∃ e,ents[pre.length]?=some e∧e.key=ek k:=by
    have h3:(ents.toList.map (fun e=>(e.key,e.val)))[pre.length]?=some (ek k,ev u0):=by rw [h2,e1];simp
    rw [List.getElem?_map] at h3
    cases he:ents.toList[pre.length]? with
    | none=>rw [he] at h3;cases h3
    | some e=>
      rw [he] at h3
      simp only [Option.map_some,Option.some.injEq,Prod.mk.injEq] at h3
      exact ⟨e,by simpa using he,h3.1⟩
  obtain ⟨e,he1,he2⟩:=hent
  refine ⟨_,?_,⟨ents.modify pre.length fun e=>{ e with key:=ek k,val:=ev u },clock,at' _,?_⟩,chg _⟩
  · have hst:(Instr.keyThatStays (((ents[pre.length]?).map (·.key)).getD (ek k)) (ek k)).run P w=.ok (ek k) w:=by
      rw [he1]
      simp [Instr.keyThatStays,he2,hk.bits]
    simp only [St,execOp,Instr.mapUpdate,hx,hy,hv,Sem.run_bind,run_underlying ht,Result.andThen_ok,ro,hk.chk,hf,Option.map_some,hst,so]
    rfl
  · rw [Array.toList_modify,e3]
    refine List.ext_getElem? fun i=>?_
    rw [List.getElem?_map,List.getElem?_map,List.getElem?_modify]
    have h3:∀ i:Nat,(ents.toList[i]?).map (fun e:MapEntry=>(e.key,e.val))=(l[i]?).map (fun p:κ × ν=>(ek p.1,ev p.2)):=fun i=>by rw [← List.getElem?_map,← List.getElem?_map,h2]
    have h4:=h3 i
    rw [e1] at h4
    rcases Nat.lt_trichotomy i pre.length with hi | hi | hi
    · rw [List.getElem?_append_left hi] at h4 ⊢
      have hne:¬ pre.length=i:=by omega
      simpa [hne] using h4
    · subst hi
      have he1':ents.toList[pre.length]?=some e:=by simpa using he1
      simp [he1']
    · obtain ⟨m,rfl⟩:∃ m,i=pre.length+1+m:=⟨i - pre.length - 1,by omega⟩
      have a1:(pre ++ (k,u0) :: post)[pre.length+1+m]?=post[m]?:=by
       rw [List.getElem?_append_right (by omega),show pre.length+1+m - pre.length=m+1 by omega];rfl
      have a2:(pre ++ (k,u) :: post)[pre.length+1+m]?=post[m]?:=by
       rw [List.getElem?_append_right (by omega),show pre.length+1+m - pre.length=m+1 by omega];rfl
      rw [a1] at h4
      rw [a2,← h4]
      have hne:¬ pre.length=pre.length+1+m:=by omega
      simp [hne]
end
theorem Mp.same {κ ν:Type} {ek:κ→Value} {ev:ν→Value} {w w':World} {b:Nat} {l:List (κ × ν)} (h:Mp ek ev w b l) (e:w'.heap[b]?=w.heap[b]?):Mp ek ev w' b l:=by
 obtain ⟨ents,clock,h1,h2⟩:=h
 exact ⟨ents,clock,by rw [e];exact h1,h2⟩
theorem Mp.lt {κ ν:Type} {ek:κ→Value} {ev:ν→Value} {w:World} {b:Nat} {l:List (κ × ν)} (h:Mp ek ev w b l):b < w.heap.size:=by
 obtain ⟨ents,clock,h1,h2⟩:=h
 exact (Array.getElem?_eq_some_iff.1 h1).1
def It.map {κ ν:Type} (ek:κ→Value) (ev:ν→Value) (b:Nat) (l:List (κ × ν)):It where
 F k:=k=b
 p w:=Mp ek ev w b l
 bd w h k hk:=by subst hk;exact h.lt
 st w w' h k _:=h.same (k b rfl)
section
variable {P:Program} {w0 w w':World} {Z G:Nat→Prop} {L:List It} {D:List Da} {ρ:Operand→Value} {d:Option Nat} {ty:TypeId} {pos:String} {af:Array Edge} {g:Option (Nat × Bool)}
theorem zv_of {t:TypeId} {z:Value} {s b:Nat} (h:TI P t z s b):(zeroValue t).run P w=.ok z w:=by
 obtain ⟨i,h1,h2,_,_⟩:=h
 simp [zeroValue,typeInfo,h1,h2]
theorem Bx.mp (h:Bx w0 w Z G L D) (i:Nat) {κ ν:Type} {ek:κ→Value} {ev:ν→Value} {b:Nat} {l:List (κ × ν)} (hi:L[i]?=some (.map ek ev b l)):Mp ek ev w b l:=h.at i hi
theorem aMapB (hL:Bx w0 w Z G L D) {κ ν:Type} (ek:κ→Value) (ev:ν→Value) {t:TypeId} {kt et:TypeId} (ht:P.underlying t=some (.map kt et)) :
  To P ρ ⟨d,.makeMap t none,ty,pos,af,g⟩ w fun v w'=>∃ b,v=.map (some b)∧Bx w0 w' Z G (.map ek ev b ([]:List (κ × ν)) :: L) D:=
 ⟨_,_,by simp [execOp,Instr.makeMap],_,rfl,hL.push ((Ext.refl w).alloc _) ⟨#[],0,heap_alloc_new w _,rfl⟩ (fun k hk=>by have hk:k=w.heap.size:=hk;omega)⟩
theorem tUpdB (hL:Bx w0 w Z G L D) (i:Nat) {κ ν:Type} [DecidableEq κ] {ek:κ→Value} {ev:ν→Value} {t kt et:TypeId} {x y v:Operand} {b:Nat} {l:List (κ × ν)} {k:κ} {u:ν} (hi:L[i]?=some (.map ek ev b l)) (ht:P.underlying t=some (.map kt et)) (hk:FK P kt ek) (hx:ρ x=.map (some b)) (hy:ρ y=ek k) (hv:ρ v=ev u) :
  ToS P ρ ⟨d,.mapUpdate t x y v,ty,pos,af,g⟩ w fun w'=>Bx w0 w' Z G (L.set i (.map ek ev b (mput l k u))) D:=by
 obtain ⟨w',h1,h2,h3⟩:=tUpd (P:=P) (ρ:=ρ) (d:=d) (ty:=ty) (pos:=pos) (af:=af) (g:=g) ht hk (hL.mp i hi) hx hy hv
 exact ⟨w',h1,hL.put i hi ⟨h3.os,h3.tape,h3.output,h3.size,fun k hk hn=>h3.block k hk (by intro e;injection e with e;exact hn e)⟩ h2 (fun k hk=>.inl hk)⟩
end
end Go.Fw
