/- What changes an activation: its statement, one word, a row that is cleared. -/
import Derived.Test.YtfglbdkfnphjgaaZ19
import Derived.Test.YtfglbdkfnphjgaaZ5
import Derived.RangeFuncLeaves
import Derived.RangeFuncRecord
import Derived.RangeFuncCalls
import Derived.TacticsIn
import Derived.OrdersIn
set_option linter.unusedVariables false
set_option maxRecDepth 4000
set_option maxHeartbeats 12800000
namespace Go.Proofs.Ytfglbdkfnphjgaa
open Go.RowKit Go.Fw
section
variable {w w0:World} {Z G:Nat→Prop} {L:List It} {D:List Da} {x:Ao} {g:tZ}
theorem Mc (h:Bx w0 w Z G L D) (i:Nat) {g':tZ} (hi:L[i]?=some (It.act x g)) {b:Nat} (hb:(It.act x g).F b) (ns:Array Value) (hp:(It.act x g').p (w.setRow b ns)):Bx w0 (w.setRow b ns) Z G (L.set i (It.act x g')) D:=by
 have hc:=Dw.setRow w b ns
 exact h.put i hi ⟨hc.os,hc.tape,hc.output,hc.size,fun k hk hn=>hc.block k hk (by intro e;injection e with e;exact hn (by subst e;exact hb))⟩ hp (fun k hk=>.inl hk)
theorem zl {b k:Nat} {ns:Array Value} (h:k≠b):(w.setRow b ns).heap[k]?=w.heap[k]?:=setRow_other w b k ns h
theorem FQ.set {R:List Nat} {m:List (List Int)} {k r:Nat} {l:List Int} (h:FQ w R m) (hn:R.Nodup) (hr:R[k]?=some r):FQ (w.setRow r (l.map V).toArray) R (m.set k l):=by
 induction R generalizing m k with
 | nil=>simp at hr
 | cons a R ih=>
  cases m with
  | nil=>exact h.elim
  | cons q m=>
   have hn2:=List.nodup_cons.1 hn
   cases k with
   | zero=>
    simp only [List.getElem?_cons_zero,Option.some.injEq] at hr
    subst hr
    exact ⟨h.1.setRow _,h.2.st fun b hb=>zl (fun e=>hn2.1 (by rw [← e];exact hb))⟩
   | succ k=>
    have hr':R[k]?=some r:=by simpa using hr
    refine ⟨?_,ih h.2 hn2.2 hr'⟩
    have:=h.1
    unfold mI at this ⊢
    rw [zl (fun e=>hn2.1 (by rw [e];exact List.mem_of_getElem? hr'))]
    exact this
theorem KS:∀ {R:List Nat} {m:List (List Int)} {k:Nat} {l l':List Int},m[k]?=some l→l'.length=l.length→FJ R (m.set k l')=FJ R m
 | _ :: _,_ :: _,0,l,l',h,e=>by
  simp only [List.getElem?_cons_zero,Option.some.injEq] at h
  subst h
  simp only [List.set_cons_zero,FJ,e]
 | r :: R,q :: m,k+1,l,l',h,e=>by
  simp only [List.set_cons_succ,FJ]
  rw [KS (R:=R) (k:=k) (by simpa using h) e]
 | [],_,_,_,_,_,_=>by simp [FJ]
 | _ :: _,[],_,_,_,h,_=>by simp at h
theorem F7 (h:(It.act x g).p w) {k r:Nat} {l l':List Int} (hr:x.R[k]?=some r) (hk:g.ws[k]?=some l) (hl:l'.length=l.length):(It.act x { g with ws:=g.ws.set k l' }).p (w.setRow r (l'.map V).toArray):=by
 obtain ⟨h1,h2,h3,h4,h5,h6,h7,h8⟩:=h
 have hm:=List.mem_of_getElem? hr
 refine ⟨?_,h2.set h7 hr,?_,h4,h5,h6,h7,fun q hq=>?_⟩
 · have e:(g.ws.set k l').length=g.ws.length:=List.length_set
   show mI _ x.b 120 #[V g.f,V g.st,.slice x.A (g.ws.set k l').length x.c]
   rw [e]
   unfold mI at h1 ⊢
   rw [zl (fun e=>h4 (by rw [e];exact hm))]
   exact h1
 · show Go.Fw.Own _ 0 22 1 x.A (g.ws.set k l').length x.c (FJ x.R (g.ws.set k l'))
   rw [List.length_set,KS hk hl]
   exact Go.Fw.Own.same h3 fun b hb=>zl (fun e=>h6 r hm (by rw [← e];exact hb))
 · rcases List.mem_or_eq_of_mem_set hq with hq | rfl
   · exact h8 q hq
   · rw [hl];exact h8 l (List.mem_of_getElem? hk)
variable {ρ:Operand→Value} {d:Option Nat} {ty:TypeId} {pos:String} {af:Array Edge} {gd:Option (Nat × Bool)} {p y:Operand}
theorem Ri (hL:Bx w0 w Z G L D) (i:Nat) {id:Int} (hi:L[i]?=some (It.act x g)) (hx:ρ p=.pointer (some ⟨x.b,0+1,none⟩)) (hy:ρ y=V id) :
  QI Try.prog ρ ⟨d,.store 3 p y,ty,pos,af,gd⟩ w fun w'=>Bx w0 w' Z G (L.set i (It.act x { g with st:=id })) D:=by
 have h:=hL.at i hi
 have hB:=It.zf h
 obtain ⟨q,hi1,hi2,hi3,hi4⟩:=mP
 have hst:=run_storeCells_at (P:=Try.prog) x.b 1 120 [V id] 0 _ w hB (by show 1+0+1≤3;omega) (fun v hv=>by rcases List.mem_singleton.1 hv with rfl;rfl)
 obtain ⟨h1,h2,h3,h4,h5,h6,h7,h8⟩:=h
 refine ⟨w.setRow x.b #[V g.f,V id,.slice x.A g.ws.length x.c],?_,Mc hL i hi (.inl rfl) _ ⟨hB.setRow _,h2.st fun b hb=>zl (fun e=>h4 (by rw [← e];exact hb)),Go.Fw.Own.same h3 fun b hb=>zl (fun e=>h5 (by rw [← e];exact hb)),h4,h5,h6,h7,h8⟩⟩
 have hst':(storeCells ⟨x.b,1,none⟩ [V id] 0).run Try.prog w=.ok () (w.setRow x.b #[V g.f,V id,.slice x.A g.ws.length x.c]):=hst
 simp [execOp,hx,Instr.storeAt,Instr.sureAddr,storeVar,sizeOf,typeInfo,hi1,hi3,hst',hy,Value.cells]
theorem Jq (hL:Bx w0 w Z G L D) (i:Nat) {k j r:Nat} {l:List Int} {n:Int} (hi:L[i]?=some (It.act x g)) (hr:x.R[k]?=some r) (hk:g.ws[k]?=some l) (hj:j < l.length) (hx:ρ p=.pointer (some ⟨r,j,none⟩)) (hy:ρ y=V n) :
  QI Try.prog ρ ⟨d,.store 3 p y,ty,pos,af,gd⟩ w fun w'=>Bx w0 w' Z G (L.set i (It.act x { g with ws:=setW g.ws (k,j) n })) D:=by
 have h:=hL.at i hi
 obtain ⟨r',hr',hB,_⟩:=It.zU h hk
 rw [hr] at hr'
 obtain rfl:=Option.some.inj hr'
 obtain ⟨q,hi1,hi2,hi3,hi4⟩:=mP
 have hst:=run_storeCells_at (P:=Try.prog) r j 3 [V n] 0 _ w hB (by simp;omega) (fun v hv=>by rcases List.mem_singleton.1 hv with rfl;rfl)
 have e:((l.map V).toArray.toList.take (j+0) ++ [V n] ++ (l.map V).toArray.toList.drop (j+0+[V n].length)).toArray=((l.set j n).map V).toArray:=by
  congr 1
  rw [List.map_set,List.set_eq_take_append_cons_drop]
  simp [hj]
 rw [e] at hst
 have hw:setW g.ws (k,j) n=g.ws.set k (l.set j n):=by simp [setW,List.getD_eq_getElem?_getD,hk]
 rw [hw]
 refine ⟨_,?_,Mc hL i hi (.inr (.inr (List.mem_of_getElem? hr))) _ (F7 h hr hk List.length_set)⟩
 simp [execOp,hx,Instr.storeAt,Instr.sureAddr,storeVar,sizeOf,typeInfo,hi1,hi3,hst,hy,Value.cells]
end
end Go.Proofs.Ytfglbdkfnphjgaa
set_option linter.unusedVariables false
namespace Go.Fw
open Go.RowKit
def It.obj (b:Nat) (o:Obj):It where
 F k:=k=b
 p w:=w.heap[b]?=some o
 bd w h k hk:=by subst hk;exact (Array.getElem?_eq_some_iff.1 h).1
 st w w' h k _:=by rw [k b rfl];exact h
section
variable {w0 w w':World} {Z G:Nat→Prop} {L:List It} {D:List Da}
theorem Bx.putObj (h:Bx w0 w Z G L D) (i:Nat) {b:Nat} {o:Obj} (o':Obj) (hi:L[i]?=some (.obj b o)):Bx w0 (w.putObj b o') Z G (L.set i (.obj b o')) D:=by
 have hb:w.heap[b]?=some o:=h.at i hi
 have hlt:=(Array.getElem?_eq_some_iff.1 hb).1
 exact h.put i hi ⟨rfl,rfl,rfl,by simp,fun k hk hn=>World.putObj_heap_other (fun e=>hn e)⟩ (World.putObj_heap_same hlt) (fun k hk=>.inl hk)
theorem Bx.alloc (h:Bx w0 w Z G L D) (o:Obj):Bx w0 (w.alloc o) Z G (.obj w.heap.size o :: L) D:=
 h.push ((Ext.refl w).alloc o) (World.alloc_heap_new w o) (fun k hk=>by have hk:k=w.heap.size:=hk;omega)
end
structure Wd (F:Fence):Prop where
 fn:∀ f,F.fn f
 dp:F.depth=none
 cal:∀ {P g args w R},Calls P g args w R→CallsIn F 0 P g args w R
theorem Wd.wide:Wd Fence.wide:=⟨fun _=>trivial,rfl,fun h=>callsIn_wide.2 h⟩
theorem Wd.rnd (l:Nat):Wd (Fence.wide.inRound l):=⟨fun _=>trivial,rfl,fun h=>CallsIn.inRound l (callsIn_wide.2 h)⟩
def VU (F:Fence) (P:Program) (N:Fz) (ops:Array Oper) (K:KK) (l:List Oper) (f:Fr) (w:World):Prop:=
 (∀ o ∈ l,uW N o=true)→∀ a,BX N f a→wpListIn F 0 P ops (BM N K) l a w
section
variable {F:Fence} {P:Program} {N:Fz} {ops:Array Oper} {K:KK} {rest:List Oper} {f:Fr} {w w':World} {d:Option Nat} {op:Op} {ty:TypeId} {pos:String} {af:Array Edge}
theorem YJ (h:K.n f w):VU F P N ops K [] f w:=fun _ _ ha=>wpListIn_nil ⟨f,ha,h⟩
theorem Ke {v:Value} (hF:Wd F) (hn:∀ c,op≠.defer c) (h:(execOp (ev f) ⟨d,op,ty,pos,af,none⟩).run P w=.ok (.value v) w') (k:VU F P N ops K rest (kF f d v) w'):VU F P N ops K (⟨d,op,ty,pos,af,none⟩ :: rest) f w:=by
 intro hok a ha
 have h1:=hok _ (List.mem_cons_self ..)
 refine wpListIn_plain rfl fun K' hK=>?_
 unfold Oper.wpIn
 refine ⟨fun f _=>hF.fn f,?_⟩
 rw [Oper.semAt_eq _ _ _ hn,ha.xD,h]
 exact hK _ _ (k (fun o ho=>hok o (List.mem_cons_of_mem _ ho)) _ (ha.put d (qG h1) v))
theorem WL {l:Nat} {args:Array Value} {R:Value→World→Prop} {xs:List Operand} {ts:Array TypeId} {x:Operand} (hx:ev f x=.func (.yield l) #[] #[]) (ha':(xs.map (ev f)).toArray=args) (hc:YieldAt Fence.wide 0 P l args w (qQ R))
  (k:∀ v w'',R v w''→VU Fence.wide P N ops K rest (kF f d v) w''):VU Fence.wide P N ops K (⟨d,.call { callee:=.value x,args:=xs.toArray,argTypes:=ts },ty,pos,af,none⟩ :: rest) f w:=by
 intro hok a ha
 have h1:=hok _ (List.mem_cons_self ..)
 refine wpListIn_plain rfl fun K' hK=>?_
 unfold Oper.wpIn
 refine ⟨fun f _=>trivial,?_⟩
 rw [Oper.semAt_eq _ _ _ (fun c=>by intro h;cases h),ha.xD]
 obtain ⟨fn,tmps,asq,bd,hy,hr⟩:=hc
 have he:(execOp (ev f) ⟨d,.call { callee:=.value x,args:=xs.toArray,argTypes:=ts },ty,pos,af,none⟩).run P w=.ok (.round l fn tmps asq bd) w:=by
  subst ha'
  simp [execOp,resolve,hx,invoke,Deferred.ofValue,hy]
 rw [he]
 refine ⟨fun h=>(by cases h),hr.mono fun e w'' he=>?_⟩
 obtain ⟨v,rfl,hR⟩:=he
 exact hK _ _ (k v w'' hR (fun o ho=>hok o (List.mem_cons_of_mem _ ho)) _ (ha.put d (qG h1) v))
theorem Yu {Q:Post} {i:Nat} {l:List Oper} (h:VU Fence.wide P N l.toArray ⟨Q.n,Q.p⟩ l f w):WP P N (.region i l.toArray false) Q f w:=by
 unfold WP
 intro hok a ha
 have hl:∀ o ∈ l,uW N o=true:=by
  simpa [Cw,Array.all_eq_true_iff_forall_mem] using hok
 refine Code.wp_mono (fun e a w q=>?_) (wpIn_wide.1 (wpIn_region_lit (n:=0) (h hl a ha)))
 cases e with
 | normal=>exact q
 | panic c=>exact q
 | _=>exact q.elim
end
abbrev mark (D:Nat):Deferred:={ target:=.collected D,args:=#[] }
abbrev ME (fn:FuncId) (tmps:Array Value) (ps:Array Tmp) (asq bd:Code) (D:Nat):Loop:={ state:=.ready,pending:=none,fn,tmps,params:=ps,assign:=asq,body:=bd,defers:=D }
end Go.Fw
set_option linter.unusedVariables false
set_option maxRecDepth 4000
set_option maxHeartbeats 12800000
namespace Go.Proofs.Ytfglbdkfnphjgaa
open Go.RowKit Go.Fw
theorem VN:jC Try.prog 119:=⟨_,Try.func119,by kernel_rfl,by kernel_rfl⟩
theorem Vx:jC Try.prog 133:=⟨_,Try.func133,by kernel_rfl,by kernel_rfl⟩
theorem Ot {P:Program} {w:World} {ρ:Operand→Value} {d:Option Nat} {ty:TypeId} {pos:String} {af:Array Edge} {g:Option (Nat × Bool)} {x:Operand} (v:Value) (h:ρ x=v):Yl P ρ (.assign x) d ty pos af g w v:=by rw [← h];rfl
theorem GD {P:Program} {w:World} {ρ:Operand→Value} {d:Option Nat} {ty:TypeId} {pos:String} {af:Array Edge} {g:Option (Nat × Bool)} {x:Operand} (v:Value) (h:ρ x=v):Yl P ρ (.move x) d ty pos af g w v:=by rw [← h];rfl
theorem UO {P:Program} {w:World} {ρ:Operand→Value} {d:Option Nat} {ty:TypeId} {pos:String} {af:Array Edge} {g:Option (Nat × Bool)} {fn:Fn} {caps:List Operand} {vs:List Value} (h:caps.map ρ=vs):Yl P ρ (.makeFunc fn #[] caps.toArray) d ty pos af g w (.func fn #[] vs.toArray):=by
 subst h
 simp [Yl,execOp,Instr.makeFunc]
theorem K6 {w:World} {A:Option Addr} {n c:Nat} {Z:Nat→Prop}:Calls Try.prog 119 #[.slice A n c] w (qQ fun v w'=>∃ b,v=.func (.func 133) #[] #[Pt b]∧Bx w w' Z (lS []) [.box b 87 #[.slice A n c]] []):=by
 have b:Bx w w Z (lS []) [] []:=Pre.bx ⟨fun _ h=>(by cases h),fun _ h=>(by cases h),List.Pairwise.nil,fun _ h=>(by cases h)⟩
 refine cf Try.func119 rfl ?_
 refine lM [(0,.slice A n c)] ⟨rfl,trivial⟩ fun av=>?_
 refine go ?_
 refine sV b (yY rfl) fun w1 b1 b=>?_
 refine jS (Ot .nilFunc rfl) ?_
 refine go ?_
 refine jS (UO (caps:=[_]) (vs:=[Pt b1]) rfl) ?_
 refine jS (Ot (.func (.func 133) #[] #[Pt b1]) rfl) ?_
 refine go ?_
 exact kU (jB rfl (lq (v:=.func (.func 133) #[] #[Pt b1]) rfl) ⟨b1,rfl,b⟩)
theorem Xb {I:Nat→World→Prop} {l n bx c:Nat} {A:Option Addr} {ps:Nat→Nat} (hb:∀ k w,I k w→mI w bx 87 #[.slice A n c])
   (he:∀ k w,k < n→I (k+1) w→A=some ⟨nN A,oU A,none⟩∧w.cell? ⟨nN A,oU A+k * 1,none⟩=some (Pt (ps k)))
   (hy:∀ k w,k < n→I (k+1) w→YieldAt Fence.wide 0 Try.prog l #[V (k:Int),Pt (ps k)] w (qQ fun v w'=>v=.bool true∧I k w')) {w:World} (h0:I n w) (hn:n≤1000) :
   Calls Try.prog 133 #[.func (.yield l) #[] #[],Pt bx] w (qQ fun v w'=>v=.tuple #[]∧I 0 w'):=by
 refine cf Try.func133 rfl ?_
 refine lM [(0,.func (.yield l) #[] #[]),(1,Pt bx)] ⟨rfl,rfl,trivial⟩ fun av=>?_
 refine go ?_
 refine LJ rfl (hb n w h0) rfl ?_
 refine Ym rfl ?_
 refine go ?_
 refine kE (fun aw f w'=>∃ k:Nat,aw=k∧k≤n∧Has f [(0,.func (.yield l) #[] #[]),(1,Pt bx),(3,V ((k:Int) - 1))]∧I k w')
   n ⟨n,rfl,Nat.le_refl _,⟨rfl,rfl,congrArg V (by unfold wr;exact QN (by omega) (by omega)),trivial⟩,h0⟩ ?_
 rintro aw f w1 ⟨k,rfl,hk,hf,hI⟩ J hJ
 obtain ⟨av,rfl⟩:=fV _ _ hf
 clear hf
 refine go ?_
 refine qy rfl (fun h=>?_) (fun h=>?_)
 · obtain ⟨k,rfl⟩:∃ m,aw=m+1:=⟨aw - 1,by omega⟩
   obtain ⟨hA,hc⟩:=he k w1 (by omega) hI
   rw [show (((k+1:Nat):Int) - 1)=(k:Int) by omega]
   refine EK ?_
   refine Ji ?_
   refine nS ?_
   refine Ji ?_
   refine Yu ?_
   refine Ke Wd.wide (fun _ h=>by cases h) (GD (.func (.yield l) #[] #[]) rfl) ?_
   refine Ke Wd.wide (fun _ h=>by cases h) (Ma rfl) ?_
   refine Ke Wd.wide (fun _ h=>by cases h) (RU rfl (hb _ _ hI) rfl) ?_
   refine Ke Wd.wide (fun _ h=>by cases h) (Ma rfl) ?_
   refine Ke Wd.wide (fun _ h=>by cases h) (KF k hA Try.underlying87 Nr rfl rfl (by omega) (by omega)) ?_
   refine Ke Wd.wide (fun _ h=>by cases h) (jP (a:=⟨nN A,oU A+k * 1,none⟩) Try.underlying117 rfl rfl hc) ?_
   refine WL (l:=l) (args:=#[V (k:Int),Pt (ps k)]) (xs:=[_,_]) rfl rfl (hy k w1 (by omega) hI) ?_
   rintro _ w2 ⟨rfl,hI2⟩
   refine Ke Wd.wide (fun _ h=>by cases h) (Ae rfl) (YJ ?_)
   refine go ?_
   refine hJ k _ _ (by omega) ⟨k,rfl,by omega,⟨rfl,rfl,congrArg V (by unfold wr;exact QN (by omega) (by omega)),trivial⟩,hI2⟩
 · obtain rfl:aw=0:=by omega
   refine go ?_
   refine ug ?_
   exact zi rfl ⟨rfl,hI⟩
end Go.Proofs.Ytfglbdkfnphjgaa
set_option linter.unusedVariables false
set_option maxRecDepth 4000
set_option maxHeartbeats 12800000
namespace Go.Proofs.Ytfglbdkfnphjgaa
open Go.RowKit Go.Fw
structure Rn where
 B:Nat
 rb:Nat
 s:SF
 src:jK
 st:Nat
 fr:Nat
 mo:Nat
structure ED where
 lA:Option Addr
 lC:Nat
 eA:Option Addr
 eC:Nat
 ec:List (List Value)
 oA:Option Addr
 oC:Nat
 oc:List (List Value)
abbrev oL (R:Rn) (m:ED) (n k h o:Nat):List Value:=[.slice R.s.a1 R.src.a.a.length R.s.c1,.slice R.s.a2 R.src.a.b.length R.s.c2,.slice R.s.a3 R.src.b.length R.s.c3,.slice R.s.a4 R.src.c.length R.s.c4,.slice m.lA n m.lC,V (h:Int),V (R.st:Int),V (R.fr:Int),V (R.mo:Int),.slice m.eA k m.eC,.slice m.oA o m.oC]
abbrev Mac (R:Rn) (m:ED) (ptrs:List Nat) (hist:List kV) (out:List Int):List It:=
 [.box R.rb 89 (oL R m ptrs.length (window hist R.fr R.mo).length hist.length out.length).toArray,.own R.B m.lA m.lC 117 1 (ptrs.map fun b=>[Pt b]),.own R.B m.eA m.eC 50 (Rp.sz kV) m.ec,.own R.B m.oA m.oC 3 (Rp.sz Int) m.oc]
abbrev tY (R:Rn) (m:ED) (hist:List kV) (out:List Int):List Da:=
 [.els m.ec (window hist R.fr R.mo),.els m.oc out,.l R.s.a1 R.s.c1 R.src.a.a,.l R.s.a2 R.s.c2 R.src.a.b,.l R.s.a3 R.s.c3 R.src.b,.l R.s.a4 R.s.c4 R.src.c]
def zO (w:World) (G:Nat→Prop):List Ao→List tZ→Prop
 | x :: xs,g :: gs=>((It.act x g).p w∧∀ b,(It.act x g).F b→¬ G b)∧zO w G xs gs
 | [],[]=>True
 | _,_=>False
theorem zO.len {w:World} {G:Nat→Prop}:∀ {xs:List Ao} {gs:List tZ},zO w G xs gs→xs.length=gs.length
 | _ :: _,_ :: _,h=>congrArg (·+1) (zO.len h.2)
 | [],[],_=>rfl
 | _ :: _,[],h=>h.elim
 | [],_ :: _,h=>h.elim
theorem zO.get {w:World} {G:Nat→Prop}:∀ {xs:List Ao} {gs:List tZ} {k:Nat} {g:tZ},zO w G xs gs→gs[k]?=some g→∃ x,xs[k]?=some x∧(It.act x g).p w
 | x :: _,_ :: _,0,g,h,e=>by simp only [List.getElem?_cons_zero,Option.some.injEq] at e;subst e;exact ⟨x,rfl,h.1.1⟩
 | _ :: _,_ :: _,k+1,g,h,e=>zO.get (k:=k) h.2 (by simpa using e)
 | [],[],_,_,_,e=>by simp at e
 | _ :: _,[],_,_,h,_=>h.elim
 | [],_ :: _,_,_,h,_=>h.elim
theorem zO.mv' {w0 w:World} {G G':Nat→Prop} (hc:Jm G w0 w) (hg:∀ b,b < w0.heap.size→G' b→G b):∀ {xs:List Ao} {gs:List tZ},zO w0 G xs gs→zO w G' xs gs
 | x :: _,g :: _,h=>by
  have hb:∀ b,(It.act x g).F b→b < w0.heap.size:=(It.act x g).bd w0 h.1.1
  exact ⟨⟨(It.act x g).st w0 w h.1.1 (fun b hF=>hc.block b (hb b hF) (h.1.2 b hF)) hc.size,fun b hF hG=>h.1.2 b hF (hg b (hb b hF) hG)⟩,zO.mv' hc hg h.2⟩
 | [],[],_=>trivial
 | _ :: _,[],h=>h.elim
 | [],_ :: _,h=>h.elim
def Now (w0 w:World) (A G:Nat→Prop) (R:Rn) (ptrs:List Nat) (x:Ao) (s:Sg):Prop:=∃ m:ED,Bx w0 w A G (Mac R m ptrs s.hist s.out ++ [It.act x s.a]) (tY R m s.hist s.out)
def XG (w0 w:World) (A G:Nat→Prop) (R:Rn) (ptrs:List Nat) (x:Ao) (s:Sg):Prop:=∃ more,Now w0 w A G R (ptrs ++ more) x s
end Go.Proofs.Ytfglbdkfnphjgaa
set_option linter.unusedVariables false
namespace Go.Fw
open Go.RowKit
section
variable {P:Program} {n:Nat} {fn:Func} {R:Value→World→Prop} {V:List PanicEntry→World→Prop}
theorem N7 {g:FuncId} {c:Code} {args:Array Value} {w:World} (hf:P.funcs[g]?=some fn) (hb:fn.body=some c)
  (h:Ls P (fn.ntmps,[]) c (bodyPostM Fence.wide 0 P fn (RP R V)) (xP args) w) (hs:Nat.ble args.size fn.ntmps=true:=by exact rfl) (hok:Cw (fn.ntmps,[]) c=true:=by kernel_rfl):Calls P g args w (RP R V):=
 callsIn_wide.1 (callsIn_of_wp_marks (n:=0) hf hb trivial ((wpIn_wide (n:=0)).2 (h hok _ (AL (Nat.le_of_ble_eq_true hs)))))
theorem MF {x y:Code} {f:Fr} {w:World} (hr:fn.results=#[])
  (h:WP P (n,[]) x ⟨fun f w=>Ls P (n,[]) y (bodyPostM Fence.wide 0 P fn (RP R V)) f w,fun _ _ _=>False,fun _ w=>R (.tuple #[]) w,fun _ c w=>V c w⟩ f w) :
  Ls P (n,[]) (.seq x y) (bodyPostM Fence.wide 0 P fn (RP R V)) f w:=by
 refine Ve h fun e a w q=>?_
 cases e with
 | normal=>obtain ⟨f,_,h2⟩:=q;exact h2.elim
 | exit i=>obtain ⟨f,_,h2⟩:=q;exact h2.elim
 | ret=>
  obtain ⟨f,h1,h2⟩:=q
  show LeavesInM Fence.wide 0 P fn a.tmps (RP R V) a.defers .returning w
  rw [h1.dfr]
  exact ⟨_,results_none hr _ P w,h2⟩
 | panic c=>
  obtain ⟨f,h1,h2⟩:=q
  show LeavesInM Fence.wide 0 P fn a.tmps (RP R V) a.defers (.panicking c) w
  rw [h1.dfr]
  exact h2
 | _=>exact q.elim
theorem Uc {B RF C:Code} {f:Fr} {w w0:World} {Z G:Nat→Prop} {L:List It→List Da→Prop} {KB:Fr→World→Prop} {KR:Nat→Fr→World→Prop} (hr:fn.results=#[])
  (hB:WP P (n,[]) B ⟨KB,fun _ _ _=>False,fun _ _=>False,fun _ _ _=>False⟩ f w)
  (hRF:∀ f w a,KB f w→BX (n,[]) f a→RF.wp P (fun e a' w'=>e=.normal∧∃ D,a'={ a with defers:=[mark D] }∧KR D f w') a w)
  (hC:∀ D f w,KR D f w→WP P (n,[mark D]) C ⟨fun _ w=>∃ X Y,L X Y∧Bx w0 w Z G (.obj D (.deferred (some [])) :: X) Y,fun _ _ _=>False,fun _ _=>False,fun _ _ _=>False⟩ f w)
  (fin:∀ w X Y,L X Y→Bx w0 w Z G X Y→R (.tuple #[]) w):Ls P (n,[]) (.seq (.seq B RF) C) (bodyPostM Fence.wide 0 P fn (RP R V)) f w:=by
 intro hok a ha
 simp only [Cw,Bool.and_eq_true] at hok
 unfold WP at hB hC
 refine wp_seq (wp_seq (Code.wp_mono (fun e a2 w2 q2=>?_) (hB hok.1.1 a ha)))
 cases e with
 | normal=>
  obtain ⟨f2,h2,q3⟩:=q2
  refine Code.wp_mono (fun e a3 w3 q4=>?_) (hRF f2 w2 a2 q3 h2)
  obtain ⟨rfl,D,rfl,q5⟩:=q4
  have h3:BX (n,[mark D]) f2 { a2 with defers:=[mark D] }:=⟨h2.size,h2.get,rfl⟩
  refine Code.wp_mono (fun e a4 w4 q6=>?_) (hC D f2 w3 q5 (zh C hok.2) _ h3)
  cases e with
  | normal=>
   obtain ⟨f4,h4,X,Y,hL,q7⟩:=q6
   show LeavesInM Fence.wide 0 P fn a4.tmps (RP R V) a4.defers .returning w4
   rw [h4.dfr]
   have hk:w4.heap[D]?=some (.deferred (some [])):=q7.at 0 rfl
   exact ⟨fun h=>(by cases h),.inl ⟨D,_,rfl,run_takeDeferred hk,.tuple #[],results_none hr a4.tmps P _,fin _ X Y hL (q7.putObj 0 (.deferred none) rfl).tl⟩⟩
  | exit i=>obtain ⟨f4,h4,q7⟩:=q6;exact q7.elim
  | ret=>obtain ⟨f4,h4,q7⟩:=q6;exact q7.elim
  | panic c=>obtain ⟨f4,h4,q7⟩:=q6;exact q7.elim
  | _=>exact q6.elim
 | exit i=>obtain ⟨f4,h4,q7⟩:=q2;exact q7.elim
 | ret=>obtain ⟨f4,h4,q7⟩:=q2;exact q7.elim
 | panic c=>obtain ⟨f4,h4,q7⟩:=q2;exact q7.elim
 | _=>exact q2.elim
end
theorem U2 {P:Program} {n:Nat} {w0 w:World} {Z G:Nat→Prop} {X:List It} {Da0:List Da} {Lx:List It→List Da→Prop} {f:Fr} {a:Act} {g:Operand} {ps:Array Tmp} {asq bd:Code} {gf:FuncId} {lb:List Value} {Q:Exit→Act→World→Prop} (ha:BX ⟨n,[]⟩ f a) (hg:ev f g=.func (.func gf) #[] lb.toArray) (hc:jC P gf) (hL:Bx w0 w Z G X Da0)
   (hcall:∀ l D fn w1,Bx w0 w1 Z G (.obj l (.loop (ME fn a.tmps ps asq bd D)) :: .obj D (.deferred (some [])) :: X) Da0→
    Calls P gf (.func (.yield l) #[] #[] :: lb).toArray w1 (qQ fun _ w2=>∃ X' D',Lx X' D'∧Bx w0 w2 Z G (.obj l (.loop (ME fn a.tmps ps asq bd D)) :: .obj D (.deferred (some [])) :: X') D'))
   (hQ:∀ D w3 X' D',Lx X' D'→Bx w0 w3 Z G (.obj D (.deferred (some [])) :: X') D'→Q .normal { a with defers:=[mark D] } w3):(Code.rangeFunc g ps asq bd).wp P Q a w:=by
 refine (wpIn_wide (n:=0)).1 (wpIn_rangeFunc fun fn _=>?_)
 have hev:a.eval g=.func (.func gf) #[] lb.toArray:=by rw [ha.xD];exact hg
 have h1:=(hL.alloc (.deferred (some []))).alloc (.loop (ME fn a.tmps ps asq bd w.heap.size))
 rw [World.size_alloc] at h1
 have hdf:a.defers=[]:=ha.dfr
 refine ⟨w.heap.size+1,[mark w.heap.size],_,{ target:=.fn (.func gf) lb.toArray,args:=#[.func (.yield (w.heap.size+1)) #[] #[]] },(w.alloc (.deferred (some []))).alloc (.loop (ME fn a.tmps ps asq bd w.heap.size)),gf,(.func (.yield (w.heap.size+1)) #[] #[] :: lb).toArray,(w.alloc (.deferred (some []))).alloc (.loop (ME fn a.tmps ps asq bd w.heap.size)),run_enterLoop_outer fn a.tmps ps asq bd,?_,fun _ _=>trivial,?_,fun h=>(by cases h),?_⟩
 · have hy:a.eval (.const (.func (.yield (w.heap.size+1)) #[] #[]))=.func (.yield (w.heap.size+1)) #[] #[]:=rfl
   simp [resolve,hev,hy,Deferred.ofValue]
 · simp [invoke,Di hc]
 · refine callsIn_wide.2 ((hcall _ _ _ _ h1).mono fun e w2 he=>?_)
   obtain ⟨v,rfl,X',D',hLx,h2⟩:=he
   have hl:=h2.at 0 rfl
   refine ⟨none,_,run_endLoop hl (by intro h;cases h),?_⟩
   have h3:=hQ _ _ X' D' hLx ((h2.putObj 0 (.loop { ME fn a.tmps ps asq bd w.heap.size with state:=.exhausted }) rfl).tl)
   rw [hdf]
   exact h3
section
variable {F:Fence} {P:Program} {N:Fz} {ops:Array Oper} {K:KK} {rest:List Oper} {f:Fr} {w w':World} {d:Option Nat} {op:Op} {ty:TypeId} {pos:String} {af:Array Edge}
end
def Et (ops:Array Oper):Bool:=ops.all fun o=>match o.op with | .defer _=>false | _=>true
theorem RO {P:Program} {l:Nat} {ops:Array Oper} {N:Fz} {K:KK} {i:Nat} {k:Act→World→Prop} {a:Act} {w:World} (hnd:Et ops=true) (h:wpOp P ops (BM N K) i k a w):wpOpIn (Fence.wide.inRound l) 0 P ops (BM N K) i k a w:=by
 unfold wpOp at h
 unfold wpOpIn
 cases ho:ops[i]? with
 | none=>rw [ho] at h;exact h
 | some o=>
  rw [ho] at h
  dsimp only at h ⊢
  split
  · rename_i hw
    rw [if_pos hw] at h
    have hn:∀ c,o.op≠.defer c:=fun c hc=>by
      have:=Array.all_eq_true_iff_forall_mem.1 hnd o (Array.mem_of_getElem? ho)
      rw [hc] at this
      cases this
    rcases h with h | ⟨_,b,v,hz⟩
    · refine ⟨fun f _=>trivial,?_⟩
      rw [Oper.semAt_eq _ _ _ hn]
      unfold Oper.wp at h
      generalize (execOp a.eval o).run P w=r at h
      cases r with
      | ok x w'=>
       cases x with
       | enter f args=>exact ⟨fun h=>(by cases h),CallsIn.inRound l (callsIn_wide.2 h)⟩
       | row row args=>exact ⟨fun h=>(by cases h),fun c cs _=>let ⟨v,w2,hr,hs⟩:=h c cs;⟨v,w2,hr,stepsIn_wide.2 hs⟩⟩
       | value v=>exact h
       | skip=>exact h
       | defer d=>exact h
       | _=>exact h.elim
      | halt x w'=>cases x <;> exact h
    · exact hz.elim
  · rename_i hw
    rw [if_neg hw] at h
    exact ⟨fun f _=>trivial,h⟩
theorem JX {P:Program} {l:Nat} {ops:Array Oper} {N:Fz} {K:KK} {S1 S:World→Prop} {T:List Nat} (hnd:Et ops=true):∀ (n:Nat) (L:Array Bool) (a:Act) (w:World),EF P ops (BM N K) S1 S T n L a w→wpAnyIn (Fence.wide.inRound l) 0 P .any ops (BM N K) n L a w
 | 0,_,_,_,h=>h
 | n+1,L,a,w,h=>⟨h.1,fun i hi=>wpOpIn_mono (fun a' w' h'=>JX hnd n _ a' w' h'.2) (RO hnd (h.2 i hi))⟩
theorem Mx {P:Program} {l ib:Nat} {ops:Array Oper} {N:Fz} {K:KK} {S1 S:World→Prop} {T:List Nat} {f:Fr} {a:Act} {w:World} (hm:P.follows .mixedOrders=true) (hnd:Et ops=true)
  (h:rH P N ops S1 S T K ops.size (Array.replicate ops.size false) f w.drew) (hok:∀ o ∈ ops.toList,uW N o=true) (ha:BX N f a):(Code.region ib ops true).wpIn (Fence.wide.inRound l) 0 P (BM N K.i) a w:=by
 unfold rH at h
 exact wpIn_region_any hm (JX hnd _ _ _ _ (h hok (Closed.start ops _) a ha))
theorem Om {P:Program} {w0 w:World} {l n ia ib jb:Nat} {la:List Oper} {lb:Array Oper} {S1 S:World→Prop} {T:List Nat} {r:Loop} {args:Array Value} {f f':Fr} {Z G:Nat→Prop} {X:List It} {D:List Da} {Lx:List It→List Da→Prop} (hL:Bx w0 w Z G (.obj l (.loop r) :: X) D) (hr:r.state=.ready) (hp:r.pending=none) (hs:args.size=r.params.size)
  (hf:BX ⟨n,[]⟩ f { tmps:=(r.params.zip args).foldl (fun tmps (t,a)=>tmps.setIfInBounds t a) r.tmps,defers:=[] }) (ha:r.assign=.region ia la.toArray false) (hb:r.body=.block jb (.region ib lb true))
  (oka:la.all (uW ⟨n,[]⟩)=true) (okb:lb.toList.all (uW ⟨n,[]⟩)=true) (hnd:Et lb=true) (hm:P.follows .mixedOrders=true)
  (hA:VU (Fence.wide.inRound l) P ⟨n,[]⟩ la.toArray ⟨fun f1 w1=>f1=f'∧w1=w,fun _ _ _=>False⟩ la f w)
  (hB:∀ w1,Bx w0 w1 Z G (.obj l (.loop { r with state:=.busy }) :: X) D→rH P ⟨n,[]⟩ lb S1 S T ⟨fun f2 w2=>∃ X' D',Lx X' D'∧Bx w0 w2 Z G (.obj l (.loop { r with state:=.busy }) :: X') D',fun _ _ _=>False⟩ lb.size (Array.replicate lb.size false) f' w1.drew) :
  YieldAt Fence.wide 0 P l args w (qQ fun v w'=>v=.bool true∧∃ X' D',Lx X' D'∧Bx w0 w' Z G (.obj l (.loop r) :: X') D'):=by
 have hl:w.heap[l]?=some (.loop r):=hL.at 0 rfl
 refine ⟨r.fn,_,r.assign,r.body,run_yield hl hs,roundIn_of_wpIn trivial ?_⟩
 rw [ha,hb]
 refine wpIn_mono (wpIn_region_lit (hA (List.all_eq_true.1 oka) _ hf)) ?_
 rintro e a1 w1 hq
 cases e with
 | normal=>
  obtain ⟨f1,h1,rfl,rfl⟩:=hq
  refine ⟨_,run_beginRound hl hr,wpIn_block (wpIn_mono (Mx hm hnd (hB _ (hL.putObj 0 _ rfl)) (List.all_eq_true.1 okb) h1) ?_)⟩
  rintro e a2 w2 hq
  cases e with
  | normal=>
   obtain ⟨f2,h2,X',D',hLx,h3⟩:=hq
   have hl2:w2.heap[l]?=some (.loop { r with state:=.busy }):=h3.at 0 rfl
   refine ⟨_,_,run_endRound none hl2,_,rfl,rfl,X',D',hLx,?_⟩
   have:=h3.putObj 0 (.loop r) rfl
   obtain ⟨st,pe,fn,tm,ps,asq,bd,df⟩:=r
   simp only at hr hp
   subst hr;subst hp
   exact this
  | panic c=>obtain ⟨f2,_,z⟩:=hq;exact (z f2).elim
  | _=>exact hq.elim
 | panic c=>obtain ⟨_,_,z⟩:=hq;exact z.elim
 | _=>exact hq.elim
end Go.Fw
set_option linter.unusedVariables false
set_option maxRecDepth 4000
set_option maxHeartbeats 12800000
namespace Go.Proofs.Ytfglbdkfnphjgaa
open Go.RowKit Go.Fw
theorem Zm {P:Program} {N:Fz} {c:Code} {Q:Exit→Act→World→Prop} {f:Fr} {w:World} (l:List (Nat × Value)) (h:Has f l) (k:∀ g,Ls P N c Q (Iz g l) w):Ls P N c Q f w:=by
 rw [← Bg h];exact k f
theorem L9 {n d e:Nat} {f:Fr} {a:Act} {v u:Value} (ha:BX (n,[]) f a) (hd:d < n) (he:e < n):BX (n,[]) (upd (upd f d v) e u) { tmps:=((#[d,e]:Array Tmp).zip #[v,u]).foldl (fun tmps (t,a)=>tmps.setIfInBounds t a) a.tmps,defers:=[] }:=by
 have h:=ha.put (some d) (fun k hk=>by injection hk with hk;subst hk;exact hd) v
 have h2:=h.put (some e) (fun k hk=>by injection hk with hk;subst hk;exact he) u
 exact ⟨by have:=h2.size;simpa [Act.put] using this,fun t=>by have:=h2.get t;simpa [Act.put,kF] using this,rfl⟩
theorem UK:jC Try.prog 120:=⟨_,Try.func120,by kernel_rfl,by kernel_rfl⟩
theorem La {h:List kV} {e:kV} {a m:Nat} (hc:h.length < a ∨ m≤(window h a m).length):window (h ++ [e]) a m=window h a m:=by
 unfold window at *
 rcases Nat.lt_or_ge h.length a with h1 | h1
 · rw [show List.drop a (h ++ [e])=[] from List.drop_eq_nil_of_le (by simp;omega),show List.drop a h=[] from List.drop_eq_nil_of_le (by omega)]
 · have h2:=hc.resolve_left (by omega)
   rw [List.drop_append_of_le_length h1,List.take_append_of_le_length (by simp only [List.length_take,List.length_drop] at h2 ⊢;omega)]
theorem QY {h:List kV} {e:kV} {a m:Nat} (h1:a≤h.length) (h2:(window h a m).length < m):window (h ++ [e]) a m=window h a m ++ [e]:=by
 unfold window at *
 rw [List.drop_append_of_le_length h1]
 simp only [List.length_take,List.length_drop] at h2
 rw [List.take_of_length_le (l:=List.drop a h ++ [e]) (by simp;omega),List.take_of_length_le (l:=List.drop a h) (by simp;omega)]
theorem X6 {w0 w w':World} {Z Z' G:Nat→Prop} {L:List It} {D:List Da} {it:It} (h:Bx w0 w Z G L D) (k:Bx w w' Z' (lS []) [it] []):Bx w0 w' Z G (it :: L) D:=
 h.push k.ex (k.at 0 rfl) fun b hb=>Nat.le_of_not_lt fun hlt=>by
  obtain ⟨_,z,_⟩:=(k.it it (List.mem_singleton.2 rfl)).2 b hb hlt
  cases z
theorem Fu (l:List Nat):(l.map fun b=>[Pt b]).flatten=l.map fun b=>Pt b:=by
 induction l with
 | nil=>rfl
 | cons a l ih=>simp only [List.map_cons,List.flatten_cons,ih];rfl
theorem O0 {ρ:Operand→Value} {w:World} {d:Option Nat} {ty:TypeId} {pos:String} {af:Array Edge} {g:Option (Nat × Bool)} {n m:Int} {A:Option Addr} {k c:Nat} {x:Operand} (h:ρ x=.agg #[Vi n,Vi m,.slice A k c]) :
  (execOp ρ ⟨d,.buildSlice 48 1 #[(0,x)],ty,pos,af,g⟩).run Try.prog w=.ok (.value (.slice (some ⟨w.heap.size,0,none⟩) 1 1)) (w.alloc (.cells #[Vi n,Vi m,.slice A k c] 53)):=by
 have e:(Instr.buildSlice 48 1 #[(0,.agg #[Vi n,Vi m,.slice A k c])]).run Try.prog w=.ok (.slice (some ⟨w.heap.size,0,none⟩) 1 1) (w.alloc (.cells #[Vi n,Vi m,.slice A k c] 53)):=by kernel_rfl
 simp [execOp,h,e]
theorem Pd {ρ:Operand→Value} {w:World} {d:Option Nat} {ty:TypeId} {pos:String} {af:Array Edge} {g:Option (Nat × Bool)} {A:Option Addr} {k c:Nat} {x:Operand} (h:ρ x=.agg #[.slice A k c]) :
  (execOp ρ ⟨d,.buildSlice 36 1 #[(0,x)],ty,pos,af,g⟩).run Try.prog w=.ok (.value (.slice (some ⟨w.heap.size,0,none⟩) 1 1)) (w.alloc (.cells #[.slice A k c] 50)):=by
 have e:(Instr.buildSlice 36 1 #[(0,.agg #[.slice A k c])]).run Try.prog w=.ok (.slice (some ⟨w.heap.size,0,none⟩) 1 1) (w.alloc (.cells #[.slice A k c] 50)):=by kernel_rfl
 simp [execOp,h,e]
theorem YieldAt.mono' {P:Program} {l:Nat} {args:Array Value} {w:World} {R R':Value→World→Prop} (h:YieldAt Fence.wide 0 P l args w (qQ R)) (k:∀ v w,R v w→R' v w):YieldAt Fence.wide 0 P l args w (qQ R'):=by
 obtain ⟨fn,tmps,q,bd,h1,h2⟩:=h
 exact ⟨fn,tmps,q,bd,h1,h2.mono fun e w he=>by obtain ⟨v,hv,hr⟩:=he;exact ⟨v,hv,k v w hr⟩⟩
theorem OH {fu : Nat} {w : World} {A : Nat → Prop} {R : Rn} {m : ED} {ptrs : List Nat} {x : Ao} {s s' : Sg} {xs : List Ao} {gs : List tZ} {id : Int} {p : Pn Unit}
    (hP : Pre w A (Mac R m ptrs s.hist s.out ++ [It.act x s.a]) (tY R m s.hist s.out)) (hl : zO w (lS (Mac R m ptrs s.hist s.out ++ [It.act x s.a])) xs gs) (hB : R.B ≤ w.heap.size)
    (hp : ptrs = (xs.map (·.b)).reverse ++ [x.b]) (hn : ptrs.length ≤ 20) (hst : R.st ≤ 5000) (hmo : R.mo ≤ 100) (hm : event (jM fu R.src) R.st gs s id = some (p, s')) :
    Calls Try.prog 100 #[Pt R.rb, Pt x.b, V id] w (RP (fun v w' => v = .tuple #[] ∧ (∃ u, p = .ok u) ∧ Now w w' A (lS (Mac R m ptrs s.hist s.out ++ [It.act x s.a])) R ptrs x s')
      (fun c w' => Pb p c ∧ Now w w' A (lS (Mac R m ptrs s.hist s.out ++ [It.act x s.a])) R ptrs x s')) := by
  have b := hP.bx
  clear hP
  generalize hG : lS (Mac R m ptrs s.hist s.out ++ [It.act x s.a]) = G at b hl ⊢
  refine N7 Try.func100 rfl ?_
  refine Zm [(0, Pt R.rb), (1, Pt x.b), (2, V id)] ⟨rfl, rfl, rfl, trivial⟩ fun av => ?_
  refine MF rfl ?_
  refine go ?_
  refine sV b (yY rfl) fun w1 b3 b => ?_
  refine go ?_
  refine MF rfl ?_
  refine go ?_
  refine Pm b (fun _ => True) trivial (by kernel_rfl) fun m1 => ?_
  replace b := m1.1
  refine uF 0 r (fun h=>DK r (h.1.bk 0 r) r) m1 (pF 1 r (xn r) m1 (pF 2 r (Ww r) m1 (uF 3 r (fun h=>JE r (h.1.bk 1 r) r) m1 (uF 4 r (fun h=>DK r (h.1.bk 0 r) r) m1 (pF 5 r (xn r) m1 (pF 6 r (Uw r) m1 (uF 7 r (fun h=>JE r (h.1.bk 1 r) r) m1 (pF 8 r (AX r r) m1 (hD ?_)))))))))
  unfold event at hm
  refine qy rfl (fun h => ?_) (fun h => ?_)
  · rw [if_pos (by omega)] at hm
    obtain ⟨rfl, rfl⟩ := Prod.mk.inj (sm hm)
    refine go ?_
    refine jS (Iy OQ rfl) ?_
    exact Ad rfl ⟨xH _, m, b.tl⟩
  rw [if_neg (by omega)] at hm
  obtain ⟨fs, hfs, hm⟩ := bs hm
  obtain ⟨rfl, rfl⟩ := Prod.mk.inj (sm hm)
  refine EK ?_
  refine MF rfl ?_
  refine go ?_
  refine Nj rfl ?_
  refine kZ (Ri b 5 rfl rfl rfl) fun w2 b => ?_
  dsimp only [List.set] at b
  refine go ?_
  refine MF rfl ?_
  refine goB b ?_
  refine MF rfl ?_
  refine goB b ?_
  refine kZ (t_n b 1 [V (wr ((s.hist.length : Int) + 1))] rfl mP rfl rfl) fun w3 b => ?_
  rw [WM (by omega)] at b
  refine go ?_
  refine MF rfl ?_
  refine go ?_
  refine Pm b (fun _ => True) trivial (by kernel_rfl) fun m1 => ?_
  replace b := m1.1
  refine pF 0 r (Ma r) m1 (uF 1 r (fun h=>DK r (h.1.bk 0 r) r) m1 (pF 2 r (xn r) m1 (pF 3 r (Uh r) m1 (uF 4 r (fun h=>JE r (h.1.bk 1 r) r) m1 (pF 5 r (qo r r) m1 (pF 6 r (kQ r) m1 ?_))))))
  by_cases hw : (s.hist.length : Int) < (R.fr : Int)
  · rw [decide_eq_true hw]
    refine jR 7 r (by kernel_rfl) r (sF m1) (jR 8 r (by kernel_rfl) r (sF m1) (jR 9 r (by kernel_rfl) r (sF m1) (jR 10 r (by kernel_rfl) r (sF m1) (jR 11 r (by kernel_rfl) r (sF m1) (jR 12 r (by kernel_rfl) r (sF m1) (jR 13 r (by kernel_rfl) r (sF m1) (jR 14 r (by kernel_rfl) r (sF m1) (jR 15 r (by kernel_rfl) r (sF m1) (jR 16 r (by kernel_rfl) r (sF m1) (pF 17 r (kG r r) m1 (hD ?_)))))))))))
    refine go ?_
    refine kU ⟨rfl, ⟨(), rfl⟩, m, ?_⟩
    dsimp only [Mac, tY, oL]
    rw [La (.inl (by omega)), List.length_append, List.length_singleton]
    exact b.tl
  rw [decide_eq_false hw]
  refine uF 7 r (fun h=>DK r (h.1.bk 0 r) r) m1 (pF 8 r (xn r) m1 (pF 9 r (JB r) m1 (uF 10 r (fun h=>NH r (h.1.bk 1 r) r) m1 (pF 11 r (lF Try.underlying36 r) m1 (uF 12 r (fun h=>DK r (h.1.bk 0 r) r) m1 (pF 13 r (xn r) m1 (pF 14 r (WB r) m1 (uF 15 r (fun h=>JE r (h.1.bk 1 r) r) m1 (pF 16 r (AX r r) m1 (pF 17 r (jZ r r) m1 (hD ?_)))))))))))
  refine qy rfl (fun hw2 => ?_) (fun hw2 => ?_)
  · refine go ?_
    refine kU ⟨rfl, ⟨(), rfl⟩, m, ?_⟩
    dsimp only [Mac, tY, oL]
    rw [La (.inr (by omega)), List.length_append, List.length_singleton]
    exact b.tl
  refine go ?_
  refine MF rfl ?_
  refine go ?_
  refine sV b (jU CJ) fun w4 b7 b => ?_
  refine go ?_
  refine Uc (P := Try.prog) (fn := Try.f100) (w0 := w) (Z := A) (G := G) (L := fun X Y => ∃ m', X = Mac R m' ptrs (s.hist ++ [⟨fs⟩]) s.out ++ [It.act x ⟨s.a.f, id, s.a.ws⟩] ∧ Y = tY R m' (s.hist ++ [⟨fs⟩]) s.out)
    (KB := fun f w' => ∃ bk, Has f [(3, Pt b3), (7, Pt b7), (57, .func (.func 133) #[] #[Pt bk])] ∧ Bx w w' A G (.box bk 87 #[.slice m.lA ptrs.length m.lC] :: .box b7 50 #[sn] :: .box b3 86 #[Pt R.rb] :: .box R.rb 89 (oL R m ptrs.length (window s.hist R.fr R.mo).length (s.hist.length + 1) s.out.length).toArray :: .own R.B m.lA m.lC 117 1 (ptrs.map fun b => [Pt b]) :: .own R.B m.eA m.eC 50 (Rp.sz kV) m.ec :: .own R.B m.oA m.oC 3 (Rp.sz Int) m.oc :: [It.act x ⟨s.a.f, id, s.a.ws⟩]) (tY R m s.hist s.out))
    (KR := fun D f w' => Has f [(3, Pt b3), (7, Pt b7)] ∧ ∃ fa fc fcs, Bx w w' A G (.obj D (.deferred (some [])) :: .own w.heap.size fa fc 53 (Rp.sz pK) fcs :: .box b7 50 #[.slice fa fs.length fc] :: .box b3 86 #[Pt R.rb] :: .box R.rb 89 (oL R m ptrs.length (window s.hist R.fr R.mo).length (s.hist.length + 1) s.out.length).toArray :: .own R.B m.lA m.lC 117 1 (ptrs.map fun b => [Pt b]) :: .own R.B m.eA m.eC 50 (Rp.sz kV) m.ec :: .own R.B m.oA m.oC 3 (Rp.sz Int) m.oc :: [It.act x ⟨s.a.f, id, s.a.ws⟩]) (.els fcs fs :: tY R m s.hist s.out))
    rfl ?_ ?_ ?_ ?_
  · refine goB b ?_
    refine Dp (qg VN rfl) (K6 (Z := A)) ?_
    rintro _ w5 ⟨bk, rfl, hK⟩
    refine go ?_
    exact ⟨bk, ⟨rfl, rfl, rfl, trivial⟩, X6 b hK⟩
  · rintro f w5 a ⟨bk, hf, b⟩ ha
    clear m1
    obtain ⟨av2, rfl⟩ := fV _ _ hf
    clear hf
    have hg : ev (Iz av2 [(3, Pt b3), (7, Pt b7), (57, .func (.func 133) #[] #[Pt bk])]) (.tmp 57) = .func (.func 133) #[] [Pt bk].toArray := rfl
    refine wp_block (U2 (Lx := fun X Y => ∃ fa fc fcs, X = .own w.heap.size fa fc 53 (Rp.sz pK) fcs :: .box b7 50 #[.slice fa fs.length fc] :: .box b3 86 #[Pt R.rb] :: .box R.rb 89 (oL R m ptrs.length (window s.hist R.fr R.mo).length (s.hist.length + 1) s.out.length).toArray :: .own R.B m.lA m.lC 117 1 (ptrs.map fun b => [Pt b]) :: .own R.B m.eA m.eC 50 (Rp.sz kV) m.ec :: .own R.B m.oA m.oC 3 (Rp.sz Int) m.oc :: [It.act x ⟨s.a.f, id, s.a.ws⟩] ∧ Y = .els fcs fs :: tY R m s.hist s.out) ha hg Vx b ?_ ?_)
    · intro l D fn w6 hL
      generalize hO : ME fn a.tmps #[58, 59] _ _ D = O at hL ⊢
      refine Calls.mono (Xb (n := ptrs.length) (A := m.lA) (c := m.lC) (ps := fun k => ptrs.getD k 0) (I := fun k w' => ∃ acc fa fc fcs, TD (jM fu R.src) (((⟨s.a.f, id, s.a.ws⟩ : tZ) :: gs).drop (ptrs.length - k)) acc = some fs ∧
        Bx w w' A G (.obj l (.loop O) :: .obj D (.deferred (some [])) :: .box bk 87 #[.slice m.lA ptrs.length m.lC] :: .own w.heap.size fa fc 53 (Rp.sz pK) fcs :: .box b7 50 #[.slice fa acc.length fc] :: .box b3 86 #[Pt R.rb] :: .box R.rb 89 (oL R m ptrs.length (window s.hist R.fr R.mo).length (s.hist.length + 1) s.out.length).toArray :: .own R.B m.lA m.lC 117 1 (ptrs.map fun b => [Pt b]) :: .own R.B m.eA m.eC 50 (Rp.sz kV) m.ec :: .own R.B m.oA m.oC 3 (Rp.sz Int) m.oc :: [It.act x ⟨s.a.f, id, s.a.ws⟩]) (.els fcs acc :: tY R m s.hist s.out)) ?_ ?_ ?_ ?_ (by omega)) ?_
      · rintro k w7 ⟨acc, fa, fc, fcs, _, hb⟩
        exact hb.bk 2 rfl
      · rintro k w7 hk ⟨acc, fa, fc, fcs, _, hb⟩
        obtain ⟨y, hy⟩ := lY (l := ptrs) hk
        have ho := hb.bo 7 rfl
        rw [List.length_map, Fu] at ho
        have h3 := EG ho (k := k) (v := Pt y) (by rw [List.getElem?_map, hy]; rfl)
        refine ⟨h3.1, ?_⟩
        rw [Nat.mul_one, h3.2.1]
        simp [List.getD_eq_getElem?_getD, hy]
      · rintro k w7 hk ⟨acc, fa, fc, fcs, hacc, hb⟩
        subst hO
        have hlen : ptrs.length = gs.length + 1 := by rw [hp, List.length_append, List.length_reverse, List.length_map, hl.len]; rfl
        have hact : ∃ y g, (((⟨s.a.f, id, s.a.ws⟩ : tZ) :: gs))[ptrs.length - (k + 1)]? = some g ∧ ptrs.getD k 0 = y.b ∧ ∀ w', Jm G w w' → (∀ hq : ptrs.length - (k + 1) = 0, (It.act x ⟨s.a.f, id, s.a.ws⟩).p w') → (It.act y g).p w' := by
          have hj : ptrs.length - (k + 1) < gs.length + 1 := by omega
          have hpk : ∀ j, j < gs.length + 1 → ptrs.getD (gs.length - j) 0 = ((x :: xs).map (·.b)).getD j 0 := fun j hj => by
            have e : ptrs = ((x :: xs).map (·.b)).reverse := by rw [hp]; simp
            rw [e, List.getD_eq_getElem?_getD, List.getD_eq_getElem?_getD, List.getElem?_reverse (by simp [hl.len]; omega)]
            congr 2
            simp [hl.len]
            omega
          have e1 : gs.length - (ptrs.length - (k + 1)) = k := by omega
          have hk2 := hpk _ hj
          rw [e1] at hk2
          generalize ptrs.length - (k + 1) = q at hj hk2 ⊢
          cases q with
          | zero => exact ⟨x, _, rfl, by rw [hk2]; rfl, fun w' _ h => h rfl⟩
          | succ q =>
            obtain ⟨g, hg⟩ := lY (l := gs) (k := q) (by omega)
            obtain ⟨y, hy, _⟩ := hl.get hg
            refine ⟨y, g, by simpa using hg, by rw [hk2]; simp [List.getD_eq_getElem?_getD, hy], fun w' hc _ => ?_⟩
            obtain ⟨y', hy', hy2⟩ := (zO.mv' hc (fun b _ h => h) hl).get hg
            rw [hy] at hy'
            exact Option.some.inj hy' ▸ hy2
        obtain ⟨y, g, hg2, hy, hw7⟩ := hact
        rw [hy]
        rw [lK hg2, TD, show ptrs.length - (k + 1) + 1 = ptrs.length - k by omega] at hacc
        obtain ⟨fr, hfr, hacc⟩ := bs hacc
        obtain ⟨acc2, hac2, hacc⟩ := bs hacc
        refine YieldAt.mono' (Om (la := [_]) (S1 := fun u => mI u b3 86 #[Pt R.rb]) (S := fun u => mI u b7 50 #[.slice fa acc.length fc]) (T := [8]) (Lx := fun X Y => ∃ fa fc fcs, X = .obj D (.deferred (some [])) :: .box bk 87 #[.slice m.lA ptrs.length m.lC] :: .own w.heap.size fa fc 53 (Rp.sz pK) fcs :: .box b7 50 #[.slice fa acc2.length fc] :: .box b3 86 #[Pt R.rb] :: .box R.rb 89 (oL R m ptrs.length (window s.hist R.fr R.mo).length (s.hist.length + 1) s.out.length).toArray :: .own R.B m.lA m.lC 117 1 (ptrs.map fun b => [Pt b]) :: .own R.B m.eA m.eC 50 (Rp.sz kV) m.ec :: .own R.B m.oA m.oC 3 (Rp.sz Int) m.oc :: [It.act x ⟨s.a.f, id, s.a.ws⟩] ∧ Y = .els fcs acc2 :: tY R m s.hist s.out)
          hb rfl rfl rfl (L9 ha (by decide) (by decide)) rfl rfl (by kernel_rfl) (by kernel_rfl) (by kernel_rfl) (by kernel_rfl) (Ke (Wd.rnd l) (fun _ h => by cases h) (Me rfl) (YJ ⟨rfl, rfl⟩)) ?_) ?_
        · intro w8 b
          replace b := b.drew
          have m1 : mI w8.drew b3 86 #[Pt R.rb] := b.bk 5 rfl
          have m2 : mI w8.drew b7 50 #[.slice fa acc.length fc] := b.bk 4 rfl
          refine pL 0 r (Qu r) m1 m2 (tS 9 1 r (fun _ h => Zv r h r) (mF m1 m2) (tU 2 r (fun _ h => DK r h r) (mF m1 m2) (pL 3 r (vQ r) m1 m2 ?_)))
          refine hO 4 (oc r r (ec UK r) (PV (b.pr [] [0, 1, 2, 3, 4, 5, 6, 7, 8, 9, 10] [3, 4, 5, 6] r) (b.bk 6 rfl) (hw7 _ b.qW fun _ => b.at 10 rfl) hfr) ?_)
          rintro _ w9 ⟨A1, c1, rfl, hK⟩
          replace b := b.cn [] [0, 1, 2, 3, 4, 5, 6, 7, 8, 9, 10] hK
          refine ⟨mF (b.bk 5 rfl) (b.bk 4 rfl), ?_⟩
          refine hO 5 (oo r r (jN b [[V fr.k, V fr.a, .slice A1 fr.b.length c1]] ([fr] : List pK) (O0 r) r r (by decide) ⟨pK.inn ⟨_, _, rfl, b.dl 0 rfl⟩, trivial⟩) ?_)
          rintro _ w10 ⟨b5, rfl, b⟩
          refine ⟨mF (b.bk 6 rfl) (b.bk 5 rfl), ?_⟩
          refine hO 6 (oo r r (kL b 4 2 r r Try.underlying48 Ba r (by decide) (by decide) (Nat.le_refl _) r r (b.zN 0 0 r r) hac2) ?_)
          rintro _ w11 ⟨a4, c4, cs4, rfl, b⟩
          refine ⟨mF (b.bk 6 rfl) (b.bk 5 rfl), pL 7 r (Qu r) (b.bk 6 rfl) (b.bk 5 rfl) ?_⟩
          refine hO 8 (os r r (nU b 5 [.slice a4 acc2.length c4] r R3 r r) fun w12 b => ⟨sy 8 (b.bk 6 rfl), hD ?_⟩)
          exact ⟨_, _, ⟨a4, c4, cs4, rfl, rfl⟩, (b.arr [1, 2, 3, 4, 5, 6, 7, 8, 9, 10, 11] rfl).dp [2, 3, 4, 5, 6, 7, 8]⟩
        · rintro v w8 ⟨rfl, X', D', ⟨fa, fc, fcs, rfl, rfl⟩, hb⟩
          exact ⟨rfl, acc2, fa, fc, fcs, hacc, hb⟩
      · refine ⟨[], none, 0, [], ?_, ?_⟩
        · rw [Nat.sub_self, List.drop_zero]; exact hfs
        · exact (hL.Bv pK 53).arr [1, 2, 3, 0, 4, 5, 6, 7, 8, 9, 10] rfl
      · rintro e w7 ⟨v, rfl, rfl, acc, fa, fc, fcs, hacc, hb⟩
        have hlen : ptrs.length = gs.length + 1 := by rw [hp, List.length_append, List.length_reverse, List.length_map, hl.len]; rfl
        rw [Nat.sub_zero, List.drop_eq_nil_of_le (by rw [hlen]; exact Nat.le_refl _)] at hacc
        obtain rfl := sm hacc
        exact ⟨_, rfl, _, _, ⟨fa, fc, fcs, rfl, rfl⟩, hb.arr [0, 1, 3, 4, 5, 6, 7, 8, 9, 10] rfl⟩
    · rintro D w6 X Y ⟨fa, fc, fcs, rfl, rfl⟩ hb
      exact ⟨rfl, D, rfl, ⟨rfl, rfl, trivial⟩, fa, fc, fcs, hb⟩
  · rintro D f w5 ⟨hf, fa, fc, fcs, b⟩
    obtain ⟨av, rfl⟩ := fV _ _ hf
    clear hf
    replace b := b.fz 1 0 rfl rfl
    have hap : app (window s.hist R.fr R.mo) [(⟨fs⟩ : kV)] = some (window s.hist R.fr R.mo ++ [⟨fs⟩]) := by
      unfold app
      rw [if_pos (by have : (window s.hist R.fr R.mo).length ≤ R.mo := by unfold window; rw [List.length_take]; exact Nat.min_le_left ..
                     simp only [List.length_singleton]; omega)]
    refine uY (fun u => mI u b3 86 #[Pt R.rb]) (fun u => mI u b7 50 #[.slice fa fs.length fc] ∧ mI u R.rb 89 (oL R m ptrs.length (window s.hist R.fr R.mo).length (s.hist.length + 1) s.out.length).toArray) [7] (by kernel_rfl) ?_
    replace b := b.drew
    have m1 : mI w5.drew b3 86 #[Pt R.rb] := b.bk 2 rfl
    have m2 : mI w5.drew b7 50 #[.slice fa fs.length fc] ∧ mI w5.drew R.rb 89 (oL R m ptrs.length (window s.hist R.fr R.mo).length (s.hist.length + 1) s.out.length).toArray := ⟨b.bk 1 rfl, b.bk 3 rfl⟩
    refine tU 0 r (fun _ h => DK r h r) (mF m1 m2) (tU 1 r (fun _ h => DK r h r) (mF m1 m2) (pL 2 r (xn r) m1 m2 (pL 3 r (JB r) m1 m2 (tS 12 4 r (fun _ h => NH r h.2 r) (mF m1 m2) (tS 12 5 r (fun _ h => ng [.slice fa fs.length fc] Vz CJ r h.1) (mF m1 m2) ?_)))))
    refine hO 6 (oo r r (jN b [[.slice fa fs.length fc]] ([⟨fs⟩] : List kV) (Pd r) r r (by decide) ⟨kV.inn ⟨_, _, rfl, b.dl 0 rfl⟩, trivial⟩) ?_)
    rintro _ w6 ⟨b5, rfl, b⟩
    refine ⟨mF (b.bk 3 rfl) ⟨b.bk 2 rfl, b.bk 4 rfl⟩, ?_⟩
    refine hO 7 (oo r r (kL b 6 2 r r Try.underlying36 CJ r (by decide) (by decide) hB r r (b.zN 0 0 r r) hap) ?_)
    rintro _ w7 ⟨a4, c4, cs4, rfl, b⟩
    refine ⟨sy 7 (b.bk 3 rfl), tP 8 r (fun _ => xn r) (sy 7 (b.bk 3 rfl)) (tP 9 r (fun _ => JB r) (sy 7 (b.bk 3 rfl)) ?_)⟩
    refine hO 10 (os r r (t_n b 4 [.slice a4 (window s.hist R.fr R.mo ++ [(⟨fs⟩ : kV)]).length c4] r Mw r r) fun w8 b => ⟨sy 7 (b.bk 3 rfl), hD ?_⟩)
    refine ⟨_, _, ⟨{ m with eA := a4, eC := c4, ec := cs4 }, rfl, rfl⟩, ?_⟩
    dsimp only [Mac, tY, oL]
    rw [QY (by omega) (by omega), show (s.hist ++ [(⟨fs⟩ : kV)]).length = s.hist.length + 1 from by simp]
    exact (b.arr [1, 4, 5, 6, 7, 8] rfl).dp [2, 3, 4, 5, 6, 7]
  · rintro w' X Y ⟨m', rfl, rfl⟩ hb
    exact ⟨rfl, ⟨(), rfl⟩, m', hb⟩
end Go.Proofs.Ytfglbdkfnphjgaa
set_option linter.unusedVariables false
set_option maxRecDepth 4000
set_option maxHeartbeats 12800000
namespace Go.Proofs.Ytfglbdkfnphjgaa
open Go.RowKit Go.Fw
abbrev H8 (R:Rn) (m:ED) (ptrs:List Nat) (x:Ao) (s:Sg):List It:=Mac R m ptrs s.hist s.out ++ [It.act x s.a]
structure Qy (w:World) (A:Nat→Prop) (R:Rn) (m:ED) (ptrs:List Nat) (x:Ao) (s:Sg) (xs:List Ao) (gs:List tZ) (D:List Da):Prop where
 pre:Pre w A (H8 R m ptrs x s) (D ++ tY R m s.hist s.out)
 lent:zO w (lS (H8 R m ptrs x s)) xs gs
 hB:R.B≤w.heap.size
 hp:ptrs=(xs.map (·.b)).reverse ++ [x.b]
 hn:ptrs.length≤20
structure Wm (R:Rn):Prop where
 st:R.st≤5000
 mo:R.mo≤100
def Ok (w:World) (A:Nat→Prop) (R:Rn) (m:ED) (ptrs:List Nat) (x:Ao) (s s':Sg) (w':World):Prop:=Now w w' A (lS (H8 R m ptrs x s)) R ptrs x s'
def Pk {α:Type} (p:Pn α) (w:World) (A:Nat→Prop) (R:Rn) (m:ED) (ptrs:List Nat) (x:Ao) (s s':Sg) (ch:List PanicEntry) (w':World):Prop:=Pb p ch∧XG w w' A (lS (H8 R m ptrs x s)) R ptrs x s'
abbrev cS (y:jO) (a7:Option Addr) (c7:Nat) (a10:Option Addr) (c10:Nat) (a11:Option Addr) (c11:Nat) (a12:Option Addr) (c12:Nat):List Value:=
 [V y.e,V y.f,V y.n,T y.b,T y.j,V y.m,V y.g,.slice a7 y.c.length c7,T y.k,V y.i,.slice a10 y.a.length c10,.slice a11 y.d.length c11,.slice a12 y.h.length c12]
abbrev dS (y:jO) (a7:Option Addr) (c7:Nat) (a10:Option Addr) (c10:Nat) (a11:Option Addr) (c11:Nat) (a12:Option Addr) (c12:Nat):List Da:=[.l a7 c7 y.c,.l a10 c10 y.a,.l a11 c11 y.d,.l a12 c12 y.h]
def Za (R:Rn) (sm:List tZ→Sm):Prop:=∀ {w:World} {A:Nat→Prop} {m:ED} {ptrs:List Nat} {x:Ao} {s s':Sg} {xs:List Ao} {gs:List tZ} {y:jO} {a7:Option Addr} {c7:Nat} {a10:Option Addr} {c10:Nat} {a11:Option Addr} {c11:Nat} {a12:Option Addr} {c12:Nat} {p:Pn (Option Int)},
 Qy w A R m ptrs x s xs gs (dS y a7 c7 a10 c10 a11 c11 a12 c12)→sm gs s y=some (p,s')→
 Calls Try.prog 75 #[Pt R.rb,Pt x.b,.agg (cS y a7 c7 a10 c10 a11 c11 a12 c12).toArray] w (RP (fun v w'=>∃ o,p=.ok o∧v=.tuple #[V (o.getD 0),.bool o.isSome]∧Ok w A R m ptrs x s s' w') (Pk p w A R m ptrs x s s'))
def WQ (R:Rn) (sm:List tZ→Sm):Prop:=∀ {w:World} {A:Nat→Prop} {m:ED} {ptrs:List Nat} {x:Ao} {s s':Sg} {xs:List Ao} {gs:List tZ} {l:List jO} {a:Option Addr} {c:Nat} {p:Pn (Option Int)},
 Qy w A R m ptrs x s xs gs [.l a c l]→JF (sm gs) s l=some (p,s')→
 Calls Try.prog 50 #[Pt R.rb,Pt x.b,.slice a l.length c] w (RP (fun v w'=>∃ o,p=.ok o∧v=.tuple #[V (o.getD 0),.bool o.isSome]∧Ok w A R m ptrs x s s' w') (Pk p w A R m ptrs x s s'))
theorem XI:jC Try.prog 75:=⟨_,Try.func75,by kernel_rfl,by kernel_rfl⟩
theorem Ni:jC Try.prog 50:=⟨_,Try.func50,by kernel_rfl,by kernel_rfl⟩
theorem Av {w w1:World} {A G:Nat→Prop} {L L1:List It} {D:List Da} {xs:List Ao} {gs:List tZ} (b:Bx w w1 A G L D) (hl:zO w G xs gs) (hs:∀ it ∈ L1,it ∈ L):zO w1 (lS L1) xs gs:=
 zO.mv' b.qW (fun k hk ⟨it,hi,hF⟩=>(b.it it (hs it hi)).2 k hF hk) hl
theorem Zr {N:Fz} {ops:Array Oper} {K:KK} {rest:List Oper} {f:Fr} {w w0:World} {d1 d2:Nat} {ty ty2:TypeId} {pos pos2:String} {af af2:Array Edge} {y z:Operand} {Z G:Nat→Prop} {L:List It} {D:List Da}
  (e:Bx w0 w Z G L D) (j:Nat) {a:Option Addr} {c:Nat} {l:List jO} {k:Nat} {i:Int} {x:jO} (hj:D[j]?=some (.l a c l)) (hk:l[k]?=some x) (h1:ev f y=.slice a l.length c) (h2:ev f z=V i) (hi:i=(k:Int))
  (h:∀ a7 c7 a10 c10 a11 c11 a12 c12,Bx w0 w Z G L (dS x a7 c7 a10 c10 a11 c11 a12 c12 ++ D)→kM Try.prog N ops K rest (upd (upd f d1 (.pointer (some ⟨nN a,oU a+k * 13,none⟩))) d2 (.agg (cS x a7 c7 a10 c10 a11 c11 a12 c12).toArray)) w) :
  kM Try.prog N ops K (⟨some d1,.indexAddr 80 y z,ty,pos,af,none⟩ :: ⟨some d2,.load 111 (.tmp d1),ty2,pos2,af2,none⟩ :: rest) f w:=by
 obtain ⟨cs,hr,e2⟩:=e.nm j hj hk
 obtain ⟨a7,c7,a10,c10,a11,c11,a12,c12,rfl,h7,h10,h11,h12⟩:=jO.out hr
 have e3:=(((e2.kr (d:=.l a12 c12 x.h) h12).kr (d:=.l a11 c11 x.d) h11).kr (d:=.l a10 c10 x.a) h10).kr (d:=.l a7 c7 x.c) h7
 refine jS (kW Try.underlying80 jQ h1 h2 hi (e.dl j hj) hk) ?_
 refine jS (mR (cS x a7 c7 a10 c10 a11 c11 a12 c12) Try.underlying111 rfl jQ rfl (by show upd f d1 _ d1=_;unfold upd;rw [Nat.beq_refl];rfl) (e3.dc 4 rfl)) ?_
 exact h a7 c7 a10 c10 a11 c11 a12 c12 (e3.KT fun d hd=>by
  simp only [dS,List.cons_append,List.nil_append,List.mem_cons] at hd ⊢
  rcases hd with h | h | h | h | h
  · exact .inl h
  · exact .inr (.inl h)
  · exact .inr (.inr (.inl h))
  · exact .inr (.inr (.inr (.inl h)))
  · exact .inr (.inr (.inr (.inr (.inr h)))))
theorem MN {R:Rn} {sm:List tZ→Sm} (hS:Za R sm):WQ R sm:=by
 intro w A m ptrs x s s' xs gs l a c p hR hm
 obtain ⟨hP,hl,hB,hp,hn⟩:=hR
 have b:=hP.bx
 clear hP
 unfold Ok Pk
 generalize hG:lS (H8 R m ptrs x s)=G at b hl ⊢
 refine vU Try.func50 rfl ?_
 refine lM [(0,Pt R.rb),(1,Pt x.b),(2,.slice a l.length c)] ⟨rfl,rfl,rfl,trivial⟩ fun av=>?_
 have hbd:=(b.dl 0 rfl).bd
 refine goB b ?_
 refine kE (fun aw f w'=>∃ (t:Nat) (s1:Sg) (m1:ED),aw=l.length - t∧t≤l.length∧
     Has f [(0,Pt R.rb),(1,Pt x.b),(12,.slice a l.length c),(13,V (l.length:Int)),(14,V (t:Int))]∧
     Bx w w' A G (H8 R m1 ptrs x s1) (.l a c l :: tY R m1 s1.hist s1.out)∧JF (sm gs) s1 (l.drop t)=some (p,s'))
   l.length ⟨0,s,m,rfl,Nat.zero_le _,⟨rfl,rfl,rfl,rfl,rfl,trivial⟩,b,hm⟩ ?_
 clear b hm
 rintro aw f w1 ⟨t,s1,m1,rfl,ht,hf,b,hm⟩ J hJ
 obtain ⟨av,rfl⟩:=fV _ _ hf
 clear hf
 refine goB b ?_
 refine qy rfl (fun h=>?_) (fun h=>?_)
 · obtain ⟨y,hy⟩:=lY (l:=l) (k:=t) (by omega)
   rw [lK hy,JF] at hm
   obtain ⟨⟨q,s2⟩,h1,hm⟩:=bs hm
   refine goB b ?_
   refine Zr b 0 rfl hy rfl rfl rfl fun a7 c7 a10 c10 a11 c11 a12 c12 b=>?_
   refine sV b (jU jQ) fun w2 b9 b=>?_
   refine kZ (nU b 0 (cS y a7 c7 a10 c10 a11 c11 a12 c12) rfl jQ rfl rfl) fun w3 b=>?_
   refine goB b ?_
   refine jS (ng (cS y a7 c7 a10 c10 a11 c11 a12 c12) lV jQ rfl (b.bk 0 rfl)) ?_
   have hr:Qy w3 (Cx w A (pick _ [1,2,3,4,5] ++ pick _ [0])) R m1 ptrs x s1 xs gs (dS y a7 c7 a10 c10 a11 c11 a12 c12):=⟨b.pr [1,2,3,4,5] [0] [0,1,2,3,5,6,7,8,9,10] rfl,Av b hl (fun it hi=>List.mem_cons_of_mem _ hi),Nat.le_trans hB b.qW.size,hp,hn⟩
   refine IB (qg XI rfl) (hS hr h1) (fun ch w4 hq=>?_) ?_
   · obtain ⟨hq,more,m4,hK⟩:=hq
     have hb:=b.cn [1,2,3,4,5] [0] hK
     have hb:=(hb.arr [0,1,2,3,4] rfl).dp [0,1,2,3,4,5]
     cases q with
     | ok o=>exact hq.elim
     | _=>obtain ⟨rfl,rfl⟩:=Prod.mk.inj (Option.some.inj hm);exact ⟨hq,more,m4,hb⟩
   rintro _ w4 ⟨o,rfl,rfl,m4,hK⟩
   replace b:=b.cn [1,2,3,4,5] [0] hK
   replace b:=(b.arr [0,1,2,3,4] rfl).dp [10,0,1,2,3,4,5]
   cases o with
   | none=>
     refine jS (GD (.tuple #[V 0,.bool false]) rfl) ?_
     refine go ?_
     exact hJ (l.length - (t+1)) _ _ (by omega) ⟨t+1,s2,m4,rfl,by omega,⟨rfl,rfl,rfl,rfl,congrArg V (WM (t:=t) (by omega)),trivial⟩,b,hm⟩
   | some v=>
     obtain ⟨rfl,rfl⟩:=Prod.mk.inj (Option.some.inj hm)
     refine jS (GD (.tuple #[V v,.bool true]) rfl) ?_
     refine go ?_
     refine kU ?_
     refine qd (fn:=Try.f50) rfl (lq rfl) (lq rfl) ?_
     exact ⟨some v,rfl,rfl,m4,b.dp [1,2,3,4,5,6]⟩
 · obtain rfl:t=l.length:=by omega
   rw [lu,JF] at hm
   obtain ⟨rfl,rfl⟩:=Prod.mk.inj (Option.some.inj hm)
   refine goB b ?_
   refine ug ?_
   refine goB b ?_
   refine kU ?_
   refine qd (fn:=Try.f50) rfl (lq rfl) (lq rfl) ?_
   exact ⟨none,rfl,rfl,m1,b.dp [1,2,3,4,5,6]⟩
end Go.Proofs.Ytfglbdkfnphjgaa
