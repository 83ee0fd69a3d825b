/- A function that ends with a range over a function and one region behind it. Over any program. -/
import Derived.Test.YtfglbdkfnphjgaaGreatZ20
import Derived.OrdersIn
set_option linter.unusedVariables false
set_option linter.unusedSimpArgs false
namespace Go.Fw
open Go.RowKit
section
variable {P:Program}{n:Nat}{fn:Func}{R:Value->World->Prop}{V:List PanicEntry->World->Prop}
theorem RU {g:FuncId}{c:Code}{args:Array Value}{w:World}(hf:P.funcs[g]?=some fn)(hb:fn.body=some c)(h:PE P (fn.ntmps,[]) c (bodyPostM Fence.wide 0 P fn (RP R V)) (zD args) w)(hs:Nat.ble args.size fn.ntmps=true:=by exact rfl)(hok:Fj (fn.ntmps,[]) c=true:=by kernel_rfl):Calls P g args w (RP R V):=
 callsIn_wide.1 (callsIn_of_wp_marks (n:=0) hf hb lF ((wpIn_wide (n:=0)).2 (h hok _ (Dj (Nat.le_of_ble_eq_true hs)))))
theorem PK {x y:Code}{f:Fr}{w:World}(hr:fn.results=#[])(h:WP P (n,[]) x ⟨fun f w=>PE P (n,[]) y (bodyPostM Fence.wide 0 P fn (RP R V)) f w,fun _ _ _=>False,fun _ w=>R (.tuple #[]) w,fun _ c w=>V c w⟩ f w) :PE P (n,[]) (.seq x y) (bodyPostM Fence.wide 0 P fn (RP R V)) f w:=by
 refine Zz h fun e a w q=>?_;cases e with
 | normal=>obtain ⟨f,_,h2⟩:=q;exact h2.elim
 | exit i=>obtain ⟨f,_,h2⟩:=q;exact h2.elim
 | ret=>
  obtain ⟨f,h1,h2⟩:=q;show LeavesInM Fence.wide 0 P fn a.tmps (RP R V) a.defers .returning w;rw [h1.dfr];exact ⟨_,results_none hr _ P w,h2⟩
 | panic c=>
  obtain ⟨f,h1,h2⟩:=q;show LeavesInM Fence.wide 0 P fn a.tmps (RP R V) a.defers (.panicking c) w;rw [h1.dfr];exact h2
 | _=>exact q.elim
theorem YP {B RF C:Code}{f:Fr}{w w0:World}{Z G:Nat->Prop}{L:List It->List Da->Prop}{KB:Fr->World->Prop}{KR:Nat->Fr->World->Prop}(hr:fn.results=#[])(hB:WP P (n,[]) B ⟨KB,fun _ _ _=>False,fun _ _=>False,fun _ _ _=>False⟩ f w)(hRF:∀ f w a,KB f w->Fg (n,[]) f a->RF.wp P (fun e a' w'=>e=.normal/\∃ D,a'={ a with defers:=[mark D] }/\KR D f w') a w)(hC:∀ D f w,KR D f w->WP P (n,[mark D]) C ⟨fun _ w=>∃ X Y,L X Y/\Bx w0 w Z G (.obj D (.deferred (some [])) :: X) Y,fun _ _ _=>False,fun _ _=>False,fun _ _ _=>False⟩ f w)(fin:∀ w X Y,L X Y->Bx w0 w Z G X Y->R (.tuple #[]) w):PE P (n,[]) (.seq (.seq B RF) C) (bodyPostM Fence.wide 0 P fn (RP R V)) f w:=by
 intro hok a ha;simp only [Fj,Dx] at hok;unfold WP at hB hC;refine wp_seq (wp_seq (Code.wp_mono (fun e a2 w2 q2=>?_) (hB hok.1.1 a ha)));cases e with
 | normal=>
  obtain ⟨f2,h2,q3⟩:=q2;refine Code.wp_mono (fun e a3 w3 q4=>?_) (hRF f2 w2 a2 q3 h2);obtain ⟨rfl,D,rfl,q5⟩:=q4;have h3:Fg (n,[mark D]) f2 { a2 with defers:=[mark D] }:=⟨h2.size,h2.get,rfl⟩;refine Code.wp_mono (fun e a4 w4 q6=>?_) (hC D f2 w3 q5 (Bj C hok.2) _ h3);cases e with
  | normal=>
   obtain ⟨f4,h4,X,Y,hL,q7⟩:=q6;show LeavesInM Fence.wide 0 P fn a4.tmps (RP R V) a4.defers .returning w4;rw [h4.dfr];have hk:w4.heap[D]?=some (.deferred (some [])):=q7.at 0 rfl;exact ⟨fun h=>(by cases h),.inl ⟨D,_,rfl,run_takeDeferred hk,.tuple #[],results_none hr a4.tmps P _,fin _ X Y hL (q7.putObj 0 (.deferred none) rfl).tl⟩⟩
  | exit i=>obtain ⟨f4,h4,q7⟩:=q6;exact q7.elim
  | ret=>obtain ⟨f4,h4,q7⟩:=q6;exact q7.elim
  | panic c=>obtain ⟨f4,h4,q7⟩:=q6;exact q7.elim
  | _=>exact q6.elim
 | exit i=>obtain ⟨f4,h4,q7⟩:=q2;exact q7.elim
 | ret=>obtain ⟨f4,h4,q7⟩:=q2;exact q7.elim
 | panic c=>obtain ⟨f4,h4,q7⟩:=q2;exact q7.elim
 | _=>exact q2.elim
end
theorem YJ {P:Program}{n:Nat}{w0 w:World}{Z G:Nat->Prop}{X:List It}{Da0:List Da}{Lx:List It->List Da->Prop}{f:Fr}{a:Act}{g:Operand}{ps:Array Tmp}{asq bd:Code}{gf:FuncId}{lb:List Value}{Q:Exit->Act->World->Prop}(ha:Fg ⟨n,[]⟩ f a)(hg:ev f g=.func (.func gf) #[] lb.toArray)(hc:jH P gf)(hL:Bx w0 w Z G X Da0)(hcall:∀ l D fn w1,Bx w0 w1 Z G (.obj l (.loop (Qx fn a.tmps ps asq bd D)) :: .obj D (.deferred (some [])) :: X) Da0->Calls P gf (.func (.yield l) #[] #[] :: lb).toArray w1 (pU fun _ w2=>∃ X' D',Lx X' D'/\Bx w0 w2 Z G (.obj l (.loop (Qx fn a.tmps ps asq bd D)) :: .obj D (.deferred (some [])) :: X') D'))(hQ:∀ D w3 X' D',Lx X' D'->Bx w0 w3 Z G (.obj D (.deferred (some [])) :: X') D'->Q .normal { a with defers:=[mark D] } w3):(Code.rangeFunc g ps asq bd).wp P Q a w:=by
 refine (wpIn_wide (n:=0)).1 (wpIn_rangeFunc fun fn _=>?_);have hev:a.eval g=.func (.func gf) #[] lb.toArray:=by rw [ha.yT];exact hg
 have h1:=(hL.alloc (.deferred (some []))).alloc (.loop (Qx fn a.tmps ps asq bd w.heap.size));rw [World.size_alloc] at h1;have hdf:a.defers=[]:=ha.dfr;refine ⟨w.heap.size+1,[mark w.heap.size],_,{ target:=.fn (.func gf) lb.toArray,args:=#[.func (.yield (w.heap.size+1)) #[] #[]] },(w.alloc (.deferred (some []))).alloc (.loop (Qx fn a.tmps ps asq bd w.heap.size)),gf,(.func (.yield (w.heap.size+1)) #[] #[] :: lb).toArray,(w.alloc (.deferred (some []))).alloc (.loop (Qx fn a.tmps ps asq bd w.heap.size)),run_enterLoop_outer fn a.tmps ps asq bd,?_,fun _ _=>trivial,?_,fun h=>(by cases h),?_⟩
 · have hy:a.eval (.const (.func (.yield (w.heap.size+1)) #[] #[]))=.func (.yield (w.heap.size+1)) #[] #[]:=rfl;simp [resolve,hev,hy,Deferred.ofValue]
 · simp [invoke,F6 hc]
 · refine callsIn_wide.2 ((hcall _ _ _ _ h1).mono fun e w2 he=>?_);obtain ⟨v,rfl,X',D',hLx,h2⟩:=he;have hl:=h2.at 0 rfl;refine ⟨none,_,run_endLoop hl (by intro h;cases h),?_⟩;have h3:=hQ _ _ X' D' hLx ((h2.putObj 0 (.loop { Qx fn a.tmps ps asq bd w.heap.size with state:=.exhausted }) rfl).tl);rw [hdf];exact h3
section
variable {F:Fence}{P:Program}{N:Fz}{ops:Array Oper}{K:KK}{rest:List Oper}{f:Fr}{w w':World}{d:Option Nat}{op:Op}{ty:TypeId}{pos:String}{af:Array Edge}
end
def Iq (ops:Array Oper):Bool:=ops.all fun o=>match o.op with | .defer _=>false | _=>true
theorem VX {P:Program}{l:Nat}{ops:Array Oper}{N:Fz}{K:KK}{i:Nat}{k:Act->World->Prop}{a:Act}{w:World}(hnd:Iq ops=true)(h:wpOp P ops (EI N K) i k a w):wpOpIn (Fence.wide.inRound l) 0 P ops (EI N K) i k a w:=by
 unfold wpOp at h;unfold wpOpIn;cases ho:ops[i]? with
 | none=>rw [ho] at h;exact h
 | some o=>
  rw [ho] at h;dsimp only at h ⊢;split
  · rename_i hw;rw [kg hw] at h;have hn:∀ c,o.op≠.defer c:=fun c hc=>by have:=Array.all_eq_true_iff_forall_mem.1 hnd o (Array.mem_of_getElem? ho);rw [hc] at this;cases this
    rcases h with h | ⟨_,b,v,hz⟩
    · refine ⟨fun f _=>trivial,?_⟩;rw [Oper.semAt_eq _ _ _ hn];unfold Oper.wp at h;generalize (execOp a.eval o).run P w=r at h;cases r with
      | ok x w'=>
       cases x with
       | enter f args=>exact ⟨fun h=>(by cases h),CallsIn.inRound l (callsIn_wide.2 h)⟩
       | row row args=>exact ⟨fun h=>(by cases h),fun c cs _=>let ⟨v,w2,hr,hs⟩:=h c cs;⟨v,w2,hr,stepsIn_wide.2 hs⟩⟩
       | value v=>exact h
       | skip=>exact h
       | defer d=>exact h
       | _=>exact h.elim
      | halt x w'=>cases x <;> exact h
    · exact hz.elim
  · rename_i hw;rw [jR hw] at h;exact ⟨fun f _=>trivial,h⟩
theorem OE {P:Program}{l:Nat}{ops:Array Oper}{N:Fz}{K:KK}{S1 S:World→Prop}{T:List Nat}(hnd:Iq ops=true):∀ (n:Nat)(L:Array Bool)(a:Act)(w:World),I8 P ops (EI N K) S1 S T n L a w→wpAnyIn (Fence.wide.inRound l) 0 P .any ops (EI N K) n L a w
 | 0,_,_,_,h=>h
 | n+1,L,a,w,h=>⟨h.1,fun i hi=>wpOpIn_mono (fun a' w' h'=>OE hnd n _ a' w' h'.2) (VX hnd (h.2 i hi))⟩
theorem Qm {P:Program}{l ib:Nat}{ops:Array Oper}{N:Fz}{K:KK}{S1 S:World->Prop}{T:List Nat}{f:Fr}{a:Act}{w:World}(hm:P.follows .mixedOrders=true)(hnd:Iq ops=true)(h:tK P N ops S1 S T K ops.size (Array.replicate ops.size false) f w.drew)(hok:∀ o ∈ ops.toList,wL N o=true)(ha:Fg N f a):(Code.region ib ops true).wpIn (Fence.wide.inRound l) 0 P (EI N K.i) a w:=by unfold tK at h;exact wpIn_region_any hm (OE hnd _ _ _ _ (h hok (Closed.start ops _) a ha))
theorem R5 {P:Program}{w0 w:World}{l n ia ib jb:Nat}{la:List Oper}{lb:Array Oper}{S1 S:World->Prop}{T:List Nat}{r:Loop}{args:Array Value}{f f':Fr}{Z G:Nat->Prop}{X:List It}{D:List Da}{Lx:List It->List Da->Prop}(hL:Bx w0 w Z G (.obj l (.loop r) :: X) D)(hr:r.state=.ready)(hp:r.pending=none)(hs:args.size=r.params.size)(hf:Fg ⟨n,[]⟩ f { tmps:=(r.params.zip args).foldl (fun tmps (t,a)=>tmps.setIfInBounds t a) r.tmps,defers:=[] })(ha:r.assign=.region ia la.toArray false)(hb:r.body=.block jb (.region ib lb true))(oka:la.all (wL ⟨n,[]⟩)=true)(okb:lb.toList.all (wL ⟨n,[]⟩)=true)(hnd:Iq lb=true)(hm:P.follows .mixedOrders=true)(hA:Zp (Fence.wide.inRound l) P ⟨n,[]⟩ la.toArray ⟨fun f1 w1=>f1=f'/\w1=w,fun _ _ _=>False⟩ la f w)(hB:∀ w1,Bx w0 w1 Z G (.obj l (.loop { r with state:=.busy }) :: X) D->tK P ⟨n,[]⟩ lb S1 S T ⟨fun f2 w2=>∃ X' D',Lx X' D'/\Bx w0 w2 Z G (.obj l (.loop { r with state:=.busy }) :: X') D',fun _ _ _=>False⟩ lb.size (Array.replicate lb.size false) f' w1.drew) :YieldAt Fence.wide 0 P l args w (pU fun v w'=>v=.bool true/\∃ X' D',Lx X' D'/\Bx w0 w' Z G (.obj l (.loop r) :: X') D'):=by
 have hl:w.heap[l]?=some (.loop r):=hL.at 0 rfl;refine ⟨r.fn,_,r.assign,r.body,run_yield hl hs,roundIn_of_wpIn lF ?_⟩;rw [ha,hb];refine wpIn_mono (wpIn_region_lit (hA (List.all_eq_true.1 oka) _ hf)) ?_;rintro e a1 w1 hq;cases e with
 | normal=>
  obtain ⟨f1,h1,rfl,rfl⟩:=hq;refine ⟨_,run_beginRound hl hr,wpIn_block (wpIn_mono (Qm hm hnd (hB _ (hL.putObj 0 _ rfl)) (List.all_eq_true.1 okb) h1) ?_)⟩;rintro e a2 w2 hq;cases e with
  | normal=>
   obtain ⟨f2,h2,X',D',hLx,h3⟩:=hq;have hl2:w2.heap[l]?=some (.loop { r with state:=.busy }):=h3.at 0 rfl;refine ⟨_,_,run_endRound none hl2,_,rfl,rfl,X',D',hLx,?_⟩;have:=h3.putObj 0 (.loop r) rfl;obtain ⟨st,pe,fn,tm,ps,asq,bd,df⟩:=r;simp only at hr hp;subst hr;subst hp;exact this
  | panic c=>obtain ⟨f2,_,z⟩:=hq;exact (z f2).elim
  | _=>exact hq.elim
 | panic c=>obtain ⟨_,_,z⟩:=hq;exact z.elim
 | _=>exact hq.elim
end Go.Fw
set_option maxRecDepth 4000
set_option maxHeartbeats 12800000
namespace Go.Proofs.YtfglbdkfnphjgaaGreat
open Go.RowKit Go.Fw Go.Proofs.Tryz
theorem adO {P:Program}{N:Fz}{c:Code}{Q:Exit->Act->World->Prop}{f:Fr}{w:World}(l:List (Nat × Value))(h:Has f l)(k:∀ g,PE P N c Q (JX g l) w):PE P N c Q f w:=by rw [<-D8 h];exact k f
theorem Qo {n d e:Nat}{f:Fr}{a:Act}{v u:Value}(ha:Fg (n,[]) f a)(hd:d < n)(he:e < n):Fg (n,[]) (upd (upd f d v) e u) { tmps:=((#[d,e]:Array Tmp).zip #[v,u]).foldl (fun tmps (t,a)=>tmps.setIfInBounds t a) a.tmps,defers:=[] }:=by have h:=ha.put (some d) (fun k hk=>by injection hk with hk;subst hk;exact hd) v;have h2:=h.put (some e) (fun k hk=>by injection hk with hk;subst hk;exact he) u;exact ⟨by have:=h2.size;simpa [Act.put] using this,fun t=>by have:=h2.get t;simpa [Act.put,nU] using this,rfl⟩
theorem aaR:jH prog 94:=⟨_,func94,by kernel_rfl,by kernel_rfl⟩
theorem Fq {h:List kC}{e:kC}{a m:Nat}(hc:h.length < a\/m<=(window h a m).length):window (h ++ [e]) a m=window h a m:=by
 unfold window at *
 rcases yZ h.length a with h1 | h1
 · rw [show List.drop a (h ++ [e])=[] from List.drop_eq_nil_of_le (by simp;omega),show List.drop a h=[] from List.drop_eq_nil_of_le (by omega)]
 · have h2:=hc.resolve_left (by omega);rw [List.drop_append_of_le_length h1,List.take_append_of_le_length (by simp only [yM,Er] at h2 ⊢;omega)]
theorem QZ {h:List kC}{e:kC}{a m:Nat}(h1:a<=h.length)(h2:(window h a m).length < m):window (h ++ [e]) a m=window h a m ++ [e]:=by
 unfold window at *
 rw [List.drop_append_of_le_length h1];simp only [yM,Er] at h2;rw [List.take_of_length_le (l:=List.drop a h ++ [e]) (by simp;omega),List.take_of_length_le (l:=List.drop a h) (by simp;omega)]
theorem ach {w0 w w':World}{Z Z' G:Nat->Prop}{L:List It}{D:List Da}{it:It}(h:Bx w0 w Z G L D)(k:Bx w w' Z' (lH []) [it] []):Bx w0 w' Z G (it :: L) D:=
 h.push k.ex (k.at 0 rfl) fun b hb=>Nat.le_of_not_lt fun hlt=>by obtain ⟨_,z,_⟩:=(k.it it (List.mem_singleton.2 rfl)).2 b hb hlt;cases z
theorem FC (l:List Nat):(l.map fun b=>[Pt b]).flatten=l.map fun b=>Pt b:=by
 induction l with
 | nil=>rfl
 | cons a l ih=>simp only [List.map_cons,Cv,ih];rfl
theorem Pw {ρ:Operand->Value}{w:World}{d:Option Nat}{ty:TypeId}{pos:String}{af:Array Edge}{g:Option (Nat × Bool)}{n m:Int}{A:Option Addr}{k c:Nat}{x:Operand}(h:ρ x=.agg #[Vi n,Vi m,.slice A k c]) :(execOp ρ ⟨d,.buildSlice 57 1 #[(0,x)],ty,pos,af,g⟩).run prog w=.ok (.value (.slice (some ⟨w.heap.size,0,none⟩) 1 1)) (w.alloc (.cells #[Vi n,Vi m,.slice A k c] 62)):=by
 have e:(Instr.buildSlice 57 1 #[(0,.agg #[Vi n,Vi m,.slice A k c])]).run prog w=.ok (.slice (some ⟨w.heap.size,0,none⟩) 1 1) (w.alloc (.cells #[Vi n,Vi m,.slice A k c] 62)):=by kernel_rfl
 simp [execOp,h,e]
theorem Ow {ρ:Operand->Value}{w:World}{d:Option Nat}{ty:TypeId}{pos:String}{af:Array Edge}{g:Option (Nat × Bool)}{A:Option Addr}{k c:Nat}{x:Operand}(h:ρ x=.agg #[.slice A k c]) :(execOp ρ ⟨d,.buildSlice 40 1 #[(0,x)],ty,pos,af,g⟩).run prog w=.ok (.value (.slice (some ⟨w.heap.size,0,none⟩) 1 1)) (w.alloc (.cells #[.slice A k c] 59)):=by
 have e:(Instr.buildSlice 40 1 #[(0,.agg #[.slice A k c])]).run prog w=.ok (.slice (some ⟨w.heap.size,0,none⟩) 1 1) (w.alloc (.cells #[.slice A k c] 59)):=by kernel_rfl
 simp [execOp,h,e]
theorem YieldAt.mono' {P:Program}{l:Nat}{args:Array Value}{w:World}{R R':Value->World->Prop}(h:YieldAt Fence.wide 0 P l args w (pU R))(k:∀ v w,R v w->R' v w):YieldAt Fence.wide 0 P l args w (pU R'):=by obtain ⟨fn,tmps,q,bd,h1,h2⟩:=h;exact ⟨fn,tmps,q,bd,h1,h2.mono fun e w he=>by obtain ⟨v,hv,hr⟩:=he;exact ⟨v,hv,k v w hr⟩⟩
theorem TB {fu:Nat}{w:World}{A:Nat->Prop}{R:Rn}{m:BX}{ptrs:List Nat}{x:vV}{s s':Sg}{xs:List vV}{gs:List qx}{id:Int}{p:Pn Unit}(hP:Pre w A (Mac R m ptrs s.hist s.out ++ [It.act x s.a]) (oV R m s.hist s.out))(hl:Qn w (lH (Mac R m ptrs s.hist s.out ++ [It.act x s.a])) xs gs)(hB:R.B<=w.heap.size)(hp:ptrs=(xs.map (·.b)).reverse ++ [x.b])(hn:ptrs.length<=20)(hst:R.st<=5000)(hmo:R.mo<=100)(hm:event (jD fu R.src) R.st gs s id=some (p,s')) :Calls prog 71 #[Pt R.rb,Pt x.b,V id] w (RP (fun v w'=>v=.tuple #[]/\(∃ u,p=.ok u)/\Now w w' A (lH (Mac R m ptrs s.hist s.out ++ [It.act x s.a])) R ptrs x s') (fun c w'=>Pb p c/\Now w w' A (lH (Mac R m ptrs s.hist s.out ++ [It.act x s.a])) R ptrs x s')):=by
 have b:=hP.bx;clear hP;generalize hG:lH (Mac R m ptrs s.hist s.out ++ [It.act x s.a])=G at b hl ⊢;refine RU func71 rfl ?_;refine adO [(0,Pt R.rb),(1,Pt x.b),(2,V id)] ⟨rfl,rfl,rfl,trivial⟩ fun av=>?_;refine PK rfl ?_;refine go ?_;refine su b (uK rfl) fun w1 b3 b=>?_;refine go ?_;refine PK rfl ?_;refine go ?_;refine Es b (fun _=>True) lF (by kernel_rfl) fun m1=>?_;replace b:=m1.1;refine uF 0 r (fun h=>GD r (h.1.bk 0 r) r) m1 (pF 1 r (xn r) m1 (pF 2 r (Yo r) m1 (uF 3 r (fun h=>l3 r (h.1.bk 1 r) r) m1 (uF 4 r (fun h=>GD r (h.1.bk 0 r) r) m1 (pF 5 r (xn r) m1 (pF 6 r (Yy r) m1 (uF 7 r (fun h=>l3 r (h.1.bk 1 r) r) m1 (pF 8 r (CF r r) m1 (hD ?_)))))))));unfold event at hm;refine ou rfl (fun h=>?_) (fun h=>?_)
 · rw [kg (by omega)] at hm;obtain ⟨rfl,rfl⟩:=sK (sm hm);refine go ?_;refine kr (MS Tw rfl) ?_;exact Cq rfl ⟨zo _,m,b.tl⟩
 rw [jR (by omega)] at hm;obtain ⟨fs,hfs,hm⟩:=bs hm;obtain ⟨rfl,rfl⟩:=sK (sm hm);refine Hz ?_;refine PK rfl ?_;refine go ?_;refine ZX rfl ?_;refine lD (Ru b 5 rfl rfl rfl) fun w2 b=>?_;dsimp only [List.set] at b;refine go ?_;refine PK rfl ?_;refine goC b ?_;refine PK rfl ?_;refine goC b ?_;refine lD (t_n b 1 [V (wr ((s.hist.length:Int)+1))] rfl ny rfl rfl) fun w3 b=>?_;rw [Px (by omega)] at b;refine go ?_;refine PK rfl ?_;refine go ?_;refine Es b (fun _=>True) lF (by kernel_rfl) fun m1=>?_;replace b:=m1.1;refine pF 0 r (Qw r) m1 (uF 1 r (fun h=>GD r (h.1.bk 0 r) r) m1 (pF 2 r (xn r) m1 (pF 3 r (ZC r) m1 (uF 4 r (fun h=>l3 r (h.1.bk 1 r) r) m1 (pF 5 r (qC r r) m1 (pF 6 r (kV r) m1 ?_))))));by_cases hw:(s.hist.length:Int) < (R.fr:Int)
 · rw [qF hw];refine jY 7 r (by kernel_rfl) r (sF m1) (jY 8 r (by kernel_rfl) r (sF m1) (jY 9 r (by kernel_rfl) r (sF m1) (jY 10 r (by kernel_rfl) r (sF m1) (jY 11 r (by kernel_rfl) r (sF m1) (jY 12 r (by kernel_rfl) r (sF m1) (jY 13 r (by kernel_rfl) r (sF m1) (jY 14 r (by kernel_rfl) r (sF m1) (jY 15 r (by kernel_rfl) r (sF m1) (jY 16 r (by kernel_rfl) r (sF m1) (pF 17 r (kP r r) m1 (hD ?_)))))))))));refine go ?_;refine kH ⟨rfl,⟨(),rfl⟩,m,?_⟩;dsimp only [Mac,oV,qo];rw [Fq (.inl (by omega)),Dk,Gx];exact b.tl
 rw [oz hw];refine uF 7 r (fun h=>GD r (h.1.bk 0 r) r) m1 (pF 8 r (xn r) m1 (pF 9 r (Mt r) m1 (uF 10 r (fun h=>Sc r (h.1.bk 1 r) r) m1 (pF 11 r (lT underlying40 r) m1 (uF 12 r (fun h=>GD r (h.1.bk 0 r) r) m1 (pF 13 r (xn r) m1 (pF 14 r (Zr r) m1 (uF 15 r (fun h=>l3 r (h.1.bk 1 r) r) m1 (pF 16 r (CF r r) m1 (pF 17 r (ko r r) m1 (hD ?_)))))))))));refine ou rfl (fun hw2=>?_) (fun hw2=>?_)
 · refine go ?_;refine kH ⟨rfl,⟨(),rfl⟩,m,?_⟩;dsimp only [Mac,oV,qo];rw [Fq (.inr (by omega)),Dk,Gx];exact b.tl
 refine go ?_;refine PK rfl ?_;refine go ?_;refine su b (jT E5) fun w4 b7 b=>?_;refine go ?_
 refine YP (P:=prog) (fn:=f71) (w0:=w) (Z:=A) (G:=G) (L:=fun X Y=>∃ m',X=Mac R m' ptrs (s.hist ++ [⟨fs⟩]) s.out ++ [It.act x ⟨s.a.f,id,s.a.ws⟩]∧Y=oV R m' (s.hist ++ [⟨fs⟩]) s.out)
   (KB:=fun f w'=>∃ bk,Has f [(3,Pt b3),(7,Pt b7),(57,.func (.func 109) #[] #[Pt bk])]/\Bx w w' A G (.box bk 67 #[.slice m.lA ptrs.length m.lC] :: .box b7 59 #[sn] :: .box b3 66 #[Pt R.rb] :: .box R.rb 69 (qo R m ptrs.length (window s.hist R.fr R.mo).length (s.hist.length+1) s.out.length).toArray :: .own R.B m.lA m.lC 92 1 (ptrs.map fun b=>[Pt b]) :: .own R.B m.eA m.eC 59 (Rp.sz kC) m.ec :: .own R.B m.oA m.oC 3 (Rp.sz Int) m.oc :: [It.act x ⟨s.a.f,id,s.a.ws⟩]) (oV R m s.hist s.out))
   (KR:=fun D f w'=>Has f [(3,Pt b3),(7,Pt b7)]/\∃ fa fc fcs,Bx w w' A G (.obj D (.deferred (some [])) :: .own w.heap.size fa fc 62 (Rp.sz nK) fcs :: .box b7 59 #[.slice fa fs.length fc] :: .box b3 66 #[Pt R.rb] :: .box R.rb 69 (qo R m ptrs.length (window s.hist R.fr R.mo).length (s.hist.length+1) s.out.length).toArray :: .own R.B m.lA m.lC 92 1 (ptrs.map fun b=>[Pt b]) :: .own R.B m.eA m.eC 59 (Rp.sz kC) m.ec :: .own R.B m.oA m.oC 3 (Rp.sz Int) m.oc :: [It.act x ⟨s.a.f,id,s.a.ws⟩]) (.els fcs fs :: oV R m s.hist s.out))
   rfl ?_ ?_ ?_ ?_
 · refine goC b ?_;refine pW (l6 aaF rfl) (NN (Z:=A)) ?_;rintro _ w5 ⟨bk,rfl,hK⟩;refine go ?_;exact ⟨bk,⟨rfl,rfl,rfl,trivial⟩,ach b hK⟩
 · rintro f w5 a ⟨bk,hf,b⟩ ha;clear m1;obtain ⟨av2,rfl⟩:=mJ _ _ hf;clear hf;have hg:ev (JX av2 [(3,Pt b3),(7,Pt b7),(57,.func (.func 109) #[] #[Pt bk])]) (.tmp 57)=.func (.func 109) #[] [Pt bk].toArray:=rfl;refine wp_block (YJ (Lx:=fun X Y=>∃ fa fc fcs,X=.own w.heap.size fa fc 62 (Rp.sz nK) fcs :: .box b7 59 #[.slice fa fs.length fc] :: .box b3 66 #[Pt R.rb] :: .box R.rb 69 (qo R m ptrs.length (window s.hist R.fr R.mo).length (s.hist.length+1) s.out.length).toArray :: .own R.B m.lA m.lC 92 1 (ptrs.map fun b=>[Pt b]) :: .own R.B m.eA m.eC 59 (Rp.sz kC) m.ec :: .own R.B m.oA m.oC 3 (Rp.sz Int) m.oc :: [It.act x ⟨s.a.f,id,s.a.ws⟩]/\Y=.els fcs fs :: oV R m s.hist s.out) ha hg YL b ?_ ?_)
   · intro l D fn w6 hL;generalize hO:Qx fn a.tmps #[58,59] _ _ D=O at hL ⊢
     refine Calls.mono (aao (n:=ptrs.length) (A:=m.lA) (c:=m.lC) (ps:=fun k=>ptrs.getD k 0) (I:=fun k w'=>∃ acc fa fc fcs,VN (jD fu R.src) (((⟨s.a.f,id,s.a.ws⟩:qx) :: gs).drop (ptrs.length - k)) acc=some fs∧
       Bx w w' A G (.obj l (.loop O) :: .obj D (.deferred (some [])) :: .box bk 67 #[.slice m.lA ptrs.length m.lC] :: .own w.heap.size fa fc 62 (Rp.sz nK) fcs :: .box b7 59 #[.slice fa acc.length fc] :: .box b3 66 #[Pt R.rb] :: .box R.rb 69 (qo R m ptrs.length (window s.hist R.fr R.mo).length (s.hist.length+1) s.out.length).toArray :: .own R.B m.lA m.lC 92 1 (ptrs.map fun b=>[Pt b]) :: .own R.B m.eA m.eC 59 (Rp.sz kC) m.ec :: .own R.B m.oA m.oC 3 (Rp.sz Int) m.oc :: [It.act x ⟨s.a.f,id,s.a.ws⟩]) (.els fcs acc :: oV R m s.hist s.out)) ?_ ?_ ?_ ?_ (by omega)) ?_
     · rintro k w7 ⟨acc,fa,fc,fcs,_,hb⟩;exact hb.bk 2 rfl
     · rintro k w7 hk ⟨acc,fa,fc,fcs,_,hb⟩;obtain ⟨y,hy⟩:=lZ (l:=ptrs) hk;have ho:=hb.bo 7 rfl;rw [xR,FC] at ho;have h3:=D5 ho (k:=k) (v:=Pt y) (by rw [BR,hy];rfl);refine ⟨h3.1,?_⟩;rw [Nat.mul_one,h3.2.1];simp [Gb,hy]
     · rintro k w7 hk ⟨acc,fa,fc,fcs,hacc,hb⟩;subst hO;have hlen:ptrs.length=gs.length+1:=by rw [hp,Dk,List.length_reverse,xR,hl.len];rfl
       have hact:∃ y g,(((⟨s.a.f,id,s.a.ws⟩:qx) :: gs))[ptrs.length - (k+1)]?=some g/\ptrs.getD k 0=y.b/\∀ w',IG G w w'->(∀ hq:ptrs.length - (k+1)=0,(It.act x ⟨s.a.f,id,s.a.ws⟩).p w')->(It.act y g).p w':=by
         have hj:ptrs.length - (k+1) < gs.length+1:=by omega
         have hpk:∀ j,j < gs.length+1->ptrs.getD (gs.length - j) 0=((x :: xs).map (·.b)).getD j 0:=fun j hj=>by
          have e:ptrs=((x :: xs).map (·.b)).reverse:=by rw [hp];simp
          rw [e,Gb,Gb,List.getElem?_reverse (by simp [hl.len];omega)]
          congr 2
          simp [hl.len];omega
         have e1:gs.length - (ptrs.length - (k+1))=k:=by omega
         have hk2:=hpk _ hj;rw [e1] at hk2;generalize ptrs.length - (k+1)=q at hj hk2 ⊢;cases q with
         | zero=>exact ⟨x,_,rfl,by rw [hk2];rfl,fun w' _ h=>h rfl⟩
         | succ q=>
          obtain ⟨g,hg⟩:=lZ (l:=gs) (k:=q) (by omega);obtain ⟨y,hy,_⟩:=hl.get hg;refine ⟨y,g,by simpa using hg,by rw [hk2];simp [Gb,hy],fun w' hc _=>?_⟩;obtain ⟨y',hy',hy2⟩:=(zx.mv' hc (fun b _ h=>h) hl).get hg;rw [hy] at hy';exact vK hy' ▸ hy2
       obtain ⟨y,g,hg2,hy,hw7⟩:=hact;rw [hy];rw [mD hg2,VN,show ptrs.length - (k+1)+1=ptrs.length - k by omega] at hacc;obtain ⟨fr,hfr,hacc⟩:=bs hacc;obtain ⟨acc2,hac2,hacc⟩:=bs hacc
       refine YieldAt.mono' (R5 (la:=[_]) (S1:=fun u=>nS u b3 66 #[Pt R.rb]) (S:=fun u=>nS u b7 59 #[.slice fa acc.length fc]) (T:=[8]) (Lx:=fun X Y=>∃ fa fc fcs,X=.obj D (.deferred (some [])) :: .box bk 67 #[.slice m.lA ptrs.length m.lC] :: .own w.heap.size fa fc 62 (Rp.sz nK) fcs :: .box b7 59 #[.slice fa acc2.length fc] :: .box b3 66 #[Pt R.rb] :: .box R.rb 69 (qo R m ptrs.length (window s.hist R.fr R.mo).length (s.hist.length+1) s.out.length).toArray :: .own R.B m.lA m.lC 92 1 (ptrs.map fun b=>[Pt b]) :: .own R.B m.eA m.eC 59 (Rp.sz kC) m.ec :: .own R.B m.oA m.oC 3 (Rp.sz Int) m.oc :: [It.act x ⟨s.a.f,id,s.a.ws⟩]∧Y=.els fcs acc2 :: oV R m s.hist s.out)
         hb rfl rfl rfl (Qo ha (by decide) (by decide)) rfl rfl (by kernel_rfl) (by kernel_rfl) (by kernel_rfl) (by kernel_rfl) (OM (Wd.rnd l) (fun _ h=>by cases h) (P5 rfl) (abe ⟨rfl,rfl⟩)) ?_) ?_
       · intro w8 b;replace b:=b.drew;have m1:nS w8.drew b3 66 #[Pt R.rb]:=b.bk 5 rfl;have m2:nS w8.drew b7 59 #[.slice fa acc.length fc]:=b.bk 4 rfl;refine pL 0 r (Et r) m1 m2 (tS 9 1 r (fun _ h=>l57 r h r) (kJ m1 m2) (tU 2 r (fun _ h=>GD r h r) (kJ m1 m2) (pL 3 r (oF r) m1 m2 ?_)));refine hO 4 (oc r r (ec aaR r) (Vn (b.pr [] [0,1,2,3,4,5,6,7,8,9,10] [3,4,5,6] r) (b.bk 6 rfl) (hw7 _ b.rM fun _=>b.at 10 rfl) hfr) ?_);rintro _ w9 ⟨A1,c1,rfl,hK⟩;replace b:=b.cn [] [0,1,2,3,4,5,6,7,8,9,10] hK;refine ⟨kJ (b.bk 5 rfl) (b.bk 4 rfl),?_⟩;refine hO 5 (oo r r (jO b [[V fr.j,V fr.a,.slice A1 fr.c.length c1]] ([fr]:List nK) (Pw r) r r (by decide) ⟨nK.inn ⟨_,_,rfl,b.dl 0 rfl⟩,trivial⟩) ?_);rintro _ w10 ⟨b5,rfl,b⟩;refine ⟨kJ (b.bk 6 rfl) (b.bk 5 rfl),?_⟩;refine hO 6 (oo r r (kR b 4 2 r r underlying57 CP r (by decide) (by decide) (oH _) r r (b.AR 0 0 r r) hac2) ?_);rintro _ w11 ⟨a4,c4,cs4,rfl,b⟩;refine ⟨kJ (b.bk 6 rfl) (b.bk 5 rfl),pL 7 r (Et r) (b.bk 6 rfl) (b.bk 5 rfl) ?_⟩;refine hO 8 (os r r (oM b 5 [.slice a4 acc2.length c4] r Yn r r) fun w12 b=>⟨sy 8 (b.bk 6 rfl),hD ?_⟩);exact ⟨_,_,⟨a4,c4,cs4,rfl,rfl⟩,(b.arr [1,2,3,4,5,6,7,8,9,10,11] rfl).dp [2,3,4,5,6,7,8]⟩
       · rintro v w8 ⟨rfl,X',D',⟨fa,fc,fcs,rfl,rfl⟩,hb⟩;exact ⟨rfl,acc2,fa,fc,fcs,hacc,hb⟩
     · refine ⟨[],none,0,[],?_,?_⟩
       · rw [Nat.sub_self,List.drop_zero];exact hfs
       · exact (hL.Cy nK 62).arr [1,2,3,0,4,5,6,7,8,9,10] rfl
     · rintro e w7 ⟨v,rfl,rfl,acc,fa,fc,fcs,hacc,hb⟩;have hlen:ptrs.length=gs.length+1:=by rw [hp,Dk,List.length_reverse,xR,hl.len];rfl
       rw [Nat.sub_zero,List.drop_eq_nil_of_le (by rw [hlen];exact oH _)] at hacc;obtain rfl:=sm hacc;exact ⟨_,rfl,_,_,⟨fa,fc,fcs,rfl,rfl⟩,hb.arr [0,1,3,4,5,6,7,8,9,10] rfl⟩
   · rintro D w6 X Y ⟨fa,fc,fcs,rfl,rfl⟩ hb;exact ⟨rfl,D,rfl,⟨rfl,rfl,trivial⟩,fa,fc,fcs,hb⟩
 · rintro D f w5 ⟨hf,fa,fc,fcs,b⟩;obtain ⟨av,rfl⟩:=mJ _ _ hf;clear hf;replace b:=b.fz 1 0 rfl rfl;have hap:app (window s.hist R.fr R.mo) [(⟨fs⟩:kC)]=some (window s.hist R.fr R.mo ++ [⟨fs⟩]):=by
     unfold app
     rw [kg (by have:(window s.hist R.fr R.mo).length≤R.mo:=(by unfold window;rw [yM];exact Nat.min_le_left ..);simp only [Gx];omega)]
   refine ql (fun u=>nS u b3 66 #[Pt R.rb]) (fun u=>nS u b7 59 #[.slice fa fs.length fc]/\nS u R.rb 69 (qo R m ptrs.length (window s.hist R.fr R.mo).length (s.hist.length+1) s.out.length).toArray) [7] (by kernel_rfl) ?_;replace b:=b.drew;have m1:nS w5.drew b3 66 #[Pt R.rb]:=b.bk 2 rfl;have m2:nS w5.drew b7 59 #[.slice fa fs.length fc]/\nS w5.drew R.rb 69 (qo R m ptrs.length (window s.hist R.fr R.mo).length (s.hist.length+1) s.out.length).toArray:=⟨b.bk 1 rfl,b.bk 3 rfl⟩;refine tU 0 r (fun _ h=>GD r h r) (kJ m1 m2) (tU 1 r (fun _ h=>GD r h r) (kJ m1 m2) (pL 2 r (xn r) m1 m2 (pL 3 r (Mt r) m1 m2 (tS 12 4 r (fun _ h=>Sc r h.2 r) (kJ m1 m2) (tS 12 5 r (fun _ h=>l7 [.slice fa fs.length fc] Z7 E5 r h.1) (kJ m1 m2) ?_)))));refine hO 6 (oo r r (jO b [[.slice fa fs.length fc]] ([⟨fs⟩]:List kC) (Ow r) r r (by decide) ⟨kC.inn ⟨_,_,rfl,b.dl 0 rfl⟩,trivial⟩) ?_);rintro _ w6 ⟨b5,rfl,b⟩;refine ⟨kJ (b.bk 3 rfl) ⟨b.bk 2 rfl,b.bk 4 rfl⟩,?_⟩;refine hO 7 (oo r r (kR b 6 2 r r underlying40 E5 r (by decide) (by decide) hB r r (b.AR 0 0 r r) hap) ?_);rintro _ w7 ⟨a4,c4,cs4,rfl,b⟩;refine ⟨sy 7 (b.bk 3 rfl),tP 8 r (fun _=>xn r) (sy 7 (b.bk 3 rfl)) (tP 9 r (fun _=>Mt r) (sy 7 (b.bk 3 rfl)) ?_)⟩;refine hO 10 (os r r (t_n b 4 [.slice a4 (window s.hist R.fr R.mo ++ [(⟨fs⟩:kC)]).length c4] r Qt r r) fun w8 b=>⟨sy 7 (b.bk 3 rfl),hD ?_⟩);refine ⟨_,_,⟨{ m with eA:=a4,eC:=c4,ec:=cs4 },rfl,rfl⟩,?_⟩;dsimp only [Mac,oV,qo];rw [QZ (by omega) (by omega),show (s.hist ++ [(⟨fs⟩:kC)]).length=s.hist.length+1 from by simp];exact (b.arr [1,4,5,6,7,8] rfl).dp [2,3,4,5,6,7]
 · rintro w' X Y ⟨m',rfl,rfl⟩ hb;exact ⟨rfl,⟨(),rfl⟩,m',hb⟩
abbrev Lj (R:Rn)(m:BX)(ptrs:List Nat)(x:vV)(s:Sg):List It:=Mac R m ptrs s.hist s.out ++ [It.act x s.a]
structure Tj (w:World)(A:Nat->Prop)(R:Rn)(m:BX)(ptrs:List Nat)(x:vV)(s:Sg)(xs:List vV)(gs:List qx)(D:List Da):Prop where
 pre:Pre w A (Lj R m ptrs x s) (D ++ oV R m s.hist s.out)
 lent:Qn w (lH (Lj R m ptrs x s)) xs gs
 hB:R.B<=w.heap.size
 hp:ptrs=(xs.map (·.b)).reverse ++ [x.b]
 hn:ptrs.length<=20
structure PI (R:Rn):Prop where
 st:R.st<=5000
 mo:R.mo<=100
def Ok (w:World)(A:Nat->Prop)(R:Rn)(m:BX)(ptrs:List Nat)(x:vV)(s s':Sg)(w':World):Prop:=Now w w' A (lH (Lj R m ptrs x s)) R ptrs x s'
def Pk {α:Type}(p:Pn α)(w:World)(A:Nat->Prop)(R:Rn)(m:BX)(ptrs:List Nat)(x:vV)(s s':Sg)(ch:List PanicEntry)(w':World):Prop:=Pb p ch/\aaO w w' A (lH (Lj R m ptrs x s)) R ptrs x s'
abbrev cS (y:jI)(a7:Option Addr)(c7:Nat)(a10:Option Addr)(c10:Nat)(a11:Option Addr)(c11:Nat)(a12:Option Addr)(c12:Nat):List Value:=
 [V y.c,V y.f,V y.n,T y.b,T y.k,V y.m,V y.g,.slice a7 y.d.length c7,T y.j,V y.i,.slice a10 y.a.length c10,.slice a11 y.e.length c11,.slice a12 y.h.length c12]
abbrev dS (y:jI)(a7:Option Addr)(c7:Nat)(a10:Option Addr)(c10:Nat)(a11:Option Addr)(c11:Nat)(a12:Option Addr)(c12:Nat):List Da:=[.l a7 c7 y.d,.l a10 c10 y.a,.l a11 c11 y.e,.l a12 c12 y.h]
def CSt (R:Rn)(sm:List qx->Sm):Prop:=∀ {w:World}{A:Nat->Prop}{m:BX}{ptrs:List Nat}{x:vV}{s s':Sg}{xs:List vV}{gs:List qx}{y:jI}{a7:Option Addr}{c7:Nat}{a10:Option Addr}{c10:Nat}{a11:Option Addr}{c11:Nat}{a12:Option Addr}{c12:Nat}{p:Pn (Option Int)},Tj w A R m ptrs x s xs gs (dS y a7 c7 a10 c10 a11 c11 a12 c12)->sm gs s y=some (p,s')-> Calls prog 50 #[Pt R.rb,Pt x.b,.agg (cS y a7 c7 a10 c10 a11 c11 a12 c12).toArray] w (RP (fun v w'=>∃ o,p=.ok o/\v=.tuple #[V (o.getD 0),.bool o.isSome]/\Ok w A R m ptrs x s s' w') (Pk p w A R m ptrs x s s'))
def CLs (R:Rn)(sm:List qx->Sm):Prop:=∀ {w:World}{A:Nat->Prop}{m:BX}{ptrs:List Nat}{x:vV}{s s':Sg}{xs:List vV}{gs:List qx}{l:List jI}{a:Option Addr}{c:Nat}{p:Pn (Option Int)},Tj w A R m ptrs x s xs gs [.l a c l]->EJ (sm gs) s l=some (p,s')-> Calls prog 30 #[Pt R.rb,Pt x.b,.slice a l.length c] w (RP (fun v w'=>∃ o,p=.ok o/\v=.tuple #[V (o.getD 0),.bool o.isSome]/\Ok w A R m ptrs x s s' w') (Pk p w A R m ptrs x s s'))
theorem aaz:jH prog 50:=⟨_,func50,by kernel_rfl,by kernel_rfl⟩
theorem Rk:jH prog 30:=⟨_,func30,by kernel_rfl,by kernel_rfl⟩
theorem xQ {T:TypeId}{w w1:World}{A G:Nat->Prop}{L L1:List It}{D:List Da}{xs:List vV}{gs:List qx}(b:Bx w w1 A G L D)(hl:zx T w G xs gs)(hs:∀ it ∈ L1,it ∈ L):zx T w1 (lH L1) xs gs:=
 zx.mv' b.rM (fun k hk ⟨it,hi,hF⟩=>(b.it it (hs it hi)).2 k hF hk) hl
theorem aa6 {N:Fz}{ops:Array Oper}{K:KK}{rest:List Oper}{f:Fr}{w w0:World}{d1 d2:Nat}{ty ty2:TypeId}{pos pos2:String}{af af2:Array Edge}{y z:Operand}{Z G:Nat->Prop}{L:List It}{D:List Da}(e:Bx w0 w Z G L D)(j:Nat){a:Option Addr}{c:Nat}{l:List jI}{k:Nat}{i:Int}{x:jI}(hj:D[j]?=some (.l a c l))(hk:l[k]?=some x)(h1:ev f y=.slice a l.length c)(h2:ev f z=V i)(hi:i=(k:Int))(h:∀ a7 c7 a10 c10 a11 c11 a12 c12,Bx w0 w Z G L (dS x a7 c7 a10 c10 a11 c11 a12 c12 ++ D)->pV prog N ops K rest (upd (upd f d1 (.pointer (some ⟨nE a,ow a+k * 13,none⟩))) d2 (.agg (cS x a7 c7 a10 c10 a11 c11 a12 c12).toArray)) w) :pV prog N ops K (⟨some d1,.indexAddr 37 y z,ty,pos,af,none⟩ :: ⟨some d2,.load 122 (.tmp d1),ty2,pos2,af2,none⟩ :: rest) f w:=by
 obtain ⟨cs,hr,e2⟩:=e.nm j hj hk;obtain ⟨a7,c7,a10,c10,a11,c11,a12,c12,rfl,h7,h10,h11,h12⟩:=jI.out hr;have e3:=(((e2.kF (d:=.l a12 c12 x.h) h12).kF (d:=.l a11 c11 x.e) h11).kF (d:=.l a10 c10 x.a) h10).kF (d:=.l a7 c7 x.d) h7;refine kr (kY underlying37 jQ h1 h2 hi (e.dl j hj) hk) ?_;refine kr (nA (cS x a7 c7 a10 c10 a11 c11 a12 c12) underlying122 rfl jQ rfl (by show upd f d1 _ d1=_;unfold upd;rw [Nat.beq_refl];rfl) (e3.dc 4 rfl)) ?_;exact h a7 c7 a10 c10 a11 c11 a12 c12 (e3.NK fun d hd=>by
  simp only [dS,List.cons_append,Gg,qK] at hd ⊢;rcases hd with h | h | h | h | h
  · exact .inl h
  · exact .inr (.inl h)
  · exact .inr (.inr (.inl h))
  · exact .inr (.inr (.inr (.inl h)))
  · exact .inr (.inr (.inr (.inr (.inr h)))))
theorem Q7 {R:Rn}{sm:List qx->Sm}(hS:CSt R sm):CLs R sm:=by
 intro w A m ptrs x s s' xs gs l a c p hR hm;obtain ⟨hP,hl,hB,hp,hn⟩:=hR;have b:=hP.bx;clear hP;unfold Ok Pk;generalize hG:lH (Lj R m ptrs x s)=G at b hl ⊢;refine xZ func30 rfl ?_;refine lG [(0,Pt R.rb),(1,Pt x.b),(2,.slice a l.length c)] ⟨rfl,rfl,rfl,trivial⟩ fun av=>?_;have hbd:=(b.dl 0 rfl).bd;refine goC b ?_
 refine kK (fun aw f w'=>∃ (t:Nat)(s1:Sg)(m1:BX),aw=l.length - t∧t≤l.length∧
     Has f [(0,Pt R.rb),(1,Pt x.b),(12,.slice a l.length c),(13,V (l.length:Int)),(14,V (t:Int))]/\
     Bx w w' A G (Lj R m1 ptrs x s1) (.l a c l :: oV R m1 s1.hist s1.out)/\EJ (sm gs) s1 (l.drop t)=some (p,s'))
   l.length ⟨0,s,m,rfl,uy _,⟨rfl,rfl,rfl,rfl,rfl,trivial⟩,b,hm⟩ ?_
 clear b hm;rintro aw f w1 ⟨t,s1,m1,rfl,ht,hf,b,hm⟩ J hJ;obtain ⟨av,rfl⟩:=mJ _ _ hf;clear hf;refine goC b ?_;refine ou rfl (fun h=>?_) (fun h=>?_)
 · obtain ⟨y,hy⟩:=lZ (l:=l) (k:=t) (by omega);rw [mD hy,EJ] at hm;obtain ⟨⟨q,s2⟩,h1,hm⟩:=bs hm;refine goC b ?_;refine aa6 b 0 rfl hy rfl rfl rfl fun a7 c7 a10 c10 a11 c11 a12 c12 b=>?_;refine su b (jT jQ) fun w2 b9 b=>?_;refine lD (oM b 0 (cS y a7 c7 a10 c10 a11 c11 a12 c12) rfl jQ rfl rfl) fun w3 b=>?_;refine goC b ?_;refine kr (l7 (cS y a7 c7 a10 c10 a11 c11 a12 c12) lu jQ rfl (b.bk 0 rfl)) ?_;have hr:Tj w3 (Ei w A (pick _ [1,2,3,4,5] ++ pick _ [0])) R m1 ptrs x s1 xs gs (dS y a7 c7 a10 c10 a11 c11 a12 c12):=⟨b.pr [1,2,3,4,5] [0] [0,1,2,3,5,6,7,8,9,10] rfl,xQ b hl (fun it hi=>wI _ hi),q9 hB b.rM.size,hp,hn⟩;refine Nk (l6 aaz rfl) (hS hr h1) (fun ch w4 hq=>?_) ?_
   · obtain ⟨hq,more,m4,hK⟩:=hq;have hb:=b.cn [1,2,3,4,5] [0] hK;have hb:=(hb.arr [0,1,2,3,4] rfl).dp [0,1,2,3,4,5];cases q with
     | ok o=>exact hq.elim
     | _=>obtain ⟨rfl,rfl⟩:=sK (vK hm);exact ⟨hq,more,m4,hb⟩
   rintro _ w4 ⟨o,rfl,rfl,m4,hK⟩;replace b:=b.cn [1,2,3,4,5] [0] hK;replace b:=(b.arr [0,1,2,3,4] rfl).dp [10,0,1,2,3,4,5];cases o with
   | none=>
     refine kr (xw (.tuple #[V 0,.bool false]) rfl) ?_;refine go ?_;exact hJ (l.length - (t+1)) _ _ (by omega) ⟨t+1,s2,m4,rfl,by omega,⟨rfl,rfl,rfl,rfl,congrArg V (Px (t:=t) (by omega)),trivial⟩,b,hm⟩
   | some v=>
     obtain ⟨rfl,rfl⟩:=sK (vK hm);refine kr (xw (.tuple #[V v,.bool true]) rfl) ?_;refine go ?_;refine kH ?_;refine ng (fn:=f30) rfl (kL rfl) (kL rfl) ?_;exact ⟨some v,rfl,rfl,m4,b.dp [1,2,3,4,5,6]⟩
 · obtain rfl:t=l.length:=by omega
   rw [lW,EJ] at hm;obtain ⟨rfl,rfl⟩:=sK (vK hm);refine goC b ?_;refine uS ?_;refine goC b ?_;refine kH ?_;refine ng (fn:=f30) rfl (kL rfl) (kL rfl) ?_;exact ⟨none,rfl,rfl,m1,b.dp [1,2,3,4,5,6]⟩
structure RV where
 a:Option Addr
 n:Nat
 c:Nat
instance:Rp RV:=⟨1,24,fun _ _ cs h=>cs=[.slice h.a h.n h.c],fun h=>by rw [h];rfl,fun h=>by rw [h];rfl,fun h _=>h⟩
def hdl:List Nat→List (List Int)→List RV
 | r :: R,l :: m=>⟨some ⟨r,0,none⟩,l.length,l.length⟩ :: hdl R m
 | _,_=>[]
theorem Ci:∀ {R:List Nat}{m:List (List Int)},R.length=m.length→(hdl R m).length=m.length
 | _ :: R,_ :: m,h=>by simp only [hdl,tT] at h ⊢;rw [Ci (R:=R) (m:=m) (by omega)]
 | [],[],_=>rfl
 | [],_ :: _,h=>by simp at h
 | _ :: _,[],h=>by simp at h
theorem JB:∀ {R:List Nat}{m:List (List Int)}{r:Nat}{l:List Int},R.length=m.length→hdl (R ++ [r]) (m ++ [l])=hdl R m ++ [⟨some ⟨r,0,none⟩,l.length,l.length⟩]
 | _ :: R,_ :: m,r,l,h=>by simp only [hdl,List.cons_append,tT] at h ⊢;rw [JB (R:=R) (m:=m) (by omega)]
 | [],[],_,_,_=>rfl
 | [],_ :: _,_,_,h=>by simp at h
 | _ :: _,[],_,_,h=>by simp at h
theorem M7:∀ {R:List Nat}{m:List (List Int)}{k:Nat}{l l':List Int},m[k]?=some l→l'.length=l.length→hdl R (m.set k l')=hdl R m
 | _ :: _,_ :: _,0,l,l',h,e=>by simp only [EW,DT] at h;subst h;simp only [List.set_cons_zero,hdl,e]
 | r :: R,q :: m,k+1,l,l',h,e=>by simp only [List.set_cons_succ,hdl];rw [M7 (R:=R) (k:=k) (by simpa using h) e]
 | [],_,_,_,_,_,_=>by simp [hdl]
 | _ :: _,[],_,_,_,h,_=>by simp at h
theorem Io {F:Nat→Prop}{w:World}:∀ {cs:List (List Value)}{R:List Nat}{m:List (List Int)},R.length=m.length→xH F w cs (hdl R m)→cs.flatten=F8 R m
 | c :: cs,_ :: R,_ :: m,h,e=>by have h1:c=_:=e.1;simp only [F8,Cv];rw [Io (R:=R) (m:=m) (by simpa using h) e.2,h1];rfl
 | [],[],[],_,_=>rfl
 | _ :: _,[],[],_,e=>e.elim
 | [],_ :: _,_ :: _,_,e=>e.elim
 | _,[],_ :: _,h,_=>by simp at h
 | _,_ :: _,[],h,_=>by simp at h
def It.rws (R:List Nat)(m:List (List Int)):It where
 F k:=k ∈ R
 p w:=Gw w R m/\R.Nodup/\∀ l ∈ m,l.length<=8
 bd w h k hk:=h.1.mem hk
 st w w' h k hs:=⟨h.1.st k,h.2⟩
theorem Gw.snoc {w:World}:∀ {R:List Nat}{m:List (List Int)}{r:Nat}{l:List Int},Gw w R m→nS w r 3 (l.map V).toArray→Gw w (R ++ [r]) (m ++ [l])
 | _ :: _,_ :: _,_,_,h,k=>⟨h.1,Gw.snoc h.2 k⟩
 | [],[],_,_,_,k=>⟨k,trivial⟩
 | [],_ :: _,_,_,h,_=>h.elim
 | _ :: _,[],_,_,h,_=>h.elim
section
variable {w w0:World}{Z G:Nat->Prop}{L:List It}{D:List Da}
theorem aaS (h:Bx w0 w Z G L D):Bx w0 w Z G (It.rws [] [] :: L) D:=
 h.push (Ext.refl w) ⟨lF,List.nodup_nil,fun _ h=>by cases h⟩ (fun b hb=>by cases hb)
theorem QM {R:List Nat}{m:List (List Int)}{b n:Nat}(h:Bx w0 w Z G (.box b 3 (Array.replicate n (V 0)) :: It.rws R m :: L) D)(hn:n<=8):Bx w0 w Z G (It.rws (R ++ [b]) (m ++ [List.replicate n 0]) :: L) D:=by
 have hB:nS w b 3 (Array.replicate n (V 0)):=h.bk 0 rfl;have hr:(It.rws R m).p w:=h.at 1 rfl;have hp1:=Aq.1 h.pw;have hp2:=Aq.1 hp1.2;have e:(List.replicate n (0:Int)).map V=List.replicate n (V 0):=by simp
 refine h.step (X:=fun _=>False) ((Ext.refl w).EN _) (fun _ hx=>hx.elim) (fun it hi=>?_) (fun it hi k hk hl=>?_) (Aq.2 ⟨fun y hy k hk=>?_,hp2.2⟩)
 · rcases qK.1 hi with rfl | hi
   · refine ⟨hr.1.snoc (by rw [e,<-Array.toList_replicate,Array.toArray_toList];exact hB),?_,fun l hl=>?_⟩
     · rw [List.nodup_append];refine ⟨hr.2.1,by simp,fun a ha c hc=>?_⟩;rw [List.mem_singleton.1 hc];intro hab;exact hp1.1 _ (Bn ..) b rfl (hab ▸ ha)
     · rcases Cb.1 hl with hl | hl
       · exact hr.2.2 l hl
       · rw [List.mem_singleton.1 hl,List.length_replicate];exact hn
   · exact (h.it it (wI _ (wI _ hi))).1
 · rcases qK.1 hi with rfl | hi
   · rcases Cb.1 hk with hk | hk
     · exact ⟨_,wI _ (Bn ..),hk⟩
     · exact ⟨_,Bn ..,List.mem_singleton.1 hk⟩
   · exact ⟨it,wI _ (wI _ hi),hk⟩
 · rcases Cb.1 hk with hk | hk
   · exact hp2.1 y hy k hk
   · exact hp1.1 y (wI _ hy) k (List.mem_singleton.1 hk)
variable {ρ:Operand->Value}{d:Option Nat}{ty:TypeId}{pos:String}{af:Array Edge}{gd:Option (Nat × Bool)}{p y:Operand}
theorem Q6 (hL:Bx w0 w Z G L D)(i:Nat){R:List Nat}{m:List (List Int)}{k j r:Nat}{l:List Int}{n:Int}(hi:L[i]?=some (It.rws R m))(hr:R[k]?=some r)(hk:m[k]?=some l)(hj:j < l.length)(hx:ρ p=.pointer (some ⟨r,j,none⟩))(hy:ρ y=V n) :TV prog ρ ⟨d,.store 3 p y,ty,pos,af,gd⟩ w fun w'=>Bx w0 w' Z G (L.set i (It.rws R (m.set k (l.set j n)))) D:=by
 have h:=hL.at i hi;obtain ⟨r',hr',hB⟩:=h.1.get hk;rw [hr] at hr';obtain rfl:=vK hr';obtain ⟨q,hi1,hi2,hi3,hi4⟩:=ny;have hst:=run_storeCells_at (P:=prog) r j 3 [V n] 0 _ w hB (by simp;omega) (fun v hv=>by rcases List.mem_singleton.1 hv with rfl;rfl);have e:((l.map V).toArray.toList.take (j+0) ++ [V n] ++ (l.map V).toArray.toList.drop (j+0+[V n].length)).toArray=((l.set j n).map V).toArray:=by
   congr 1
   rw [List.map_set,List.set_eq_take_append_cons_drop];simp [hj]
 rw [e] at hst;have hc:=Gu.setRow w r ((l.set j n).map V).toArray;refine ⟨_,?_,hL.put i (it':=It.rws R (m.set k (l.set j n))) hi ⟨hc.os,hc.tape,hc.output,hc.size,fun b hb hn=>hc.block b hb (by intro e;injection e with e;exact hn (by show b ∈ R;rw [e];exact wC hr))⟩ ⟨h.1.set h.2.1 hr,h.2.1,fun q hq=>?_⟩ (fun b hb=>.inl hb)⟩
 · simp [execOp,hx,Instr.storeAt,Instr.sureAddr,storeVar,sizeOf,typeInfo,hi1,hi3,hst,hy,Value.cells]
 · rcases EO hq with hq | rfl
   · exact h.2.2 q hq
   · rw [wV];exact h.2.2 l (wC hk)
theorem Ye {T:TypeId}{B b c:Nat}{A:Option Addr}{cs:List (List Value)}{R:List Nat}{m:List (List Int)}{f:Int}(h:Bx w0 w Z G (.box b T #[V f,V 0,.slice A m.length c] :: .own B A c 22 (Rp.sz RV) cs :: It.rws R m :: L) D)(j:Nat)(hj:D[j]?=some (.els cs (hdl R m))):Bx w0 w Z G (It.vY T ⟨b,A,c,R⟩ ⟨f,0,m⟩ :: L) D:=by
 have hB:nS w b T #[V f,V 0,.slice A m.length c]:=h.bk 0 rfl;have ho:Go.Fw.Own w B 22 1 A cs.length c cs.flatten:=h.bo 1 rfl;have hr:(It.rws R m).p w:=h.at 2 rfl;have hE:=h.de j hj;have hlen:=hr.1.len;have h1:=Io hlen hE;have h2:cs.length=m.length:=by rw [hE.len,Ci hlen]
 rw [h1,h2] at ho;have p1:=Aq.1 h.pw;have p2:=Aq.1 p1.2;have p3:=Aq.1 p2.2;refine h.step (X:=fun _=>False) ((Ext.refl w).EN _) (fun _ hx=>hx.elim) (fun it hi=>?_) (fun it hi k hk hl=>?_) (Aq.2 ⟨fun y hy k hk=>?_,p3.2⟩)
 · rcases qK.1 hi with rfl | hi
   · exact ⟨hB,hr.1,Go.Fw.Own.mono ho (uy _),fun hb=>p1.1 _ (wI _ (Bn ..)) b rfl hb,fun hb=>p1.1 _ (Bn ..) b rfl hb,fun q hq hA=>p2.1 _ (Bn ..) q hA hq,hr.2.1,hr.2.2⟩
   · exact (h.it it (wI _ (wI _ (wI _ hi)))).1
 · rcases qK.1 hi with rfl | hi
   · rcases hk with hk | hk | hk
     · exact ⟨_,Bn ..,hk⟩
     · exact ⟨_,wI _ (Bn ..),hk⟩
     · exact ⟨_,wI _ (wI _ (Bn ..)),hk⟩
   · exact ⟨it,wI _ (wI _ (wI _ hi)),hk⟩
 · rcases hk with hk | hk | hk
   · exact p1.1 y (wI _ (wI _ hy)) k hk
   · exact p2.1 y (wI _ hy) k hk
   · exact p3.1 y hy k hk
end
end Go.Proofs.YtfglbdkfnphjgaaGreat
