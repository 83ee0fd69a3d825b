/- A function that ends with a range over a function and one region behind it. Over any program. -/
import Derived.Test.YtfglbdkfnphjgaaGreatZ20
import Derived.OrdersIn
set_option linter.unusedVariables false
namespace Go.Fw
open Go.RowKit
section
variable {P:Program} {n:Nat} {fn:Func} {R:Value->World->Prop} {V:List PanicEntry->World->Prop}
theorem Qq {g:FuncId} {c:Code} {args:Array Value} {w:World} (hf:P.funcs[g]?=some fn) (hb:fn.body=some c) (h:NY P (fn.ntmps,[]) c (bodyPostM Fence.wide 0 P fn (RP R V)) (yP args) w) (hs:Nat.ble args.size fn.ntmps=true:=by exact rfl) (hok:D7 (fn.ntmps,[]) c=true:=by kernel_rfl):Calls P g args w (RP R V):=
 callsIn_wide.1 (callsIn_of_wp_marks (n:=0) hf hb trivial ((wpIn_wide (n:=0)).2 (h hok _ (BQ (Nat.le_of_ble_eq_true hs)))))
theorem OO {x y:Code} {f:Fr} {w:World} (hr:fn.results=#[]) (h:WP P (n,[]) x ⟨fun f w=>NY P (n,[]) y (bodyPostM Fence.wide 0 P fn (RP R V)) f w,fun _ _ _=>False,fun _ w=>R (.tuple #[]) w,fun _ c w=>V c w⟩ f w) :NY P (n,[]) (.seq x y) (bodyPostM Fence.wide 0 P fn (RP R V)) f w:=by
 refine Xj h fun e a w q=>?_;cases e with
 | normal=>obtain ⟨f,_,h2⟩:=q;exact h2.elim
 | exit i=>obtain ⟨f,_,h2⟩:=q;exact h2.elim
 | ret=>
  obtain ⟨f,h1,h2⟩:=q;show LeavesInM Fence.wide 0 P fn a.tmps (RP R V) a.defers .returning w;rw [h1.dfr];exact ⟨_,results_none hr _ P w,h2⟩
 | panic c=>
  obtain ⟨f,h1,h2⟩:=q;show LeavesInM Fence.wide 0 P fn a.tmps (RP R V) a.defers (.panicking c) w;rw [h1.dfr];exact h2
 | _=>exact q.elim
theorem WI {B RF C:Code} {f:Fr} {w w0:World} {Z G:Nat->Prop} {L:List It->List Da->Prop} {KB:Fr->World->Prop} {KR:Nat->Fr->World->Prop} (hr:fn.results=#[]) (hB:WP P (n,[]) B ⟨KB,fun _ _ _=>False,fun _ _=>False,fun _ _ _=>False⟩ f w) (hRF:∀ f w a,KB f w->DY (n,[]) f a->RF.wp P (fun e a' w'=>e=.normal/\∃ D,a'={ a with defers:=[mark D] }/\KR D f w') a w) (hC:∀ D f w,KR D f w->WP P (n,[mark D]) C ⟨fun _ w=>∃ X Y,L X Y/\Bx w0 w Z G (.obj D (.deferred (some [])) :: X) Y,fun _ _ _=>False,fun _ _=>False,fun _ _ _=>False⟩ f w) (fin:∀ w X Y,L X Y->Bx w0 w Z G X Y->R (.tuple #[]) w):NY P (n,[]) (.seq (.seq B RF) C) (bodyPostM Fence.wide 0 P fn (RP R V)) f w:=by
 intro hok a ha;simp only [D7,Bool.and_eq_true] at hok;unfold WP at hB hC;refine wp_seq (wp_seq (Code.wp_mono (fun e a2 w2 q2=>?_) (hB hok.1.1 a ha)));cases e with
 | normal=>
  obtain ⟨f2,h2,q3⟩:=q2;refine Code.wp_mono (fun e a3 w3 q4=>?_) (hRF f2 w2 a2 q3 h2);obtain ⟨rfl,D,rfl,q5⟩:=q4;have h3:DY (n,[mark D]) f2 { a2 with defers:=[mark D] }:=⟨h2.size,h2.get,rfl⟩;refine Code.wp_mono (fun e a4 w4 q6=>?_) (hC D f2 w3 q5 (zR C hok.2) _ h3);cases e with
  | normal=>
   obtain ⟨f4,h4,X,Y,hL,q7⟩:=q6;show LeavesInM Fence.wide 0 P fn a4.tmps (RP R V) a4.defers .returning w4;rw [h4.dfr];have hk:w4.heap[D]?=some (.deferred (some [])):=q7.at 0 rfl;exact ⟨fun h=>(by cases h),.inl ⟨D,_,rfl,run_takeDeferred hk,.tuple #[],results_none hr a4.tmps P _,fin _ X Y hL (q7.putObj 0 (.deferred none) rfl).tl⟩⟩
  | exit i=>obtain ⟨f4,h4,q7⟩:=q6;exact q7.elim
  | ret=>obtain ⟨f4,h4,q7⟩:=q6;exact q7.elim
  | panic c=>obtain ⟨f4,h4,q7⟩:=q6;exact q7.elim
  | _=>exact q6.elim
 | exit i=>obtain ⟨f4,h4,q7⟩:=q2;exact q7.elim
 | ret=>obtain ⟨f4,h4,q7⟩:=q2;exact q7.elim
 | panic c=>obtain ⟨f4,h4,q7⟩:=q2;exact q7.elim
 | _=>exact q2.elim
end
theorem Yj {P:Program} {n:Nat} {w0 w:World} {Z G:Nat->Prop} {X:List It} {Da0:List Da} {Lx:List It->List Da->Prop} {f:Fr} {a:Act} {g:Operand} {ps:Array Tmp} {asq bd:Code} {gf:FuncId} {lb:List Value} {Q:Exit->Act->World->Prop} (ha:DY ⟨n,[]⟩ f a) (hg:ev f g=.func (.func gf) #[] lb.toArray) (hc:jH P gf) (hL:Bx w0 w Z G X Da0) (hcall:∀ l D fn w1,Bx w0 w1 Z G (.obj l (.loop (Ou fn a.tmps ps asq bd D)) :: .obj D (.deferred (some [])) :: X) Da0->Calls P gf (.func (.yield l) #[] #[] :: lb).toArray w1 (pz fun _ w2=>∃ X' D',Lx X' D'/\Bx w0 w2 Z G (.obj l (.loop (Ou fn a.tmps ps asq bd D)) :: .obj D (.deferred (some [])) :: X') D')) (hQ:∀ D w3 X' D',Lx X' D'->Bx w0 w3 Z G (.obj D (.deferred (some [])) :: X') D'->Q .normal { a with defers:=[mark D] } w3):(Code.rangeFunc g ps asq bd).wp P Q a w:=by
 refine (wpIn_wide (n:=0)).1 (wpIn_rangeFunc fun fn _=>?_);have hev:a.eval g=.func (.func gf) #[] lb.toArray:=by rw [ha.xM];exact hg
 have h1:=(hL.alloc (.deferred (some []))).alloc (.loop (Ou fn a.tmps ps asq bd w.heap.size));rw [World.size_alloc] at h1;have hdf:a.defers=[]:=ha.dfr;refine ⟨w.heap.size+1,[mark w.heap.size],_,{ target:=.fn (.func gf) lb.toArray,args:=#[.func (.yield (w.heap.size+1)) #[] #[]] },(w.alloc (.deferred (some []))).alloc (.loop (Ou fn a.tmps ps asq bd w.heap.size)),gf,(.func (.yield (w.heap.size+1)) #[] #[] :: lb).toArray,(w.alloc (.deferred (some []))).alloc (.loop (Ou fn a.tmps ps asq bd w.heap.size)),run_enterLoop_outer fn a.tmps ps asq bd,?_,fun _ _=>trivial,?_,fun h=>(by cases h),?_⟩
 · have hy:a.eval (.const (.func (.yield (w.heap.size+1)) #[] #[]))=.func (.yield (w.heap.size+1)) #[] #[]:=rfl;simp [resolve,hev,hy,Deferred.ofValue]
 · simp [invoke,EM hc]
 · refine callsIn_wide.2 ((hcall _ _ _ _ h1).mono fun e w2 he=>?_);obtain ⟨v,rfl,X',D',hLx,h2⟩:=he;have hl:=h2.at 0 rfl;refine ⟨none,_,run_endLoop hl (by intro h;cases h),?_⟩;have h3:=hQ _ _ X' D' hLx ((h2.putObj 0 (.loop { Ou fn a.tmps ps asq bd w.heap.size with state:=.exhausted }) rfl).tl);rw [hdf];exact h3
section
variable {F:Fence} {P:Program} {N:Fz} {ops:Array Oper} {K:KK} {rest:List Oper} {f:Fr} {w w':World} {d:Option Nat} {op:Op} {ty:TypeId} {pos:String} {af:Array Edge}
end
def Gc (ops:Array Oper):Bool:=ops.all fun o=>match o.op with | .defer _=>false | _=>true
theorem Uq {P:Program} {l:Nat} {ops:Array Oper} {N:Fz} {K:KK} {i:Nat} {k:Act->World->Prop} {a:Act} {w:World} (hnd:Gc ops=true) (h:wpOp P ops (Dw N K) i k a w):wpOpIn (Fence.wide.inRound l) 0 P ops (Dw N K) i k a w:=by
 unfold wpOp at h;unfold wpOpIn;cases ho:ops[i]? with
 | none=>rw [ho] at h;exact h
 | some o=>
  rw [ho] at h;dsimp only at h ⊢;split
  · rename_i hw;rw [if_pos hw] at h;have hn:∀ c,o.op≠.defer c:=fun c hc=>by have:=Array.all_eq_true_iff_forall_mem.1 hnd o (Array.mem_of_getElem? ho);rw [hc] at this;cases this
    rcases h with h | ⟨_,b,v,hz⟩
    · refine ⟨fun f _=>trivial,?_⟩;rw [Oper.semAt_eq _ _ _ hn];unfold Oper.wp at h;generalize (execOp a.eval o).run P w=r at h;cases r with
      | ok x w'=>
       cases x with
       | enter f args=>exact ⟨fun h=>(by cases h),CallsIn.inRound l (callsIn_wide.2 h)⟩
       | row row args=>exact ⟨fun h=>(by cases h),fun c cs _=>let ⟨v,w2,hr,hs⟩:=h c cs;⟨v,w2,hr,stepsIn_wide.2 hs⟩⟩
       | value v=>exact h
       | skip=>exact h
       | defer d=>exact h
       | _=>exact h.elim
      | halt x w'=>cases x <;> exact h
    · exact hz.elim
  · rename_i hw;rw [if_neg hw] at h;exact ⟨fun f _=>trivial,h⟩
theorem NS {P:Program} {l:Nat} {ops:Array Oper} {N:Fz} {K:KK} {S1 S:World→Prop} {T:List Nat} (hnd:Gc ops=true):∀ (n:Nat) (L:Array Bool) (a:Act) (w:World),Iw P ops (Dw N K) S1 S T n L a w→wpAnyIn (Fence.wide.inRound l) 0 P .any ops (Dw N K) n L a w
 | 0,_,_,_,h=>h
 | n+1,L,a,w,h=>⟨h.1,fun i hi=>wpOpIn_mono (fun a' w' h'=>NS hnd n _ a' w' h'.2) (Uq hnd (h.2 i hi))⟩
theorem OI {P:Program} {l ib:Nat} {ops:Array Oper} {N:Fz} {K:KK} {S1 S:World->Prop} {T:List Nat} {f:Fr} {a:Act} {w:World} (hm:P.follows .mixedOrders=true) (hnd:Gc ops=true) (h:sH P N ops S1 S T K ops.size (Array.replicate ops.size false) f w.drew) (hok:∀ o ∈ ops.toList,vL N o=true) (ha:DY N f a):(Code.region ib ops true).wpIn (Fence.wide.inRound l) 0 P (Dw N K.i) a w:=by unfold sH at h;exact wpIn_region_any hm (NS hnd _ _ _ _ (h hok (Closed.start ops _) a ha))
theorem Qt {P:Program} {w0 w:World} {l n ia ib jb:Nat} {la:List Oper} {lb:Array Oper} {S1 S:World->Prop} {T:List Nat} {r:Loop} {args:Array Value} {f f':Fr} {Z G:Nat->Prop} {X:List It} {D:List Da} {Lx:List It->List Da->Prop} (hL:Bx w0 w Z G (.obj l (.loop r) :: X) D) (hr:r.state=.ready) (hp:r.pending=none) (hs:args.size=r.params.size) (hf:DY ⟨n,[]⟩ f { tmps:=(r.params.zip args).foldl (fun tmps (t,a)=>tmps.setIfInBounds t a) r.tmps,defers:=[] }) (ha:r.assign=.region ia la.toArray false) (hb:r.body=.block jb (.region ib lb true)) (oka:la.all (vL ⟨n,[]⟩)=true) (okb:lb.toList.all (vL ⟨n,[]⟩)=true) (hnd:Gc lb=true) (hm:P.follows .mixedOrders=true) (hA:WO (Fence.wide.inRound l) P ⟨n,[]⟩ la.toArray ⟨fun f1 w1=>f1=f'/\w1=w,fun _ _ _=>False⟩ la f w) (hB:∀ w1,Bx w0 w1 Z G (.obj l (.loop { r with state:=.busy }) :: X) D->sH P ⟨n,[]⟩ lb S1 S T ⟨fun f2 w2=>∃ X' D',Lx X' D'/\Bx w0 w2 Z G (.obj l (.loop { r with state:=.busy }) :: X') D',fun _ _ _=>False⟩ lb.size (Array.replicate lb.size false) f' w1.drew) :YieldAt Fence.wide 0 P l args w (pz fun v w'=>v=.bool true/\∃ X' D',Lx X' D'/\Bx w0 w' Z G (.obj l (.loop r) :: X') D'):=by
 have hl:w.heap[l]?=some (.loop r):=hL.at 0 rfl;refine ⟨r.fn,_,r.assign,r.body,run_yield hl hs,roundIn_of_wpIn trivial ?_⟩;rw [ha,hb];refine wpIn_mono (wpIn_region_lit (hA (List.all_eq_true.1 oka) _ hf)) ?_;rintro e a1 w1 hq;cases e with
 | normal=>
  obtain ⟨f1,h1,rfl,rfl⟩:=hq;refine ⟨_,run_beginRound hl hr,wpIn_block (wpIn_mono (OI hm hnd (hB _ (hL.putObj 0 _ rfl)) (List.all_eq_true.1 okb) h1) ?_)⟩;rintro e a2 w2 hq;cases e with
  | normal=>
   obtain ⟨f2,h2,X',D',hLx,h3⟩:=hq;have hl2:w2.heap[l]?=some (.loop { r with state:=.busy }):=h3.at 0 rfl;refine ⟨_,_,run_endRound none hl2,_,rfl,rfl,X',D',hLx,?_⟩;have:=h3.putObj 0 (.loop r) rfl;obtain ⟨st,pe,fn,tm,ps,asq,bd,df⟩:=r;simp only at hr hp;subst hr;subst hp;exact this
  | panic c=>obtain ⟨f2,_,z⟩:=hq;exact (z f2).elim
  | _=>exact hq.elim
 | panic c=>obtain ⟨_,_,z⟩:=hq;exact z.elim
 | _=>exact hq.elim
end Go.Fw
set_option maxRecDepth 4000
set_option maxHeartbeats 12800000
namespace Go.Proofs.YtfglbdkfnphjgaaGreat
open Go.RowKit Go.Fw Go.Proofs.Tryz
theorem ab8 {P:Program} {N:Fz} {c:Code} {Q:Exit->Act->World->Prop} {f:Fr} {w:World} (l:List (Nat × Value)) (h:Has f l) (k:∀ g,NY P N c Q (Jq g l) w):NY P N c Q f w:=by rw [<-Ck h];exact k f
theorem O6 {n d e:Nat} {f:Fr} {a:Act} {v u:Value} (ha:DY (n,[]) f a) (hd:d < n) (he:e < n):DY (n,[]) (upd (upd f d v) e u) { tmps:=((#[d,e]:Array Tmp).zip #[v,u]).foldl (fun tmps (t,a)=>tmps.setIfInBounds t a) a.tmps,defers:=[] }:=by have h:=ha.put (some d) (fun k hk=>by injection hk with hk;subst hk;exact hd) v;have h2:=h.put (some e) (fun k hk=>by injection hk with hk;subst hk;exact he) u;exact ⟨by have:=h2.size;simpa [Act.put] using this,fun t=>by have:=h2.get t;simpa [Act.put,nK] using this,rfl⟩
theorem aaY:jH prog 94:=⟨_,func94,by kernel_rfl,by kernel_rfl⟩
theorem Ew {h:List ko} {e:ko} {a m:Nat} (hc:h.length < a\/m<=(window h a m).length):window (h ++ [e]) a m=window h a m:=by
 unfold window at *
 rcases Nat.lt_or_ge h.length a with h1 | h1
 · rw [show List.drop a (h ++ [e])=[] from List.drop_eq_nil_of_le (by simp;omega),show List.drop a h=[] from List.drop_eq_nil_of_le (by omega)]
 · have h2:=hc.resolve_left (by omega);rw [List.drop_append_of_le_length h1,List.take_append_of_le_length (by simp only [List.length_take,List.length_drop] at h2 ⊢;omega)]
theorem P5 {h:List ko} {e:ko} {a m:Nat} (h1:a<=h.length) (h2:(window h a m).length < m):window (h ++ [e]) a m=window h a m ++ [e]:=by
 unfold window at *
 rw [List.drop_append_of_le_length h1];simp only [List.length_take,List.length_drop] at h2;rw [List.take_of_length_le (l:=List.drop a h ++ [e]) (by simp;omega),List.take_of_length_le (l:=List.drop a h) (by simp;omega)]
theorem YA {w0 w w':World} {Z Z' G:Nat->Prop} {L:List It} {D:List Da} {it:It} (h:Bx w0 w Z G L D) (k:Bx w w' Z' (lD []) [it] []):Bx w0 w' Z G (it :: L) D:=
 h.push k.ex (k.at 0 rfl) fun b hb=>Nat.le_of_not_lt fun hlt=>by obtain ⟨_,z,_⟩:=(k.it it (List.mem_singleton.2 rfl)).2 b hb hlt;cases z
theorem Er (l:List Nat):(l.map fun b=>[Pt b]).flatten=l.map fun b=>Pt b:=by
 induction l with
 | nil=>rfl
 | cons a l ih=>simp only [List.map_cons,List.flatten_cons,ih];rfl
theorem MK {ρ:Operand->Value} {w:World} {d:Option Nat} {ty:TypeId} {pos:String} {af:Array Edge} {g:Option (Nat × Bool)} {n m:Int} {A:Option Addr} {k c:Nat} {x:Operand} (h:ρ x=.agg #[Vi n,Vi m,.slice A k c]) :(execOp ρ ⟨d,.buildSlice 57 1 #[(0,x)],ty,pos,af,g⟩).run prog w=.ok (.value (.slice (some ⟨w.heap.size,0,none⟩) 1 1)) (w.alloc (.cells #[Vi n,Vi m,.slice A k c] 62)):=by
 have e:(Instr.buildSlice 57 1 #[(0,.agg #[Vi n,Vi m,.slice A k c])]).run prog w=.ok (.slice (some ⟨w.heap.size,0,none⟩) 1 1) (w.alloc (.cells #[Vi n,Vi m,.slice A k c] 62)):=by kernel_rfl
 simp [execOp,h,e]
theorem NV {ρ:Operand->Value} {w:World} {d:Option Nat} {ty:TypeId} {pos:String} {af:Array Edge} {g:Option (Nat × Bool)} {A:Option Addr} {k c:Nat} {x:Operand} (h:ρ x=.agg #[.slice A k c]) :(execOp ρ ⟨d,.buildSlice 40 1 #[(0,x)],ty,pos,af,g⟩).run prog w=.ok (.value (.slice (some ⟨w.heap.size,0,none⟩) 1 1)) (w.alloc (.cells #[.slice A k c] 59)):=by
 have e:(Instr.buildSlice 40 1 #[(0,.agg #[.slice A k c])]).run prog w=.ok (.slice (some ⟨w.heap.size,0,none⟩) 1 1) (w.alloc (.cells #[.slice A k c] 59)):=by kernel_rfl
 simp [execOp,h,e]
theorem YieldAt.mono' {P:Program} {l:Nat} {args:Array Value} {w:World} {R R':Value->World->Prop} (h:YieldAt Fence.wide 0 P l args w (pz R)) (k:∀ v w,R v w->R' v w):YieldAt Fence.wide 0 P l args w (pz R'):=by obtain ⟨fn,tmps,q,bd,h1,h2⟩:=h;exact ⟨fn,tmps,q,bd,h1,h2.mono fun e w he=>by obtain ⟨v,hv,hr⟩:=he;exact ⟨v,hv,k v w hr⟩⟩
theorem R6 {fu : Nat} {w : World} {A : Nat → Prop} {R : Rn} {m : AQ} {ptrs : List Nat} {x : vg} {s s' : Sg} {xs : List vg} {gs : List pQ} {id : Int} {p : Pn Unit}
    (hP:Pre w A (Mac R m ptrs s.hist s.out ++ [It.act x s.a]) (oz R m s.hist s.out)) (hl:Oa w (lD (Mac R m ptrs s.hist s.out ++ [It.act x s.a])) xs gs) (hB:R.B<=w.heap.size)
    (hp:ptrs=(xs.map (·.b)).reverse ++ [x.b]) (hn:ptrs.length<=20) (hst:R.st<=5000) (hmo:R.mo<=100) (hm:event (jD fu R.src) R.st gs s id=some (p,s')) :
    Calls prog 71 #[Pt R.rb, Pt x.b, V id] w (RP (fun v w' => v = .tuple #[] ∧ (∃ u, p = .ok u) ∧ Now w w' A (lD (Mac R m ptrs s.hist s.out ++ [It.act x s.a])) R ptrs x s')
      (fun c w'=>Pb p c/\Now w w' A (lD (Mac R m ptrs s.hist s.out ++ [It.act x s.a])) R ptrs x s')):=by
  have b:=hP.bx;clear hP;generalize hG:lD (Mac R m ptrs s.hist s.out ++ [It.act x s.a])=G at b hl ⊢;refine Qq func71 rfl ?_;refine ab8 [(0,Pt R.rb),(1,Pt x.b),(2,V id)] ⟨rfl,rfl,rfl,trivial⟩ fun av=>?_;refine OO rfl ?_;refine go ?_;refine rE b (tO rfl) fun w1 b3 b=>?_;refine go ?_;refine OO rfl ?_;refine go ?_;refine CZ b (fun _=>True) trivial (by kernel_rfl) fun m1=>?_;replace b:=m1.1;refine uF 0 r (fun h=>E5 r (h.1.bk 0 r) r) m1 (pF 1 r (xn r) m1 (pF 2 r (Xp r) m1 (uF 3 r (fun h=>l3 r (h.1.bk 1 r) r) m1 (uF 4 r (fun h=>E5 r (h.1.bk 0 r) r) m1 (pF 5 r (xn r) m1 (pF 6 r (XE r) m1 (uF 7 r (fun h=>l3 r (h.1.bk 1 r) r) m1 (pF 8 r (BF r r) m1 (hD ?_)))))))));unfold event at hm;refine nS rfl (fun h=>?_) (fun h=>?_)
  · rw [if_pos (by omega)] at hm;obtain ⟨rfl,rfl⟩:=Prod.mk.inj (sm hm);refine go ?_;refine jZ (Kr Rs rfl) ?_;exact Bg rfl ⟨yw _,m,b.tl⟩
  rw [if_neg (by omega)] at hm;obtain ⟨fs,hfs,hm⟩:=bs hm;obtain ⟨rfl,rfl⟩:=Prod.mk.inj (sm hm);refine FN ?_;refine OO rfl ?_;refine go ?_;refine WQ rfl ?_;refine lq (Pp b 5 rfl rfl rfl) fun w2 b=>?_;dsimp only [List.set] at b;refine go ?_;refine OO rfl ?_;refine goC b ?_;refine OO rfl ?_;refine goC b ?_;refine lq (t_n b 1 [V (wr ((s.hist.length:Int) + 1))] rfl mV rfl rfl) fun w3 b=>?_;rw [NZ (by omega)] at b;refine go ?_;refine OO rfl ?_;refine go ?_;refine CZ b (fun _=>True) trivial (by kernel_rfl) fun m1=>?_;replace b:=m1.1;refine pF 0 r (O3 r) m1 (uF 1 r (fun h=>E5 r (h.1.bk 0 r) r) m1 (pF 2 r (xn r) m1 (pF 3 r (X8 r) m1 (uF 4 r (fun h=>l3 r (h.1.bk 1 r) r) m1 (pF 5 r (qp r r) m1 (pF 6 r (kQ r) m1 ?_))))));by_cases hw:(s.hist.length:Int) < (R.fr:Int)
  · rw [decide_eq_true hw];refine jT 7 r (by kernel_rfl) r (sF m1) (jT 8 r (by kernel_rfl) r (sF m1) (jT 9 r (by kernel_rfl) r (sF m1) (jT 10 r (by kernel_rfl) r (sF m1) (jT 11 r (by kernel_rfl) r (sF m1) (jT 12 r (by kernel_rfl) r (sF m1) (jT 13 r (by kernel_rfl) r (sF m1) (jT 14 r (by kernel_rfl) r (sF m1) (jT 15 r (by kernel_rfl) r (sF m1) (jT 16 r (by kernel_rfl) r (sF m1) (pF 17 r (kF r r) m1 (hD ?_)))))))))));refine go ?_;refine kD ⟨rfl,⟨(),rfl⟩,m,?_⟩;dsimp only [Mac,oz,pK];rw [Ew (.inl (by omega)),List.length_append,List.length_singleton];exact b.tl
  rw [decide_eq_false hw];refine uF 7 r (fun h=>E5 r (h.1.bk 0 r) r) m1 (pF 8 r (xn r) m1 (pF 9 r (LG r) m1 (uF 10 r (fun h=>Qy r (h.1.bk 1 r) r) m1 (pF 11 r (lK underlying40 r) m1 (uF 12 r (fun h=>E5 r (h.1.bk 0 r) r) m1 (pF 13 r (xn r) m1 (pF 14 r (XF r) m1 (uF 15 r (fun h=>l3 r (h.1.bk 1 r) r) m1 (pF 16 r (BF r r) m1 (pF 17 r (jY r r) m1 (hD ?_)))))))))));refine nS rfl (fun hw2=>?_) (fun hw2=>?_)
  · refine go ?_;refine kD ⟨rfl,⟨(),rfl⟩,m,?_⟩;dsimp only [Mac,oz,pK];rw [Ew (.inr (by omega)),List.length_append,List.length_singleton];exact b.tl
  refine go ?_;refine OO rfl ?_;refine go ?_;refine rE b (jX DN) fun w4 b7 b=>?_;refine go ?_
  refine WI (P := prog) (fn := f71) (w0 := w) (Z := A) (G := G) (L := fun X Y => ∃ m', X = Mac R m' ptrs (s.hist ++ [⟨fs⟩]) s.out ++ [It.act x ⟨s.a.f, id, s.a.ws⟩] ∧ Y = oz R m' (s.hist ++ [⟨fs⟩]) s.out)
    (KB:=fun f w'=>∃ bk,Has f [(3,Pt b3),(7,Pt b7),(57,.func (.func 109) #[] #[Pt bk])]/\Bx w w' A G (.box bk 67 #[.slice m.lA ptrs.length m.lC] :: .box b7 59 #[sn] :: .box b3 66 #[Pt R.rb] :: .box R.rb 69 (pK R m ptrs.length (window s.hist R.fr R.mo).length (s.hist.length + 1) s.out.length).toArray :: .own R.B m.lA m.lC 92 1 (ptrs.map fun b=>[Pt b]) :: .own R.B m.eA m.eC 59 (Rp.sz ko) m.ec :: .own R.B m.oA m.oC 3 (Rp.sz Int) m.oc :: [It.act x ⟨s.a.f,id,s.a.ws⟩]) (oz R m s.hist s.out))
    (KR:=fun D f w'=>Has f [(3,Pt b3),(7,Pt b7)]/\∃ fa fc fcs,Bx w w' A G (.obj D (.deferred (some [])) :: .own w.heap.size fa fc 62 (Rp.sz ny) fcs :: .box b7 59 #[.slice fa fs.length fc] :: .box b3 66 #[Pt R.rb] :: .box R.rb 69 (pK R m ptrs.length (window s.hist R.fr R.mo).length (s.hist.length + 1) s.out.length).toArray :: .own R.B m.lA m.lC 92 1 (ptrs.map fun b=>[Pt b]) :: .own R.B m.eA m.eC 59 (Rp.sz ko) m.ec :: .own R.B m.oA m.oC 3 (Rp.sz Int) m.oc :: [It.act x ⟨s.a.f,id,s.a.ws⟩]) (.els fcs fs :: oz R m s.hist s.out))
    rfl ?_ ?_ ?_ ?_
  · refine goC b ?_;refine oO (lW aay rfl) (Md (Z:=A)) ?_;rintro _ w5 ⟨bk,rfl,hK⟩;refine go ?_;exact ⟨bk,⟨rfl,rfl,rfl,trivial⟩,YA b hK⟩
  · rintro f w5 a ⟨bk,hf,b⟩ ha;clear m1;obtain ⟨av2,rfl⟩:=mE _ _ hf;clear hf;have hg:ev (Jq av2 [(3,Pt b3),(7,Pt b7),(57,.func (.func 109) #[] #[Pt bk])]) (.tmp 57)=.func (.func 109) #[] [Pt bk].toArray:=rfl;refine wp_block (Yj (Lx:=fun X Y=>∃ fa fc fcs,X=.own w.heap.size fa fc 62 (Rp.sz ny) fcs :: .box b7 59 #[.slice fa fs.length fc] :: .box b3 66 #[Pt R.rb] :: .box R.rb 69 (pK R m ptrs.length (window s.hist R.fr R.mo).length (s.hist.length + 1) s.out.length).toArray :: .own R.B m.lA m.lC 92 1 (ptrs.map fun b=>[Pt b]) :: .own R.B m.eA m.eC 59 (Rp.sz ko) m.ec :: .own R.B m.oA m.oC 3 (Rp.sz Int) m.oc :: [It.act x ⟨s.a.f,id,s.a.ws⟩]/\Y=.els fcs fs :: oz R m s.hist s.out) ha hg Xn b ?_ ?_)
    · intro l D fn w6 hL;generalize hO:Ou fn a.tmps #[58,59] _ _ D=O at hL ⊢
      refine Calls.mono (aaL (n := ptrs.length) (A := m.lA) (c := m.lC) (ps := fun k => ptrs.getD k 0) (I := fun k w' => ∃ acc fa fc fcs, Ui (jD fu R.src) (((⟨s.a.f, id, s.a.ws⟩ : pQ) :: gs).drop (ptrs.length - k)) acc = some fs ∧
        Bx w w' A G (.obj l (.loop O) :: .obj D (.deferred (some [])) :: .box bk 67 #[.slice m.lA ptrs.length m.lC] :: .own w.heap.size fa fc 62 (Rp.sz ny) fcs :: .box b7 59 #[.slice fa acc.length fc] :: .box b3 66 #[Pt R.rb] :: .box R.rb 69 (pK R m ptrs.length (window s.hist R.fr R.mo).length (s.hist.length + 1) s.out.length).toArray :: .own R.B m.lA m.lC 92 1 (ptrs.map fun b=>[Pt b]) :: .own R.B m.eA m.eC 59 (Rp.sz ko) m.ec :: .own R.B m.oA m.oC 3 (Rp.sz Int) m.oc :: [It.act x ⟨s.a.f,id,s.a.ws⟩]) (.els fcs acc :: oz R m s.hist s.out)) ?_ ?_ ?_ ?_ (by omega)) ?_
      · rintro k w7 ⟨acc,fa,fc,fcs,_,hb⟩;exact hb.bk 2 rfl
      · rintro k w7 hk ⟨acc,fa,fc,fcs,_,hb⟩;obtain ⟨y,hy⟩:=lT (l:=ptrs) hk;have ho:=hb.bo 7 rfl;rw [List.length_map,Er] at ho;have h3:=Cu ho (k:=k) (v:=Pt y) (by rw [List.getElem?_map,hy]; rfl);refine ⟨h3.1,?_⟩;rw [Nat.mul_one,h3.2.1];simp [List.getD_eq_getElem?_getD,hy]
      · rintro k w7 hk ⟨acc,fa,fc,fcs,hacc,hb⟩;subst hO;have hlen:ptrs.length=gs.length + 1:=by rw [hp,List.length_append,List.length_reverse,List.length_map,hl.len]; rfl
        have hact:∃ y g,(((⟨s.a.f,id,s.a.ws⟩:pQ) :: gs))[ptrs.length - (k + 1)]?=some g/\ptrs.getD k 0=y.b/\∀ w',G6 G w w'->(∀ hq:ptrs.length - (k + 1)=0,(It.act x ⟨s.a.f,id,s.a.ws⟩).p w')->(It.act y g).p w':=by
          have hj:ptrs.length - (k + 1) < gs.length + 1:=by omega
          have hpk:∀ j,j < gs.length + 1->ptrs.getD (gs.length - j) 0=((x :: xs).map (·.b)).getD j 0:=fun j hj=>by
            have e:ptrs=((x :: xs).map (·.b)).reverse:=by rw [hp]; simp
            rw [e,List.getD_eq_getElem?_getD,List.getD_eq_getElem?_getD,List.getElem?_reverse (by simp [hl.len]; omega)]
            congr 2
            simp [hl.len];omega
          have e1:gs.length - (ptrs.length - (k + 1))=k:=by omega
          have hk2:=hpk _ hj;rw [e1] at hk2;generalize ptrs.length - (k + 1)=q at hj hk2 ⊢;cases q with
          | zero=>exact ⟨x,_,rfl,by rw [hk2]; rfl,fun w' _ h=>h rfl⟩
          | succ q =>
            obtain ⟨g,hg⟩:=lT (l:=gs) (k:=q) (by omega);obtain ⟨y,hy,_⟩:=hl.get hg;refine ⟨y,g,by simpa using hg,by rw [hk2]; simp [List.getD_eq_getElem?_getD,hy],fun w' hc _=>?_⟩;obtain ⟨y',hy',hy2⟩:=(yB.mv' hc (fun b _ h=>h) hl).get hg;rw [hy] at hy';exact Option.some.inj hy' ▸ hy2
        obtain ⟨y,g,hg2,hy,hw7⟩:=hact;rw [hy];rw [l8 hg2,Ui,show ptrs.length - (k + 1) + 1=ptrs.length - k by omega] at hacc;obtain ⟨fr,hfr,hacc⟩:=bs hacc;obtain ⟨acc2,hac2,hacc⟩:=bs hacc
        refine YieldAt.mono' (Qt (la := [_]) (S1 := fun u => nH u b3 66 #[Pt R.rb]) (S := fun u => nH u b7 59 #[.slice fa acc.length fc]) (T := [8]) (Lx := fun X Y => ∃ fa fc fcs, X = .obj D (.deferred (some [])) :: .box bk 67 #[.slice m.lA ptrs.length m.lC] :: .own w.heap.size fa fc 62 (Rp.sz ny) fcs :: .box b7 59 #[.slice fa acc2.length fc] :: .box b3 66 #[Pt R.rb] :: .box R.rb 69 (pK R m ptrs.length (window s.hist R.fr R.mo).length (s.hist.length + 1) s.out.length).toArray :: .own R.B m.lA m.lC 92 1 (ptrs.map fun b => [Pt b]) :: .own R.B m.eA m.eC 59 (Rp.sz ko) m.ec :: .own R.B m.oA m.oC 3 (Rp.sz Int) m.oc :: [It.act x ⟨s.a.f, id, s.a.ws⟩] ∧ Y = .els fcs acc2 :: oz R m s.hist s.out)
          hb rfl rfl rfl (O6 ha (by decide) (by decide)) rfl rfl (by kernel_rfl) (by kernel_rfl) (by kernel_rfl) (by kernel_rfl) (MX (Wd.rnd l) (fun _ h=>by cases h) (OQ rfl) (YZ ⟨rfl,rfl⟩)) ?_) ?_
        · intro w8 b;replace b:=b.drew;have m1:nH w8.drew b3 66 #[Pt R.rb]:=b.bk 5 rfl;have m2:nH w8.drew b7 59 #[.slice fa acc.length fc]:=b.bk 4 rfl;refine pL 0 r (Dx r) m1 m2 (tS 9 1 r (fun _ h=>l57 r h r) (kG m1 m2) (tU 2 r (fun _ h=>E5 r h r) (kG m1 m2) (pL 3 r (nW r) m1 m2 ?_)));refine hO 4 (oc r r (ec aaY r) (SB (b.pr [] [0,1,2,3,4,5,6,7,8,9,10] [3,4,5,6] r) (b.bk 6 rfl) (hw7 _ b.qW fun _=>b.at 10 rfl) hfr) ?_);rintro _ w9 ⟨A1,c1,rfl,hK⟩;replace b:=b.cn [] [0,1,2,3,4,5,6,7,8,9,10] hK;refine ⟨kG (b.bk 5 rfl) (b.bk 4 rfl),?_⟩;refine hO 5 (oo r r (jN b [[V fr.j,V fr.a,.slice A1 fr.c.length c1]] ([fr]:List ny) (MK r) r r (by decide) ⟨ny.inn ⟨_,_,rfl,b.dl 0 rfl⟩,trivial⟩) ?_);rintro _ w10 ⟨b5,rfl,b⟩;refine ⟨kG (b.bk 6 rfl) (b.bk 5 rfl),?_⟩;refine hO 6 (oo r r (kN b 4 2 r r underlying57 Br r (by decide) (by decide) (Nat.le_refl _) r r (b.zL 0 0 r r) hac2) ?_);rintro _ w11 ⟨a4,c4,cs4,rfl,b⟩;refine ⟨kG (b.bk 6 rfl) (b.bk 5 rfl),pL 7 r (Dx r) (b.bk 6 rfl) (b.bk 5 rfl) ?_⟩;refine hO 8 (os r r (nZ b 5 [.slice a4 acc2.length c4] r Yg r r) fun w12 b=>⟨sy 8 (b.bk 6 rfl),hD ?_⟩);exact ⟨_,_,⟨a4,c4,cs4,rfl,rfl⟩,(b.arr [1,2,3,4,5,6,7,8,9,10,11] rfl).dp [2,3,4,5,6,7,8]⟩
        · rintro v w8 ⟨rfl,X',D',⟨fa,fc,fcs,rfl,rfl⟩,hb⟩;exact ⟨rfl,acc2,fa,fc,fcs,hacc,hb⟩
      · refine ⟨[],none,0,[],?_,?_⟩
        · rw [Nat.sub_self,List.drop_zero]; exact hfs
        · exact (hL.Bv ny 62).arr [1,2,3,0,4,5,6,7,8,9,10] rfl
      · rintro e w7 ⟨v,rfl,rfl,acc,fa,fc,fcs,hacc,hb⟩;have hlen:ptrs.length=gs.length + 1:=by rw [hp,List.length_append,List.length_reverse,List.length_map,hl.len]; rfl
        rw [Nat.sub_zero,List.drop_eq_nil_of_le (by rw [hlen]; exact Nat.le_refl _)] at hacc;obtain rfl:=sm hacc;exact ⟨_,rfl,_,_,⟨fa,fc,fcs,rfl,rfl⟩,hb.arr [0,1,3,4,5,6,7,8,9,10] rfl⟩
    · rintro D w6 X Y ⟨fa,fc,fcs,rfl,rfl⟩ hb;exact ⟨rfl,D,rfl,⟨rfl,rfl,trivial⟩,fa,fc,fcs,hb⟩
  · rintro D f w5 ⟨hf,fa,fc,fcs,b⟩;obtain ⟨av,rfl⟩:=mE _ _ hf;clear hf;replace b:=b.fz 1 0 rfl rfl;have hap:app (window s.hist R.fr R.mo) [(⟨fs⟩:ko)]=some (window s.hist R.fr R.mo ++ [⟨fs⟩]):=by
      unfold app
      rw [if_pos (by have : (window s.hist R.fr R.mo).length ≤ R.mo := by unfold window; rw [List.length_take]; exact Nat.min_le_left ..
                     simp only [List.length_singleton]; omega)]
    refine pG (fun u=>nH u b3 66 #[Pt R.rb]) (fun u=>nH u b7 59 #[.slice fa fs.length fc]/\nH u R.rb 69 (pK R m ptrs.length (window s.hist R.fr R.mo).length (s.hist.length + 1) s.out.length).toArray) [7] (by kernel_rfl) ?_;replace b:=b.drew;have m1:nH w5.drew b3 66 #[Pt R.rb]:=b.bk 2 rfl;have m2:nH w5.drew b7 59 #[.slice fa fs.length fc]/\nH w5.drew R.rb 69 (pK R m ptrs.length (window s.hist R.fr R.mo).length (s.hist.length + 1) s.out.length).toArray:=⟨b.bk 1 rfl,b.bk 3 rfl⟩;refine tU 0 r (fun _ h=>E5 r h r) (kG m1 m2) (tU 1 r (fun _ h=>E5 r h r) (kG m1 m2) (pL 2 r (xn r) m1 m2 (pL 3 r (LG r) m1 m2 (tS 12 4 r (fun _ h=>Qy r h.2 r) (kG m1 m2) (tS 12 5 r (fun _ h=>lY [.slice fa fs.length fc] Xi DN r h.1) (kG m1 m2) ?_)))));refine hO 6 (oo r r (jN b [[.slice fa fs.length fc]] ([⟨fs⟩]:List ko) (NV r) r r (by decide) ⟨ko.inn ⟨_,_,rfl,b.dl 0 rfl⟩,trivial⟩) ?_);rintro _ w6 ⟨b5,rfl,b⟩;refine ⟨kG (b.bk 3 rfl) ⟨b.bk 2 rfl,b.bk 4 rfl⟩,?_⟩;refine hO 7 (oo r r (kN b 6 2 r r underlying40 DN r (by decide) (by decide) hB r r (b.zL 0 0 r r) hap) ?_);rintro _ w7 ⟨a4,c4,cs4,rfl,b⟩;refine ⟨sy 7 (b.bk 3 rfl),tP 8 r (fun _=>xn r) (sy 7 (b.bk 3 rfl)) (tP 9 r (fun _=>LG r) (sy 7 (b.bk 3 rfl)) ?_)⟩;refine hO 10 (os r r (t_n b 4 [.slice a4 (window s.hist R.fr R.mo ++ [(⟨fs⟩:ko)]).length c4] r Oc r r) fun w8 b=>⟨sy 7 (b.bk 3 rfl),hD ?_⟩);refine ⟨_,_,⟨{ m with eA:=a4,eC:=c4,ec:=cs4 },rfl,rfl⟩,?_⟩;dsimp only [Mac,oz,pK];rw [P5 (by omega) (by omega),show (s.hist ++ [(⟨fs⟩:ko)]).length=s.hist.length + 1 from by simp];exact (b.arr [1,4,5,6,7,8] rfl).dp [2,3,4,5,6,7]
  · rintro w' X Y ⟨m',rfl,rfl⟩ hb;exact ⟨rfl,⟨(),rfl⟩,m',hb⟩
abbrev JF (R:Rn) (m:AQ) (ptrs:List Nat) (x:vg) (s:Sg):List It:=Mac R m ptrs s.hist s.out ++ [It.act x s.a]
structure R5 (w:World) (A:Nat->Prop) (R:Rn) (m:AQ) (ptrs:List Nat) (x:vg) (s:Sg) (xs:List vg) (gs:List pQ) (D:List Da):Prop where
 pre:Pre w A (JF R m ptrs x s) (D ++ oz R m s.hist s.out)
 lent:Oa w (lD (JF R m ptrs x s)) xs gs
 hB:R.B<=w.heap.size
 hp:ptrs=(xs.map (·.b)).reverse ++ [x.b]
 hn:ptrs.length<=20
structure Og (R:Rn):Prop where
 st:R.st<=5000
 mo:R.mo<=100
def Ok (w:World) (A:Nat->Prop) (R:Rn) (m:AQ) (ptrs:List Nat) (x:vg) (s s':Sg) (w':World):Prop:=Now w w' A (lD (JF R m ptrs x s)) R ptrs x s'
def Pk {α:Type} (p:Pn α) (w:World) (A:Nat->Prop) (R:Rn) (m:AQ) (ptrs:List Nat) (x:vg) (s s':Sg) (ch:List PanicEntry) (w':World):Prop:=Pb p ch/\Z8 w w' A (lD (JF R m ptrs x s)) R ptrs x s'
abbrev cS (y:jI) (a7:Option Addr) (c7:Nat) (a10:Option Addr) (c10:Nat) (a11:Option Addr) (c11:Nat) (a12:Option Addr) (c12:Nat):List Value:=
 [V y.c,V y.f,V y.n,T y.b,T y.k,V y.m,V y.g,.slice a7 y.d.length c7,T y.j,V y.i,.slice a10 y.a.length c10,.slice a11 y.e.length c11,.slice a12 y.h.length c12]
abbrev dS (y:jI) (a7:Option Addr) (c7:Nat) (a10:Option Addr) (c10:Nat) (a11:Option Addr) (c11:Nat) (a12:Option Addr) (c12:Nat):List Da:=[.l a7 c7 y.d,.l a10 c10 y.a,.l a11 c11 y.e,.l a12 c12 y.h]
def CSt (R:Rn) (sm:List pQ->Sm):Prop:=∀ {w:World} {A:Nat->Prop} {m:AQ} {ptrs:List Nat} {x:vg} {s s':Sg} {xs:List vg} {gs:List pQ} {y:jI} {a7:Option Addr} {c7:Nat} {a10:Option Addr} {c10:Nat} {a11:Option Addr} {c11:Nat} {a12:Option Addr} {c12:Nat} {p:Pn (Option Int)},R5 w A R m ptrs x s xs gs (dS y a7 c7 a10 c10 a11 c11 a12 c12)->sm gs s y=some (p,s')-> Calls prog 50 #[Pt R.rb,Pt x.b,.agg (cS y a7 c7 a10 c10 a11 c11 a12 c12).toArray] w (RP (fun v w'=>∃ o,p=.ok o/\v=.tuple #[V (o.getD 0),.bool o.isSome]/\Ok w A R m ptrs x s s' w') (Pk p w A R m ptrs x s s'))
def Yw (R:Rn) (sm:List pQ->Sm):Prop:=∀ {w:World} {A:Nat->Prop} {m:AQ} {ptrs:List Nat} {x:vg} {s s':Sg} {xs:List vg} {gs:List pQ} {l:List jI} {a:Option Addr} {c:Nat} {p:Pn (Option Int)},R5 w A R m ptrs x s xs gs [.l a c l]->Dp (sm gs) s l=some (p,s')-> Calls prog 30 #[Pt R.rb,Pt x.b,.slice a l.length c] w (RP (fun v w'=>∃ o,p=.ok o/\v=.tuple #[V (o.getD 0),.bool o.isSome]/\Ok w A R m ptrs x s s' w') (Pk p w A R m ptrs x s s'))
theorem aa0:jH prog 50:=⟨_,func50,by kernel_rfl,by kernel_rfl⟩
theorem Pm:jH prog 30:=⟨_,func30,by kernel_rfl,by kernel_rfl⟩
theorem wI {T:TypeId} {w w1:World} {A G:Nat->Prop} {L L1:List It} {D:List Da} {xs:List vg} {gs:List pQ} (b:Bx w w1 A G L D) (hl:yB T w G xs gs) (hs:∀ it ∈ L1,it ∈ L):yB T w1 (lD L1) xs gs:=
 yB.mv' b.qW (fun k hk ⟨it,hi,hF⟩=>(b.it it (hs it hi)).2 k hF hk) hl
theorem Zh {N:Fz} {ops:Array Oper} {K:KK} {rest:List Oper} {f:Fr} {w w0:World} {d1 d2:Nat} {ty ty2:TypeId} {pos pos2:String} {af af2:Array Edge} {y z:Operand} {Z G:Nat->Prop} {L:List It} {D:List Da} (e:Bx w0 w Z G L D) (j:Nat) {a:Option Addr} {c:Nat} {l:List jI} {k:Nat} {i:Int} {x:jI} (hj:D[j]?=some (.l a c l)) (hk:l[k]?=some x) (h1:ev f y=.slice a l.length c) (h2:ev f z=V i) (hi:i=(k:Int)) (h:∀ a7 c7 a10 c10 a11 c11 a12 c12,Bx w0 w Z G L (dS x a7 c7 a10 c10 a11 c11 a12 c12 ++ D)->oV prog N ops K rest (upd (upd f d1 (.pointer (some ⟨mX a,nU a+k * 13,none⟩))) d2 (.agg (cS x a7 c7 a10 c10 a11 c11 a12 c12).toArray)) w) :oV prog N ops K (⟨some d1,.indexAddr 37 y z,ty,pos,af,none⟩ :: ⟨some d2,.load 122 (.tmp d1),ty2,pos2,af2,none⟩ :: rest) f w:=by
 obtain ⟨cs,hr,e2⟩:=e.nm j hj hk;obtain ⟨a7,c7,a10,c10,a11,c11,a12,c12,rfl,h7,h10,h11,h12⟩:=jI.out hr;have e3:=(((e2.kC (d:=.l a12 c12 x.h) h12).kC (d:=.l a11 c11 x.e) h11).kC (d:=.l a10 c10 x.a) h10).kC (d:=.l a7 c7 x.d) h7;refine jZ (kV underlying37 jQ h1 h2 hi (e.dl j hj) hk) ?_;refine jZ (mU (cS x a7 c7 a10 c10 a11 c11 a12 c12) underlying122 rfl jQ rfl (by show upd f d1 _ d1=_;unfold upd;rw [Nat.beq_refl];rfl) (e3.dc 4 rfl)) ?_;exact h a7 c7 a10 c10 a11 c11 a12 c12 (e3.Ml fun d hd=>by
  simp only [dS,List.cons_append,List.nil_append,List.mem_cons] at hd ⊢;rcases hd with h | h | h | h | h
  · exact .inl h
  · exact .inr (.inl h)
  · exact .inr (.inr (.inl h))
  · exact .inr (.inr (.inr (.inl h)))
  · exact .inr (.inr (.inr (.inr (.inr h)))))
theorem PD {R:Rn} {sm:List pQ->Sm} (hS:CSt R sm):Yw R sm:=by
 intro w A m ptrs x s s' xs gs l a c p hR hm;obtain ⟨hP,hl,hB,hp,hn⟩:=hR;have b:=hP.bx;clear hP;unfold Ok Pk;generalize hG:lD (JF R m ptrs x s)=G at b hl ⊢;refine wP func30 rfl ?_;refine lu [(0,Pt R.rb),(1,Pt x.b),(2,.slice a l.length c)] ⟨rfl,rfl,rfl,trivial⟩ fun av=>?_;have hbd:=(b.dl 0 rfl).bd;refine goC b ?_
 refine kI (fun aw f w'=>∃ (t:Nat) (s1:Sg) (m1:AQ),aw=l.length - t∧t≤l.length∧
     Has f [(0,Pt R.rb),(1,Pt x.b),(12,.slice a l.length c),(13,V (l.length:Int)),(14,V (t:Int))]/\
     Bx w w' A G (JF R m1 ptrs x s1) (.l a c l :: oz R m1 s1.hist s1.out)/\Dp (sm gs) s1 (l.drop t)=some (p,s'))
   l.length ⟨0,s,m,rfl,Nat.zero_le _,⟨rfl,rfl,rfl,rfl,rfl,trivial⟩,b,hm⟩ ?_
 clear b hm;rintro aw f w1 ⟨t,s1,m1,rfl,ht,hf,b,hm⟩ J hJ;obtain ⟨av,rfl⟩:=mE _ _ hf;clear hf;refine goC b ?_;refine nS rfl (fun h=>?_) (fun h=>?_)
 · obtain ⟨y,hy⟩:=lT (l:=l) (k:=t) (by omega);rw [l8 hy,Dp] at hm;obtain ⟨⟨q,s2⟩,h1,hm⟩:=bs hm;refine goC b ?_;refine Zh b 0 rfl hy rfl rfl rfl fun a7 c7 a10 c10 a11 c11 a12 c12 b=>?_;refine rE b (jX jQ) fun w2 b9 b=>?_;refine lq (nZ b 0 (cS y a7 c7 a10 c10 a11 c11 a12 c12) rfl jQ rfl rfl) fun w3 b=>?_;refine goC b ?_;refine jZ (lY (cS y a7 c7 a10 c10 a11 c11 a12 c12) lg jQ rfl (b.bk 0 rfl)) ?_;have hr:R5 w3 (CY w A (pick _ [1,2,3,4,5] ++ pick _ [0])) R m1 ptrs x s1 xs gs (dS y a7 c7 a10 c10 a11 c11 a12 c12):=⟨b.pr [1,2,3,4,5] [0] [0,1,2,3,5,6,7,8,9,10] rfl,wI b hl (fun it hi=>List.mem_cons_of_mem _ hi),Nat.le_trans hB b.qW.size,hp,hn⟩;refine KE (lW aa0 rfl) (hS hr h1) (fun ch w4 hq=>?_) ?_
   · obtain ⟨hq,more,m4,hK⟩:=hq;have hb:=b.cn [1,2,3,4,5] [0] hK;have hb:=(hb.arr [0,1,2,3,4] rfl).dp [0,1,2,3,4,5];cases q with
     | ok o=>exact hq.elim
     | _=>obtain ⟨rfl,rfl⟩:=Prod.mk.inj (Option.some.inj hm);exact ⟨hq,more,m4,hb⟩
   rintro _ w4 ⟨o,rfl,rfl,m4,hK⟩;replace b:=b.cn [1,2,3,4,5] [0] hK;replace b:=(b.arr [0,1,2,3,4] rfl).dp [10,0,1,2,3,4,5];cases o with
   | none=>
     refine jZ (wh (.tuple #[V 0,.bool false]) rfl) ?_;refine go ?_;exact hJ (l.length - (t+1)) _ _ (by omega) ⟨t+1,s2,m4,rfl,by omega,⟨rfl,rfl,rfl,rfl,congrArg V (NZ (t:=t) (by omega)),trivial⟩,b,hm⟩
   | some v=>
     obtain ⟨rfl,rfl⟩:=Prod.mk.inj (Option.some.inj hm);refine jZ (wh (.tuple #[V v,.bool true]) rfl) ?_;refine go ?_;refine kD ?_;refine mR (fn:=f30) rfl (kH rfl) (kH rfl) ?_;exact ⟨some v,rfl,rfl,m4,b.dp [1,2,3,4,5,6]⟩
 · obtain rfl:t=l.length:=by omega
   rw [lM,Dp] at hm;obtain ⟨rfl,rfl⟩:=Prod.mk.inj (Option.some.inj hm);refine goC b ?_;refine uy ?_;refine goC b ?_;refine kD ?_;refine mR (fn:=f30) rfl (kH rfl) (kH rfl) ?_;exact ⟨none,rfl,rfl,m1,b.dp [1,2,3,4,5,6]⟩
structure QO where
 a:Option Addr
 n:Nat
 c:Nat
instance:Rp QO:=⟨1,24,fun _ _ cs h=>cs=[.slice h.a h.n h.c],fun h=>by rw [h];rfl,fun h=>by rw [h];rfl,fun h _=>h⟩
def hdl:List Nat→List (List Int)→List QO
 | r :: R,l :: m=>⟨some ⟨r,0,none⟩,l.length,l.length⟩ :: hdl R m
 | _,_=>[]
theorem AY:∀ {R:List Nat} {m:List (List Int)},R.length=m.length→(hdl R m).length=m.length
 | _ :: R,_ :: m,h=>by simp only [hdl,List.length_cons] at h ⊢;rw [AY (R:=R) (m:=m) (by omega)]
 | [],[],_=>rfl
 | [],_ :: _,h=>by simp at h
 | _ :: _,[],h=>by simp at h
theorem HV:∀ {R:List Nat} {m:List (List Int)} {r:Nat} {l:List Int},R.length=m.length→hdl (R ++ [r]) (m ++ [l])=hdl R m ++ [⟨some ⟨r,0,none⟩,l.length,l.length⟩]
 | _ :: R,_ :: m,r,l,h=>by simp only [hdl,List.cons_append,List.length_cons] at h ⊢;rw [HV (R:=R) (m:=m) (by omega)]
 | [],[],_,_,_=>rfl
 | [],_ :: _,_,_,h=>by simp at h
 | _ :: _,[],_,_,h=>by simp at h
theorem KG:∀ {R:List Nat} {m:List (List Int)} {k:Nat} {l l':List Int},m[k]?=some l→l'.length=l.length→hdl R (m.set k l')=hdl R m
 | _ :: _,_ :: _,0,l,l',h,e=>by simp only [List.getElem?_cons_zero,Option.some.injEq] at h;subst h;simp only [List.set_cons_zero,hdl,e]
 | r :: R,q :: m,k+1,l,l',h,e=>by simp only [List.set_cons_succ,hdl];rw [KG (R:=R) (k:=k) (by simpa using h) e]
 | [],_,_,_,_,_,_=>by simp [hdl]
 | _ :: _,[],_,_,_,h,_=>by simp at h
theorem Gf {F:Nat→Prop} {w:World}:∀ {cs:List (List Value)} {R:List Nat} {m:List (List Int)},R.length=m.length→wF F w cs (hdl R m)→cs.flatten=Eh R m
 | c :: cs,_ :: R,_ :: m,h,e=>by have h1:c=_:=e.1;simp only [Eh,List.flatten_cons];rw [Gf (R:=R) (m:=m) (by simpa using h) e.2,h1];rfl
 | [],[],[],_,_=>rfl
 | _ :: _,[],[],_,e=>e.elim
 | [],_ :: _,_ :: _,_,e=>e.elim
 | _,[],_ :: _,h,_=>by simp at h
 | _,_ :: _,[],h,_=>by simp at h
def It.rws (R:List Nat) (m:List (List Int)):It where
 F k:=k ∈ R
 p w:=ET w R m/\R.Nodup/\∀ l ∈ m,l.length<=8
 bd w h k hk:=h.1.mem hk
 st w w' h k hs:=⟨h.1.st k,h.2⟩
theorem ET.snoc {w:World}:∀ {R:List Nat} {m:List (List Int)} {r:Nat} {l:List Int},ET w R m→nH w r 3 (l.map V).toArray→ET w (R ++ [r]) (m ++ [l])
 | _ :: _,_ :: _,_,_,h,k=>⟨h.1,ET.snoc h.2 k⟩
 | [],[],_,_,_,k=>⟨k,trivial⟩
 | [],_ :: _,_,_,h,_=>h.elim
 | _ :: _,[],_,_,h,_=>h.elim
section
variable {w w0:World} {Z G:Nat->Prop} {L:List It} {D:List Da}
theorem aae (h:Bx w0 w Z G L D):Bx w0 w Z G (It.rws [] [] :: L) D:=
 h.push (Ext.refl w) ⟨trivial,List.nodup_nil,fun _ h=>by cases h⟩ (fun b hb=>by cases hb)
theorem P9 {R:List Nat} {m:List (List Int)} {b n:Nat} (h:Bx w0 w Z G (.box b 3 (Array.replicate n (V 0)) :: It.rws R m :: L) D) (hn:n<=8):Bx w0 w Z G (It.rws (R ++ [b]) (m ++ [List.replicate n 0]) :: L) D:=by
 have hB:nH w b 3 (Array.replicate n (V 0)):=h.bk 0 rfl;have hr:(It.rws R m).p w:=h.at 1 rfl;have hp1:=List.pairwise_cons.1 h.pw;have hp2:=List.pairwise_cons.1 hp1.2;have e:(List.replicate n (0:Int)).map V=List.replicate n (V 0):=by simp
 refine h.step (X:=fun _=>False) ((Ext.refl w).DK _) (fun _ hx=>hx.elim) (fun it hi=>?_) (fun it hi k hk hl=>?_) (List.pairwise_cons.2 ⟨fun y hy k hk=>?_,hp2.2⟩)
 · rcases List.mem_cons.1 hi with rfl | hi
   · refine ⟨hr.1.snoc (by rw [e,<-Array.toList_replicate,Array.toArray_toList];exact hB),?_,fun l hl=>?_⟩
     · rw [List.nodup_append];refine ⟨hr.2.1,by simp,fun a ha c hc=>?_⟩;rw [List.mem_singleton.1 hc];intro hab;exact hp1.1 _ (List.mem_cons_self ..) b rfl (hab ▸ ha)
     · rcases List.mem_append.1 hl with hl | hl
       · exact hr.2.2 l hl
       · rw [List.mem_singleton.1 hl,List.length_replicate];exact hn
   · exact (h.it it (List.mem_cons_of_mem _ (List.mem_cons_of_mem _ hi))).1
 · rcases List.mem_cons.1 hi with rfl | hi
   · rcases List.mem_append.1 hk with hk | hk
     · exact ⟨_,List.mem_cons_of_mem _ (List.mem_cons_self ..),hk⟩
     · exact ⟨_,List.mem_cons_self ..,List.mem_singleton.1 hk⟩
   · exact ⟨it,List.mem_cons_of_mem _ (List.mem_cons_of_mem _ hi),hk⟩
 · rcases List.mem_append.1 hk with hk | hk
   · exact hp2.1 y hy k hk
   · exact hp1.1 y (List.mem_cons_of_mem _ hy) k (List.mem_singleton.1 hk)
variable {ρ:Operand->Value} {d:Option Nat} {ty:TypeId} {pos:String} {af:Array Edge} {gd:Option (Nat × Bool)} {p y:Operand}
theorem P8 (hL:Bx w0 w Z G L D) (i:Nat) {R:List Nat} {m:List (List Int)} {k j r:Nat} {l:List Int} {n:Int} (hi:L[i]?=some (It.rws R m)) (hr:R[k]?=some r) (hk:m[k]?=some l) (hj:j < l.length) (hx:ρ p=.pointer (some ⟨r,j,none⟩)) (hy:ρ y=V n) :Rh prog ρ ⟨d,.store 3 p y,ty,pos,af,gd⟩ w fun w'=>Bx w0 w' Z G (L.set i (It.rws R (m.set k (l.set j n)))) D:=by
 have h:=hL.at i hi;obtain ⟨r',hr',hB⟩:=h.1.get hk;rw [hr] at hr';obtain rfl:=Option.some.inj hr';obtain ⟨q,hi1,hi2,hi3,hi4⟩:=mV;have hst:=run_storeCells_at (P:=prog) r j 3 [V n] 0 _ w hB (by simp;omega) (fun v hv=>by rcases List.mem_singleton.1 hv with rfl;rfl);have e:((l.map V).toArray.toList.take (j+0) ++ [V n] ++ (l.map V).toArray.toList.drop (j+0+[V n].length)).toArray=((l.set j n).map V).toArray:=by
   congr 1
   rw [List.map_set,List.set_eq_take_append_cons_drop];simp [hj]
 rw [e] at hst;have hc:=EF.setRow w r ((l.set j n).map V).toArray;refine ⟨_,?_,hL.put i (it':=It.rws R (m.set k (l.set j n))) hi ⟨hc.os,hc.tape,hc.output,hc.size,fun b hb hn=>hc.block b hb (by intro e;injection e with e;exact hn (by show b ∈ R;rw [e];exact List.mem_of_getElem? hr))⟩ ⟨h.1.set h.2.1 hr,h.2.1,fun q hq=>?_⟩ (fun b hb=>.inl hb)⟩
 · simp [execOp,hx,Instr.storeAt,Instr.sureAddr,storeVar,sizeOf,typeInfo,hi1,hi3,hst,hy,Value.cells]
 · rcases List.mem_or_eq_of_mem_set hq with hq | rfl
   · exact h.2.2 q hq
   · rw [List.length_set];exact h.2.2 l (List.mem_of_getElem? hk)
theorem VE {T:TypeId} {B b c:Nat} {A:Option Addr} {cs:List (List Value)} {R:List Nat} {m:List (List Int)} {f:Int} (h:Bx w0 w Z G (.box b T #[V f,V 0,.slice A m.length c] :: .own B A c 22 (Rp.sz QO) cs :: It.rws R m :: L) D) (j:Nat) (hj:D[j]?=some (.els cs (hdl R m))):Bx w0 w Z G (It.uY T ⟨b,A,c,R⟩ ⟨f,0,m⟩ :: L) D:=by
 have hB:nH w b T #[V f,V 0,.slice A m.length c]:=h.bk 0 rfl;have ho:Go.Fw.Own w B 22 1 A cs.length c cs.flatten:=h.bo 1 rfl;have hr:(It.rws R m).p w:=h.at 2 rfl;have hE:=h.de j hj;have hlen:=hr.1.len;have h1:=Gf hlen hE;have h2:cs.length=m.length:=by rw [hE.len,AY hlen]
 rw [h1,h2] at ho;have p1:=List.pairwise_cons.1 h.pw;have p2:=List.pairwise_cons.1 p1.2;have p3:=List.pairwise_cons.1 p2.2;refine h.step (X:=fun _=>False) ((Ext.refl w).DK _) (fun _ hx=>hx.elim) (fun it hi=>?_) (fun it hi k hk hl=>?_) (List.pairwise_cons.2 ⟨fun y hy k hk=>?_,p3.2⟩)
 · rcases List.mem_cons.1 hi with rfl | hi
   · exact ⟨hB,hr.1,Go.Fw.Own.mono ho (Nat.zero_le _),fun hb=>p1.1 _ (List.mem_cons_of_mem _ (List.mem_cons_self ..)) b rfl hb,fun hb=>p1.1 _ (List.mem_cons_self ..) b rfl hb,fun q hq hA=>p2.1 _ (List.mem_cons_self ..) q hA hq,hr.2.1,hr.2.2⟩
   · exact (h.it it (List.mem_cons_of_mem _ (List.mem_cons_of_mem _ (List.mem_cons_of_mem _ hi)))).1
 · rcases List.mem_cons.1 hi with rfl | hi
   · rcases hk with hk | hk | hk
     · exact ⟨_,List.mem_cons_self ..,hk⟩
     · exact ⟨_,List.mem_cons_of_mem _ (List.mem_cons_self ..),hk⟩
     · exact ⟨_,List.mem_cons_of_mem _ (List.mem_cons_of_mem _ (List.mem_cons_self ..)),hk⟩
   · exact ⟨it,List.mem_cons_of_mem _ (List.mem_cons_of_mem _ (List.mem_cons_of_mem _ hi)),hk⟩
 · rcases hk with hk | hk | hk
   · exact p1.1 y (List.mem_cons_of_mem _ (List.mem_cons_of_mem _ hy)) k hk
   · exact p2.1 y (List.mem_cons_of_mem _ hy) k hk
   · exact p3.1 y hy k hk
end
end Go.Proofs.YtfglbdkfnphjgaaGreat
