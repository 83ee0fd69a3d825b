/- An activation under construction: rows of words, their headers; put together. -/
import Derived.Test.YtfglbdkfnphjgaaZ20
set_option linter.unusedVariables false
set_option maxRecDepth 4000
set_option maxHeartbeats 12800000
namespace Go.Proofs.Ytfglbdkfnphjgaa
open Go.RowKit Go.Fw
structure SK where
 a:Option Addr
 n:Nat
 c:Nat
instance:Rp SK:=⟨1,24,fun _ _ cs h=>cs=[.slice h.a h.n h.c],fun h=>by rw [h];rfl,fun h=>by rw [h];rfl,fun h _=>h⟩
def hdl:List Nat→List (List Int)→List SK
 | r :: R,l :: m=>⟨some ⟨r,0,none⟩,l.length,l.length⟩ :: hdl R m
 | _,_=>[]
theorem Dq:∀ {R:List Nat} {m:List (List Int)},R.length=m.length→(hdl R m).length=m.length
 | _ :: R,_ :: m,h=>by simp only [hdl,List.length_cons] at h ⊢;rw [Dq (R:=R) (m:=m) (by omega)]
 | [],[],_=>rfl
 | [],_ :: _,h=>by simp at h
 | _ :: _,[],h=>by simp at h
theorem JR:∀ {R:List Nat} {m:List (List Int)} {r:Nat} {l:List Int},R.length=m.length→hdl (R ++ [r]) (m ++ [l])=hdl R m ++ [⟨some ⟨r,0,none⟩,l.length,l.length⟩]
 | _ :: R,_ :: m,r,l,h=>by simp only [hdl,List.cons_append,List.length_cons] at h ⊢;rw [JR (R:=R) (m:=m) (by omega)]
 | [],[],_,_,_=>rfl
 | [],_ :: _,_,_,h=>by simp at h
 | _ :: _,[],_,_,h=>by simp at h
theorem MU:∀ {R:List Nat} {m:List (List Int)} {k:Nat} {l l':List Int},m[k]?=some l→l'.length=l.length→hdl R (m.set k l')=hdl R m
 | _ :: _,_ :: _,0,l,l',h,e=>by
  simp only [List.getElem?_cons_zero,Option.some.injEq] at h
  subst h
  simp only [List.set_cons_zero,hdl,e]
 | r :: R,q :: m,k+1,l,l',h,e=>by
  simp only [List.set_cons_succ,hdl]
  rw [MU (R:=R) (k:=k) (by simpa using h) e]
 | [],_,_,_,_,_,_=>by simp [hdl]
 | _ :: _,[],_,_,_,h,_=>by simp at h
theorem Jb {F:Nat→Prop} {w:World}:∀ {cs:List (List Value)} {R:List Nat} {m:List (List Int)},R.length=m.length→vK F w cs (hdl R m)→cs.flatten=FJ R m
 | c :: cs,_ :: R,_ :: m,h,e=>by
  have h1:c=_:=e.1
  simp only [FJ,List.flatten_cons]
  rw [Jb (R:=R) (m:=m) (by simpa using h) e.2,h1]
  rfl
 | [],[],[],_,_=>rfl
 | _ :: _,[],[],_,e=>e.elim
 | [],_ :: _,_ :: _,_,e=>e.elim
 | _,[],_ :: _,h,_=>by simp at h
 | _,_ :: _,[],h,_=>by simp at h
def It.rws (R:List Nat) (m:List (List Int)):It where
 F k:=k ∈ R
 p w:=FQ w R m∧R.Nodup∧∀ l ∈ m,l.length≤8
 bd w h k hk:=h.1.mem hk
 st w w' h k hs:=⟨h.1.st k,h.2⟩
theorem FQ.snoc {w:World}:∀ {R:List Nat} {m:List (List Int)} {r:Nat} {l:List Int},FQ w R m→mI w r 3 (l.map V).toArray→FQ w (R ++ [r]) (m ++ [l])
 | _ :: _,_ :: _,_,_,h,k=>⟨h.1,FQ.snoc h.2 k⟩
 | [],[],_,_,_,k=>⟨k,trivial⟩
 | [],_ :: _,_,_,h,_=>h.elim
 | _ :: _,[],_,_,h,_=>h.elim
section
variable {w w0:World} {Z G:Nat→Prop} {L:List It} {D:List Da}
theorem ZV (h:Bx w0 w Z G L D):Bx w0 w Z G (It.rws [] [] :: L) D:=
 h.push (Ext.refl w) ⟨trivial,List.nodup_nil,fun _ h=>by cases h⟩ (fun b hb=>by cases hb)
theorem Sc {R:List Nat} {m:List (List Int)} {b n:Nat} (h:Bx w0 w Z G (.box b 3 (Array.replicate n (V 0)) :: It.rws R m :: L) D) (hn:n≤8):Bx w0 w Z G (It.rws (R ++ [b]) (m ++ [List.replicate n 0]) :: L) D:=by
 have hB:mI w b 3 (Array.replicate n (V 0)):=h.bk 0 rfl
 have hr:(It.rws R m).p w:=h.at 1 rfl
 have hp1:=List.pairwise_cons.1 h.pw
 have hp2:=List.pairwise_cons.1 hp1.2
 have e:(List.replicate n (0:Int)).map V=List.replicate n (V 0):=by simp
 refine h.step (X:=fun _=>False) ((Ext.refl w).Cq _) (fun _ hx=>hx.elim) (fun it hi=>?_) (fun it hi k hk hl=>?_) (List.pairwise_cons.2 ⟨fun y hy k hk=>?_,hp2.2⟩)
 · rcases List.mem_cons.1 hi with rfl | hi
   · refine ⟨hr.1.snoc (by rw [e,← Array.toList_replicate,Array.toArray_toList];exact hB),?_,fun l hl=>?_⟩
     · rw [List.nodup_append]
       refine ⟨hr.2.1,by simp,fun a ha c hc=>?_⟩
       rw [List.mem_singleton.1 hc]
       intro hab
       exact hp1.1 _ (List.mem_cons_self ..) b rfl (hab ▸ ha)
     · rcases List.mem_append.1 hl with hl | hl
       · exact hr.2.2 l hl
       · rw [List.mem_singleton.1 hl,List.length_replicate];exact hn
   · exact (h.it it (List.mem_cons_of_mem _ (List.mem_cons_of_mem _ hi))).1
 · rcases List.mem_cons.1 hi with rfl | hi
   · rcases List.mem_append.1 hk with hk | hk
     · exact ⟨_,List.mem_cons_of_mem _ (List.mem_cons_self ..),hk⟩
     · exact ⟨_,List.mem_cons_self ..,List.mem_singleton.1 hk⟩
   · exact ⟨it,List.mem_cons_of_mem _ (List.mem_cons_of_mem _ hi),hk⟩
 · rcases List.mem_append.1 hk with hk | hk
   · exact hp2.1 y hy k hk
   · exact hp1.1 y (List.mem_cons_of_mem _ hy) k (List.mem_singleton.1 hk)
variable {ρ:Operand→Value} {d:Option Nat} {ty:TypeId} {pos:String} {af:Array Edge} {gd:Option (Nat × Bool)} {p y:Operand}
theorem RH (hL:Bx w0 w Z G L D) (i:Nat) {R:List Nat} {m:List (List Int)} {k j r:Nat} {l:List Int} {n:Int} (hi:L[i]?=some (It.rws R m)) (hr:R[k]?=some r) (hk:m[k]?=some l) (hj:j < l.length) (hx:ρ p=.pointer (some ⟨r,j,none⟩)) (hy:ρ y=V n) :
   QI Try.prog ρ ⟨d,.store 3 p y,ty,pos,af,gd⟩ w fun w'=>Bx w0 w' Z G (L.set i (It.rws R (m.set k (l.set j n)))) D:=by
 have h:=hL.at i hi
 obtain ⟨r',hr',hB⟩:=h.1.get hk
 rw [hr] at hr'
 obtain rfl:=Option.some.inj hr'
 obtain ⟨q,hi1,hi2,hi3,hi4⟩:=mP
 have hst:=run_storeCells_at (P:=Try.prog) r j 3 [V n] 0 _ w hB (by simp;omega) (fun v hv=>by rcases List.mem_singleton.1 hv with rfl;rfl)
 have e:((l.map V).toArray.toList.take (j+0) ++ [V n] ++ (l.map V).toArray.toList.drop (j+0+[V n].length)).toArray=((l.set j n).map V).toArray:=by
   congr 1
   rw [List.map_set,List.set_eq_take_append_cons_drop]
   simp [hj]
 rw [e] at hst
 have hc:=Dw.setRow w r ((l.set j n).map V).toArray
 refine ⟨_,?_,hL.put i (it':=It.rws R (m.set k (l.set j n))) hi ⟨hc.os,hc.tape,hc.output,hc.size,fun b hb hn=>hc.block b hb (by intro e;injection e with e;exact hn (by show b ∈ R;rw [e];exact List.mem_of_getElem? hr))⟩ ⟨h.1.set h.2.1 hr,h.2.1,fun q hq=>?_⟩ (fun b hb=>.inl hb)⟩
 · simp [execOp,hx,Instr.storeAt,Instr.sureAddr,storeVar,sizeOf,typeInfo,hi1,hi3,hst,hy,Value.cells]
 · rcases List.mem_or_eq_of_mem_set hq with hq | rfl
   · exact h.2.2 q hq
   · rw [List.length_set];exact h.2.2 l (List.mem_of_getElem? hk)
theorem WY {B b c:Nat} {A:Option Addr} {cs:List (List Value)} {R:List Nat} {m:List (List Int)} {f:Int} (h:Bx w0 w Z G (.box b 120 #[V f,V 0,.slice A m.length c] :: .own B A c 22 (Rp.sz SK) cs :: It.rws R m :: L) D) (j:Nat) (hj:D[j]?=some (.els cs (hdl R m))):Bx w0 w Z G (It.act ⟨b,A,c,R⟩ ⟨f,0,m⟩ :: L) D:=by
 have hB:mI w b 120 #[V f,V 0,.slice A m.length c]:=h.bk 0 rfl
 have ho:Go.Fw.Own w B 22 1 A cs.length c cs.flatten:=h.bo 1 rfl
 have hr:(It.rws R m).p w:=h.at 2 rfl
 have hE:=h.de j hj
 have hlen:=hr.1.len
 have h1:=Jb hlen hE
 have h2:cs.length=m.length:=by rw [hE.len,Dq hlen]
 rw [h1,h2] at ho
 have p1:=List.pairwise_cons.1 h.pw
 have p2:=List.pairwise_cons.1 p1.2
 have p3:=List.pairwise_cons.1 p2.2
 refine h.step (X:=fun _=>False) ((Ext.refl w).Cq _) (fun _ hx=>hx.elim) (fun it hi=>?_) (fun it hi k hk hl=>?_) (List.pairwise_cons.2 ⟨fun y hy k hk=>?_,p3.2⟩)
 · rcases List.mem_cons.1 hi with rfl | hi
   · exact ⟨hB,hr.1,Go.Fw.Own.mono ho (Nat.zero_le _),fun hb=>p1.1 _ (List.mem_cons_of_mem _ (List.mem_cons_self ..)) b rfl hb,fun hb=>p1.1 _ (List.mem_cons_self ..) b rfl hb,fun q hq hA=>p2.1 _ (List.mem_cons_self ..) q hA hq,hr.2.1,hr.2.2⟩
   · exact (h.it it (List.mem_cons_of_mem _ (List.mem_cons_of_mem _ (List.mem_cons_of_mem _ hi)))).1
 · rcases List.mem_cons.1 hi with rfl | hi
   · rcases hk with hk | hk | hk
     · exact ⟨_,List.mem_cons_self ..,hk⟩
     · exact ⟨_,List.mem_cons_of_mem _ (List.mem_cons_self ..),hk⟩
     · exact ⟨_,List.mem_cons_of_mem _ (List.mem_cons_of_mem _ (List.mem_cons_self ..)),hk⟩
   · exact ⟨it,List.mem_cons_of_mem _ (List.mem_cons_of_mem _ (List.mem_cons_of_mem _ hi)),hk⟩
 · rcases hk with hk | hk | hk
   · exact p1.1 y (List.mem_cons_of_mem _ (List.mem_cons_of_mem _ hy)) k hk
   · exact p2.1 y (List.mem_cons_of_mem _ hy) k hk
   · exact p3.1 y hy k hk
end
end Go.Proofs.Ytfglbdkfnphjgaa
set_option linter.unusedVariables false
set_option maxRecDepth 4000
set_option maxHeartbeats 12800000
namespace Go.Proofs.Ytfglbdkfnphjgaa
open Go.RowKit Go.Fw
section
variable {ρ:Operand→Value} {w:World} {d:Option Nat} {ty:TypeId} {pos:String} {af:Array Edge} {g:Option (Nat × Bool)} {x y z:Operand} {n m:Int} {A B:Option Addr} {k c k2 c2:Nat}
theorem Ru (h:ρ x=Vi n):Yl Try.prog ρ (.build 120 #[(0,x)]) d ty pos af g w (.agg #[Vi n,Vi 0,sn]):=by
 have e:(Instr.build 120 #[(0,Vi n)]).run Try.prog w=.ok (.agg #[Vi n,Vi 0,sn]) w:=by kernel_rfl
 simp [Yl,execOp,h,e]
theorem Ox (h:ρ x=.slice A k c):(execOp ρ ⟨d,.buildSlice 118 1 #[(0,x)],ty,pos,af,g⟩).run Try.prog w=.ok (.value (.slice (some ⟨w.heap.size,0,none⟩) 1 1)) (w.alloc (.cells #[.slice A k c] 22)):=by
 have e:(Instr.buildSlice 118 1 #[(0,.slice A k c)]).run Try.prog w=.ok (.slice (some ⟨w.heap.size,0,none⟩) 1 1) (w.alloc (.cells #[.slice A k c] 22)):=by kernel_rfl
 simp [execOp,h,e]
end
structure PB where
 b:Nat
instance:Rp PB:=⟨1,8,fun _ _ cs p=>cs=[Pt p.b],fun h=>by rw [h];rfl,fun h=>by rw [h];rfl,fun h _=>h⟩
theorem OC {F:Nat→Prop} {w:World}:∀ l:List Nat,vK F w (l.map fun b=>[Pt b]) (l.map PB.mk)
 | []=>trivial
 | _ :: l=>⟨rfl,OC l⟩
theorem EZ {F:Nat→Prop} {w:World}:∀ {cs:List (List Value)} {l:List Nat},vK F w cs (l.map PB.mk)→cs=l.map fun b=>[Pt b]
 | [],[],_=>rfl
 | _ :: _,_ :: _,h=>by rw [List.map_cons,← EZ h.2];exact congrArg (· :: _) h.1
 | [],_ :: _,h=>h.elim
 | _ :: _,[],h=>h.elim
theorem Qv {ρ:Operand→Value} {w:World} {d:Option Nat} {ty:TypeId} {pos:String} {af:Array Edge} {g:Option (Nat × Bool)} {x:Operand} {b:Nat} (h:ρ x=Pt b):(execOp ρ ⟨d,.buildSlice 87 1 #[(0,x)],ty,pos,af,g⟩).run Try.prog w=.ok (.value (.slice (some ⟨w.heap.size,0,none⟩) 1 1)) (w.alloc (.cells #[Pt b] 117)):=by
 have e:(Instr.buildSlice 87 1 #[(0,Pt b)]).run Try.prog w=.ok (.slice (some ⟨w.heap.size,0,none⟩) 1 1) (w.alloc (.cells #[Pt b] 117)):=by kernel_rfl
 simp [execOp,h,e]
theorem OG {w0 w:World} {Z G:Nat→Prop} {L:List It} {D:List Da} (h:Bx w0 w Z G L D) (i:Nat) {B c:Nat} {A:Option Addr} {l l2:List Nat} (hi:L[i]?=some (.own B A c 117 1 ((l ++ l2).map fun b=>[Pt b]))):Bx w0 w Z G (L.set i (.own B A c 117 1 (l.map fun b=>[Pt b]))) D:=by
 refine h.put i hi ((Ext.refl w).Cq _) ?_ (fun k hk=>.inl hk)
 have ho:=(h.bo i hi).shr l.length (by simp)
 rw [Fu,Nat.mul_one,List.map_append,List.take_left' (by simp)] at ho
 show Go.Fw.Own w B 117 1 A (l.map fun b=>[Pt b]).length c (l.map fun b=>[Pt b]).flatten
 rw [List.length_map,Fu]
 exact ho
def Zd (R:Rn) (sm:List tZ→Sm):Prop:=∀ {w:World} {A:Nat→Prop} {m:ED} {ptrs:List Nat} {hist h:List kV} {out o:List Int} {xs:List Ao} {gs:List tZ} {f:Int} {args:List Int} {a:Option Addr} {c:Nat} {p:Pn Int},
 Pre w A (Mac R m ptrs hist out) (.l a c args :: tY R m hist out)→zO w (lS (Mac R m ptrs hist out)) xs gs→R.B≤w.heap.size→ptrs=(xs.map (·.b)).reverse→ptrs.length≤20→D9 sm R.src gs f args hist out=some (p,h,o)→
 Calls Try.prog 39 #[Pt R.rb,V f,.slice a args.length c] w (RP (fun v w'=>∃ n,p=.ok n∧v=V n∧∃ m',Bx w w' A (lS (Mac R m ptrs hist out)) (Mac R m' ptrs h o) (tY R m' h o))
  (fun ch w'=>Pb p ch∧∃ more m',Bx w w' A (lS (Mac R m ptrs hist out)) (Mac R m' (ptrs ++ more) h o) (tY R m' h o)))
theorem MZ {R:Rn} {sm:List tZ→Sm} (hS:WQ R sm):Zd R sm:=by
 intro w A m ptrs hist ho out o xs gs f args a c p hP hl hB hp hn hm
 have b:=hP.bx
 clear hP
 generalize hG:lS (Mac R m ptrs hist out)=G at b hl ⊢
 refine vU Try.func39 rfl ?_
 refine lM [(0,Pt R.rb),(1,V f),(2,.slice a args.length c)] ⟨rfl,rfl,rfl,trivial⟩ fun av=>?_
 have hlen:ptrs.length=gs.length:=by rw [hp,List.length_reverse,List.length_map,hl.len]
 unfold D9 at hm
 refine goB b ?_
 refine qy rfl (fun h=>?_) (fun h=>?_)
 · rw [if_pos (by omega)] at hm
   cases hm
   refine go ?_
   refine jS (Iy OQ rfl) ?_
   exact Ad rfl ⟨xH _,[],m,by rw [List.append_nil];exact b.dp [1,2,3,4,5,6]⟩
 rw [if_neg (by omega)] at hm
 have hlt:ptrs.length+1≤20:=by omega
 refine go ?_
 refine jS (Ru rfl) ?_
 refine sV b (yY rfl) fun w1 b7 b=>?_
 refine goB b ?_
 cases hv:ix? R.src.b f with
 | none=>
   rw [hv] at hm
   cases hm
   refine Ai Try.underlying27 rfl rfl (Ak hv) fun u w2 hw=>⟨⟨u,xH _⟩,[],m,?_⟩
   rw [List.append_nil]
   have hb:=(b.arr [1,2,3,4] rfl).dp [1,2,3,4,5,6]
   rcases hw with rfl | rfl
   · exact hb
   · exact hb.drew
 | some vars=>
 rw [hv] at hm
 obtain ⟨q,hq,hm⟩:=bs hm
 obtain ⟨kf,rfl,hvk⟩:=V9 hv
 obtain ⟨cs0,hr0,b⟩:=b.nm 5 rfl hvk
 obtain ⟨a3,c3,rfl,hv3⟩:=hr0
 replace b:=b.kr (d:=.l a3 c3 vars) hv3
 refine jS (kW Try.underlying27 Dg rfl rfl rfl (b.dl 7 rfl) hvk) (jS (jP Try.underlying60 rfl rfl ((b.dc 1 rfl) 0 _ rfl)) ?_)
 have hbd:=(b.dl 0 rfl).bd
 replace b:=ZV (b.Bv SK 22)
 replace b:=(b.arr [2,1,0,3,4,5,6] rfl).dp [0,1,3,4,5,6,7,8,9]
 refine goB b ?_
 refine kE (fun aw f' w'=>∃ (t:Nat) (ws:List (List Int)) (A1:Option Addr) (c1:Nat) (cs:List (List Value)) (Rr:List Nat),aw=vars.length - t∧t≤vars.length∧Rr.length=ws.length∧
     Has f' [(0,Pt R.rb),(1,V (kf:Int)),(2,.slice a args.length c),(7,Pt b7),(31,.slice a3 vars.length c3),(32,V (vars.length:Int)),(33,V (t:Int))]∧
     Bx w w' A G (.box b7 120 #[V (kf:Int),V 0,.slice A1 ws.length c1] :: .own w.heap.size A1 c1 22 (Rp.sz SK) cs :: It.rws Rr ws :: Mac R m ptrs hist out) (.els cs (hdl Rr ws) :: .l a3 c3 vars :: .l a c args :: tY R m hist out)∧Fq (vars.drop t) ws=some q)
   vars.length ⟨0,[],none,0,[],[],rfl,Nat.zero_le _,rfl,⟨rfl,rfl,rfl,rfl,rfl,rfl,rfl,trivial⟩,b,hq⟩ ?_
 clear b hq
 rintro aw f w2 ⟨t,ws,A1,c1,cs,Rr,rfl,ht,hRl,hf,b,hq⟩ J hJ
 obtain ⟨av2,rfl⟩:=fV _ _ hf
 clear hf
 refine goB b ?_
 refine qy rfl (fun h=>?_) (fun h=>?_)
 · obtain ⟨v,hvt⟩:=lY (l:=vars) (k:=t) (by omega)
   rw [lK hvt,Fq] at hq
   refine goB b ?_
   refine jS (kW Try.underlying60 yU rfl rfl rfl (b.dl 1 rfl) hvt) (jS (mR [T v.b,V v.e,V v.c,V v.a,.bool v.f,V v.d,V v.g] Try.underlying59 rfl yU rfl rfl (uK (b.dl 1 rfl) hvt (fun _ h=>h))) ?_)
   refine sV b (jU yU) fun w3 b9 b=>?_
   refine kZ (nU b 0 [T v.b,V v.e,V v.c,V v.a,.bool v.f,V v.d,V v.g] rfl yU rfl rfl) fun w4 b=>?_
   refine goB b ?_
   have herr:v.a < 0 ∨ 8 < v.a→p=.err 4∧ho=hist∧o=out:=fun hc=>by
     rw [if_pos hc] at hq
     cases hq
     cases hm
     exact ⟨rfl,rfl,rfl⟩
   have hb:=(b.arr [4,5,6,7] rfl).dp [3,4,5,6,7,8]
   by_cases h0:v.a < 0
   · rw [decide_eq_true h0]
     refine go ?_
     refine jS (Iy OQ rfl) ?_
     obtain ⟨rfl,rfl,rfl⟩:=herr (.inl h0)
     exact Ad rfl ⟨xH _,[],m,by rw [List.append_nil];exact hb⟩
   rw [decide_eq_false h0]
   refine goB b ?_
   refine qy rfl (fun h8=>?_) (fun h8=>?_)
   · refine go ?_
     refine jS (Iy OQ rfl) ?_
     obtain ⟨rfl,rfl,rfl⟩:=herr (.inr h8)
     exact Ad rfl ⟨xH _,[],m,by rw [List.append_nil];exact hb⟩
   clear herr hb
   rw [if_neg (by omega)] at hq
   obtain ⟨ws2,h2,hq⟩:=bs hq
   obtain ⟨n,hn⟩:∃ n:Nat,v.a=(n:Int):=⟨v.a.toNat,by omega⟩
   have hn8:n≤8:=by omega
   rw [hn,Int.toNat_natCast] at h2
   obtain ⟨hcap,rfl⟩:=BF h2
   have happ:∀ b10:Nat,app (hdl Rr ws) [(⟨some ⟨b10,0,none⟩,n,n⟩:SK)]=some (hdl (Rr ++ [b10]) (ws ++ [List.replicate n 0])):=fun b10=>by
     unfold app
     rw [JR hRl,List.length_replicate,if_pos (by rw [Dq hRl];simpa using hcap)]
   refine go ?_
   refine uY (fun u=>mI u b9 59 #[T v.b,V v.e,V v.c,V v.a,.bool v.f,V v.d,V v.g]) (fun u=>mI u b7 120 #[V (kf:Int),V 0,.slice A1 ws.length c1]) [12] (by kernel_rfl) ?_
   replace b:=b.drew
   have m1:mI w4.drew b9 59 #[T v.b,V v.e,V v.c,V v.a,.bool v.f,V v.d,V v.g]:=b.bk 0 rfl
   have m2:mI w4.drew b7 120 #[V (kf:Int),V 0,.slice A1 ws.length c1]:=b.bk 1 rfl
   refine pL 0 r (vQ r) m1 m2 (pL 1 r (vQ r) m1 m2 (pL 2 r (xn r) m1 m2 (pL 3 r (CO r) m1 m2 (tS 14 4 r (fun _ h=>Nb r h r) (mF m1 m2) (pL 5 r (Ui r) m1 m2 (tU 6 r (fun _ h=>JE r h r) (mF m1 m2) ?_))))))
   refine hO 7 (oo r r (aMk (V 0) b n Try.underlying22 mP rfl r r hn (by omega) (by omega)) ?_)
   rintro _ w5 ⟨b10,_,rfl,b⟩
   refine ⟨mF (b.bk 1 rfl) (b.bk 2 rfl),?_⟩
   refine hO 8 (oo r r (jN b [[.slice (some ⟨b10,0,none⟩) n n]] ([⟨some ⟨b10,0,none⟩,n,n⟩]:List SK) (Ox r) r r (by decide) ⟨rfl,trivial⟩) ?_)
   rintro _ w6 ⟨b11,rfl,b⟩
   refine ⟨mF (b.bk 2 rfl) (b.bk 3 rfl),?_⟩
   refine hO 9 (oo r r (kL b 4 1 r r Try.underlying118 Aj r (by decide) (by decide) (Nat.le_refl _) (by show Value.slice A1 ws.length c1=_;rw [Dq hRl]) r (b.zN 0 0 r r) (happ b10)) ?_)
   rintro _ w7 ⟨A2,c2,cs2,rfl,b⟩
   refine ⟨mF (b.bk 2 rfl) (b.bk 3 rfl),pL 10 r (xn r) (b.bk 2 rfl) (b.bk 3 rfl) (pL 11 r (CO r) (b.bk 2 rfl) (b.bk 3 rfl) ?_)⟩
   refine hO 12 (os r r (t_n b 3 [.slice A2 (hdl (Rr ++ [b10]) (ws ++ [List.replicate n 0])).length c2] r PW r r) fun w8 b=>⟨sy 12 (b.bk 2 rfl),hD ?_⟩)
   have hRl2:(Rr ++ [b10]).length=(ws ++ [List.replicate n (0:Int)]).length:=by simp [hRl]
   rw [Dq hRl2] at b
   replace b:=b.arr [1,5,3,4,6,7,8,9] rfl
   replace b:=Sc b hn8
   replace b:=(b.arr [1,2,0,3,4,5,6] rfl).dp [1,2,3,4,5,6,7,8,9]
   refine go ?_
   refine hJ (vars.length - (t+1)) _ _ (by omega) ⟨t+1,_,A2,c2,cs2,_,rfl,by omega,hRl2,⟨rfl,rfl,rfl,rfl,rfl,rfl,congrArg V (WM (t:=t) (by omega)),trivial⟩,b,hq⟩
 · obtain rfl:t=vars.length:=by omega
   rw [lu,Fq] at hq
   cases hq
   refine goB b ?_
   refine ug ?_
   refine goB b ?_
   have hbd2:=(b.dl 2 rfl).bd
   dsimp only at hm
   generalize hq:IC args 0 ws=q2 at hm
   refine kE (fun aw f' w'=>∃ (t:Nat) (ws1:List (List Int)),aw=args.length - t∧t≤args.length∧Rr.length=ws1.length∧
       Has f' [(0,Pt R.rb),(1,V (kf:Int)),(7,Pt b7),(59,.slice a args.length c),(60,V (args.length:Int)),(61,V (t:Int))]∧
       Bx w w' A G (.box b7 120 #[V (kf:Int),V 0,.slice A1 ws1.length c1] :: .own w.heap.size A1 c1 22 (Rp.sz SK) cs :: It.rws Rr ws1 :: Mac R m ptrs hist out) (.els cs (hdl Rr ws1) :: .l a c args :: tY R m hist out)∧IC (args.drop t) t ws1=q2)
     args.length ⟨0,ws,rfl,Nat.zero_le _,hRl,⟨rfl,rfl,rfl,rfl,rfl,rfl,trivial⟩,b.dp [0,2,3,4,5,6,7,8],hq⟩ ?_
   clear b hq hRl
   rintro aw f w3 ⟨t,ws1,rfl,ht,hRl,hf,b,hq⟩ J2 hJ2
   obtain ⟨av3,rfl⟩:=fV _ _ hf
   clear hf
   have hb:=(b.arr [3,4,5,6] rfl).dp [2,3,4,5,6,7]
   have hrt:q2=.rt→p=.rt∧ho=hist∧o=out:=fun e=>by
     rw [e] at hm
     cases hm
     exact ⟨rfl,rfl,rfl⟩
   refine goB b ?_
   refine qy rfl (fun h=>?_) (fun h=>?_)
   · obtain ⟨v,hvt⟩:=lY (l:=args) (k:=t) (by omega)
     rw [lK hvt,IC] at hq
     refine goB b ?_
     refine jS (kW Try.underlying22 mP rfl rfl rfl (b.dl 1 rfl) hvt) (jS (jP Try.underlying3 rfl rfl ((uK (ds:=[V v]) (b.dl 1 rfl) hvt (fun _ h=>h)) 0 _ rfl)) ?_)
     refine goB b ?_
     cases hwt:ws1[t]? with
     | none=>
       rw [hwt] at hq
       obtain ⟨rfl,rfl,rfl⟩:=hrt hq.symm
       refine Ai Try.underlying118 rfl rfl (by have:=List.getElem?_eq_none_iff.1 hwt;omega) fun u w4 hw=>⟨⟨u,xH _⟩,[],m,?_⟩
       rw [List.append_nil]
       rcases hw with rfl | rfl
       · exact hb
       · exact hb.drew
     | some row=>
     rw [hwt] at hq
     have hrw:=b.at 2 rfl
     obtain ⟨r0,hr0,hB0⟩:=hrw.1.get hwt
     have how:Go.Fw.Own w3 w.heap.size 22 1 A1 cs.length c1 cs.flatten:=b.bo 1 rfl
     rw [Jb hRl (b.de 0 rfl)] at how
     have hcell:=EG how (ES hr0 hwt)
     refine jS (KF t hcell.1 Try.underlying118 Aj rfl rfl rfl (kT hwt)) ?_
     refine jS (jP (a:=⟨nN A1,oU A1+t * 1,none⟩) Try.underlying22 rfl rfl (by rw [Nat.mul_one];exact hcell.2.1)) ?_
     refine goB b ?_
     cases row with
     | nil=>
       obtain ⟨rfl,rfl,rfl⟩:=hrt hq.symm
       refine Ai Try.underlying22 rfl rfl (by simp) fun u w4 hw=>⟨⟨u,xH _⟩,[],m,?_⟩
       rw [List.append_nil]
       rcases hw with rfl | rfl
       · exact hb
       · exact hb.drew
     | cons z row=>
       refine jS (xIdx 0 Try.underlying22 mP rfl rfl rfl (by simp)) ?_
       refine kZ (RH b 2 (j:=0) rfl hr0 hwt (by simp) rfl rfl) fun w4 b=>?_
       rw [← MU (R:=Rr) (l':=v :: row) hwt (by simp)] at b
       have e2:ws1.length=(ws1.set t (v :: row)).length:=by simp
       rw [e2] at b
       refine go ?_
       exact hJ2 (args.length - (t+1)) _ _ (by omega) ⟨t+1,ws1.set t (v :: row),rfl,by omega,by rw [← e2];exact hRl,⟨rfl,rfl,rfl,rfl,rfl,congrArg V (WM (t:=t) (by omega)),trivial⟩,b,hq⟩
   · obtain rfl:t=args.length:=by omega
     rw [lu,IC] at hq
     subst hq
     clear hrt hb
     dsimp only at hm
     refine goB b ?_
     refine ug ?_
     refine goB b ?_
     replace b:=WY b 0 rfl
     replace b:=b.dp [2,3,4,5,6,7]
     have happ:app (ptrs.map PB.mk) [PB.mk b7]=some ((ptrs ++ [b7]).map PB.mk):=by
       unfold app
       rw [if_pos (by simp;omega),List.map_append]
       rfl
     refine nM (jN b [[Pt b7]] ([PB.mk b7]:List PB) (Qv rfl) rfl rfl (by decide) ⟨rfl,trivial⟩) ?_
     rintro _ w5 ⟨b10,rfl,b⟩
     replace b:=b.kr (d:=.els (ptrs.map fun b=>[Pt b]) (ptrs.map PB.mk)) (OC ptrs)
     refine nM (kL (α:=PB) b 3 0 rfl rfl Try.underlying87 Nr rfl (by decide) (by decide) hB (by show Value.slice m.lA ptrs.length m.lC=_;rw [List.length_map]) rfl (b.zN 0 1 rfl rfl) happ) ?_
     rintro _ w6 ⟨A2,c2,cs2,rfl,b⟩
     have hcs:=EZ (b.de 0 rfl)
     subst hcs
     refine goB b ?_
     refine kZ (t_n b 2 [.slice A2 ((ptrs ++ [b7]).map PB.mk).length c2] rfl OI rfl rfl) fun w7 b=>?_
     rw [List.length_map] at b
     replace b:=(b.arr [2,3,4,5,1] rfl).dp [2,3,4,5,6,7]
     refine goB b ?_
     cases hfn:ix? R.src.a.b (kf:Int) with
     | none=>
       rw [hfn] at hm
       cases hm
       refine Ai Try.underlying24 rfl rfl (Ak hfn) fun u w8 hw=>⟨⟨u,xH _⟩,[b7],{ m with lA:=A2,lC:=c2 },?_⟩
       have hb:=b.arr [0,1,2,3] rfl
       rcases hw with rfl | rfl
       · exact hb
       · exact hb.drew
     | some fn=>
     rw [hfn] at hm
     dsimp only at hm
     obtain ⟨⟨q,s2⟩,h1,hm⟩:=bs hm
     obtain ⟨kf2,hk2,hfk⟩:=V9 hfn
     obtain ⟨cs0,hr0,b⟩:=b.nm 3 rfl hfk
     obtain ⟨a5,c5,a6,c6,rfl,h5,h6⟩:=nK.out hr0
     replace b:=b.kr (d:=.l a6 c6 fn.d) h6
     refine jS (kW Try.underlying24 nW rfl rfl hk2 (b.dl 5 rfl) hfk) ?_
     refine goB b ?_
     refine jS (jP Try.underlying80 rfl rfl ((b.dc 1 rfl) 3 _ rfl)) ?_
     have hr:Qy w7 (Cx w A (pick _ [0,1,2,3,4] ++ pick _ [])) R { m with lA:=A2,lC:=c2 } (ptrs ++ [b7]) ⟨b7,A1,c1,Rr⟩ ⟨⟨(kf:Int),0,ws1⟩,hist,out⟩ xs gs [.l a6 c6 fn.d]:=
       ⟨b.pr [0,1,2,3,4] [] [0,2,3,4,5,6,7] rfl,Av b hl (fun it hi=>hi),Nat.le_trans hB b.qW.size,by rw [hp],by rw [List.length_append,List.length_singleton];exact hlt⟩
     have hc:=hS hr h1
     clear hr
     refine IB (qg Ni rfl) hc (fun ch w8 hq=>?_) ?_
     · obtain ⟨hq,more,m4,hK⟩:=hq
       have hb:=b.cn [0,1,2,3,4] [] hK
       have hb:=(hb.arr [0,1,2,3] rfl).dp [0,1,2,3,4,5]
       rw [List.append_assoc] at hb
       cases q with
       | ok o=>exact hq.elim
       | _=>cases hm;exact ⟨hq,[b7] ++ more,m4,hb⟩
     rintro _ w8 ⟨v,rfl,rfl,m4,hK⟩
     replace b:=b.cn [0,1,2,3,4] [] hK
     replace b:=(b.arr [0,1,2,3] rfl).dp [0,1,2,3,4,5]
     cases hm
     refine jS (GD (.tuple #[V (v.getD 0),.bool v.isSome]) rfl) ?_
     refine go ?_
     have hcap:=(b.bo 1 rfl).cap
     rw [List.length_map,List.length_append,List.length_singleton] at hcap
     refine uY (fun _=>True) (fun u=>mI u R.rb 89 (oL R m4 (ptrs ++ [b7]).length (window s2.hist R.fr R.mo).length s2.hist.length s2.out.length).toArray) [14] (by kernel_rfl) ?_
     replace b:=b.drew
     have m2:mI w8.drew R.rb 89 (oL R m4 (ptrs ++ [b7]).length (window s2.hist R.fr R.mo).length s2.hist.length s2.out.length).toArray:=b.bk 0 rfl
     refine pL 0 r (vQ r) trivial m2 (pL 1 r (vQ r) trivial m2 (pL 2 r (xn r) trivial m2 (pL 3 r (Fp r) trivial m2 (tS 16 4 r (fun _ h=>RU r h r) (mF trivial m2) (pL 5 r (vQ r) trivial m2 (pL 6 r (xn r) trivial m2 (pL 7 r (Fp r) trivial m2 (tS 16 8 r (fun _ h=>RU r h r) (mF trivial m2) (pL 9 r (lF Try.underlying87 r) trivial m2 (pL 10 r (xJ r r) trivial m2 ?_))))))))))
     refine pL 11 r (yS ptrs.length Try.underlying87 Nr r r (by rw [List.length_append,List.length_singleton];unfold wr;rw [QN (by omega) (by omega)];omega) (by omega)) trivial m2 (pL 12 r (xn r) trivial m2 (pL 13 r (Fp r) trivial m2 ?_))
     refine hO 14 (os r r (t_n b 0 [.slice m4.lA ptrs.length m4.lC] r OI r r) fun w9 b=>⟨sy 14 trivial,hD ?_⟩)
     replace b:=OG b 1 rfl
     refine go ?_
     refine kU ?_
     refine jB (fn:=Try.f39) rfl (lq rfl) ?_
     exact ⟨v.getD 0,rfl,rfl,m4,b⟩
end Go.Proofs.Ytfglbdkfnphjgaa
set_option linter.unusedVariables false
set_option maxRecDepth 4000
set_option maxHeartbeats 12800000
namespace Go.Proofs.Ytfglbdkfnphjgaa
open Go.RowKit Go.Fw
theorem JM {P:Program} {w:World} {t:TypeId} {ms:Array (String × TypeId)} (n:Nat) (ht:P.underlying t=some (.interface ms)) {v:Value} {b:Bool} (hv:(v=.nilIface∧b=true) ∨ (∃ t' u,v=.iface t' u∧b=false)):(Op.equalIn (n+1) t v .nilIface).run P w=.ok b w:=by
 rcases hv with ⟨rfl,rfl⟩|⟨t',u,rfl,rfl⟩
 · simp only [Op.equalIn,Sem.run_bind,run_underlying ht,Result.andThen_ok]
   rfl
 · simp only [Op.equalIn,Sem.run_bind,run_underlying ht,Result.andThen_ok]
   rfl
theorem Ol {P:Program} {w:World} {t:TypeId} {ms:Array (String × TypeId)} (ht:P.underlying t=some (.interface ms)) {v:Value} {b:Bool} (hv:(v=.nilIface∧b=true) ∨ (∃ t' u,v=.iface t' u∧b=false)):(Op.equal t v .nilIface).run P w=.ok b w:=
 JM 9999 ht hv
section
variable {P:Program} {w:World} {ρ:Operand→Value} {d:Option Nat} {ty:TypeId} {pos:String} {af:Array Edge} {g:Option (Nat × Bool)} {t t':TypeId} {x:Operand}
theorem FZ {ms:Array (String × TypeId)} {v:Value} {b:Bool} (ht:P.underlying t=some (.interface ms)) (hx:ρ x=v) (hc:ρ (.const .nilIface)=.nilIface) (hv:(v=.nilIface∧b=true) ∨ (∃ t' u,v=.iface t' u∧b=false)) :
  Yl P ρ (.binOp .eql t x (.const .nilIface) t') d ty pos af g w (.bool b):=by
 have heq:=Ol (w:=w) ht hv
 have hg:(eqGuard .eql t x (.const .nilIface) v .nilIface).run P w=.ok () w:=by
  rcases hv with ⟨rfl,_⟩|⟨t',u,rfl,_⟩ <;> simp [eqGuard]
 have hbin:(binOp .eql t v .nilIface).run P w=.ok (.bool b) w:=by
  have:binOp .eql t v .nilIface=(do pure (.bool (← Op.equal t v .nilIface)):Sem Value):=by
   rcases hv with ⟨rfl,_⟩|⟨t',u,rfl,_⟩ <;> rfl
  rw [this]
  simp only [Sem.run_bind,heq,Result.andThen_ok,Sem.run_pure]
 unfold Yl execOp
 simp only [hx,hc,Sem.run_bind,hg,hbin,Result.andThen_ok,Sem.run_pure]
theorem VG {xt:TypeId} {k:IntKind} {v:Value} (hu:P.underlying t=some (.int k)) (hx:ρ x=.iface t v):Yl P ρ (.typeAssert x xt t true) d ty pos af g w (.tuple #[v,.bool true]):=by
 simp [Yl,execOp,hx,Instr.typeAssert,run_underlying hu]
theorem YR {xt t2:TypeId} {k:IntKind} {v:Value} {z:Value} {s by_:Nat} (hu:P.underlying t=some (.int k)) (hz:TI P t z s by_) (hx:ρ x=.iface t2 v) (hne:t2≠t):∃ z',Yl P ρ (.typeAssert x xt t true) d ty pos af g w (.tuple #[z',.bool false]):=by
 obtain ⟨i,hi1,hi2,hi3,hi4⟩:=hz
 refine ⟨z,?_⟩
 simp [Yl,execOp,hx,Instr.typeAssert,run_underlying hu,zeroValue,typeInfo,hi1,hi2,hne]
end
end Go.Proofs.Ytfglbdkfnphjgaa
set_option linter.unusedVariables false
set_option maxRecDepth 4000
set_option maxHeartbeats 12800000
namespace Go.Proofs.Ytfglbdkfnphjgaa
open Go.RowKit Go.Fw
abbrev Ze (R:Rn) (b3 b9 b6 b7 b8:Nat) (k:Nat) (v6:Value) (v7 v8:Bool):List It:=[.box b3 86 #[Pt R.rb],.box b9 3 #[V (k:Int)],.box b6 3 #[v6],.box b7 4 #[.bool v7],.box b8 4 #[.bool v8]]
abbrev aA (b3 b9 b6 b7 b8:Nat):Array Value:=#[Pt b3,Pt b9,Pt b6,Pt b7,Pt b8]
theorem QZ {b3 b9 b6 b7 b8:Nat} {u:FrameMode} {w:World} (hu:(AA u).1=.nilIface):CallsD Try.prog 135 (aA b3 b9 b6 b7 b8) u w (RD (AA u).2 (fun w'=>w'=w) (fun _ _=>False)):=by
 refine DC Try.func135 rfl rfl rfl ?_
 rw [hu]
 refine lM [(8,.nilIface)] ⟨rfl,trivial⟩ fun av=>?_
 refine nS ?_
 refine Ji (zY ?_)
 refine jS (FZ Try.underlying20 rfl rfl (.inl ⟨rfl,rfl⟩)) ?_
 refine go ?_
 refine jS (Ot .nilIface rfl) ?_
 refine go ?_
 rfl
theorem Sr {b3 b9 b6 b7 b8:Nat} {u:FrameMode} {w:World} {t:TypeId} {v:Value} (hu:(AA u).1=.iface t v) (ht:t≠90):CallsD Try.prog 135 (aA b3 b9 b6 b7 b8) u w (RD (AA u).2 (fun _=>False) (fun c w'=>c=[⟨.iface t v,false,false⟩]∧w'=w)):=by
 refine DC Try.func135 rfl rfl rfl ?_
 rw [hu]
 refine lM [(8,.iface t v)] ⟨rfl,trivial⟩ fun av=>?_
 refine nS ?_
 refine Ji (zY ?_)
 refine jS (FZ Try.underlying20 rfl rfl (.inr ⟨t,v,rfl,rfl⟩)) ?_
 refine go ?_
 obtain ⟨z', hz⟩ := YR (P := Try.prog) (w := w) (ρ := ev (kF (Iz av [(8, .iface t v)]) (some 10) (.bool false))) (d := some 11) (ty := 0) (pos := "statement.go:62") (af := #[]) (g := none) (x := .tmp 8) (xt := 20) Try.underlying90 Wh rfl ht
 refine jS hz ?_
 refine go ?_
 refine jS (Ot (.iface t v) rfl) ?_
 refine go ?_
 refine jS (GD (.iface t v) rfl) ?_
 exact Ad rfl ⟨rfl,rfl⟩
theorem Wt {A G:Nat→Prop} {R:Rn} {m:ED} {ps more:List Nat} {hist:List kV} {out:List Int} {X:List It} {D:List Da} {w0 w:World} {b3 b9 b6 b7 b8:Nat} {v6:Value} {v7 v8:Bool} {u:FrameMode} {n:Int}
  (b:Bx w0 w A G (Ze R b3 b9 b6 b7 b8 ps.length v6 v7 v8 ++ (Mac R m (ps ++ more) hist out ++ X)) D) (hu:(AA u).1=.iface 90 (V n)) (hl:ps.length < 1000) :
  CallsD Try.prog 135 (aA b3 b9 b6 b7 b8) u w (RD (AA u).2 (fun w'=>Bx w0 w' A G (Ze R b3 b9 b6 b7 b8 ps.length (V n) false true ++ (Mac R m ps hist out ++ X)) D) (fun _ _=>False)):=by
 refine DC Try.func135 rfl rfl rfl ?_
 rw [hu]
 refine lM [(0,Pt b3),(1,Pt b9),(2,Pt b6),(3,Pt b7),(4,Pt b8),(8,.iface 90 (V n))] ⟨rfl,rfl,rfl,rfl,rfl,rfl,trivial⟩ fun av=>?_
 refine nS ?_
 refine Ji (zY ?_)
 refine jS (FZ Try.underlying20 rfl rfl (.inr ⟨90,V n,rfl,rfl⟩)) ?_
 refine go ?_
 refine jS (VG Try.underlying90 rfl) ?_
 refine go ?_
 have hcap:=(b.bo 6 rfl).cap
 rw [List.length_map,List.length_append] at hcap
 refine uY (fun _=>True) (fun u=>mI u b3 86 #[Pt R.rb]∧mI u b9 3 #[V (ps.length:Int)]∧mI u R.rb 89 (oL R m (ps ++ more).length (window hist R.fr R.mo).length hist.length out.length).toArray) [9] (by kernel_rfl) ?_
 replace b:=b.drew
 have m2:mI w.drew b3 86 #[Pt R.rb]∧mI w.drew b9 3 #[V (ps.length:Int)]∧mI w.drew R.rb 89 (oL R m (ps ++ more).length (window hist R.fr R.mo).length hist.length out.length).toArray:=⟨b.bk 0 rfl,b.bk 1 rfl,b.bk 5 rfl⟩
 refine tS 10 0 r (fun _ h=>DK r h.1 r) (mF trivial m2) (tS 10 1 r (fun _ h=>DK r h.1 r) (mF trivial m2) (pL 2 r (xn r) trivial m2 (pL 3 r (Fp r) trivial m2 (tS 10 4 r (fun _ h=>RU r h.2.2 r) (mF trivial m2) (tS 10 5 r (fun _ h=>JE r h.2.1 r) (mF trivial m2) ?_)))))
 refine pL 6 r (yS ps.length Try.underlying87 Nr r r rfl (by omega)) trivial m2 (pL 7 r (xn r) trivial m2 (pL 8 r (Fp r) trivial m2 ?_))
 refine hO 9 (os r r (t_n b 5 [.slice m.lA ps.length m.lC] r OI r r) fun w2 b=>⟨sy 9 trivial,hD ?_⟩)
 replace b:=OG b 6 rfl
 refine go ?_
 refine kZ (t_n b 2 [V n] rfl mP rfl rfl) fun w3 b=>?_
 refine kZ (t_n b 3 [.bool false] rfl LA rfl rfl) fun w4 b=>?_
 refine kZ (t_n b 4 [.bool true] rfl LA rfl rfl) fun w5 b=>?_
 refine go ?_
 exact b
end Go.Proofs.Ytfglbdkfnphjgaa
set_option linter.unusedVariables false
set_option maxRecDepth 4000
set_option maxHeartbeats 12800000
namespace Go.Proofs.Ytfglbdkfnphjgaa
open Go.RowKit Go.Fw
theorem QO {P : Program} {f : Fr} {w : World} {t b : Nat} {ty te : TypeId} {v : Value} (hf : f t = .pointer (some ⟨b, 0, none⟩)) (hu : ∀ ρ : Operand → Value, ρ (.tmp 0) = .pointer (some ⟨b, 0, none⟩) → Yl P ρ (.load ty (.tmp 0)) none 0 "" #[] none w v) {cs : Array Value} (hB : mI w b te cs) : QK P f w (.cell t ty) v := by
 refine ⟨b,te,cs,hf,hB,?_⟩
 have hl:=hu (fun _=>.pointer (some ⟨b,0,none⟩)) rfl
 simp only [Yl,execOp,Instr.loadAt,Instr.sureAddr,Sem.run_bind,Sem.run_pure,Result.andThen_ok] at hl
 cases hq:(loadVar ty ⟨b,0,none⟩).run P w with
 | ok v w'=>rw [hq] at hl;simp at hl;rw [hl.1,hl.2]
 | halt h w'=>rw [hq] at hl;simp at hl
section
variable {P:Program} {N:Fz}
theorem MJ {x y:Code} {Q:Exit→Act→World→Prop} {f:Fr} {w:World} (h:WP P N x ⟨fun f w=>Ls P N y Q f w,fun _ _ _=>False,fun _ _=>False,fun _ _ _=>False⟩ f w):Ls P N (.seq x y) Q f w:=
 Ve h fun e a w q=>by
  cases e with
  | normal=>obtain ⟨f,h1,h2⟩:=q;exact h2.elim
  | exit i=>obtain ⟨f,h1,h2⟩:=q;exact h2.elim
  | ret=>obtain ⟨f,h1,h2⟩:=q;exact h2.elim
  | panic c=>obtain ⟨f,h1,h2⟩:=q;exact h2.elim
  | _=>exact q.elim
theorem MR (l:List (Nat × Value)) {c:Code} {Q:Exit→Act→World→Prop} {f:Fr} {w:World} (h:Has f l) (k:∀ g,Ls P N c Q (Iz g l) w):Ls P N c Q f w:=by
 rw [← Bg h];exact k f
theorem LG {fn:Func} {d:Deferred} {fv:Fn} {cap:Array Value} {g:FuncId} {args:Array Value} {R:Ending→World→Prop} {f:Fr} {a:Act} {w:World} {M:Fz}
  (hT:d.target=.fn fv cap) (hi:(invoke d.target d.args).run P w=.ok (.enter g args) w) (hc:CallsD P g args .returning w (RD .returning (fun w'=>w'=w) (fun _ _=>False)))
  (h:Reads P fn (fun v w'=>R (.returned v) w') f w) (ha:BX M f a):Leaves P fn a.tmps R [d] .returning w:=by
 refine ⟨by simp,fv,cap,g,args,hT,hi,?_⟩
 intro c cs hu
 obtain ⟨e,u',w',fr,h1,h2,h3⟩:=hc c cs hu
 refine ⟨e,u',w',fr,?_,h2,h3⟩
 cases e with
 | returned v=>
  obtain ⟨rfl,rfl⟩:=h1
  unfold Reads at h
  obtain ⟨v2,hv,hR⟩:=h a.tmps ha.get
  exact ⟨v2,hv,hR⟩
 | panicked c=>exact h1.2.elim
 | outgrown=>exact h1.elim
theorem zw {fn:Func} {d:Deferred} {fv:Fn} {cap:Array Value} {g:FuncId} {args:Array Value} {R:Ending→World→Prop} {f:Fr} {a:Act} {w:World} {M:Fz} {v:Value} {l:List PanicEntry} {R1:World→Prop} {V1:List PanicEntry→World→Prop}
  (hT:d.target=.fn fv cap) (hi:(invoke d.target d.args).run P w=.ok (.enter g args) w) (hl:∀ e ∈ l,e.goexit=false)
  (hc:CallsD P g args (.panicking (⟨v,false,false⟩ :: l)) w (RD (.panicking (⟨v,true,false⟩ :: l)) R1 V1))
  (h:∀ w',R1 w'→Reads P fn (fun v w'=>R (.returned v) w') f w') (hv:∀ c w',V1 c w'→R (.panicked (c ++ ⟨v,true,false⟩ :: l)) w') (ha:BX M f a):Leaves P fn a.tmps R [d] (.panicking (⟨v,false,false⟩ :: l)) w:=by
 refine ⟨by simp,fv,cap,g,args,hT,hi,?_⟩
 intro c cs hu
 obtain ⟨e,u',w',fr,h1,h2,h3⟩:=hc c cs hu
 refine ⟨e,u',w',fr,?_,h2,h3⟩
 cases e with
 | returned v1=>
  obtain ⟨rfl,h1⟩:=h1
  have hq:=h w' h1
  unfold Reads at hq
  obtain ⟨v2,hv2,hR⟩:=hq a.tmps ha.get
  have hs:settle (.panicking (⟨v,true,false⟩ :: l))=.returning:=by
   have e:l.dropWhile (!·.goexit)=[]:=by
    clear hc hv h2 hu hq h
    induction l with
    | nil=>rfl
    | cons e l ih=>rw [List.dropWhile_cons,hl e (List.mem_cons_self ..)];exact ih (fun e he=>hl e (List.mem_cons_of_mem _ he))
   unfold settle
   dsimp only
   rw [e]
  show Leaves P fn a.tmps R [] (settle _) w'
  rw [hs]
  exact ⟨v2,hv2,hR⟩
 | panicked c=>
  obtain ⟨rfl,h1⟩:=h1
  exact hv _ _ h1
 | outgrown=>exact h1.elim
end
end Go.Proofs.Ytfglbdkfnphjgaa
set_option linter.unusedVariables false
set_option maxRecDepth 4000
set_option maxHeartbeats 12800000
namespace Go.Proofs.Ytfglbdkfnphjgaa
open Go.RowKit Go.Fw
def CAt (R:Rn) (sm:List tZ→Sm):Prop:=∀ {w:World} {A:Nat→Prop} {m:ED} {ptrs:List Nat} {x:Ao} {s s':Sg} {xs:List Ao} {gs:List tZ} {l:List jO} {a:Option Addr} {c:Nat} {p:Pn (Option Int)},
 Qy w A R m ptrs x s xs gs [.l a c l]→JF (sm gs) s l=some (p,s')→
 Calls Try.prog 123 #[Pt R.rb,Pt x.b,.slice a l.length c] w (RP (fun v w'=>((∃ o,p=.ok o∧v=.tuple #[V (o.getD 0),.bool o.isSome,.bool false]) ∨ (∃ n,p=.Es n∧v=.tuple #[V n,.bool false,.bool true]))∧Ok w A R m ptrs x s s' w') (fun ch w'=>(∀ n,p≠.Es n)∧Pk p w A R m ptrs x s s' ch w'))
theorem YO {P:Program} {ρ:Operand→Value} {pos:String} {af:Array Edge} {w:World} {x:Operand} {fn:Fn} {caps:Array Value} (h:ρ x=.func fn #[] caps) :
  (execOp ρ ⟨none,.defer ⟨.value x,#[],#[]⟩,0,pos,af,none⟩).run P w=.ok (.defer ⟨.fn fn caps,#[]⟩) w:=by
 simp [execOp,resolve,h,Deferred.ofValue]
theorem LK {R:Rn} {sm:List tZ→Sm} (hS:WQ R sm):CAt R sm:=by
 intro w A m ptrs x s s' xs gs l a c p hR hm
 obtain ⟨hP,hl,hB,hp,hn⟩:=hR
 have b:=hP.bx
 clear hP
 unfold Ok Pk
 generalize hG:lS (H8 R m ptrs x s)=G at b hl ⊢
 refine HZ Try.func123 rfl ?_
 refine MR [(0,Pt R.rb),(1,Pt x.b),(2,.slice a l.length c)] ⟨rfl,rfl,rfl,trivial⟩ fun av=>?_
 refine MJ (zY ?_)
 refine sV b (yY rfl) fun w1 b3 b=>?_
 refine sV b (jU mP) fun w2 b6 b=>?_
 refine sV b (jU LA) fun w3 b7 b=>?_
 refine sV b (jU LA) fun w4 b8 b=>?_
 refine go ?_
 refine MJ (zY ?_)
 refine goB b ?_
 refine sV b (jU mP) fun w5 b9 b=>?_
 refine kZ (nU b 0 [V (ptrs.length:Int)] rfl mP rfl rfl) fun w6 b=>?_
 refine go ?_
 replace b:Bx w w6 A G (Ze R b3 b9 b6 b7 b8 ptrs.length (V 0) false false ++ H8 R m ptrs x s) (.l a c l :: tY R m s.hist s.out):=b.arr [4,0,3,2,1,5,6,7,8,9] rfl
 refine MR [(0,Pt R.rb),(1,Pt x.b),(2,.slice a l.length c),(3,Pt b3),(6,Pt b6),(7,Pt b7),(8,Pt b8),(9,Pt b9)] ⟨rfl,rfl,rfl,rfl,rfl,rfl,rfl,rfl,trivial⟩ fun av2=>?_
 refine O5 (UO (vs := [Pt b3, Pt b9, Pt b6, Pt b7, Pt b8]) rfl) (YO rfl) ?_  -- ⟨.fn (.func 135) #[Pt b3, Pt b9, Pt b6, Pt b7, Pt b8], #[]⟩) rfl ?_
 refine SV (Q:=⟨fun _ _=>False,fun _ _ _=>False,fun f w'=>Reads Try.prog Try.f123 (fun v w'=>((∃ o,p=.ok o∧v=.tuple #[V (o.getD 0),.bool o.isSome,.bool false]) ∨ (∃ n,p=.Es n∧v=.tuple #[V n,.bool false,.bool true]))∧Now w w' A G R ptrs x s') f w',fun f ch w'=>(f 6=Pt b6∧f 7=Pt b7∧f 8=Pt b8)∧Pb p ch∧∃ more m',Bx w w' A G (Ze R b3 b9 b6 b7 b8 ptrs.length (V 0) false false ++ (Mac R m' (ptrs ++ more) s'.hist s'.out ++ [It.act x s'.a])) (.l a c l :: tY R m' s'.hist s'.out)⟩) ?_ ?_
 · refine Ji (zY ?_)
   refine goB b ?_
   have hr:Qy w6 (Cx w A (pick _ [5,6,7,8,9] ++ pick _ [0,1,2,3,4])) R m ptrs x s xs gs [.l a c l]:=⟨b.pr [5,6,7,8,9] [0,1,2,3,4] [0,1,2,3,4,5,6,7] rfl,Av b hl (fun it hi=>List.mem_append_right _ hi),Nat.le_trans hB b.qW.size,hp,hn⟩
   have hc:=hS hr hm
   clear hr
   refine IB (qg Ni rfl) hc (fun ch w7 hq=>?_) ?_
   · obtain ⟨hq,more,m4,hK⟩:=hq
     have hb:=b.cn [5,6,7,8,9] [0,1,2,3,4] hK
     exact ⟨⟨rfl,rfl,rfl⟩,hq,more,m4,(hb.arr [5,6,7,8,9,0,1,2,3,4] rfl).dp [6,0,1,2,3,4,5]⟩
   rintro _ w7 ⟨o,rfl,rfl,m4,hK⟩
   replace b:=b.cn [5,6,7,8,9] [0,1,2,3,4] hK
   replace b:=(b.arr [5,6,7,8,9,0,1,2,3,4] rfl).dp [0,1,2,3,4,5]
   refine jS (GD (.tuple #[V (o.getD 0),.bool o.isSome]) rfl) ?_
   refine go ?_
   refine kZ (t_n b 2 [V (o.getD 0)] rfl mP rfl rfl) fun w8 b=>?_
   refine kZ (t_n b 3 [.bool o.isSome] rfl LA rfl rfl) fun w9 b=>?_
   refine go ?_
   refine uY (fun u=>mI u b6 3 #[V (o.getD 0)]∧mI u b7 4 #[.bool o.isSome]) (fun _=>True) [] (by kernel_rfl) ?_
   replace b:=b.drew
   refine uF 0 r (fun h=>JE r h.1 r) ⟨b.bk 2 rfl,b.bk 3 rfl⟩ (uF 1 r (fun h=>W9 r h.2 r) ⟨b.bk 2 rfl,b.bk 3 rfl⟩ ?_)
   refine hO 2 (os r r (t_n b 2 [V (o.getD 0)] r mP r r) fun w10 b=>⟨sF ⟨b.bk 2 rfl,b.bk 3 rfl⟩,?_⟩)
   refine hO 3 (os r r (t_n b 3 [.bool o.isSome] r LA r r) fun w11 b=>⟨sF ⟨b.bk 2 rfl,b.bk 3 rfl⟩,?_⟩)
   refine hO 4 (os r r (t_n b 4 [.bool false] r LA r r) fun w12 b=>⟨sF ⟨b.bk 2 rfl,b.bk 3 rfl⟩,hD ?_⟩)
   refine go ?_
   refine kU ?_
   refine xI (fn:=Try.f123) rfl (QO rfl (fun ρ h=>JE h (b.bk 2 rfl) rfl) (b.bk 2 rfl)) (QO rfl (fun ρ h=>W9 h (b.bk 3 rfl) rfl) (b.bk 3 rfl)) (QO rfl (fun ρ h=>W9 h (b.bk 4 rfl) rfl) (b.bk 4 rfl)) ?_
   exact ⟨.inl ⟨o,rfl,rfl⟩,m4,b.arr [5,6,7,8,9] rfl⟩
 · intro e a1 w1 q
   cases e with
   | normal=>obtain ⟨f,h1,h2⟩:=q;exact h2.elim
   | exit i=>obtain ⟨f,h1,h2⟩:=q;exact h2.elim
   | ret=>
     obtain ⟨f,h1,h2⟩:=q
     show Leaves Try.prog Try.f123 a1.tmps _ a1.defers .returning w1
     rw [h1.dfr]
     exact LG rfl rfl (QZ rfl) h2 h1
   | panic ch=>
     obtain ⟨f,h1,⟨hf6,hf7,hf8⟩,hq,more,m',b⟩:=q
     show Leaves Try.prog Try.f123 a1.tmps _ a1.defers (.panicking ch) w1
     rw [h1.dfr]
     have hgo:∀ {t:TypeId} {v:Value} {lc:List PanicEntry},ch=⟨.iface t v,false,false⟩ :: lc→(∀ e ∈ lc,e.goexit=false)→t≠90→(∀ n,p≠.Es n)→(∀ c2,Yn (.iface t v) c2→Pb p c2)→
       Leaves Try.prog Try.f123 a1.tmps (RP (fun v w'=>((∃ o,p=.ok o∧v=.tuple #[V (o.getD 0),.bool o.isSome,.bool false]) ∨ (∃ n,p=.Es n∧v=.tuple #[V n,.bool false,.bool true]))∧Now w w' A G R ptrs x s') (fun ch w'=>(∀ n,p≠.Es n)∧Pb p ch∧XG w w' A G R ptrs x s')) [⟨.fn (.func 135) #[Pt b3,Pt b9,Pt b6,Pt b7,Pt b8],#[]⟩] (.panicking ch) w1:=fun {t v lc} e1 e2 ht hn hb=>by
      subst e1
      refine zw (R1:=fun _=>False) rfl rfl e2 (Sr rfl ht) (fun w' h=>h.elim) (fun c2 w' h=>?_) h1
      obtain ⟨rfl,rfl⟩:=h
      exact ⟨hn,hb _ ⟨_,rfl,fun e he=>by
       rcases List.mem_cons.1 he with rfl | he
       · rfl
       · exact e2 e he⟩,more,m',(b.arr [5,6,7,8,9] rfl).dp [1,2,3,4,5,6,7]⟩
     cases p with
     | ok o=>exact hq.elim
     | Es n=>
      obtain ⟨lc,rfl,hlc⟩:=hq
      refine zw rfl rfl hlc (Wt (n:=n) b rfl (by omega)) (fun w2 b=>?_) (fun c w' h=>h.elim) h1
      refine xI (fn:=Try.f123) rfl (QO hf6 (fun ρ h=>JE h (b.bk 2 rfl) rfl) (b.bk 2 rfl)) (QO hf7 (fun ρ h=>W9 h (b.bk 3 rfl) rfl) (b.bk 3 rfl)) (QO hf8 (fun ρ h=>W9 h (b.bk 4 rfl) rfl) (b.bk 4 rfl)) ?_
      exact ⟨.inr ⟨n,rfl,rfl⟩,m',(b.arr [5,6,7,8,9] rfl).dp [1,2,3,4,5,6,7]⟩
     | err e=>obtain ⟨lc,h2,h3⟩:=hq;exact hgo h2 h3 (by decide) (fun n h=>by cases h) (fun _ h=>h)
     | rt=>obtain ⟨u,lc,h2,h3⟩:=hq;exact hgo h2 h3 (by decide) (fun n h=>by cases h) (fun _ h=>⟨u,h⟩)
   | _=>exact q.elim
end Go.Proofs.Ytfglbdkfnphjgaa
set_option linter.unusedVariables false
set_option maxRecDepth 4000
set_option maxHeartbeats 12800000
namespace Go.Proofs.Ytfglbdkfnphjgaa
open Go.RowKit Go.Fw
def YN (sm:Sm) (s:Sg) (x:jO):Option (Pn (Option Int) × Sg):=(JF sm s x.d).bind fun (p,s)=>match p with
 | .Es v=>match ix? s.a.ws x.g with
  | none=>some (.rt,s)
  | some []=>some (.rt,s)
  | some (_ :: r)=>JF sm { s with a:={ s.a with ws:=s.a.ws.set x.g.toNat (v :: r) } } x.h
 | p=>some (p,s)
theorem WH:jC Try.prog 123:=⟨_,Try.func123,by kernel_rfl,by kernel_rfl⟩
def CTr (R:Rn) (sm:List tZ→Sm):Prop:=∀ {w:World} {A:Nat→Prop} {m:ED} {ptrs:List Nat} {x:Ao} {s s':Sg} {xs:List Ao} {gs:List tZ} {y:jO} {a7:Option Addr} {c7:Nat} {a10:Option Addr} {c10:Nat} {a11:Option Addr} {c11:Nat} {a12:Option Addr} {c12:Nat} {p:Pn (Option Int)},
 Qy w A R m ptrs x s xs gs (dS y a7 c7 a10 c10 a11 c11 a12 c12)→YN (sm gs) s y=some (p,s')→
 Calls Try.prog 104 #[Pt R.rb,Pt x.b,.agg (cS y a7 c7 a10 c10 a11 c11 a12 c12).toArray] w (RP (fun v w'=>∃ o,p=.ok o∧v=.tuple #[V (o.getD 0),.bool o.isSome]∧Ok w A R m ptrs x s s' w') (Pk p w A R m ptrs x s s'))
theorem Ut {R:Rn} {sm:List tZ→Sm} (hL:WQ R sm) (hA:CAt R sm):CTr R sm:=by
 intro w A m ptrs x s s' xs gs y a7 c7 a10 c10 a11 c11 a12 c12 p hR hm
 obtain ⟨hP,hl,hB,hp,hn⟩:=hR
 have b:=hP.bx
 clear hP
 unfold Ok Pk
 generalize hG:lS (H8 R m ptrs x s)=G at b hl ⊢
 refine vU Try.func104 rfl ?_
 refine lM [(0,Pt R.rb),(1,Pt x.b),(2,.agg (cS y a7 c7 a10 c10 a11 c11 a12 c12).toArray)] ⟨rfl,rfl,rfl,trivial⟩ fun av=>?_
 unfold YN at hm
 obtain ⟨⟨q,s1⟩,h1,hm⟩:=bs hm
 refine Ji (zY ?_)
 refine sV b (yY rfl) fun w1 b5 b=>?_
 refine goB b ?_
 have hr:Qy w1 (Cx w A (pick _ [1,2,3,4,5] ++ pick _ [0])) R m ptrs x s xs gs [.l a11 c11 y.d]:=⟨b.pr [1,2,3,4,5] [0] [2,4,5,6,7,8,9] rfl,Av b hl (fun it hi=>List.mem_cons_of_mem _ hi),Nat.le_trans hB b.qW.size,hp,hn⟩
 have hc:=hA hr h1
 clear hr
 refine IB (qg WH rfl) hc (fun ch w2 hq=>?_) ?_
 · obtain ⟨hne,hq,more,m4,hK⟩:=hq
   have hb:=b.cn [1,2,3,4,5] [0] hK
   have hb:=(hb.arr [0,1,2,3,4] rfl).dp [0,1,2,3,4,5]
   cases q with
   | ok o=>exact hq.elim
   | Es n=>exact (hne n rfl).elim
   | _=>cases hm;exact ⟨hq,more,m4,hb⟩
 clear hc
 rintro _ w2 ⟨(⟨o,rfl,rfl⟩|⟨n,rfl,rfl⟩),m4,hK⟩
 · replace b:=b.cn [1,2,3,4,5] [0] hK
   replace b:=(b.arr [0,1,2,3,4] rfl).dp [0,1,2,3,4,5]
   cases hm
   refine jS (GD (.tuple #[V (o.getD 0),.bool o.isSome,.bool false]) rfl) ?_
   refine go ?_
   refine kU ?_
   refine qd (fn:=Try.f104) rfl (lq rfl) (lq rfl) ?_
   exact ⟨o,rfl,rfl,m4,b⟩
 · replace b:=b.cn [1,2,3,4,5] [0] hK
   replace b:=(b.arr [5,0,1,2,3,4] rfl).dp [9,0,1,2,3,4,5]
   refine jS (GD (.tuple #[V n,.bool false,.bool true]) rfl) ?_
   refine go ?_
   refine uY (fun u=>mI u b5 111 (cS y a7 c7 a10 c10 a11 c11 a12 c12).toArray) (fun u=>(It.act x s1.a).p u) [10] (by kernel_rfl) ?_
   replace b:=b.drew
   have m1:mI w2.drew b5 111 (cS y a7 c7 a10 c10 a11 c11 a12 c12).toArray:=b.bk 0 rfl
   have m2:(It.act x s1.a).p w2.drew:=b.at 5 rfl
   refine pL 0 r (vQ r) m1 m2 (pL 1 r (xn r) m1 m2 (pL 2 r (CO r) m1 m2 (tS 11 3 r (fun _ h=>Nb r (It.zf h) r) (mF m1 m2) (pL 4 r (MK r) m1 m2 (tU 5 r (fun _ h=>JE r h r) (mF m1 m2) (pL 8 r (Ma r) m1 m2 ?_))))))
   dsimp only at hm
   have hb:=(b.arr [1,2,3,4,5] rfl).dp [1,2,3,4,5,6]
   cases hv:ix? s1.a.ws y.g with
   | none=>
     rw [hv] at hm
     cases hm
     refine hO 6 (JV r Try.underlying118 r r (Ak hv) fun u w3 hw f=>⟨⟨u,xH _⟩,[],m4,?_⟩)
     rw [List.append_nil]
     rcases hw with rfl | rfl
     · exact hb
     · exact hb.drew
   | some row=>
   rw [hv] at hm
   obtain ⟨k,hk,hrow⟩:=V9 hv
   obtain ⟨r0,hr0,hB0,hA0,hcell⟩:=It.zU m2 hrow
   refine tS 11 6 r (fun _ h=>KF k hA0 Try.underlying118 Aj r r hk (kT hrow)) (mF m1 m2) ?_
   refine tS 11 7 r (fun _ h=>jP (a:=⟨nN x.A,oU x.A+k * 1,none⟩) Try.underlying22 rfl r (FY h hr0 hrow)) (mF m1 m2) ?_
   cases row with
   | nil=>
     cases hm
     refine hO 9 (JV r Try.underlying22 r r (by simp) fun u w3 hw f=>⟨⟨u,xH _⟩,[],m4,?_⟩)
     rw [List.append_nil]
     rcases hw with rfl | rfl
     · exact hb
     · exact hb.drew
   | cons z row=>
   refine pL 9 r (xIdx 0 Try.underlying22 mP r r r (by simp)) m1 m2 ?_
   refine hO 10 (os r r (Jq b 5 rfl hr0 hrow (j:=0) (by simp) r r) fun w3 b=>⟨sy 10 (b.bk 0 rfl),hD ?_⟩)
   clear hb m1 m2 hB0 hcell
   rw [show setW s1.a.ws (k,0) n=s1.a.ws.set y.g.toNat (n :: row) from by rw [hk];simp [setW,List.getD_eq_getElem?_getD,hrow]] at b
   refine go ?_
   refine goB b ?_
   have hr:Qy w3 (Cx w A (pick _ [1,2,3,4,5] ++ pick _ [0])) R m4 ptrs x { s1 with a:={ s1.a with ws:=s1.a.ws.set y.g.toNat (n :: row) } } xs gs [.l a12 c12 y.h]:=⟨b.pr [1,2,3,4,5] [0] [0,1,2,3,4,5,6] rfl,Av b hl (fun it hi=>List.mem_cons_of_mem _ hi),Nat.le_trans hB b.qW.size,hp,hn⟩
   have hc:=hL hr hm
   clear hr
   refine IB (qg Ni rfl) hc (fun ch w4 hq=>?_) ?_
   · obtain ⟨hq,more,m5,hK⟩:=hq
     have hb:=b.cn [1,2,3,4,5] [0] hK
     exact ⟨hq,more,m5,(hb.arr [0,1,2,3,4] rfl).dp [0,1,2,3,4,5]⟩
   rintro _ w4 ⟨o,rfl,rfl,m5,hK⟩
   replace b:=b.cn [1,2,3,4,5] [0] hK
   replace b:=(b.arr [0,1,2,3,4] rfl).dp [0,1,2,3,4,5]
   refine go ?_
   refine kU ?_
   refine qd (fn:=Try.f104) rfl (lq rfl) (lq rfl) ?_
   exact ⟨o,rfl,rfl,m5,b⟩
end Go.Proofs.Ytfglbdkfnphjgaa
set_option linter.unusedVariables false
set_option maxRecDepth 4000
set_option maxHeartbeats 12800000
namespace Go.Proofs.Ytfglbdkfnphjgaa
open Go.RowKit Go.Fw
theorem CP {ev:jA→Option (Pn Int)} {l:List jA} {s s':Sg} {β:Type} {k:Int→Option (Pn β × Sg)} {p:Pn β} (h:one ev l s k=some (p,s')) :
  ∃ q,Zb ev l=some q∧((∃ n,q=.ok n∧k n=some (p,s')) ∨ ((∀ n,q≠.ok n)∧p=q.up∧s'=s)):=by
 unfold one at h
 cases l with
 | nil=>cases h;exact ⟨.rt,rfl,.inr ⟨fun n e=>(by cases e),rfl,rfl⟩⟩
 | cons x l=>
  obtain ⟨q,hq,h⟩:=bs h
  refine ⟨q,hq,?_⟩
  cases q with
  | ok n=>exact .inl ⟨n,rfl,h⟩
  | _=>cases h;exact .inr ⟨fun n e=>(by cases e),rfl,rfl⟩
theorem KJ {ev:jA→Option (Pn Int)} {ws:List (List Int)} {l:List jA} {s s':Sg} {β:Type} {k:Nat × Nat→Option (Pn β × Sg)} {p:Pn β} (h:Oo ev ws l s k=some (p,s')) :
  ∃ q,wdA ev ws l=some q∧((∃ n,q=.ok n∧k n=some (p,s')) ∨ ((∀ n,q≠.ok n)∧p=q.up∧s'=s)):=by
 unfold Oo at h
 cases l with
 | nil=>cases h;exact ⟨.rt,rfl,.inr ⟨fun n e=>(by cases e),rfl,rfl⟩⟩
 | cons x l=>
  obtain ⟨q,hq,h⟩:=bs h
  refine ⟨q,hq,?_⟩
  cases q with
  | ok n=>exact .inl ⟨n,rfl,h⟩
  | _=>cases h;exact .inr ⟨fun n e=>(by cases e),rfl,rfl⟩
theorem M8 {f:Fr} {d:Nat} {v:Value}:ev (upd f d v) (.tmp d)=v:=by show upd f d v d=v;unfold upd;rw [Nat.beq_refl];rfl
section
variable {N:Fz} {ops:Array Oper} {K:KK} {rest:List Oper} {f:Fr} {w w0:World} {d1 d2 d3:Nat} {ty ty2 ty3:TypeId} {pos pos2 pos3:String} {af af2 af3:Array Edge} {y z u v:Operand} {Z G:Nat→Prop} {L:List It} {D:List Da} {ts:Array TypeId}
theorem Y0 {w1:World} (b:Bx w0 w Z G L D) (h:w1=w ∨ w1=w.drew):Bx w0 w1 Z G L D:=by
 rcases h with rfl | rfl
 · exact b
 · exact b.drew
theorem eArg {fu:Nat} (b:Bx w0 w Z G L D) (i j:Nat) {x:Ao} {g:tZ} {rb:Nat} {a:Option Addr} {c:Nat} {l:List jA} {q:Pn Int}
  (hi:L[i]?=some (It.act x g)) (hj:D[j]?=some (.l a c l)) (hq:Zb (CX fu g.ws) l=some q) (h1:ev f y=.slice a l.length c) (h2:ev f z=V 0)
  (h3:∀ α β,ev (upd (upd f d1 α) d2 β) u=Pt rb) (h4:∀ α β,ev (upd (upd f d1 α) d2 β) v=Pt x.b)
  (kp:∀ f ch w',Pb q ch→Bx w0 w' Z G L D→K.p f ch w')
  (kn:∀ n w' α β,q=.ok n→Bx w0 w' Z G L D→kM Try.prog N ops K rest (upd (upd (upd f d1 α) d2 β) d3 (V n)) w') :
  kM Try.prog N ops K (⟨some d1,.indexAddr 109 y z,ty,pos,af,none⟩ :: ⟨some d2,.load 138 (.tmp d1),ty2,pos2,af2,none⟩ :: ⟨some d3,.call { callee:=.value (.func 102),args:=#[u,v,.tmp d2],argTypes:=ts },ty3,pos3,af3,none⟩ :: rest) f w:=by
 cases l with
 | nil=>
  cases hq
  exact Ai Try.underlying109 h1 h2 (by simp) fun u w2 hw=>kp _ _ _ ⟨u,xH _⟩ (Y0 b hw)
 | cons e l=>
  refine Tx b j hj (show (e :: l)[0]?=some e from rfl) h1 h2 rfl fun a2 c2 b2=>?_
  have hE:=qg (P:=Try.prog) (ρ:=ev (upd (upd f d1 (.pointer (some ⟨nN a,oU a+0 * 6,none⟩))) d2 (.agg (cE e a2 c2).toArray))) (d:=some d3) (ty:=ty3) (pos:=pos3) (af:=af3) (g:=none) (w:=w) (xs:=[u,v,.tmp d2]) (ts:=ts) Bn rfl
  simp only [List.map,h3,h4,M8] at hE
  have ha:=b2.at i hi
  refine IB hE (Ie fu (b2.pr [] [] [0] rfl) ha hq) (fun ch w2 hp=>kp _ _ _ hp.1 (b.ext hp.2)) ?_
  rintro _ w2 ⟨n,rfl,rfl,hx⟩
  exact kn n w2 _ _ rfl (b.ext hx)
theorem YE {fu:Nat} (b:Bx w0 w Z G L D) (i j:Nat) {x:Ao} {g:tZ} {rb:Nat} {a:Option Addr} {c:Nat} {l:List jA} {q:Pn (Nat × Nat)}
  (hi:L[i]?=some (It.act x g)) (hj:D[j]?=some (.l a c l)) (hq:wdA (CX fu g.ws) g.ws l=some q) (h1:ev f y=.slice a l.length c) (h2:ev f z=V 0)
  (h3:∀ α β,ev (upd (upd f d1 α) d2 β) u=Pt rb) (h4:∀ α β,ev (upd (upd f d1 α) d2 β) v=Pt x.b)
  (kp:∀ f ch w',Pb q ch→Bx w0 w' Z G L D→K.p f ch w')
  (kn:∀ k o r row w' α β,q=.ok (k,o)→x.R[k]?=some r→g.ws[k]?=some row→o < row.length→Bx w0 w' Z G L D→kM Try.prog N ops K rest (upd (upd (upd f d1 α) d2 β) d3 (.pointer (some ⟨r,o,none⟩))) w') :
  kM Try.prog N ops K (⟨some d1,.indexAddr 109 y z,ty,pos,af,none⟩ :: ⟨some d2,.load 138 (.tmp d1),ty2,pos2,af2,none⟩ :: ⟨some d3,.call { callee:=.value (.func 101),args:=#[u,v,.tmp d2],argTypes:=ts },ty3,pos3,af3,none⟩ :: rest) f w:=by
 cases l with
 | nil=>
  cases hq
  exact Ai Try.underlying109 h1 h2 (by simp) fun u w2 hw=>kp _ _ _ ⟨u,xH _⟩ (Y0 b hw)
 | cons e l=>
  refine Tx b j hj (show (e :: l)[0]?=some e from rfl) h1 h2 rfl fun a2 c2 b2=>?_
  have hE:=qg (P:=Try.prog) (ρ:=ev (upd (upd f d1 (.pointer (some ⟨nN a,oU a+0 * 6,none⟩))) d2 (.agg (cE e a2 c2).toArray))) (d:=some d3) (ty:=ty3) (pos:=pos3) (af:=af3) (g:=none) (w:=w) (xs:=[u,v,.tmp d2]) (ts:=ts) Px rfl
  simp only [List.map,h3,h4,M8] at hE
  have ha:=b2.at i hi
  refine IB hE (Xp fu (b2.pr [] [] [0] rfl) ha hq) (fun ch w2 hp=>kp _ _ _ hp.1 (b.ext hp.2)) ?_
  rintro _ w2 ⟨k,o,r,row,rfl,hr,hrow,ho,rfl,hx⟩
  exact kn k o r row w2 _ _ rfl hr hrow ho (b.ext hx)
theorem Ua {ρ:Operand→Value} {d:Option Nat} {gd:Option (Nat × Bool)} (hL:Bx w0 w Z G L D) (i:Nat) {x:Ao} {g:tZ} {k r:Nat} {l:List Int} (hi:L[i]?=some (It.act x g)) (hr:x.R[k]?=some r) (hk:g.ws[k]?=some l) (hy:ρ y=.slice (some ⟨r,0,none⟩) l.length l.length) :
  To Try.prog ρ ⟨d,.call { callee:=.builtin .clear,args:=#[y],argTypes:=#[22] },ty,pos,af,gd⟩ w fun _ w'=>Bx w0 w' Z G (L.set i (It.act x { g with ws:=g.ws.set k (List.replicate l.length 0) })) D:=by
 have h:=hL.at i hi
 obtain ⟨r',hr',hB,_⟩:=It.zU h hk
 rw [hr] at hr'
 obtain rfl:=Option.some.inj hr'
 cases l with
 | nil=>
  refine ⟨.tuple #[],w,?_,?_⟩
  · simp [execOp,resolve,invoke,builtin,Builtin.clear_,run_underlying Try.underlying22,hy]
  · have e:(g.ws.set k (List.replicate ([]:List Int).length 0))=g.ws:=set_self hk
    rw [e]
    have e2:L.set i (It.act x { g with ws:=g.ws })=L:=set_self hi
    rw [e2]
    exact hL
 | cons n l=>
  obtain ⟨q,hi1,hi2,hi3,hi4⟩:=mP
  have hz:(Builtin.zeroCells (V 0).cells (n :: l).length).toList=List.replicate (n :: l).length (V 0):=by
    refine List.eq_replicate_iff.2 ⟨by simp [Builtin.zeroCells,Value.cells],fun v hv=>?_⟩
    simp only [Builtin.zeroCells,Array.toList_map,List.mem_map] at hv
    obtain ⟨i,_,rfl⟩:=hv
    rw [show i % (V 0).cells.size=0 from Nat.mod_one i]
    rfl
  have hst:=run_storeCells_at (P:=Try.prog) r 0 3 (List.replicate (n :: l).length (V 0)) 0 _ w hB (by simp) (fun v hv=>by rw [List.eq_of_mem_replicate hv];rfl)
  have e:((((n :: l).map V).toArray.toList.take (0+0)) ++ List.replicate (n :: l).length (V 0) ++ ((n :: l).map V).toArray.toList.drop (0+0+(List.replicate (n :: l).length (V 0)).length)).toArray=((List.replicate (n :: l).length (0:Int)).map V).toArray:=by
    congr 1
    simp
  rw [e] at hst
  refine ⟨.tuple #[],_,?_,Mc hL i hi (.inr (.inr (List.mem_of_getElem? hr))) _ (F7 h hr hk (by simp))⟩
  have hzv:(zeroValue 3).run Try.prog w=.ok (V 0) w:=by simp [zeroValue,typeInfo,hi1,hi2]
  simp only [List.length_cons] at hy hz hst ⊢
  simp [execOp,resolve,invoke,builtin,Builtin.clear_,run_underlying Try.underlying22,hy,hzv,hz,hst]
end
section
variable {N:Fz} {ops:Array Oper} {K:KK} {rest:List Oper} {f:Fr} {w w1:World} {d:Nat} {ty:TypeId} {pos:String} {af:Array Edge} {u1 u2 u3:Operand} {A G:Nat→Prop} {ts:Array TypeId}
 {R:Rn} {m:ED} {ptrs:List Nat} {x:Ao} {s s':Sg} {xs:List Ao} {gs:List tZ} {y:jO} {a7:Option Addr} {c7:Nat} {a10:Option Addr} {c10:Nat} {a11:Option Addr} {c11:Nat} {a12:Option Addr} {c12:Nat} {b5:Nat} {cs:Array Value}
theorem U8 {sm:List tZ→Sm} (hS:WQ R sm) (b:Bx w w1 A G (.box b5 111 cs :: H8 R m ptrs x s) (dS y a7 c7 a10 c10 a11 c11 a12 c12 ++ tY R m s.hist s.out)) (hl:zO w G xs gs) (hB:R.B≤w.heap.size)
   (hp:ptrs=(xs.map (·.b)).reverse ++ [x.b]) (hn:ptrs.length≤20) (j:Nat) {a:Option Addr} {c:Nat} {l:List jO} {p:Pn (Option Int)} (hm:JF (sm gs) s l=some (p,s'))
   (hD:pick (dS y a7 c7 a10 c10 a11 c11 a12 c12 ++ tY R m s.hist s.out) [j,4,5,6,7,8,9]=[.l a c l] ++ tY R m s.hist s.out)
   (h1:ev f u1=Pt R.rb) (h2:ev f u2=Pt x.b) (h3:ev f u3=.slice a l.length c)
   (kp:∀ f ch w' m' more,Pb p ch→Bx w w' A G (Mac R m' (ptrs ++ more) s'.hist s'.out ++ [It.act x s'.a]) (tY R m' s'.hist s'.out)→K.p f ch w')
   (kn:∀ o w' m',p=.ok o→Bx w w' A G (.box b5 111 cs :: H8 R m' ptrs x s') (dS y a7 c7 a10 c10 a11 c11 a12 c12 ++ tY R m' s'.hist s'.out)→kM Try.prog N ops K rest (upd f d (.tuple #[V (o.getD 0),.bool o.isSome])) w') :
   kM Try.prog N ops K (⟨some d,.call { callee:=.value (.func 50),args:=#[u1,u2,u3],argTypes:=ts },ty,pos,af,none⟩ :: rest) f w1:=by
 have hE:=qg (P:=Try.prog) (ρ:=ev f) (d:=some d) (ty:=ty) (pos:=pos) (af:=af) (g:=none) (w:=w1) (xs:=[u1,u2,u3]) (ts:=ts) Ni rfl
 simp only [List.map,h1,h2,h3] at hE
 have hr:Qy w1 (Cx w A (pick _ [1,2,3,4,5] ++ pick _ [0])) R m ptrs x s xs gs [.l a c l]:=⟨by have:=b.pr [1,2,3,4,5] [0] [j,4,5,6,7,8,9] rfl;rw [hD] at this;exact this,Av b hl (fun it hi=>List.mem_cons_of_mem _ hi),Nat.le_trans hB b.qW.size,hp,hn⟩
 have hc:=hS hr hm
 clear hr
 refine IB hE hc (fun ch w4 hq=>?_) ?_
 · obtain ⟨hq,more,m5,hK⟩:=hq
   have hb:=b.cn [1,2,3,4,5] [0] hK
   exact kp _ _ _ m5 more hq ((hb.arr [0,1,2,3,4] rfl).dp [0,1,2,3,4,5])
 rintro _ w4 ⟨o,rfl,rfl,m5,hK⟩
 replace b:=b.cn [1,2,3,4,5] [0] hK
 exact kn o w4 m5 rfl ((b.arr [5,0,1,2,3,4] rfl).dp [6,7,8,9,0,1,2,3,4,5])
theorem Vn:jC Try.prog 100:=⟨_,Try.func100,by kernel_rfl,by kernel_rfl⟩
theorem YH {fv:Nat} (hR:Wm R) (b:Bx w w1 A G (.box b5 111 cs :: H8 R m ptrs x s) (dS y a7 c7 a10 c10 a11 c11 a12 c12 ++ tY R m s.hist s.out)) (hl:zO w G xs gs) (hB:R.B≤w.heap.size)
   (hp:ptrs=(xs.map (·.b)).reverse ++ [x.b]) (hn:ptrs.length≤20) {id:Int} {p:Pn Unit} (hm:event (jM fv R.src) R.st gs s id=some (p,s'))
   (h1:ev f u1=Pt R.rb) (h2:ev f u2=Pt x.b) (h3:ev f u3=V id)
   (kp:∀ f ch w' m',Pb p ch→Bx w w' A G (Mac R m' ptrs s'.hist s'.out ++ [It.act x s'.a]) (tY R m' s'.hist s'.out)→K.p f ch w')
   (kn:∀ w' m',p=.ok ()→Bx w w' A G (.box b5 111 cs :: H8 R m' ptrs x s') (dS y a7 c7 a10 c10 a11 c11 a12 c12 ++ tY R m' s'.hist s'.out)→kM Try.prog N ops K rest (upd f d (.tuple #[])) w') :
   kM Try.prog N ops K (⟨some d,.call { callee:=.value (.func 100),args:=#[u1,u2,u3],argTypes:=ts },ty,pos,af,none⟩ :: rest) f w1:=by
 have hE:=qg (P:=Try.prog) (ρ:=ev f) (d:=some d) (ty:=ty) (pos:=pos) (af:=af) (g:=none) (w:=w1) (xs:=[u1,u2,u3]) (ts:=ts) Vn rfl
 simp only [List.map,h1,h2,h3] at hE
 have hc:=OH (b.pr [1,2,3,4,5] [0] [4,5,6,7,8,9] rfl) (Av b hl (fun it hi=>List.mem_cons_of_mem _ hi)) (Nat.le_trans hB b.qW.size) hp hn hR.st hR.mo hm
 refine IB hE hc (fun ch w4 hq=>?_) ?_
 · obtain ⟨hq,m5,hK⟩:=hq
   have hb:=b.cn [1,2,3,4,5] [0] hK
   exact kp _ _ _ m5 hq ((hb.arr [0,1,2,3,4] rfl).dp [0,1,2,3,4,5])
 rintro _ w4 ⟨rfl,⟨⟨⟩,rfl⟩,m5,hK⟩
 replace b:=b.cn [1,2,3,4,5] [0] hK
 exact kn w4 m5 rfl ((b.arr [5,0,1,2,3,4] rfl).dp [6,7,8,9,0,1,2,3,4,5])
end
end Go.Proofs.Ytfglbdkfnphjgaa
