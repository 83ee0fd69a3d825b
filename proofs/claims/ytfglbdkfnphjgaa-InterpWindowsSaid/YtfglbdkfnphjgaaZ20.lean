/- Expressions: values; then all of them for any fuel. -/
import Derived.Test.YtfglbdkfnphjgaaZ19
import Derived.Test.YtfglbdkfnphjgaaZ5
import Derived.RangeFuncLeaves
import Derived.RangeFuncRecord
import Derived.RangeFuncCalls
import Derived.TacticsIn
import Derived.OrdersIn
set_option linter.unusedVariables false
set_option maxRecDepth 4000
set_option maxHeartbeats 12800000
namespace Go.Proofs.Ytfglbdkfnphjgaa
open Go.RowKit Go.Fw
theorem Uu {t:Nat} (h:t < 9223372036854775807):wr ((t:Int)+1)=((t+1:Nat):Int):=by
 unfold wr;rw [Q5 (by omega) (by omega)];omega
def CVs (evf:List (List Int)→jA→Option (Pn Int)):Prop:=∀ {w:World} {A:Nat→Prop} {rb:Nat} {x:Ao} {g:uE} {es:List jA} {a:Option Addr} {c:Nat} {p:Pn (List Int)},Pre w A [] [.l a c es]→(It.act x g).p w→IX (evf g.ws) es []=some p→
 Calls Try.prog 103 #[Pt rb,Pt x.b,.slice a es.length c] w (RP (fun v w'=>∃ ns A1 c1,p=.ok ns∧v=.slice A1 ns.length c1∧Bx w w' A (lK []) [] [.l A1 c1 ns]) (Zw p w))
theorem Oy {ef:List (List Int)→jA→Option (Pn Int)} (hE:X9 ef):CVs ef:=by
 intro w A rb x g es a c p hP ha hm
 have b:=hP.bx
 clear hP
 refine vU Try.func103 rfl ?_
 refine lJ [(0,Pt rb),(1,Pt x.b),(2,.slice a es.length c)] ⟨rfl,rfl,rfl,trivial⟩ fun av=>?_
 have hbd:=(b.dl 0 rfl).bd
 replace b:=b.BU Int 3
 refine goB b ?_
 refine kK (fun aw f w'=>∃ (t:Nat) (acc:List Int) (a1:Option Addr) (c1:Nat) (cs:List (List Value)),aw=es.length - t∧t≤es.length∧
     Has f [(0,Pt rb),(1,Pt x.b),(7,.slice a1 acc.length c1),(10,.slice a es.length c),(11,V (es.length:Int)),(12,V (t:Int))]∧
     Bx w w' A (lK []) [.own w.heap.size a1 c1 3 (Rp.sz Int) cs] [.els cs acc,.l a c es]∧Ext w w'∧IX (ef g.ws) (es.drop t) acc=some p)
   es.length ⟨0,[],none,0,[],rfl,Nat.zero_le _,⟨rfl,rfl,rfl,rfl,rfl,rfl,trivial⟩,b,Ext.refl w,hm⟩ ?_
 clear b hm
 rintro aw f w1 ⟨t,acc,a1,c1,cs,rfl,ht,hf,b,hx,hm⟩ J hJ
 obtain ⟨av,rfl⟩:=gP _ _ hf
 clear hf
 refine goB b ?_
 refine qm rfl (fun h=>?_) (fun h=>?_)
 · obtain ⟨y,hy⟩:=mF (l:=es) (k:=t) (by omega)
   rw [mZ hy,IX] at hm
   obtain ⟨q,h1,hm⟩:=bs hm
   refine goB b ?_
   refine TW b 1 rfl hy rfl rfl rfl fun a2 c2 b=>?_
   refine tF b (jW jS) fun w2 b9 b=>?_
   refine lq (nR b 0 (cE y a2 c2) rfl jS rfl rfl) fun w3 b=>?_
   refine goB b ?_
   refine jR (mY (cE y a2 c2) mQ jS rfl (b.bk 0 rfl)) ?_
   have hx3:Ext w w3:=b.ex
   refine IZ (pY Bd rfl) (hE (b.pr [] [0,1] [0] rfl) (yg ha hx3) h1) (fun ch w2 hp=>?_) ?_
   · obtain ⟨hp,hx2⟩:=hp
     cases q with
     | ok r=>exact hp.elim
     | _=>obtain rfl:=sm hm;exact ⟨hp,hx3.trans hx2⟩
   rintro _ w4 ⟨n,rfl,rfl,hx2⟩
   replace b:=b.ext hx2
   replace hx3:=hx3.trans hx2
   obtain ⟨acc2,h2,hm⟩:=bs hm
   refine nO (jL b [[V n]] ([n]:List Int) (Am rfl) rfl rfl (by decide) ⟨rfl,trivial⟩) ?_
   rintro _ w5 ⟨b5,rfl,b⟩
   refine nO (kN b 2 2 rfl rfl sG mK rfl (by decide) (by decide) (Nat.le_refl _) rfl rfl (b.zQ 0 0 rfl rfl) h2) ?_
   rintro _ w6 ⟨a4,c4,cs4,rfl,b⟩
   refine goB b ?_
   refine hJ (es.length - (t+1)) _ _ (by omega) ⟨t+1,acc2,a4,c4,cs4,rfl,by omega,⟨rfl,rfl,rfl,rfl,rfl,congrArg V (Uu (by omega)),trivial⟩,b.ad [2] [2,3],b.ex,hm⟩
 · have:t=es.length:=by omega
   subst this
   rw [lZ,IX] at hm
   obtain rfl:=sm hm
   refine goB b ?_
   refine uJ ?_
   refine goB b ?_
   refine kS (jB rfl (kW rfl) ⟨acc,a1,c1,rfl,rfl,?_⟩)
   exact (b.PL 0 0 rfl rfl).ad [] [0]
theorem Ho:∀ fu,X9 (CF fu)
 | 0=>by intro _ _ h;cases h
 | fu+1=>Px (Ho fu) (Nl (Ho fu)) fun _ _=>rfl
theorem XI (fu:Nat):ZN (CF fu):=Nl (Ho fu)
theorem Xt (fu:Nat):CVs (CF fu):=Oy (Ho fu)
theorem PW:jC Try.prog 103:=⟨_,Try.func103,by kernel_rfl,by kernel_rfl⟩
end Go.Proofs.Ytfglbdkfnphjgaa
set_option linter.unusedVariables false
set_option maxRecDepth 4000
set_option maxHeartbeats 12800000
namespace Go.Proofs.Ytfglbdkfnphjgaa
open Go.RowKit Go.Fw
structure RN where
 a1:Option Addr
 c1:Nat
 a2:Option Addr
 c2:Nat
 a3:Option Addr
 c3:Nat
 a4:Option Addr
 c4:Nat
abbrev PG (s:RN) (x:jQ):List Value:=[.slice s.a1 x.a.a.length s.c1,.slice s.a2 x.a.b.length s.c2,.slice s.a3 x.b.length s.c3,.slice s.a4 x.c.length s.c4]
abbrev aai (s:RN) (x:jQ):List Da:=[.l s.a1 s.c1 x.a.a,.l s.a2 s.c2 x.a.b,.l s.a3 s.c3 x.b,.l s.a4 s.c4 x.c]
section
variable {ρ:Operand→Value} {w:World} {d:Option Nat} {ty:TypeId} {pos:String} {af:Array Edge} {g:Option (Nat × Bool)} {x y z:Operand} {n m:Int} {A B:Option Addr} {k c k2 c2:Nat}
theorem O0 (h:ρ x=Vi n) (h2:ρ y=Vi m):Yl Try.prog ρ (.build 53 #[(0,x),(1,y)]) d ty pos af g w (.agg #[Vi n,Vi m,sn]):=by
 have e:(Instr.build 53 #[(0,Vi n),(1,Vi m)]).run Try.prog w=.ok (.agg #[Vi n,Vi m,sn]) w:=by kernel_rfl
 simp [Yl,execOp,h,h2,e]
theorem MO (h:ρ x=Vi n) (h2:ρ y=.slice A k c) (h3:ρ z=.slice B k2 c2):Yl Try.prog ρ (.build 57 #[(0,x),(1,y),(2,z)]) d ty pos af g w (.agg #[Vi n,.slice A k c,.slice B k2 c2]):=by
 have e:(Instr.build 57 #[(0,Vi n),(1,.slice A k c),(2,.slice B k2 c2)]).run Try.prog w=.ok (.agg #[Vi n,.slice A k c,.slice B k2 c2]) w:=by kernel_rfl
 simp [Yl,execOp,h,h2,h3,e]
end
theorem aMk (z:Value) {P:Program} {w0 w:World} {Z G:Nat→Prop} {L:List It} {D:List Da} (hL:Bx w0 w Z G L D) {ρ:Operand→Value} {d:Option Nat} {ty:TypeId} {pos:String} {af:Array Edge} {g:Option (Nat × Bool)} {t e:TypeId} {x y:Operand} {by_:Nat} {k:Int} (n:Nat) (ht:P.underlying t=some (.slice e)) (hi:TI P e z 1 by_) (hz:z.cells=#[z]) (hx:ρ x=V k) (hy:ρ y=V k) (hk:k=(n:Int))
   (hb:n * by_≤140737488355328) (hm:n≤9223372036854775807):To P ρ ⟨d,.makeSlice t x y,ty,pos,af,g⟩ w fun v w'=>∃ b,w0.heap.size≤b∧v=.slice (some ⟨b,0,none⟩) n n∧Bx w0 w' Z G (.box b e (Array.replicate n z) :: L) D:=by
 subst hk
 obtain ⟨i,hi1,hi2,hi3,hi4⟩:=hi
 subst hi4
 have hr:=run_make (P:=P) w t e i z ht hi1 hi2 .i64 .i64 n n (by omega) (Int.le_refl _) (by
   have:((i.bytes * n:Nat):Int)≤281474976710656:=by rw [Nat.mul_comm];omega
   rwa [Int.natCast_mul] at this) (by omega)
 simp only [Int.toNat_natCast] at hr
 have hcs:madeCells z.cells (n * i.size)=Array.replicate n z:=by
   rw [hi3,Nat.mul_one,hz]
   apply Array.ext <;> simp [madeCells,Nat.mod_one]
 refine ⟨.slice (some ⟨w.heap.size,0,none⟩) n n,w.alloc (.cells (madeCells z.cells (n * i.size)) e),?_,w.heap.size,hL.q9.size,rfl,?_⟩
 · simp only [execOp,hx,hy,Sem.run_bind,hr]
   rfl
 · rw [hcs]
   exact hL.new (Nat.le_refl _) (mM.new w e _) ((Ext.refl w).alloc _)
theorem Pj {ρ:Operand→Value} {w:World} {d:Option Nat} {ty:TypeId} {pos:String} {af:Array Edge} {g:Option (Nat × Bool)} {n:Int} {A B:Option Addr} {k c k2 c2:Nat} {x:Operand} (h:ρ x=.agg #[Vi n,.slice A k c,.slice B k2 c2]) :
  (execOp ρ ⟨d,.buildSlice 51 1 #[(0,x)],ty,pos,af,g⟩).run Try.prog w=.ok (.value (.slice (some ⟨w.heap.size,0,none⟩) 1 1)) (w.alloc (.cells #[Vi n,.slice A k c,.slice B k2 c2] 57)):=by
 have e:(Instr.buildSlice 51 1 #[(0,.agg #[Vi n,.slice A k c,.slice B k2 c2])]).run Try.prog w=.ok (.slice (some ⟨w.heap.size,0,none⟩) 1 1) (w.alloc (.cells #[Vi n,.slice A k c,.slice B k2 c2] 57)):=by kernel_rfl
 simp [execOp,h,e]
def Q0 (i n:Nat):List Value:=List.replicate i (.bool true) ++ List.replicate (n - i) (.bool false)
theorem aah (n:Nat):Array.replicate n (Value.bool false)=(Q0 0 n).toArray:=by simp [Q0]
theorem aao (n:Nat):Q0 n n=List.replicate n (.bool true):=by simp [Q0]
theorem aac {i n:Nat} (h:i < n):((Q0 i n).toArray.toList.take (0+i * 1) ++ [Value.bool true] ++ (Q0 i n).toArray.toList.drop (0+i * 1+[Value.bool true].length)).toArray=(Q0 (i+1) n).toArray:=by
 congr 1
 have e:n - i=(n - (i+1))+1:=by omega
 rw [Nat.zero_add,Nat.mul_one,List.length_singleton]
 simp only [Q0]
 rw [e,List.replicate_succ,List.take_left' (by simp),List.replicate_succ' (n:=i)]
 simp [List.drop_append]
theorem mM.ex {w w':World} {b:Nat} {t:TypeId} {cs:Array Value} (h:mM w b t cs) (e:Ext w w'):mM w' b t cs:=mM.ext h e
theorem Qb {w:World} {b:Nat} {l:List Int} (h:mM w b 3 (l.map V).toArray) (hl:l.length≤8):kL (·=b) w (some ⟨b,0,none⟩) l.length l:=by
 refine ⟨Nat.le_refl _,by simp only [maxLen];omega,fun _=>⟨rfl,rfl,h.lt,fun i x hx=>⟨[V x],fun j v hv=>?_,rfl⟩⟩⟩
 cases j with
 | zero=>
  injection hv with hv
  subst hv
  show w.cell? ⟨b,0+i * 1+0,none⟩=_
  rw [Nat.zero_add,Nat.mul_one,Nat.add_zero]
  exact h.cell (by simp [hx])
 | succ j=>simp at hv
theorem Nh {F F':Nat→Prop} {w w':World}:∀ {cs:List (List Value)} {l:List Int},vF F w cs l→vF F' w' cs l
 | [],[],_=>trivial
 | _ :: _,_ :: _,h=>⟨h.1,Nh h.2⟩
 | [],_ :: _,h=>h.elim
 | _ :: _,[],h=>h.elim
theorem Bx.mkR {w0 w w':World} {Z Z' G:Nat→Prop} {L:List It} {D:List Da} {a:Option Addr} {c:Nat} {cs:List (List Value)} {l:List Int} (h:Bx w0 w Z G L D) (k:Bx w w' Z' (lK []) [.own w.heap.size a c 3 (Rp.sz Int) cs] [.els cs l]):Bx w0 w' Z G (.own w0.heap.size a c 3 (Rp.sz Int) cs :: L) (.els cs l :: D):=by
 have ho:=k.bo 0 rfl
 have h1:=h.push (it:=.own w.heap.size a c 3 (Rp.sz Int) cs) k.ex (k.at 0 rfl) (fun b hb=>(ho.row b hb).1)
 exact (h1.rb 0 w0.heap.size rfl h.q9.size).kr (d:=.els cs l) (Nh (k.de 0 rfl))
theorem Bx.ZY {w0 w:World} {Z G:Nat→Prop} {L:List It} {D:List Da} {b n:Nat} (h:Bx w0 w Z G (.box b 4 (List.replicate n (Value.bool true)).toArray :: L) D) (hb:w0.heap.size≤b) (hn:n≤8):Bx w0 w Z G L (.l (some ⟨b,0,none⟩) n (List.replicate n true) :: D):=by
 have hB:mM w b 4 (List.replicate n (Value.bool true)).toArray:=h.bk 0 rfl
 refine (h.tl).kr (d:=.l (some ⟨b,0,none⟩) n (List.replicate n true)) ⟨by simp,by simp only [maxLen];omega,fun h0=>⟨rfl,⟨fun hl=>?_,fun it hi hc=>(List.pairwise_cons.1 h.pw).1 it hi b rfl hc⟩,hB.lt,fun i x hx=>⟨[.bool x],fun j v hv=>?_,rfl⟩⟩⟩
 · exact absurd hl (by show ¬ b < _;omega)
 · cases j with
   | zero=>
    injection hv with hv
    subst hv
    show w.cell? ⟨b,0+i * 1+0,none⟩=_
    rw [Nat.zero_add,Nat.mul_one,Nat.add_zero]
    have hx':=hx
    rw [List.getElem?_replicate] at hx'
    split at hx'
    · injection hx' with hx'
      subst hx'
      exact hB.cell (by simp [*])
    · cases hx'
   | succ j=>simp at hv
theorem P5 {fu:Nat} {w:World} {A:Nat→Prop} {rb:Nat} {x:Ao} {g:uE} {s:RN} {src:jQ} {tl:List Value} {fr:nI} (hP:Pre w A [] (aai s src)) (hr:mM w rb 89 (PG s src ++ tl).toArray) (ha:(It.act x g).p w)
   (hm:XU (jO fu src) g=some fr):Calls Try.prog 120 #[Pt rb,Pt x.b] w (qx fun v w'=>∃ A1 c1,v=.agg #[V fr.k,V fr.a,.slice A1 fr.b.length c1]∧Bx w w' A (lK []) [] [.l A1 c1 fr.b]):=by
 have b:=hP.bx
 clear hP
 unfold XU at hm
 obtain ⟨vs,hv,hm⟩:=bs hm
 refine cf Try.func120 rfl ?_
 refine lJ [(0,Pt rb),(1,Pt x.b)] ⟨rfl,rfl,trivial⟩ fun av=>?_
 have hE:∀ u,Ext w u→mM u rb 89 (PG s src ++ tl).toArray∧(It.act x g).p u:=fun u e=>⟨mM.ext hr e,yg ha e⟩
 refine go ?_
 refine tF b (jW Dy) fun w1 b4 b=>?_
 refine go ?_
 refine Qy b (fun u=>mM u rb 89 (PG s src ++ tl).toArray∧(It.act x g).p u) (hE _ b.ex.drew) (by kernel_rfl) fun m=>?_
 replace b:=m.1
 refine pF 0 r (vO r) m (pF 1 r (xn r) m (pF 2 r (MU r) m (uF 3 r (fun h=>JK r (It.za h.2.2) r) m (pF 4 r (vO r) m (pF 5 r (xn r) m (pF 6 r (Nf r) m (uF 7 r (fun h=>JK r (It.za h.2.2) r) m (pF 8 r (O0 r r) m ?_))))))))
 refine hO 9 (oo r r (nG b (jW Dy)) ?_)
 rintro _ w2 ⟨b5,rfl,b⟩
 refine ⟨sF ⟨b.tl,hE _ b.ex⟩,hO 10 (os r r (nR b 0 [V g.f,V g.st,sn] r Dy r r) fun w3 b=>⟨sF ⟨b.tl,hE _ b.ex⟩,hD ?_⟩)⟩
 refine goB b ?_
 refine Qy b (fun u=>mM u rb 89 (PG s src ++ tl).toArray∧(It.act x g).p u) (hE _ b.ex.drew) (by kernel_rfl) fun m=>?_
 replace b:=m.1
 refine pF 0 r (vO r) m (pF 1 r (xn r) m (pF 2 r (Wu r) m (uF 3 r (fun h=>mY (PG s src) DW vZ r h.2.1) m (pF 4 r (vO r) m (pF 5 r (xn r) m (pF 6 r (MU r) m (uF 7 r (fun h=>JK r (It.za h.2.2) r) m (pF 8 r (vO r) m (pF 9 r (xn r) m (pF 10 r (Nf r) m (uF 11 r (fun h=>JK r (It.za h.2.2) r) m (pF 14 r (mi r) m ?_))))))))))))
 have hsz:=b.q9.size
 refine hO 12 (oc r r (ec Xc r) (Cw fu (b.pr [] [0,1] [0,1,2,3] r) hv) ?_)
 rintro _ w4 ⟨A1,c1,cs1,rfl,hK⟩
 replace b:=b.cn [] [0,1] hK
 refine ⟨sF ⟨(b.tl).dp [1,2,3,4],hE _ b.ex⟩,pF 13 r (lu Try.underlying22 r) ⟨(b.tl).dp [1,2,3,4],hE _ b.ex⟩ (hD ?_)⟩
 have hbd:=(b.de 0 rfl).len
 replace b:=b.rb 0 w.heap.size rfl hsz
 replace b:=b.fz 0 0 rfl rfl
 have hbd:=(b.dl 0 rfl).bd
 obtain ⟨sv,hsv,hm⟩:=bs hm
 obtain rfl:=sm hm
 clear m
 replace b:=b.BU rT 57
 refine goB b ?_
 refine kK (fun aw f w'=>∃ (t:Nat) (acc:List rT) (a1:Option Addr) (c2:Nat) (cs:List (List Value)),aw=vs.length - t∧t≤vs.length∧
     Has f [(0,Pt rb),(1,Pt x.b),(4,Pt b4),(5,Pt b5),(32,.slice A1 vs.length c1),(33,V (vs.length:Int)),(34,V (t:Int))]∧
     Bx w w' A (lK []) [.own w.heap.size a1 c2 57 (Rp.sz rT) cs,.box b5 53 #[V g.f,V g.st,.slice a1 acc.length c2],.box b4 53 #[V 0,V 0,sn]] [.els cs acc,.l A1 c1 vs]∧QZ g.ws (vs.drop t) acc=some sv)
   vs.length ⟨0,[],none,0,[],rfl,Nat.zero_le _,⟨rfl,rfl,rfl,rfl,rfl,rfl,rfl,trivial⟩,b.dp [0,1],hsv⟩ ?_
 clear b hsv
 rintro aw f w1 ⟨t,acc,a1,c2,cs,rfl,ht,hf,b,hm⟩ J hJ
 obtain ⟨av,rfl⟩:=gP _ _ hf
 clear hf
 refine goB b ?_
 refine qm rfl (fun h=>?_) (fun h=>?_)
 · obtain ⟨v,hv'⟩:=mF (l:=vs) (k:=t) (by omega)
   rw [mZ hv',QZ] at hm
   obtain ⟨row,h1,hm⟩:=bs hm
   obtain ⟨k,hk,hrow⟩:=VE h1
   obtain ⟨acc2,h2,hm⟩:=bs hm
   have h8:row.length≤8:=(hE _ b.ex).2.2.2.2.2.2.2.2 row (List.mem_of_getElem? hrow)
   refine goB b ?_
   refine jR (kV sG mK rfl rfl rfl (b.dl 1 rfl) hv') (jR (jM Try.underlying3 rfl rfl ((uG (ds:=[V v]) (b.dl 1 rfl) hv' (fun _ h=>h)) 0 _ rfl)) ?_)
   refine goB b ?_
   refine Fg rfl (It.za (hE _ b.ex).2) rfl ?_
   refine goB b ?_
   refine ZR (hE _ b.ex).2 hrow rfl rfl hk fun r0 hr0 hB=>?_
   refine CX (pY Ul rfl) (Ii fu (h:=row) (j:=(·=r0)) (i:=row) ⟨fun _ h=>(by cases h),fun _ h=>(by cases h),List.Pairwise.nil,fun d hd=>?_⟩ ?_) ?_
   · rcases List.mem_singleton.1 hd with rfl
     exact Qb hB h8
   · unfold Bt app
     rw [if_pos (by simp;omega)]
     rfl
   rintro _ w2 ⟨a5,c5,cs5,rfl,hK⟩
   replace b:=Bx.mkR b hK
   replace b:=b.fz 0 0 rfl rfl
   refine goB b ?_
   refine nO (aMk (.bool false) b row.length Try.underlying55 LD rfl rfl rfl rfl (by omega) (by omega)) ?_
   rintro _ w3 ⟨b9,hb9,rfl,b⟩
   rw [aah] at b
   refine goB b ?_
   refine kK (fun aw f w'=>∃ i:Nat,aw=row.length - i∧i≤row.length∧Has f [(0,Pt rb),(1,Pt x.b),(4,Pt b4),(5,Pt b5),(7,V v),(8,.slice a5 row.length c5),(9,.slice (some ⟨b9,0,none⟩) row.length row.length),(32,.slice A1 vs.length c1),(33,V (vs.length:Int)),(34,V (t:Int)),(50,V (row.length:Int)),(51,V (i:Int))]∧
     Bx w w' A (lK []) [.box b9 4 (Q0 i row.length).toArray,.own w.heap.size a1 c2 57 (Rp.sz rT) cs,.box b5 53 #[V g.f,V g.st,.slice a1 acc.length c2],.box b4 53 #[V 0,V 0,sn]] [.l a5 c5 row,.els cs acc,.l A1 c1 vs]) row.length
     ⟨0,rfl,Nat.zero_le _,⟨rfl,rfl,rfl,rfl,rfl,rfl,rfl,rfl,rfl,rfl,rfl,rfl,trivial⟩,b⟩ ?_
   clear b
   rintro aw f w4 ⟨i,rfl,hi,hf,b⟩ J3 hJ3
   obtain ⟨av,rfl⟩:=gP _ _ hf
   clear hf
   refine goB b ?_
   refine qm rfl (fun hlt=>?_) (fun hlt=>?_)
   · refine goB b ?_
     refine jR (xIdx i Try.underlying55 LD rfl rfl rfl (by omega)) ?_
     refine lq (tb b 0 [.bool true] rfl LD rfl rfl rfl rfl (by simp [Q0];omega) (aac (by omega))) ?_
     intro w5 b
     dsimp only [List.set] at b
     refine goB b ?_
     exact hJ3 (row.length - (i+1)) _ _ (by omega) ⟨i+1,rfl,by omega,⟨rfl,rfl,rfl,rfl,rfl,rfl,rfl,rfl,rfl,rfl,rfl,congrArg V (Uu (by omega)),trivial⟩,b⟩
   · obtain rfl:i=row.length:=by omega
     refine goB b ?_
     refine uJ ?_
     rw [aao] at b
     replace b:=Bx.ZY b hb9 h8
     refine goB b ?_
     refine jR (MO rfl rfl rfl) ?_
     refine nO (jL b [[V v,.slice (some ⟨b9,0,none⟩) row.length row.length,.slice a5 row.length c5]] ([⟨v,List.replicate row.length true,row⟩]:List rT) (Pj rfl) rfl rfl (by decide) ⟨rT.inn ⟨_,_,_,_,by rw [List.length_replicate],b.dl 0 rfl,b.dl 1 rfl⟩,trivial⟩) ?_
     rintro _ w5 ⟨b6,rfl,b⟩
     refine nO (kN b 1 3 rfl rfl Try.underlying51 Ka rfl (by decide) (by decide) (Nat.le_refl _) rfl rfl (b.zQ 0 0 rfl rfl) h2) ?_
     rintro _ w6 ⟨a7,c7,cs7,rfl,b⟩
     refine goB b ?_
     refine lq (t_n b 2 [.slice a7 acc2.length c7] rfl WA rfl rfl) fun w7 b=>?_
     refine goB b ?_
     exact hJ (vs.length - (t+1)) _ _ (by omega) ⟨t+1,acc2,a7,c7,cs7,rfl,by omega,⟨rfl,rfl,rfl,rfl,rfl,rfl,congrArg V (Uu (by omega)),trivial⟩,b.ad [1,2,3] [3,4],hm⟩
 · obtain rfl:t=vs.length:=by omega
   rw [lZ,QZ] at hm
   obtain rfl:=sm hm
   refine goB b ?_
   refine uJ ?_
   refine goB b ?_
   refine jR (mY [V g.f,V g.st,.slice a1 acc.length c2] WI Dy rfl (b.bk 1 rfl)) ?_
   refine lq (nR b 2 [V g.f,V g.st,.slice a1 acc.length c2] rfl Dy rfl rfl) fun w2 b=>?_
   refine goB b ?_
   exact kS (jB rfl (tK rfl Try.underlying53 rfl Dy rfl (b.bk 2 rfl)) ⟨a1,c2,rfl,(b.PL 0 0 rfl rfl).ad [] [0]⟩)
end Go.Proofs.Ytfglbdkfnphjgaa
set_option linter.unusedVariables false
set_option maxRecDepth 4000
set_option maxHeartbeats 12800000
namespace Go.Proofs.Ytfglbdkfnphjgaa
open Go.RowKit Go.Fw
section
variable {w w0:World} {Z G:Nat→Prop} {L:List It} {D:List Da} {x:Ao} {g:uE}
theorem Mf (h:Bx w0 w Z G L D) (i:Nat) {g':uE} (hi:L[i]?=some (It.act x g)) {b:Nat} (hb:(It.act x g).F b) (ns:Array Value) (hp:(It.act x g').p (w.setRow b ns)):Bx w0 (w.setRow b ns) Z G (L.set i (It.act x g')) D:=by
 have hc:=Du.setRow w b ns
 exact h.put i hi ⟨hc.os,hc.tape,hc.output,hc.size,fun k hk hn=>hc.block k hk (by intro e;injection e with e;exact hn (by subst e;exact hb))⟩ hp (fun k hk=>.inl hk)
theorem zk {b k:Nat} {ns:Array Value} (h:k≠b):(w.setRow b ns).heap[k]?=w.heap[k]?:=setRow_other w b k ns h
theorem FZ.set {R:List Nat} {m:List (List Int)} {k r:Nat} {l:List Int} (h:FZ w R m) (hn:R.Nodup) (hr:R[k]?=some r):FZ (w.setRow r (l.map V).toArray) R (m.set k l):=by
 induction R generalizing m k with
 | nil=>simp at hr
 | cons a R ih=>
  cases m with
  | nil=>exact h.elim
  | cons q m=>
   have hn2:=List.nodup_cons.1 hn
   cases k with
   | zero=>
    simp only [List.getElem?_cons_zero,Option.some.injEq] at hr
    subst hr
    exact ⟨h.1.setRow _,h.2.st fun b hb=>zk (fun e=>hn2.1 (by rw [← e];exact hb))⟩
   | succ k=>
    have hr':R[k]?=some r:=by simpa using hr
    refine ⟨?_,ih h.2 hn2.2 hr'⟩
    have:=h.1
    unfold mM at this ⊢
    rw [zk (fun e=>hn2.1 (by rw [e];exact List.mem_of_getElem? hr'))]
    exact this
theorem KM:∀ {R:List Nat} {m:List (List Int)} {k:Nat} {l l':List Int},m[k]?=some l→l'.length=l.length→Fq R (m.set k l')=Fq R m
 | _ :: _,_ :: _,0,l,l',h,e=>by
  simp only [List.getElem?_cons_zero,Option.some.injEq] at h
  subst h
  simp only [List.set_cons_zero,Fq,e]
 | r :: R,q :: m,k+1,l,l',h,e=>by
  simp only [List.set_cons_succ,Fq]
  rw [KM (R:=R) (k:=k) (by simpa using h) e]
 | [],_,_,_,_,_,_=>by simp [Fq]
 | _ :: _,[],_,_,_,h,_=>by simp at h
theorem ES (h:(It.act x g).p w) {k r:Nat} {l l':List Int} (hr:x.R[k]?=some r) (hk:g.ws[k]?=some l) (hl:l'.length=l.length):(It.act x { g with ws:=g.ws.set k l' }).p (w.setRow r (l'.map V).toArray):=by
 obtain ⟨h1,h2,h3,h4,h5,h6,h7,h8⟩:=h
 have hm:=List.mem_of_getElem? hr
 refine ⟨?_,h2.set h7 hr,?_,h4,h5,h6,h7,fun q hq=>?_⟩
 · have e:(g.ws.set k l').length=g.ws.length:=List.length_set
   show mM _ x.b 120 #[V g.f,V g.st,.slice x.A (g.ws.set k l').length x.c]
   rw [e]
   unfold mM at h1 ⊢
   rw [zk (fun e=>h4 (by rw [e];exact hm))]
   exact h1
 · show Go.Fw.Own _ 0 22 1 x.A (g.ws.set k l').length x.c (Fq x.R (g.ws.set k l'))
   rw [List.length_set,KM hk hl]
   exact Go.Fw.Own.same h3 fun b hb=>zk (fun e=>h6 r hm (by rw [← e];exact hb))
 · rcases List.mem_or_eq_of_mem_set hq with hq | rfl
   · exact h8 q hq
   · rw [hl];exact h8 l (List.mem_of_getElem? hk)
variable {ρ:Operand→Value} {d:Option Nat} {ty:TypeId} {pos:String} {af:Array Edge} {gd:Option (Nat × Bool)} {p y:Operand}
theorem Rx (hL:Bx w0 w Z G L D) (i:Nat) {id:Int} (hi:L[i]?=some (It.act x g)) (hx:ρ p=.pointer (some ⟨x.b,0+1,none⟩)) (hy:ρ y=V id) :
  QX Try.prog ρ ⟨d,.store 3 p y,ty,pos,af,gd⟩ w fun w'=>Bx w0 w' Z G (L.set i (It.act x { g with st:=id })) D:=by
 have h:=hL.at i hi
 have hB:=It.za h
 obtain ⟨q,hi1,hi2,hi3,hi4⟩:=mK
 have hst:=run_storeCells_at (P:=Try.prog) x.b 1 120 [V id] 0 _ w hB (by show 1+0+1≤3;omega) (fun v hv=>by rcases List.mem_singleton.1 hv with rfl;rfl)
 obtain ⟨h1,h2,h3,h4,h5,h6,h7,h8⟩:=h
 refine ⟨w.setRow x.b #[V g.f,V id,.slice x.A g.ws.length x.c],?_,Mf hL i hi (.inl rfl) _ ⟨hB.setRow _,h2.st fun b hb=>zk (fun e=>h4 (by rw [← e];exact hb)),Go.Fw.Own.same h3 fun b hb=>zk (fun e=>h5 (by rw [← e];exact hb)),h4,h5,h6,h7,h8⟩⟩
 have hst':(storeCells ⟨x.b,1,none⟩ [V id] 0).run Try.prog w=.ok () (w.setRow x.b #[V g.f,V id,.slice x.A g.ws.length x.c]):=hst
 simp [execOp,hx,Instr.storeAt,Instr.sureAddr,storeVar,sizeOf,typeInfo,hi1,hi3,hst',hy,Value.cells]
theorem JG (hL:Bx w0 w Z G L D) (i:Nat) {k j r:Nat} {l:List Int} {n:Int} (hi:L[i]?=some (It.act x g)) (hr:x.R[k]?=some r) (hk:g.ws[k]?=some l) (hj:j < l.length) (hx:ρ p=.pointer (some ⟨r,j,none⟩)) (hy:ρ y=V n) :
  QX Try.prog ρ ⟨d,.store 3 p y,ty,pos,af,gd⟩ w fun w'=>Bx w0 w' Z G (L.set i (It.act x { g with ws:=setW g.ws (k,j) n })) D:=by
 have h:=hL.at i hi
 obtain ⟨r',hr',hB,_⟩:=It.zP h hk
 rw [hr] at hr'
 obtain rfl:=Option.some.inj hr'
 obtain ⟨q,hi1,hi2,hi3,hi4⟩:=mK
 have hst:=run_storeCells_at (P:=Try.prog) r j 3 [V n] 0 _ w hB (by simp;omega) (fun v hv=>by rcases List.mem_singleton.1 hv with rfl;rfl)
 have e:((l.map V).toArray.toList.take (j+0) ++ [V n] ++ (l.map V).toArray.toList.drop (j+0+[V n].length)).toArray=((l.set j n).map V).toArray:=by
  congr 1
  rw [List.map_set,List.set_eq_take_append_cons_drop]
  simp [hj]
 rw [e] at hst
 have hw:setW g.ws (k,j) n=g.ws.set k (l.set j n):=by simp [setW,List.getD_eq_getElem?_getD,hk]
 rw [hw]
 refine ⟨_,?_,Mf hL i hi (.inr (.inr (List.mem_of_getElem? hr))) _ (ES h hr hk List.length_set)⟩
 simp [execOp,hx,Instr.storeAt,Instr.sureAddr,storeVar,sizeOf,typeInfo,hi1,hi3,hst,hy,Value.cells]
end
end Go.Proofs.Ytfglbdkfnphjgaa
set_option linter.unusedVariables false
namespace Go.Fw
open Go.RowKit
def It.obj (b:Nat) (o:Obj):It where
 F k:=k=b
 p w:=w.heap[b]?=some o
 bd w h k hk:=by subst hk;exact (Array.getElem?_eq_some_iff.1 h).1
 st w w' h k _:=by rw [k b rfl];exact h
section
variable {w0 w w':World} {Z G:Nat→Prop} {L:List It} {D:List Da}
theorem Bx.putObj (h:Bx w0 w Z G L D) (i:Nat) {b:Nat} {o:Obj} (o':Obj) (hi:L[i]?=some (.obj b o)):Bx w0 (w.putObj b o') Z G (L.set i (.obj b o')) D:=by
 have hb:w.heap[b]?=some o:=h.at i hi
 have hlt:=(Array.getElem?_eq_some_iff.1 hb).1
 exact h.put i hi ⟨rfl,rfl,rfl,by simp,fun k hk hn=>World.putObj_heap_other (fun e=>hn e)⟩ (World.putObj_heap_same hlt) (fun k hk=>.inl hk)
theorem Bx.alloc (h:Bx w0 w Z G L D) (o:Obj):Bx w0 (w.alloc o) Z G (.obj w.heap.size o :: L) D:=
 h.push ((Ext.refl w).alloc o) (World.alloc_heap_new w o) (fun k hk=>by have hk:k=w.heap.size:=hk;omega)
end
structure Wd (F:Fence):Prop where
 fn:∀ f,F.fn f
 dp:F.depth=none
 cal:∀ {P g args w R},Calls P g args w R→CallsIn F 0 P g args w R
theorem Wd.wide:Wd Fence.wide:=⟨fun _=>trivial,rfl,fun h=>callsIn_wide.2 h⟩
theorem Wd.rnd (l:Nat):Wd (Fence.wide.inRound l):=⟨fun _=>trivial,rfl,fun h=>CallsIn.inRound l (callsIn_wide.2 h)⟩
def Un (F:Fence) (P:Program) (N:Fz) (ops:Array Oper) (K:KK) (l:List Oper) (f:Fr) (w:World):Prop:=
 (∀ o ∈ l,uT N o=true)→∀ a,Ck N f a→wpListIn F 0 P ops (BR N K) l a w
section
variable {F:Fence} {P:Program} {N:Fz} {ops:Array Oper} {K:KK} {rest:List Oper} {f:Fr} {w w':World} {d:Option Nat} {op:Op} {ty:TypeId} {pos:String} {af:Array Edge}
theorem XW (h:K.n f w):Un F P N ops K [] f w:=fun _ _ ha=>wpListIn_nil ⟨f,ha,h⟩
theorem Kk {v:Value} (hF:Wd F) (hn:∀ c,op≠.defer c) (h:(execOp (ev f) ⟨d,op,ty,pos,af,none⟩).run P w=.ok (.value v) w') (k:Un F P N ops K rest (kG f d v) w'):Un F P N ops K (⟨d,op,ty,pos,af,none⟩ :: rest) f w:=by
 intro hok a ha
 have h1:=hok _ (List.mem_cons_self ..)
 refine wpListIn_plain rfl fun K' hK=>?_
 unfold Oper.wpIn
 refine ⟨fun f _=>hF.fn f,?_⟩
 rw [Oper.semAt_eq _ _ _ hn,ha.wF,h]
 exact hK _ _ (k (fun o ho=>hok o (List.mem_cons_of_mem _ ho)) _ (ha.put d (qM h1) v))
theorem VI {l:Nat} {args:Array Value} {R:Value→World→Prop} {xs:List Operand} {ts:Array TypeId} {x:Operand} (hx:ev f x=.func (.yield l) #[] #[]) (ha':(xs.map (ev f)).toArray=args) (hc:YieldAt Fence.wide 0 P l args w (qx R))
  (k:∀ v w'',R v w''→Un Fence.wide P N ops K rest (kG f d v) w''):Un Fence.wide P N ops K (⟨d,.call { callee:=.value x,args:=xs.toArray,argTypes:=ts },ty,pos,af,none⟩ :: rest) f w:=by
 intro hok a ha
 have h1:=hok _ (List.mem_cons_self ..)
 refine wpListIn_plain rfl fun K' hK=>?_
 unfold Oper.wpIn
 refine ⟨fun f _=>trivial,?_⟩
 rw [Oper.semAt_eq _ _ _ (fun c=>by intro h;cases h),ha.wF]
 obtain ⟨fn,tmps,asq,bd,hy,hr⟩:=hc
 have he:(execOp (ev f) ⟨d,.call { callee:=.value x,args:=xs.toArray,argTypes:=ts },ty,pos,af,none⟩).run P w=.ok (.round l fn tmps asq bd) w:=by
  subst ha'
  simp [execOp,resolve,hx,invoke,Deferred.ofValue,hy]
 rw [he]
 refine ⟨fun h=>(by cases h),hr.mono fun e w'' he=>?_⟩
 obtain ⟨v,rfl,hR⟩:=he
 exact hK _ _ (k v w'' hR (fun o ho=>hok o (List.mem_cons_of_mem _ ho)) _ (ha.put d (qM h1) v))
theorem Ym {Q:Post} {i:Nat} {l:List Oper} (h:Un Fence.wide P N l.toArray ⟨Q.n,Q.p⟩ l f w):WP P N (.region i l.toArray false) Q f w:=by
 unfold WP
 intro hok a ha
 have hl:∀ o ∈ l,uT N o=true:=by
  simpa [Cz,Array.all_eq_true_iff_forall_mem] using hok
 refine Code.wp_mono (fun e a w q=>?_) (wpIn_wide.1 (wpIn_region_lit (n:=0) (h hl a ha)))
 cases e with
 | normal=>exact q
 | panic c=>exact q
 | _=>exact q.elim
end
abbrev mark (D:Nat):Deferred:={ target:=.collected D,args:=#[] }
abbrev Mh (fn:FuncId) (tmps:Array Value) (ps:Array Tmp) (asq bd:Code) (D:Nat):Loop:={ state:=.ready,pending:=none,fn,tmps,params:=ps,assign:=asq,body:=bd,defers:=D }
end Go.Fw
set_option linter.unusedVariables false
set_option maxRecDepth 4000
set_option maxHeartbeats 12800000
namespace Go.Proofs.Ytfglbdkfnphjgaa
open Go.RowKit Go.Fw
theorem UK:jC Try.prog 119:=⟨_,Try.func119,by kernel_rfl,by kernel_rfl⟩
theorem Wt:jC Try.prog 133:=⟨_,Try.func133,by kernel_rfl,by kernel_rfl⟩
theorem OC {P:Program} {w:World} {ρ:Operand→Value} {d:Option Nat} {ty:TypeId} {pos:String} {af:Array Edge} {g:Option (Nat × Bool)} {x:Operand} (v:Value) (h:ρ x=v):Yl P ρ (.assign x) d ty pos af g w v:=by rw [← h];rfl
theorem Gq {P:Program} {w:World} {ρ:Operand→Value} {d:Option Nat} {ty:TypeId} {pos:String} {af:Array Edge} {g:Option (Nat × Bool)} {x:Operand} (v:Value) (h:ρ x=v):Yl P ρ (.move x) d ty pos af g w v:=by rw [← h];rfl
theorem V7 {P:Program} {w:World} {ρ:Operand→Value} {d:Option Nat} {ty:TypeId} {pos:String} {af:Array Edge} {g:Option (Nat × Bool)} {fn:Fn} {caps:List Operand} {vs:List Value} (h:caps.map ρ=vs):Yl P ρ (.makeFunc fn #[] caps.toArray) d ty pos af g w (.func fn #[] vs.toArray):=by
 subst h
 simp [Yl,execOp,Instr.makeFunc]
theorem Kg {w:World} {A:Option Addr} {n c:Nat} {Z:Nat→Prop}:Calls Try.prog 119 #[.slice A n c] w (qx fun v w'=>∃ b,v=.func (.func 133) #[] #[Pt b]∧Bx w w' Z (lK []) [.box b 87 #[.slice A n c]] []):=by
 have b:Bx w w Z (lK []) [] []:=Pre.bx ⟨fun _ h=>(by cases h),fun _ h=>(by cases h),List.Pairwise.nil,fun _ h=>(by cases h)⟩
 refine cf Try.func119 rfl ?_
 refine lJ [(0,.slice A n c)] ⟨rfl,trivial⟩ fun av=>?_
 refine go ?_
 refine tF b (xG rfl) fun w1 b1 b=>?_
 refine jR (OC .nilFunc rfl) ?_
 refine go ?_
 refine jR (V7 (caps:=[_]) (vs:=[Pt b1]) rfl) ?_
 refine jR (OC (.func (.func 133) #[] #[Pt b1]) rfl) ?_
 refine go ?_
 exact kS (jB rfl (kW (v:=.func (.func 133) #[] #[Pt b1]) rfl) ⟨b1,rfl,b⟩)
theorem Xw {I:Nat→World→Prop} {l n bx c:Nat} {A:Option Addr} {ps:Nat→Nat} (hb:∀ k w,I k w→mM w bx 87 #[.slice A n c])
   (he:∀ k w,k < n→I (k+1) w→A=some ⟨nM A,oU A,none⟩∧w.cell? ⟨nM A,oU A+k * 1,none⟩=some (Pt (ps k)))
   (hy:∀ k w,k < n→I (k+1) w→YieldAt Fence.wide 0 Try.prog l #[V (k:Int),Pt (ps k)] w (qx fun v w'=>v=.bool true∧I k w')) {w:World} (h0:I n w) (hn:n≤1000) :
   Calls Try.prog 133 #[.func (.yield l) #[] #[],Pt bx] w (qx fun v w'=>v=.tuple #[]∧I 0 w'):=by
 refine cf Try.func133 rfl ?_
 refine lJ [(0,.func (.yield l) #[] #[]),(1,Pt bx)] ⟨rfl,rfl,trivial⟩ fun av=>?_
 refine go ?_
 refine MK rfl (hb n w h0) rfl ?_
 refine Zg rfl ?_
 refine go ?_
 refine kK (fun aw f w'=>∃ k:Nat,aw=k∧k≤n∧Has f [(0,.func (.yield l) #[] #[]),(1,Pt bx),(3,V ((k:Int) - 1))]∧I k w')
   n ⟨n,rfl,Nat.le_refl _,⟨rfl,rfl,congrArg V (by unfold wr;exact Q5 (by omega) (by omega)),trivial⟩,h0⟩ ?_
 rintro aw f w1 ⟨k,rfl,hk,hf,hI⟩ J hJ
 obtain ⟨av,rfl⟩:=gP _ _ hf
 clear hf
 refine go ?_
 refine qm rfl (fun h=>?_) (fun h=>?_)
 · obtain ⟨k,rfl⟩:∃ m,aw=m+1:=⟨aw - 1,by omega⟩
   obtain ⟨hA,hc⟩:=he k w1 (by omega) hI
   rw [show (((k+1:Nat):Int) - 1)=(k:Int) by omega]
   refine FY ?_
   refine Iz ?_
   refine oD ?_
   refine Iz ?_
   refine Ym ?_
   refine Kk Wd.wide (fun _ h=>by cases h) (Gq (.func (.yield l) #[] #[]) rfl) ?_
   refine Kk Wd.wide (fun _ h=>by cases h) (MQ rfl) ?_
   refine Kk Wd.wide (fun _ h=>by cases h) (Sn rfl (hb _ _ hI) rfl) ?_
   refine Kk Wd.wide (fun _ h=>by cases h) (MQ rfl) ?_
   refine Kk Wd.wide (fun _ h=>by cases h) (Kj k hA Try.underlying87 ND rfl rfl (by omega) (by omega)) ?_
   refine Kk Wd.wide (fun _ h=>by cases h) (jM (a:=⟨nM A,oU A+k * 1,none⟩) Try.underlying117 rfl rfl hc) ?_
   refine VI (l:=l) (args:=#[V (k:Int),Pt (ps k)]) (xs:=[_,_]) rfl rfl (hy k w1 (by omega) hI) ?_
   rintro _ w2 ⟨rfl,hI2⟩
   refine Kk Wd.wide (fun _ h=>by cases h) (zL rfl) (XW ?_)
   refine go ?_
   refine hJ k _ _ (by omega) ⟨k,rfl,by omega,⟨rfl,rfl,congrArg V (by unfold wr;exact Q5 (by omega) (by omega)),trivial⟩,hI2⟩
 · obtain rfl:aw=0:=by omega
   refine go ?_
   refine uJ ?_
   exact zi rfl ⟨rfl,hI⟩
end Go.Proofs.Ytfglbdkfnphjgaa
set_option linter.unusedVariables false
set_option maxRecDepth 4000
set_option maxHeartbeats 12800000
namespace Go.Proofs.Ytfglbdkfnphjgaa
open Go.RowKit Go.Fw
structure Rn where
 B:Nat
 rb:Nat
 s:RN
 src:jQ
 st:Nat
 fr:Nat
 mo:Nat
structure Gc where
 lA:Option Addr
 lC:Nat
 eA:Option Addr
 eC:Nat
 ec:List (List Value)
 oA:Option Addr
 oC:Nat
 oc:List (List Value)
abbrev oJ (R:Rn) (m:Gc) (n k h o:Nat):List Value:=[.slice R.s.a1 R.src.a.a.length R.s.c1,.slice R.s.a2 R.src.a.b.length R.s.c2,.slice R.s.a3 R.src.b.length R.s.c3,.slice R.s.a4 R.src.c.length R.s.c4,.slice m.lA n m.lC,V (h:Int),V (R.st:Int),V (R.fr:Int),V (R.mo:Int),.slice m.eA k m.eC,.slice m.oA o m.oC]
abbrev Mac (R:Rn) (m:Gc) (ptrs:List Nat) (hist:List kI) (out:List Int):List It:=
 [.box R.rb 89 (oJ R m ptrs.length (window hist R.fr R.mo).length hist.length out.length).toArray,.own R.B m.lA m.lC 117 1 (ptrs.map fun b=>[Pt b]),.own R.B m.eA m.eC 50 (Rp.sz kI) m.ec,.own R.B m.oA m.oC 3 (Rp.sz Int) m.oc]
abbrev tN (R:Rn) (m:Gc) (hist:List kI) (out:List Int):List Da:=
 [.els m.ec (window hist R.fr R.mo),.els m.oc out,.l R.s.a1 R.s.c1 R.src.a.a,.l R.s.a2 R.s.c2 R.src.a.b,.l R.s.a3 R.s.c3 R.src.b,.l R.s.a4 R.s.c4 R.src.c]
def zM (w:World) (G:Nat→Prop):List Ao→List uE→Prop
 | x :: xs,g :: gs=>((It.act x g).p w∧∀ b,(It.act x g).F b→¬ G b)∧zM w G xs gs
 | [],[]=>True
 | _,_=>False
theorem zM.len {w:World} {G:Nat→Prop}:∀ {xs:List Ao} {gs:List uE},zM w G xs gs→xs.length=gs.length
 | _ :: _,_ :: _,h=>congrArg (·+1) (zM.len h.2)
 | [],[],_=>rfl
 | _ :: _,[],h=>h.elim
 | [],_ :: _,h=>h.elim
theorem zM.get {w:World} {G:Nat→Prop}:∀ {xs:List Ao} {gs:List uE} {k:Nat} {g:uE},zM w G xs gs→gs[k]?=some g→∃ x,xs[k]?=some x∧(It.act x g).p w
 | x :: _,_ :: _,0,g,h,e=>by simp only [List.getElem?_cons_zero,Option.some.injEq] at e;subst e;exact ⟨x,rfl,h.1.1⟩
 | _ :: _,_ :: _,k+1,g,h,e=>zM.get (k:=k) h.2 (by simpa using e)
 | [],[],_,_,_,e=>by simp at e
 | _ :: _,[],_,_,h,_=>h.elim
 | [],_ :: _,_,_,h,_=>h.elim
theorem zM.mv' {w0 w:World} {G G':Nat→Prop} (hc:I7 G w0 w) (hg:∀ b,b < w0.heap.size→G' b→G b):∀ {xs:List Ao} {gs:List uE},zM w0 G xs gs→zM w G' xs gs
 | x :: _,g :: _,h=>by
  have hb:∀ b,(It.act x g).F b→b < w0.heap.size:=(It.act x g).bd w0 h.1.1
  exact ⟨⟨(It.act x g).st w0 w h.1.1 (fun b hF=>hc.block b (hb b hF) (h.1.2 b hF)) hc.size,fun b hF hG=>h.1.2 b hF (hg b (hb b hF) hG)⟩,zM.mv' hc hg h.2⟩
 | [],[],_=>trivial
 | _ :: _,[],h=>h.elim
 | [],_ :: _,h=>h.elim
def Now (w0 w:World) (A G:Nat→Prop) (R:Rn) (ptrs:List Nat) (x:Ao) (s:Sg):Prop:=∃ m:Gc,Bx w0 w A G (Mac R m ptrs s.hist s.out ++ [It.act x s.a]) (tN R m s.hist s.out)
def Ya (w0 w:World) (A G:Nat→Prop) (R:Rn) (ptrs:List Nat) (x:Ao) (s:Sg):Prop:=∃ more,Now w0 w A G R (ptrs ++ more) x s
end Go.Proofs.Ytfglbdkfnphjgaa
set_option linter.unusedVariables false
namespace Go.Fw
open Go.RowKit
section
variable {P:Program} {n:Nat} {fn:Func} {R:Value→World→Prop} {V:List PanicEntry→World→Prop}
theorem Oq {g:FuncId} {c:Code} {args:Array Value} {w:World} (hf:P.funcs[g]?=some fn) (hb:fn.body=some c)
  (h:LG P (fn.ntmps,[]) c (bodyPostM Fence.wide 0 P fn (RP R V)) (xL args) w) (hs:Nat.ble args.size fn.ntmps=true:=by exact rfl) (hok:Cz (fn.ntmps,[]) c=true:=by kernel_rfl):Calls P g args w (RP R V):=
 callsIn_wide.1 (callsIn_of_wp_marks (n:=0) hf hb trivial ((wpIn_wide (n:=0)).2 (h hok _ (AA (Nat.le_of_ble_eq_true hs)))))
theorem Ms {x y:Code} {f:Fr} {w:World} (hr:fn.results=#[])
  (h:WP P (n,[]) x ⟨fun f w=>LG P (n,[]) y (bodyPostM Fence.wide 0 P fn (RP R V)) f w,fun _ _ _=>False,fun _ w=>R (.tuple #[]) w,fun _ c w=>V c w⟩ f w) :
  LG P (n,[]) (.seq x y) (bodyPostM Fence.wide 0 P fn (RP R V)) f w:=by
 refine Wo h fun e a w q=>?_
 cases e with
 | normal=>obtain ⟨f,_,h2⟩:=q;exact h2.elim
 | exit i=>obtain ⟨f,_,h2⟩:=q;exact h2.elim
 | ret=>
  obtain ⟨f,h1,h2⟩:=q
  show LeavesInM Fence.wide 0 P fn a.tmps (RP R V) a.defers .returning w
  rw [h1.dfr]
  exact ⟨_,results_none hr _ P w,h2⟩
 | panic c=>
  obtain ⟨f,h1,h2⟩:=q
  show LeavesInM Fence.wide 0 P fn a.tmps (RP R V) a.defers (.panicking c) w
  rw [h1.dfr]
  exact h2
 | _=>exact q.elim
theorem UQ {B RF C:Code} {f:Fr} {w w0:World} {Z G:Nat→Prop} {L:List It→List Da→Prop} {KB:Fr→World→Prop} {KR:Nat→Fr→World→Prop} (hr:fn.results=#[])
  (hB:WP P (n,[]) B ⟨KB,fun _ _ _=>False,fun _ _=>False,fun _ _ _=>False⟩ f w)
  (hRF:∀ f w a,KB f w→Ck (n,[]) f a→RF.wp P (fun e a' w'=>e=.normal∧∃ D,a'={ a with defers:=[mark D] }∧KR D f w') a w)
  (hC:∀ D f w,KR D f w→WP P (n,[mark D]) C ⟨fun _ w=>∃ X Y,L X Y∧Bx w0 w Z G (.obj D (.deferred (some [])) :: X) Y,fun _ _ _=>False,fun _ _=>False,fun _ _ _=>False⟩ f w)
  (fin:∀ w X Y,L X Y→Bx w0 w Z G X Y→R (.tuple #[]) w):LG P (n,[]) (.seq (.seq B RF) C) (bodyPostM Fence.wide 0 P fn (RP R V)) f w:=by
 intro hok a ha
 simp only [Cz,Bool.and_eq_true] at hok
 unfold WP at hB hC
 refine wp_seq (wp_seq (Code.wp_mono (fun e a2 w2 q2=>?_) (hB hok.1.1 a ha)))
 cases e with
 | normal=>
  obtain ⟨f2,h2,q3⟩:=q2
  refine Code.wp_mono (fun e a3 w3 q4=>?_) (hRF f2 w2 a2 q3 h2)
  obtain ⟨rfl,D,rfl,q5⟩:=q4
  have h3:Ck (n,[mark D]) f2 { a2 with defers:=[mark D] }:=⟨h2.size,h2.get,rfl⟩
  refine Code.wp_mono (fun e a4 w4 q6=>?_) (hC D f2 w3 q5 (y8 C hok.2) _ h3)
  cases e with
  | normal=>
   obtain ⟨f4,h4,X,Y,hL,q7⟩:=q6
   show LeavesInM Fence.wide 0 P fn a4.tmps (RP R V) a4.defers .returning w4
   rw [h4.dfr]
   have hk:w4.heap[D]?=some (.deferred (some [])):=q7.at 0 rfl
   exact ⟨fun h=>(by cases h),.inl ⟨D,_,rfl,run_takeDeferred hk,.tuple #[],results_none hr a4.tmps P _,fin _ X Y hL (q7.putObj 0 (.deferred none) rfl).tl⟩⟩
  | exit i=>obtain ⟨f4,h4,q7⟩:=q6;exact q7.elim
  | ret=>obtain ⟨f4,h4,q7⟩:=q6;exact q7.elim
  | panic c=>obtain ⟨f4,h4,q7⟩:=q6;exact q7.elim
  | _=>exact q6.elim
 | exit i=>obtain ⟨f4,h4,q7⟩:=q2;exact q7.elim
 | ret=>obtain ⟨f4,h4,q7⟩:=q2;exact q7.elim
 | panic c=>obtain ⟨f4,h4,q7⟩:=q2;exact q7.elim
 | _=>exact q2.elim
end
theorem Uo {P:Program} {n:Nat} {w0 w:World} {Z G:Nat→Prop} {X:List It} {Da0:List Da} {Lx:List It→List Da→Prop} {f:Fr} {a:Act} {g:Operand} {ps:Array Tmp} {asq bd:Code} {gf:FuncId} {lb:List Value} {Q:Exit→Act→World→Prop} (ha:Ck ⟨n,[]⟩ f a) (hg:ev f g=.func (.func gf) #[] lb.toArray) (hc:jC P gf) (hL:Bx w0 w Z G X Da0)
   (hcall:∀ l D fn w1,Bx w0 w1 Z G (.obj l (.loop (Mh fn a.tmps ps asq bd D)) :: .obj D (.deferred (some [])) :: X) Da0→
    Calls P gf (.func (.yield l) #[] #[] :: lb).toArray w1 (qx fun _ w2=>∃ X' D',Lx X' D'∧Bx w0 w2 Z G (.obj l (.loop (Mh fn a.tmps ps asq bd D)) :: .obj D (.deferred (some [])) :: X') D'))
   (hQ:∀ D w3 X' D',Lx X' D'→Bx w0 w3 Z G (.obj D (.deferred (some [])) :: X') D'→Q .normal { a with defers:=[mark D] } w3):(Code.rangeFunc g ps asq bd).wp P Q a w:=by
 refine (wpIn_wide (n:=0)).1 (wpIn_rangeFunc fun fn _=>?_)
 have hev:a.eval g=.func (.func gf) #[] lb.toArray:=by rw [ha.wF];exact hg
 have h1:=(hL.alloc (.deferred (some []))).alloc (.loop (Mh fn a.tmps ps asq bd w.heap.size))
 rw [World.size_alloc] at h1
 have hdf:a.defers=[]:=ha.dfr
 refine ⟨w.heap.size+1,[mark w.heap.size],_,{ target:=.fn (.func gf) lb.toArray,args:=#[.func (.yield (w.heap.size+1)) #[] #[]] },(w.alloc (.deferred (some []))).alloc (.loop (Mh fn a.tmps ps asq bd w.heap.size)),gf,(.func (.yield (w.heap.size+1)) #[] #[] :: lb).toArray,(w.alloc (.deferred (some []))).alloc (.loop (Mh fn a.tmps ps asq bd w.heap.size)),run_enterLoop_outer fn a.tmps ps asq bd,?_,fun _ _=>trivial,?_,fun h=>(by cases h),?_⟩
 · have hy:a.eval (.const (.func (.yield (w.heap.size+1)) #[] #[]))=.func (.yield (w.heap.size+1)) #[] #[]:=rfl
   simp [resolve,hev,hy,Deferred.ofValue]
 · simp [invoke,CZ hc]
 · refine callsIn_wide.2 ((hcall _ _ _ _ h1).mono fun e w2 he=>?_)
   obtain ⟨v,rfl,X',D',hLx,h2⟩:=he
   have hl:=h2.at 0 rfl
   refine ⟨none,_,run_endLoop hl (by intro h;cases h),?_⟩
   have h3:=hQ _ _ X' D' hLx ((h2.putObj 0 (.loop { Mh fn a.tmps ps asq bd w.heap.size with state:=.exhausted }) rfl).tl)
   rw [hdf]
   exact h3
section
variable {F:Fence} {P:Program} {N:Fz} {ops:Array Oper} {K:KK} {rest:List Oper} {f:Fr} {w w':World} {d:Option Nat} {op:Op} {ty:TypeId} {pos:String} {af:Array Edge}
end
def EA (ops:Array Oper):Bool:=ops.all fun o=>match o.op with | .defer _=>false | _=>true
theorem RX {P:Program} {l:Nat} {ops:Array Oper} {N:Fz} {K:KK} {i:Nat} {k:Act→World→Prop} {a:Act} {w:World} (hnd:EA ops=true) (h:wpOp P ops (BR N K) i k a w):wpOpIn (Fence.wide.inRound l) 0 P ops (BR N K) i k a w:=by
 unfold wpOp at h
 unfold wpOpIn
 cases ho:ops[i]? with
 | none=>rw [ho] at h;exact h
 | some o=>
  rw [ho] at h
  dsimp only at h ⊢
  split
  · rename_i hw
    rw [if_pos hw] at h
    have hn:∀ c,o.op≠.defer c:=fun c hc=>by
      have:=Array.all_eq_true_iff_forall_mem.1 hnd o (Array.mem_of_getElem? ho)
      rw [hc] at this
      cases this
    rcases h with h | ⟨_,b,v,hz⟩
    · refine ⟨fun f _=>trivial,?_⟩
      rw [Oper.semAt_eq _ _ _ hn]
      unfold Oper.wp at h
      generalize (execOp a.eval o).run P w=r at h
      cases r with
      | ok x w'=>
       cases x with
       | enter f args=>exact ⟨fun h=>(by cases h),CallsIn.inRound l (callsIn_wide.2 h)⟩
       | row row args=>exact ⟨fun h=>(by cases h),fun c cs _=>let ⟨v,w2,hr,hs⟩:=h c cs;⟨v,w2,hr,stepsIn_wide.2 hs⟩⟩
       | value v=>exact h
       | skip=>exact h
       | defer d=>exact h
       | _=>exact h.elim
      | halt x w'=>cases x <;> exact h
    · exact hz.elim
  · rename_i hw
    rw [if_neg hw] at h
    exact ⟨fun f _=>trivial,h⟩
theorem Ki {P:Program} {l:Nat} {ops:Array Oper} {N:Fz} {K:KK} {S1 S:World→Prop} {T:List Nat} (hnd:EA ops=true):∀ (n:Nat) (L:Array Bool) (a:Act) (w:World),EM P ops (BR N K) S1 S T n L a w→wpAnyIn (Fence.wide.inRound l) 0 P .any ops (BR N K) n L a w
 | 0,_,_,_,h=>h
 | n+1,L,a,w,h=>⟨h.1,fun i hi=>wpOpIn_mono (fun a' w' h'=>Ki hnd n _ a' w' h'.2) (RX hnd (h.2 i hi))⟩
theorem LM {P:Program} {l ib:Nat} {ops:Array Oper} {N:Fz} {K:KK} {S1 S:World→Prop} {T:List Nat} {f:Fr} {a:Act} {w:World} (hm:P.follows .mixedOrders=true) (hnd:EA ops=true)
  (h:rC P N ops S1 S T K ops.size (Array.replicate ops.size false) f w.drew) (hok:∀ o ∈ ops.toList,uT N o=true) (ha:Ck N f a):(Code.region ib ops true).wpIn (Fence.wide.inRound l) 0 P (BR N K.i) a w:=by
 unfold rC at h
 exact wpIn_region_any hm (Ki hnd _ _ _ _ (h hok (Closed.start ops _) a ha))
theorem NV {P:Program} {w0 w:World} {l n ia ib jb:Nat} {la:List Oper} {lb:Array Oper} {S1 S:World→Prop} {T:List Nat} {r:Loop} {args:Array Value} {f f':Fr} {Z G:Nat→Prop} {X:List It} {D:List Da} {Lx:List It→List Da→Prop} (hL:Bx w0 w Z G (.obj l (.loop r) :: X) D) (hr:r.state=.ready) (hp:r.pending=none) (hs:args.size=r.params.size)
  (hf:Ck ⟨n,[]⟩ f { tmps:=(r.params.zip args).foldl (fun tmps (t,a)=>tmps.setIfInBounds t a) r.tmps,defers:=[] }) (ha:r.assign=.region ia la.toArray false) (hb:r.body=.block jb (.region ib lb true))
  (oka:la.all (uT ⟨n,[]⟩)=true) (okb:lb.toList.all (uT ⟨n,[]⟩)=true) (hnd:EA lb=true) (hm:P.follows .mixedOrders=true)
  (hA:Un (Fence.wide.inRound l) P ⟨n,[]⟩ la.toArray ⟨fun f1 w1=>f1=f'∧w1=w,fun _ _ _=>False⟩ la f w)
  (hB:∀ w1,Bx w0 w1 Z G (.obj l (.loop { r with state:=.busy }) :: X) D→rC P ⟨n,[]⟩ lb S1 S T ⟨fun f2 w2=>∃ X' D',Lx X' D'∧Bx w0 w2 Z G (.obj l (.loop { r with state:=.busy }) :: X') D',fun _ _ _=>False⟩ lb.size (Array.replicate lb.size false) f' w1.drew) :
  YieldAt Fence.wide 0 P l args w (qx fun v w'=>v=.bool true∧∃ X' D',Lx X' D'∧Bx w0 w' Z G (.obj l (.loop r) :: X') D'):=by
 have hl:w.heap[l]?=some (.loop r):=hL.at 0 rfl
 refine ⟨r.fn,_,r.assign,r.body,run_yield hl hs,roundIn_of_wpIn trivial ?_⟩
 rw [ha,hb]
 refine wpIn_mono (wpIn_region_lit (hA (List.all_eq_true.1 oka) _ hf)) ?_
 rintro e a1 w1 hq
 cases e with
 | normal=>
  obtain ⟨f1,h1,rfl,rfl⟩:=hq
  refine ⟨_,run_beginRound hl hr,wpIn_block (wpIn_mono (LM hm hnd (hB _ (hL.putObj 0 _ rfl)) (List.all_eq_true.1 okb) h1) ?_)⟩
  rintro e a2 w2 hq
  cases e with
  | normal=>
   obtain ⟨f2,h2,X',D',hLx,h3⟩:=hq
   have hl2:w2.heap[l]?=some (.loop { r with state:=.busy }):=h3.at 0 rfl
   refine ⟨_,_,run_endRound none hl2,_,rfl,rfl,X',D',hLx,?_⟩
   have:=h3.putObj 0 (.loop r) rfl
   obtain ⟨st,pe,fn,tm,ps,asq,bd,df⟩:=r
   simp only at hr hp
   subst hr;subst hp
   exact this
  | panic c=>obtain ⟨f2,_,z⟩:=hq;exact (z f2).elim
  | _=>exact hq.elim
 | panic c=>obtain ⟨_,_,z⟩:=hq;exact z.elim
 | _=>exact hq.elim
end Go.Fw
