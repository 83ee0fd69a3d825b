/- A call. -/
import Derived.Test.YtfglbdkfnphjgaaGreatZ21
set_option linter.unusedVariables false
set_option maxRecDepth 4000
set_option maxHeartbeats 12800000
set_option linter.unusedSimpArgs false
namespace Go.Proofs.YtfglbdkfnphjgaaGreat
open Go.RowKit Go.Fw Go.Proofs.Tryz
section
variable {ρ:Operand->Value}{w:World}{d:Option Nat}{ty:TypeId}{pos:String}{af:Array Edge}{g:Option (Nat × Bool)}{x y z:Operand}{n m:Int}{A B:Option Addr}{k c k2 c2:Nat}
theorem ZU (h:ρ x=Vi n):Yl prog ρ (.build 95 #[(0,x)]) d ty pos af g w (.agg #[Vi n,Vi 0,sn]):=by
 have e:(Instr.build 95 #[(0,Vi n)]).run prog w=.ok (.agg #[Vi n,Vi 0,sn]) w:=by kernel_rfl
 simp [Yl,execOp,h,e]
theorem Oy (h:ρ x=.slice A k c):(execOp ρ ⟨d,.buildSlice 93 1 #[(0,x)],ty,pos,af,g⟩).run prog w=.ok (.value (.slice (some ⟨w.heap.size,0,none⟩) 1 1)) (w.alloc (.cells #[.slice A k c] 22)):=by
 have e:(Instr.buildSlice 93 1 #[(0,.slice A k c)]).run prog w=.ok (.slice (some ⟨w.heap.size,0,none⟩) 1 1) (w.alloc (.cells #[.slice A k c] 22)):=by kernel_rfl
 simp [execOp,h,e]
end
structure PB where
 b:Nat
instance:Rp PB:=⟨1,8,fun _ _ cs p=>cs=[Pt p.b],fun h=>by rw [h];rfl,fun h=>by rw [h];rfl,fun h _=>h⟩
theorem MV {F:Nat→Prop}{w:World}:∀ l:List Nat,xH F w (l.map fun b=>[Pt b]) (l.map PB.mk)
 | []=>trivial
 | _ :: l=>⟨rfl,MV l⟩
theorem CU {F:Nat→Prop}{w:World}:∀ {cs:List (List Value)}{l:List Nat},xH F w cs (l.map PB.mk)→cs=l.map fun b=>[Pt b]
 | [],[],_=>rfl
 | _ :: _,_ :: _,h=>by rw [List.map_cons,<-CU h.2];exact congrArg (· :: _) h.1
 | [],_ :: _,h=>h.elim
 | _ :: _,[],h=>h.elim
theorem Vh {ρ:Operand->Value}{w:World}{d:Option Nat}{ty:TypeId}{pos:String}{af:Array Edge}{g:Option (Nat × Bool)}{x:Operand}{b:Nat}(h:ρ x=Pt b):(execOp ρ ⟨d,.buildSlice 67 1 #[(0,x)],ty,pos,af,g⟩).run prog w=.ok (.value (.slice (some ⟨w.heap.size,0,none⟩) 1 1)) (w.alloc (.cells #[Pt b] 92)):=by
 have e:(Instr.buildSlice 67 1 #[(0,Pt b)]).run prog w=.ok (.slice (some ⟨w.heap.size,0,none⟩) 1 1) (w.alloc (.cells #[Pt b] 92)):=by kernel_rfl
 simp [execOp,h,e]
theorem Vq {w0 w:World}{Z G:Nat->Prop}{L:List It}{D:List Da}(h:Bx w0 w Z G L D)(i:Nat){B c:Nat}{A:Option Addr}{l l2:List Nat}(hi:L[i]?=some (.own B A c 92 1 ((l ++ l2).map fun b=>[Pt b]))):Bx w0 w Z G (L.set i (.own B A c 92 1 (l.map fun b=>[Pt b]))) D:=by refine h.put i hi ((Ext.refl w).EN _) ?_ (fun k hk=>.inl hk);have ho:=(h.bo i hi).shr l.length (by simp);rw [FC,Nat.mul_one,List.map_append,List.take_left' (by simp)] at ho;show Go.Fw.Own w B 92 1 A (l.map fun b=>[Pt b]).length c (l.map fun b=>[Pt b]).flatten;rw [xR,FC];exact ho
def CCl (R:Rn)(sm:List qx->Sm):Prop:=∀ {w:World}{A:Nat->Prop}{m:BX}{ptrs:List Nat}{hist h:List kC}{out o:List Int}{xs:List vV}{gs:List qx}{f:Int}{args:List Int}{a:Option Addr}{c:Nat}{p:Pn Int},Pre w A (Mac R m ptrs hist out) (.l a c args :: oV R m hist out)->Qn w (lH (Mac R m ptrs hist out)) xs gs->R.B<=w.heap.size->ptrs=(xs.map (·.b)).reverse->ptrs.length<=20->AB sm R.src gs f args hist out=some (p,h,o)-> Calls prog 20 #[Pt R.rb,V f,.slice a args.length c] w (RP (fun v w'=>∃ n,p=.ok n/\v=V n/\∃ m',Bx w w' A (lH (Mac R m ptrs hist out)) (Mac R m' ptrs h o) (oV R m' h o)) (fun ch w'=>Pb p ch/\∃ more m',Bx w w' A (lH (Mac R m ptrs hist out)) (Mac R m' (ptrs ++ more) h o) (oV R m' h o)))
theorem RI {R:Rn}{sm:List qx->Sm}(hS:CLs R sm):CCl R sm:=by
 intro w A m ptrs hist ho out o xs gs f args a c p hP hl hB hp hn hm;have b:=hP.bx;clear hP;generalize hG:lH (Mac R m ptrs hist out)=G at b hl ⊢;refine xZ func20 rfl ?_;refine lG [(0,Pt R.rb),(1,V f),(2,.slice a args.length c)] ⟨rfl,rfl,rfl,trivial⟩ fun av=>?_;have hlen:ptrs.length=gs.length:=by rw [hp,List.length_reverse,xR,hl.len]
 unfold AB at hm;refine goC b ?_;refine ou rfl (fun h=>?_) (fun h=>?_)
 · rw [kg (by omega)] at hm;cases hm;refine go ?_;refine kr (MS Tw rfl) ?_;exact Cq rfl ⟨zo _,[],m,by rw [vJ];exact b.dp [1,2,3,4,5,6]⟩
 rw [jR (by omega)] at hm;have hlt:ptrs.length+1<=20:=by omega
 refine go ?_;refine kr (ZU rfl) ?_;refine su b (uK rfl) fun w1 b7 b=>?_;refine goC b ?_;cases hv:ix? R.src.c f with
 | none=>
   rw [hv] at hm;cases hm;refine CQ underlying27 rfl rfl (Cz hv) fun u w2 hw=>⟨⟨u,zo _⟩,[],m,?_⟩;rw [vJ];have hb:=(b.arr [1,2,3,4] rfl).dp [1,2,3,4,5,6];rcases hw with rfl | rfl
   · exact hb
   · exact hb.drew
 | some vars=>
 rw [hv] at hm;obtain ⟨q,hq,hm⟩:=bs hm;obtain ⟨kf,rfl,hvk⟩:=RA hv;obtain ⟨cs0,hr0,b⟩:=b.nm 5 rfl hvk;obtain ⟨a3,c3,rfl,hv3⟩:=hr0;replace b:=b.kF (d:=.l a3 c3 vars) hv3;refine kr (kY underlying27 Gq rfl rfl rfl (b.dl 7 rfl) hvk) (kr (jV underlying96 rfl rfl ((b.dc 1 rfl) 0 _ rfl)) ?_);have hbd:=(b.dl 0 rfl).bd;replace b:=aaS (b.Cy RV 22);replace b:=(b.arr [2,1,0,3,4,5,6] rfl).dp [0,1,3,4,5,6,7,8,9];refine goC b ?_
 refine kK (fun aw f' w'=>∃ (t:Nat)(ws:List (List Int))(A1:Option Addr)(c1:Nat)(cs:List (List Value))(Rr:List Nat),aw=vars.length - t∧t≤vars.length∧Rr.length=ws.length∧
     Has f' [(0,Pt R.rb),(1,V (kf:Int)),(2,.slice a args.length c),(7,Pt b7),(31,.slice a3 vars.length c3),(32,V (vars.length:Int)),(33,V (t:Int))]/\
     Bx w w' A G (.box b7 95 #[V (kf:Int),V 0,.slice A1 ws.length c1] :: .own w.heap.size A1 c1 22 (Rp.sz RV) cs :: It.rws Rr ws :: Mac R m ptrs hist out) (.els cs (hdl Rr ws) :: .l a3 c3 vars :: .l a c args :: oV R m hist out)/\BP (vars.drop t) ws=some q)
   vars.length ⟨0,[],none,0,[],[],rfl,uy _,rfl,⟨rfl,rfl,rfl,rfl,rfl,rfl,rfl,trivial⟩,b,hq⟩ ?_
 clear b hq;rintro aw f w2 ⟨t,ws,A1,c1,cs,Rr,rfl,ht,hRl,hf,b,hq⟩ J hJ;obtain ⟨av2,rfl⟩:=mJ _ _ hf;clear hf;refine goC b ?_;refine ou rfl (fun h=>?_) (fun h=>?_)
 · obtain ⟨v,hvt⟩:=lZ (l:=vars) (k:=t) (by omega);rw [mD hvt,BP] at hq;refine goC b ?_;refine kr (kY underlying96 za rfl rfl rfl (b.dl 1 rfl) hvt) (kr (nA [T v.b,V v.c,V v.d,V v.a,.bool v.f,V v.e,V v.g] underlying98 rfl za rfl rfl (uo (b.dl 1 rfl) hvt (fun _ h=>h))) ?_);refine su b (jT za) fun w3 b9 b=>?_;refine lD (oM b 0 [T v.b,V v.c,V v.d,V v.a,.bool v.f,V v.e,V v.g] rfl za rfl rfl) fun w4 b=>?_;refine goC b ?_;have herr:v.a < 0\/8 < v.a->p=.err 4/\ho=hist/\o=out:=fun hc=>by rw [kg hc] at hq;cases hq;cases hm;exact ⟨rfl,rfl,rfl⟩
   have hb:=(b.arr [4,5,6,7] rfl).dp [3,4,5,6,7,8];by_cases h0:v.a < 0
   · rw [qF h0];refine go ?_;refine kr (MS Tw rfl) ?_;obtain ⟨rfl,rfl,rfl⟩:=herr (.inl h0);exact Cq rfl ⟨zo _,[],m,by rw [vJ];exact hb⟩
   rw [oz h0];refine goC b ?_;refine ou rfl (fun h8=>?_) (fun h8=>?_)
   · refine go ?_;refine kr (MS Tw rfl) ?_;obtain ⟨rfl,rfl,rfl⟩:=herr (.inr h8);exact Cq rfl ⟨zo _,[],m,by rw [vJ];exact hb⟩
   clear herr hb;rw [jR (by omega)] at hq;obtain ⟨ws2,h2,hq⟩:=bs hq;obtain ⟨n,hn⟩:∃ n:Nat,v.a=(n:Int):=⟨v.a.toNat,by omega⟩;have hn8:n<=8:=by omega
   rw [hn,AY] at h2;obtain ⟨hcap,rfl⟩:=qG h2;have happ:∀ b10:Nat,app (hdl Rr ws) [(⟨some ⟨b10,0,none⟩,n,n⟩:RV)]=some (hdl (Rr ++ [b10]) (ws ++ [List.replicate n 0])):=fun b10=>by unfold app;rw [JB hRl,List.length_replicate,kg (by rw [Ci hRl];simpa using hcap)]
   refine go ?_;refine ql (fun u=>nS u b9 98 #[T v.b,V v.c,V v.d,V v.a,.bool v.f,V v.e,V v.g]) (fun u=>nS u b7 95 #[V (kf:Int),V 0,.slice A1 ws.length c1]) [12] (by kernel_rfl) ?_;replace b:=b.drew;have m1:nS w4.drew b9 98 #[T v.b,V v.c,V v.d,V v.a,.bool v.f,V v.e,V v.g]:=b.bk 0 rfl;have m2:nS w4.drew b7 95 #[V (kf:Int),V 0,.slice A1 ws.length c1]:=b.bk 1 rfl;refine pL 0 r (oF r) m1 m2 (pL 1 r (oF r) m1 m2 (pL 2 r (xn r) m1 m2 (pL 3 r (IX r) m1 m2 (tS 14 4 r (fun _ h=>Wn r h r) (kJ m1 m2) (pL 5 r (U3 r) m1 m2 (tU 6 r (fun _ h=>l3 r h r) (kJ m1 m2) ?_))))));refine hO 7 (oo r r (aMk (V 0) b n underlying22 ny rfl r r hn (by omega) (by omega)) ?_);rintro _ w5 ⟨b10,_,rfl,b⟩;refine ⟨kJ (b.bk 1 rfl) (b.bk 2 rfl),?_⟩;refine hO 8 (oo r r (jO b [[.slice (some ⟨b10,0,none⟩) n n]] ([⟨some ⟨b10,0,none⟩,n,n⟩]:List RV) (Oy r) r r (by decide) ⟨rfl,trivial⟩) ?_);rintro _ w6 ⟨b11,rfl,b⟩;refine ⟨kJ (b.bk 2 rfl) (b.bk 3 rfl),?_⟩;refine hO 9 (oo r r (kR b 4 1 r r underlying93 xg r (by decide) (by decide) (oH _) (by show Value.slice A1 ws.length c1=_;rw [Ci hRl]) r (b.AR 0 0 r r) (happ b10)) ?_);rintro _ w7 ⟨A2,c2,cs2,rfl,b⟩;refine ⟨kJ (b.bk 2 rfl) (b.bk 3 rfl),pL 10 r (xn r) (b.bk 2 rfl) (b.bk 3 rfl) (pL 11 r (IX r) (b.bk 2 rfl) (b.bk 3 rfl) ?_)⟩;refine hO 12 (os r r (t_n b 3 [.slice A2 (hdl (Rr ++ [b10]) (ws ++ [List.replicate n 0])).length c2] r Yj r r) fun w8 b=>⟨sy 12 (b.bk 2 rfl),hD ?_⟩);have hRl2:(Rr ++ [b10]).length=(ws ++ [List.replicate n (0:Int)]).length:=by simp [hRl]
   rw [Ci hRl2] at b;replace b:=b.arr [1,5,3,4,6,7,8,9] rfl;replace b:=QM b hn8;replace b:=(b.arr [1,2,0,3,4,5,6] rfl).dp [1,2,3,4,5,6,7,8,9];refine go ?_;refine hJ (vars.length - (t+1)) _ _ (by omega) ⟨t+1,_,A2,c2,cs2,_,rfl,by omega,hRl2,⟨rfl,rfl,rfl,rfl,rfl,rfl,congrArg V (Px (t:=t) (by omega)),trivial⟩,b,hq⟩
 · obtain rfl:t=vars.length:=by omega
   rw [lW,BP] at hq;cases hq;refine goC b ?_;refine uS ?_;refine goC b ?_;have hbd2:=(b.dl 2 rfl).bd;dsimp only at hm;generalize hq:Dv args 0 ws=q2 at hm
   refine kK (fun aw f' w'=>∃ (t:Nat)(ws1:List (List Int)),aw=args.length - t∧t≤args.length∧Rr.length=ws1.length∧
       Has f' [(0,Pt R.rb),(1,V (kf:Int)),(7,Pt b7),(59,.slice a args.length c),(60,V (args.length:Int)),(61,V (t:Int))]/\
       Bx w w' A G (.box b7 95 #[V (kf:Int),V 0,.slice A1 ws1.length c1] :: .own w.heap.size A1 c1 22 (Rp.sz RV) cs :: It.rws Rr ws1 :: Mac R m ptrs hist out) (.els cs (hdl Rr ws1) :: .l a c args :: oV R m hist out)/\Dv (args.drop t) t ws1=q2)
     args.length ⟨0,ws,rfl,uy _,hRl,⟨rfl,rfl,rfl,rfl,rfl,rfl,trivial⟩,b.dp [0,2,3,4,5,6,7,8],hq⟩ ?_
   clear b hq hRl;rintro aw f w3 ⟨t,ws1,rfl,ht,hRl,hf,b,hq⟩ J2 hJ2;obtain ⟨av3,rfl⟩:=mJ _ _ hf;clear hf;have hb:=(b.arr [3,4,5,6] rfl).dp [2,3,4,5,6,7];have hrt:q2=.rt->p=.rt/\ho=hist/\o=out:=fun e=>by rw [e] at hm;cases hm;exact ⟨rfl,rfl,rfl⟩
   refine goC b ?_;refine ou rfl (fun h=>?_) (fun h=>?_)
   · obtain ⟨v,hvt⟩:=lZ (l:=args) (k:=t) (by omega);rw [mD hvt,Dv] at hq;refine goC b ?_;refine kr (kY underlying22 ny rfl rfl rfl (b.dl 1 rfl) hvt) (kr (jV underlying3 rfl rfl ((uo (ds:=[V v]) (b.dl 1 rfl) hvt (fun _ h=>h)) 0 _ rfl)) ?_);refine goC b ?_;cases hwt:ws1[t]? with
     | none=>
       rw [hwt] at hq;obtain ⟨rfl,rfl,rfl⟩:=hrt hq.symm;refine CQ underlying93 rfl rfl (by have:=List.getElem?_eq_none_iff.1 hwt;omega) fun u w4 hw=>⟨⟨u,zo _⟩,[],m,?_⟩;rw [vJ];rcases hw with rfl | rfl
       · exact hb
       · exact hb.drew
     | some row=>
     rw [hwt] at hq;have hrw:=b.at 2 rfl;obtain ⟨r0,hr0,hB0⟩:=hrw.1.get hwt;have how:Go.Fw.Own w3 w.heap.size 22 1 A1 cs.length c1 cs.flatten:=b.bo 1 rfl;rw [Io hRl (b.de 0 rfl)] at how;have hcell:=D5 how (FL hr0 hwt);refine kr (AV t hcell.1 underlying93 xg rfl rfl rfl (jU hwt)) ?_;refine kr (jV (a:=⟨nE A1,ow A1+t * 1,none⟩) underlying22 rfl rfl (by rw [Nat.mul_one];exact hcell.2.1)) ?_;refine goC b ?_;cases row with
     | nil=>
       obtain ⟨rfl,rfl,rfl⟩:=hrt hq.symm;refine CQ underlying22 rfl rfl (by simp) fun u w4 hw=>⟨⟨u,zo _⟩,[],m,?_⟩;rw [vJ];rcases hw with rfl | rfl
       · exact hb
       · exact hb.drew
     | cons z row=>
       refine kr (xIdx 0 underlying22 ny rfl rfl rfl (by simp)) ?_;refine lD (Q6 b 2 (j:=0) rfl hr0 hwt (by simp) rfl rfl) fun w4 b=>?_;rw [<-M7 (R:=Rr) (l':=v :: row) hwt (by simp)] at b;have e2:ws1.length=(ws1.set t (v :: row)).length:=by simp
       rw [e2] at b;refine go ?_;exact hJ2 (args.length - (t+1)) _ _ (by omega) ⟨t+1,ws1.set t (v :: row),rfl,by omega,by rw [<-e2];exact hRl,⟨rfl,rfl,rfl,rfl,rfl,congrArg V (Px (t:=t) (by omega)),trivial⟩,b,hq⟩
   · obtain rfl:t=args.length:=by omega
     rw [lW,Dv] at hq;subst hq;clear hrt hb;dsimp only at hm;refine goC b ?_;refine uS ?_;refine goC b ?_;replace b:=Ye b 0 rfl;replace b:=b.dp [2,3,4,5,6,7];have happ:app (ptrs.map PB.mk) [PB.mk b7]=some ((ptrs ++ [b7]).map PB.mk):=by unfold app;rw [kg (by simp;omega),List.map_append];rfl
     refine nW (jO b [[Pt b7]] ([PB.mk b7]:List PB) (Vh rfl) rfl rfl (by decide) ⟨rfl,trivial⟩) ?_;rintro _ w5 ⟨b10,rfl,b⟩;replace b:=b.kF (d:=.els (ptrs.map fun b=>[Pt b]) (ptrs.map PB.mk)) (MV ptrs);refine nW (kR (α:=PB) b 3 0 rfl rfl underlying67 Wz rfl (by decide) (by decide) hB (by show Value.slice m.lA ptrs.length m.lC=_;rw [xR]) rfl (b.AR 0 1 rfl rfl) happ) ?_;rintro _ w6 ⟨A2,c2,cs2,rfl,b⟩;have hcs:=CU (b.de 0 rfl);subst hcs;refine goC b ?_;refine lD (t_n b 2 [.slice A2 ((ptrs ++ [b7]).map PB.mk).length c2] rfl Xh rfl rfl) fun w7 b=>?_;rw [xR] at b;replace b:=(b.arr [2,3,4,5,1] rfl).dp [2,3,4,5,6,7];refine goC b ?_;cases hfn:ix? R.src.a.b (kf:Int) with
     | none=>
       rw [hfn] at hm;cases hm;refine CQ underlying24 rfl rfl (Cz hfn) fun u w8 hw=>⟨⟨u,zo _⟩,[b7],{ m with lA:=A2,lC:=c2 },?_⟩;have hb:=b.arr [0,1,2,3] rfl;rcases hw with rfl | rfl
       · exact hb
       · exact hb.drew
     | some fn=>
     rw [hfn] at hm;dsimp only at hm;obtain ⟨⟨q,s2⟩,h1,hm⟩:=bs hm;obtain ⟨kf2,hk2,hfk⟩:=RA hfn;obtain ⟨cs0,hr0,b⟩:=b.nm 3 rfl hfk;obtain ⟨a5,c5,a6,c6,rfl,h5,h6⟩:=kW.out hr0;replace b:=b.kF (d:=.l a6 c6 fn.e) h6;refine kr (kY underlying24 oU rfl rfl hk2 (b.dl 5 rfl) hfk) ?_;refine goC b ?_;refine kr (jV underlying37 rfl rfl ((b.dc 1 rfl) 3 _ rfl)) ?_;have hr:Tj w7 (Ei w A (pick _ [0,1,2,3,4] ++ pick _ [])) R { m with lA:=A2,lC:=c2 } (ptrs ++ [b7]) ⟨b7,A1,c1,Rr⟩ ⟨⟨(kf:Int),0,ws1⟩,hist,out⟩ xs gs [.l a6 c6 fn.e]:=
       ⟨b.pr [0,1,2,3,4] [] [0,2,3,4,5,6,7] rfl,xQ b hl (fun it hi=>hi),q9 hB b.rM.size,by rw [hp],by rw [Dk,Gx];exact hlt⟩
     have hc:=hS hr h1;clear hr;refine Nk (l6 Rk rfl) hc (fun ch w8 hq=>?_) ?_
     · obtain ⟨hq,more,m4,hK⟩:=hq;have hb:=b.cn [0,1,2,3,4] [] hK;have hb:=(hb.arr [0,1,2,3] rfl).dp [0,1,2,3,4,5];rw [Em] at hb;cases q with
       | ok o=>exact hq.elim
       | _=>cases hm;exact ⟨hq,[b7] ++ more,m4,hb⟩
     rintro _ w8 ⟨v,rfl,rfl,m4,hK⟩;replace b:=b.cn [0,1,2,3,4] [] hK;replace b:=(b.arr [0,1,2,3] rfl).dp [0,1,2,3,4,5];cases hm;refine kr (xw (.tuple #[V (v.getD 0),.bool v.isSome]) rfl) ?_;refine go ?_;have hcap:=(b.bo 1 rfl).cap;rw [xR,Dk,Gx] at hcap;refine ql (fun _=>True) (fun u=>nS u R.rb 69 (qo R m4 (ptrs ++ [b7]).length (window s2.hist R.fr R.mo).length s2.hist.length s2.out.length).toArray) [14] (by kernel_rfl) ?_;replace b:=b.drew;have m2:nS w8.drew R.rb 69 (qo R m4 (ptrs ++ [b7]).length (window s2.hist R.fr R.mo).length s2.hist.length s2.out.length).toArray:=b.bk 0 rfl;refine pL 0 r (oF r) lF m2 (pL 1 r (oF r) lF m2 (pL 2 r (xn r) lF m2 (pL 3 r (Iz r) lF m2 (tS 16 4 r (fun _ h=>WH r h r) (kJ lF m2) (pL 5 r (oF r) lF m2 (pL 6 r (xn r) lF m2 (pL 7 r (Iz r) lF m2 (tS 16 8 r (fun _ h=>WH r h r) (kJ lF m2) (pL 9 r (lT underlying67 r) lF m2 (pL 10 r (wY r r) lF m2 ?_))))))))));refine pL 11 r (zw ptrs.length underlying67 Wz r r (by rw [Dk,Gx];unfold wr;rw [Pj (by omega) (by omega)];omega) (by omega)) lF m2 (pL 12 r (xn r) lF m2 (pL 13 r (Iz r) lF m2 ?_));refine hO 14 (os r r (t_n b 0 [.slice m4.lA ptrs.length m4.lC] r Xh r r) fun w9 b=>⟨sy 14 lF,hD ?_⟩);replace b:=Vq b 1 rfl;refine go ?_;refine kH ?_;refine jC (fn:=f20) rfl (kL rfl) ?_;exact ⟨v.getD 0,rfl,rfl,m4,b⟩
theorem OL {P:Program}{w:World}{t:TypeId}{ms:Array (String × TypeId)}(n:Nat)(ht:P.underlying t=some (.interface ms)){v:Value}{b:Bool}(hv:(v=.nilIface/\b=true)\/(∃ t' u,v=.iface t' u/\b=false)):(Op.equalIn (n+1) t v .nilIface).run P w=.ok b w:=by
 rcases hv with ⟨rfl,rfl⟩|⟨t',u,rfl,rfl⟩
 · simp only [Op.equalIn,Sem.run_bind,run_underlying ht,Result.andThen_ok];rfl
 · simp only [Op.equalIn,Sem.run_bind,run_underlying ht,Result.andThen_ok];rfl
theorem Ta {P:Program}{w:World}{t:TypeId}{ms:Array (String × TypeId)}(ht:P.underlying t=some (.interface ms)){v:Value}{b:Bool}(hv:(v=.nilIface/\b=true)\/(∃ t' u,v=.iface t' u/\b=false)):(Op.equal t v .nilIface).run P w=.ok b w:=
 OL 9999 ht hv
section
variable {P:Program}{w:World}{ρ:Operand->Value}{d:Option Nat}{ty:TypeId}{pos:String}{af:Array Edge}{g:Option (Nat × Bool)}{t t':TypeId}{x:Operand}
theorem IB {ms:Array (String × TypeId)}{v:Value}{b:Bool}(ht:P.underlying t=some (.interface ms))(hx:ρ x=v)(hc:ρ (.const .nilIface)=.nilIface)(hv:(v=.nilIface/\b=true)\/(∃ t' u,v=.iface t' u/\b=false)) :Yl P ρ (.binOp .eql t x (.const .nilIface) t') d ty pos af g w (.bool b):=by
 have heq:=Ta (w:=w) ht hv;have hg:(eqGuard .eql t x (.const .nilIface) v .nilIface).run P w=.ok () w:=by rcases hv with ⟨rfl,_⟩|⟨t',u,rfl,_⟩ <;> simp [eqGuard]
 have hbin:(binOp .eql t v .nilIface).run P w=.ok (.bool b) w:=by
  have:binOp .eql t v .nilIface=(do pure (.bool (<- Op.equal t v .nilIface)):Sem Value):=by rcases hv with ⟨rfl,_⟩|⟨t',u,rfl,_⟩ <;> rfl
  rw [this];simp only [Sem.run_bind,heq,Result.andThen_ok,Sem.run_pure]
 unfold Yl execOp;simp only [hx,hc,Sem.run_bind,hg,hbin,Result.andThen_ok,Sem.run_pure]
theorem YC {xt:TypeId}{k:IntKind}{v:Value}(hu:P.underlying t=some (.int k))(hx:ρ x=.iface t v):Yl P ρ (.typeAssert x xt t true) d ty pos af g w (.tuple #[v,.bool true]):=by simp [Yl,execOp,hx,Instr.typeAssert,run_underlying hu]
theorem aap {xt t2:TypeId}{k:IntKind}{v z:Value}{s by_:Nat}(hu:P.underlying t=some (.int k))(hz:TI P t z s by_)(hx:ρ x=.iface t2 v)(hne:t2≠t):∃ z',Yl P ρ (.typeAssert x xt t true) d ty pos af g w (.tuple #[z',.bool false]):=by obtain ⟨i,hi1,hi2,hi3,hi4⟩:=hz;refine ⟨z,?_⟩;simp [Yl,execOp,hx,Instr.typeAssert,run_underlying hu,zeroValue,typeInfo,hi1,hi2,hne]
end
abbrev Cts (R:Rn)(b3 b9 b6 b7 b8 k:Nat)(v6:Value)(v7 v8:Bool):List It:=[.box b3 66 #[Pt R.rb],.box b9 3 #[V (k:Int)],.box b6 3 #[v6],.box b7 4 #[.bool v7],.box b8 4 #[.bool v8]]
abbrev aA (b3 b9 b6 b7 b8:Nat):Array Value:=#[Pt b3,Pt b9,Pt b6,Pt b7,Pt b8]
theorem WQ {b3 b9 b6 b7 b8:Nat}{u:FrameMode}{w:World}(hu:(CZ u).1=.nilIface):CallsD prog 112 (aA b3 b9 b6 b7 b8) u w (RD (CZ u).2 (fun w'=>w'=w) (fun _ _=>False)):=by refine GJ func112 rfl rfl rfl ?_;rw [hu];refine lG [(8,.nilIface)] ⟨rfl,trivial⟩ fun av=>?_;refine pG ?_;refine Im (AX ?_);refine kr (IB underlying20 rfl rfl (.inl ⟨rfl,rfl⟩)) ?_;refine go ?_;refine kr (Te .nilIface rfl) ?_;refine go ?_;rfl
theorem Xj {b3 b9 b6 b7 b8:Nat}{u:FrameMode}{w:World}{t:TypeId}{v:Value}(hu:(CZ u).1=.iface t v)(ht:t≠70):CallsD prog 112 (aA b3 b9 b6 b7 b8) u w (RD (CZ u).2 (fun _=>False) (fun c w'=>c=[⟨.iface t v,false,false⟩]/\w'=w)):=by
 refine GJ func112 rfl rfl rfl ?_;rw [hu];refine lG [(8,.iface t v)] ⟨rfl,trivial⟩ fun av=>?_;refine pG ?_;refine Im (AX ?_);refine kr (IB underlying20 rfl rfl (.inr ⟨t,v,rfl,rfl⟩)) ?_;refine go ?_;obtain ⟨z', hz⟩ := aap (P := prog) (w := w) (ρ := ev (nU (JX av [(8, .iface t v)]) (some 10) (.bool false))) (d := some 11) (ty := 0) (pos := "statement.go:62") (af := #[]) (g := none) (x := .tmp 8) (xt := 20) underlying70 ZB rfl ht
 refine kr hz ?_;refine go ?_;refine kr (Te (.iface t v) rfl) ?_;refine go ?_;refine kr (xw (.iface t v) rfl) ?_;exact Cq rfl ⟨rfl,rfl⟩
theorem YN {A G:Nat->Prop}{R:Rn}{m:BX}{ps more:List Nat}{hist:List kC}{out:List Int}{X:List It}{D:List Da}{w0 w:World}{b3 b9 b6 b7 b8:Nat}{v6:Value}{v7 v8:Bool}{u:FrameMode}{n:Int}(b:Bx w0 w A G (Cts R b3 b9 b6 b7 b8 ps.length v6 v7 v8 ++ (Mac R m (ps ++ more) hist out ++ X)) D)(hu:(CZ u).1=.iface 70 (V n))(hl:ps.length < 1000) :CallsD prog 112 (aA b3 b9 b6 b7 b8) u w (RD (CZ u).2 (fun w'=>Bx w0 w' A G (Cts R b3 b9 b6 b7 b8 ps.length (V n) false true ++ (Mac R m ps hist out ++ X)) D) (fun _ _=>False)):=by
 refine GJ func112 rfl rfl rfl ?_;rw [hu];refine lG [(0,Pt b3),(1,Pt b9),(2,Pt b6),(3,Pt b7),(4,Pt b8),(8,.iface 70 (V n))] ⟨rfl,rfl,rfl,rfl,rfl,rfl,trivial⟩ fun av=>?_;refine pG ?_;refine Im (AX ?_);refine kr (IB underlying20 rfl rfl (.inr ⟨70,V n,rfl,rfl⟩)) ?_;refine go ?_;refine kr (YC underlying70 rfl) ?_;refine go ?_;have hcap:=(b.bo 6 rfl).cap;rw [xR,Dk] at hcap;refine ql (fun _=>True) (fun u=>nS u b3 66 #[Pt R.rb]/\nS u b9 3 #[V (ps.length:Int)]/\nS u R.rb 69 (qo R m (ps ++ more).length (window hist R.fr R.mo).length hist.length out.length).toArray) [9] (by kernel_rfl) ?_;replace b:=b.drew;have m2:nS w.drew b3 66 #[Pt R.rb]/\nS w.drew b9 3 #[V (ps.length:Int)]/\nS w.drew R.rb 69 (qo R m (ps ++ more).length (window hist R.fr R.mo).length hist.length out.length).toArray:=⟨b.bk 0 rfl,b.bk 1 rfl,b.bk 5 rfl⟩;refine tS 10 0 r (fun _ h=>GD r h.1 r) (kJ lF m2) (tS 10 1 r (fun _ h=>GD r h.1 r) (kJ lF m2) (pL 2 r (xn r) lF m2 (pL 3 r (Iz r) lF m2 (tS 10 4 r (fun _ h=>WH r h.2.2 r) (kJ lF m2) (tS 10 5 r (fun _ h=>l3 r h.2.1 r) (kJ lF m2) ?_)))));refine pL 6 r (zw ps.length underlying67 Wz r r rfl (by omega)) lF m2 (pL 7 r (xn r) lF m2 (pL 8 r (Iz r) lF m2 ?_));refine hO 9 (os r r (t_n b 5 [.slice m.lA ps.length m.lC] r Xh r r) fun w2 b=>⟨sy 9 lF,hD ?_⟩);replace b:=Vq b 6 rfl;refine go ?_;refine lD (t_n b 2 [V n] rfl ny rfl rfl) fun w3 b=>?_;refine lD (t_n b 3 [.bool false] rfl Pz rfl rfl) fun w4 b=>?_;refine lD (t_n b 4 [.bool true] rfl Pz rfl rfl) fun w5 b=>?_;refine go ?_;exact b
theorem Tf {P : Program} {f : Fr} {w : World} {t b : Nat} {ty te : TypeId} {v : Value} (hf : f t = .pointer (some ⟨b, 0, none⟩)) (hu : ∀ ρ : Operand -> Value, ρ (.tmp 0) = .pointer (some ⟨b, 0, none⟩) -> Yl P ρ (.load ty (.tmp 0)) none 0 "" #[] none w v) {cs : Array Value} (hB : nS w b te cs) : VJ P f w (.cell t ty) v := by
 refine ⟨b,te,cs,hf,hB,?_⟩;have hl:=hu (fun _=>.pointer (some ⟨b,0,none⟩)) rfl;simp only [Yl,execOp,Instr.loadAt,Instr.sureAddr,Sem.run_bind,Sem.run_pure,Result.andThen_ok] at hl;cases hq:(loadVar ty ⟨b,0,none⟩).run P w with
 | ok v w'=>rw [hq] at hl;simp at hl;rw [hl.1,hl.2]
 | halt h w'=>rw [hq] at hl;simp at hl
section
variable {P:Program}{N:Fz}
theorem QV {x y:Code}{Q:Exit->Act->World->Prop}{f:Fr}{w:World}(h:WP P N x ⟨fun f w=>PE P N y Q f w,fun _ _ _=>False,fun _ _=>False,fun _ _ _=>False⟩ f w):PE P N (.seq x y) Q f w:=
 Zz h fun e a w q=>by
  cases e with
  | normal=>obtain ⟨f,h1,h2⟩:=q;exact h2.elim
  | exit i=>obtain ⟨f,h1,h2⟩:=q;exact h2.elim
  | ret=>obtain ⟨f,h1,h2⟩:=q;exact h2.elim
  | panic c=>obtain ⟨f,h1,h2⟩:=q;exact h2.elim
  | _=>exact q.elim
theorem QG (l:List (Nat × Value)){c:Code}{Q:Exit->Act->World->Prop}{f:Fr}{w:World}(h:Has f l)(k:∀ g,PE P N c Q (JX g l) w):PE P N c Q f w:=by rw [<-D8 h];exact k f
theorem P6 {fn:Func}{d:Deferred}{fv:Fn}{cap:Array Value}{g:FuncId}{args:Array Value}{R:Ending->World->Prop}{f:Fr}{a:Act}{w:World}{M:Fz}(hT:d.target=.fn fv cap)(hi:(invoke d.target d.args).run P w=.ok (.enter g args) w)(hc:CallsD P g args .returning w (RD .returning (fun w'=>w'=w) (fun _ _=>False)))(h:Reads P fn (fun v w'=>R (.returned v) w') f w)(ha:Fg M f a):Leaves P fn a.tmps R [d] .returning w:=by
 refine ⟨by simp,fv,cap,g,args,hT,hi,?_⟩;intro c cs hu;obtain ⟨e,u',w',fr,h1,h2,h3⟩:=hc c cs hu;refine ⟨e,u',w',fr,?_,h2,h3⟩;cases e with
 | returned v=>
  obtain ⟨rfl,rfl⟩:=h1;unfold Reads at h;obtain ⟨v2,hv,hR⟩:=h a.tmps ha.get;exact ⟨v2,hv,hR⟩
 | panicked c=>exact h1.2.elim
 | outgrown=>exact h1.elim
theorem Bq {fn:Func}{d:Deferred}{fv:Fn}{cap:Array Value}{g:FuncId}{args:Array Value}{R:Ending->World->Prop}{f:Fr}{a:Act}{w:World}{M:Fz}{v:Value}{l:List PanicEntry}{R1:World->Prop}{V1:List PanicEntry->World->Prop}(hT:d.target=.fn fv cap)(hi:(invoke d.target d.args).run P w=.ok (.enter g args) w)(hl:∀ e ∈ l,e.goexit=false)(hc:CallsD P g args (.panicking (⟨v,false,false⟩ :: l)) w (RD (.panicking (⟨v,true,false⟩ :: l)) R1 V1))(h:∀ w',R1 w'->Reads P fn (fun v w'=>R (.returned v) w') f w')(hv:∀ c w',V1 c w'->R (.panicked (c ++ ⟨v,true,false⟩ :: l)) w')(ha:Fg M f a):Leaves P fn a.tmps R [d] (.panicking (⟨v,false,false⟩ :: l)) w:=by
 refine ⟨by simp,fv,cap,g,args,hT,hi,?_⟩;intro c cs hu;obtain ⟨e,u',w',fr,h1,h2,h3⟩:=hc c cs hu;refine ⟨e,u',w',fr,?_,h2,h3⟩;cases e with
 | returned v1=>
  obtain ⟨rfl,h1⟩:=h1;have hq:=h w' h1;unfold Reads at hq;obtain ⟨v2,hv2,hR⟩:=hq a.tmps ha.get;have hs:settle (.panicking (⟨v,true,false⟩ :: l))=.returning:=by
   have e:l.dropWhile (!·.goexit)=[]:=by
    clear hc hv h2 hu hq h
    induction l with
    | nil=>rfl
    | cons e l ih=>rw [List.dropWhile_cons,hl e (Bn ..)];exact ih (fun e he=>hl e (wI _ he))
   unfold settle;dsimp only;rw [e]
  show Leaves P fn a.tmps R [] (settle _) w';rw [hs];exact ⟨v2,hv2,hR⟩
 | panicked c=>
  obtain ⟨rfl,h1⟩:=h1;exact hv _ _ h1
 | outgrown=>exact h1.elim
end
def CAt (R:Rn)(sm:List qx->Sm):Prop:=∀ {w:World}{A:Nat->Prop}{m:BX}{ptrs:List Nat}{x:vV}{s s':Sg}{xs:List vV}{gs:List qx}{l:List jI}{a:Option Addr}{c:Nat}{p:Pn (Option Int)},Tj w A R m ptrs x s xs gs [.l a c l]->EJ (sm gs) s l=some (p,s')-> Calls prog 97 #[Pt R.rb,Pt x.b,.slice a l.length c] w (RP (fun v w'=>((∃ o,p=.ok o/\v=.tuple #[V (o.getD 0),.bool o.isSome,.bool false])\/(∃ n,p=.uP n/\v=.tuple #[V n,.bool false,.bool true]))/\Ok w A R m ptrs x s s' w') (fun ch w'=>(∀ n,p≠.uP n)/\Pk p w A R m ptrs x s s' ch w'))
theorem ab4 {P:Program}{ρ:Operand->Value}{pos:String}{af:Array Edge}{w:World}{x:Operand}{fn:Fn}{caps:Array Value}(h:ρ x=.func fn #[] caps) :(execOp ρ ⟨none,.defer ⟨.value x,#[],#[]⟩,0,pos,af,none⟩).run P w=.ok (.defer ⟨.fn fn caps,#[]⟩) w:=by simp [execOp,resolve,h,Deferred.ofValue]
theorem Qj {R:Rn}{sm:List qx->Sm}(hS:CLs R sm):CAt R sm:=by
 intro w A m ptrs x s s' xs gs l a c p hR hm;obtain ⟨hP,hl,hB,hp,hn⟩:=hR;have b:=hP.bx;clear hP;unfold Ok Pk;generalize hG:lH (Lj R m ptrs x s)=G at b hl ⊢;refine KS func97 rfl ?_;refine QG [(0,Pt R.rb),(1,Pt x.b),(2,.slice a l.length c)] ⟨rfl,rfl,rfl,trivial⟩ fun av=>?_;refine QV (AX ?_);refine su b (uK rfl) fun w1 b3 b=>?_;refine su b (jT ny) fun w2 b6 b=>?_;refine su b (jT Pz) fun w3 b7 b=>?_;refine su b (jT Pz) fun w4 b8 b=>?_;refine go ?_;refine QV (AX ?_);refine goC b ?_;refine su b (jT ny) fun w5 b9 b=>?_;refine lD (oM b 0 [V (ptrs.length:Int)] rfl ny rfl rfl) fun w6 b=>?_;refine go ?_;replace b:Bx w w6 A G (Cts R b3 b9 b6 b7 b8 ptrs.length (V 0) false false ++ Lj R m ptrs x s) (.l a c l :: oV R m s.hist s.out):=b.arr [4,0,3,2,1,5,6,7,8,9] rfl;refine QG [(0,Pt R.rb),(1,Pt x.b),(2,.slice a l.length c),(3,Pt b3),(6,Pt b6),(7,Pt b7),(8,Pt b8),(9,Pt b9)] ⟨rfl,rfl,rfl,rfl,rfl,rfl,rfl,rfl,trivial⟩ fun av2=>?_;refine UR (YO (vs:=[Pt b3,Pt b9,Pt b6,Pt b7,Pt b8]) rfl) (ab4 rfl) ?_  -- ⟨.fn (.func 112) #[Pt b3,Pt b9,Pt b6,Pt b7,Pt b8],#[]⟩) rfl ?_
 refine Xu (Q:=⟨fun _ _=>False,fun _ _ _=>False,fun f w'=>Reads prog f97 (fun v w'=>((∃ o,p=.ok o/\v=.tuple #[V (o.getD 0),.bool o.isSome,.bool false])\/(∃ n,p=.uP n/\v=.tuple #[V n,.bool false,.bool true]))/\Now w w' A G R ptrs x s') f w',fun f ch w'=>(f 6=Pt b6/\f 7=Pt b7/\f 8=Pt b8)/\Pb p ch/\∃ more m',Bx w w' A G (Cts R b3 b9 b6 b7 b8 ptrs.length (V 0) false false ++ (Mac R m' (ptrs ++ more) s'.hist s'.out ++ [It.act x s'.a])) (.l a c l :: oV R m' s'.hist s'.out)⟩) ?_ ?_
 · refine Im (AX ?_);refine goC b ?_;have hr:Tj w6 (Ei w A (pick _ [5,6,7,8,9] ++ pick _ [0,1,2,3,4])) R m ptrs x s xs gs [.l a c l]:=⟨b.pr [5,6,7,8,9] [0,1,2,3,4] [0,1,2,3,4,5,6,7] rfl,xQ b hl (fun it hi=>List.mem_append_right _ hi),q9 hB b.rM.size,hp,hn⟩;have hc:=hS hr hm;clear hr;refine Nk (l6 Rk rfl) hc (fun ch w7 hq=>?_) ?_
   · obtain ⟨hq,more,m4,hK⟩:=hq;have hb:=b.cn [5,6,7,8,9] [0,1,2,3,4] hK;exact ⟨⟨rfl,rfl,rfl⟩,hq,more,m4,(hb.arr [5,6,7,8,9,0,1,2,3,4] rfl).dp [6,0,1,2,3,4,5]⟩
   rintro _ w7 ⟨o,rfl,rfl,m4,hK⟩;replace b:=b.cn [5,6,7,8,9] [0,1,2,3,4] hK;replace b:=(b.arr [5,6,7,8,9,0,1,2,3,4] rfl).dp [0,1,2,3,4,5];refine kr (xw (.tuple #[V (o.getD 0),.bool o.isSome]) rfl) ?_;refine go ?_;refine lD (t_n b 2 [V (o.getD 0)] rfl ny rfl rfl) fun w8 b=>?_;refine lD (t_n b 3 [.bool o.isSome] rfl Pz rfl rfl) fun w9 b=>?_;refine go ?_;refine ql (fun u=>nS u b6 3 #[V (o.getD 0)]/\nS u b7 4 #[.bool o.isSome]) (fun _=>True) [] (by kernel_rfl) ?_;replace b:=b.drew;refine uF 0 r (fun h=>l3 r h.1 r) ⟨b.bk 2 rfl,b.bk 3 rfl⟩ (uF 1 r (fun h=>l4 r h.2 r) ⟨b.bk 2 rfl,b.bk 3 rfl⟩ ?_);refine hO 2 (os r r (t_n b 2 [V (o.getD 0)] r ny r r) fun w10 b=>⟨sF ⟨b.bk 2 rfl,b.bk 3 rfl⟩,?_⟩);refine hO 3 (os r r (t_n b 3 [.bool o.isSome] r Pz r r) fun w11 b=>⟨sF ⟨b.bk 2 rfl,b.bk 3 rfl⟩,?_⟩);refine hO 4 (os r r (t_n b 4 [.bool false] r Pz r r) fun w12 b=>⟨sF ⟨b.bk 2 rfl,b.bk 3 rfl⟩,hD ?_⟩);refine go ?_;refine kH ?_;refine zu (fn:=f97) rfl (Tf rfl (fun ρ h=>l3 h (b.bk 2 rfl) rfl) (b.bk 2 rfl)) (Tf rfl (fun ρ h=>l4 h (b.bk 3 rfl) rfl) (b.bk 3 rfl)) (Tf rfl (fun ρ h=>l4 h (b.bk 4 rfl) rfl) (b.bk 4 rfl)) ?_;exact ⟨.inl ⟨o,rfl,rfl⟩,m4,b.arr [5,6,7,8,9] rfl⟩
 · intro e a1 w1 q;cases e with
   | normal=>obtain ⟨f,h1,h2⟩:=q;exact h2.elim
   | exit i=>obtain ⟨f,h1,h2⟩:=q;exact h2.elim
   | ret=>
     obtain ⟨f,h1,h2⟩:=q;show Leaves prog f97 a1.tmps _ a1.defers .returning w1;rw [h1.dfr];exact P6 rfl rfl (WQ rfl) h2 h1
   | panic ch=>
     obtain ⟨f,h1,⟨hf6,hf7,hf8⟩,hq,more,m',b⟩:=q;show Leaves prog f97 a1.tmps _ a1.defers (.panicking ch) w1;rw [h1.dfr]
     have hgo:∀ {t:TypeId}{v:Value}{lc:List PanicEntry},ch=⟨.iface t v,false,false⟩ :: lc→(∀ e ∈ lc,e.goexit=false)→t≠70→(∀ n,p≠.uP n)→(∀ c2,Pch (.iface t v) c2→Pb p c2)→
       Leaves prog f97 a1.tmps (RP (fun v w'=>((∃ o,p=.ok o/\v=.tuple #[V (o.getD 0),.bool o.isSome,.bool false])\/(∃ n,p=.uP n/\v=.tuple #[V n,.bool false,.bool true]))/\Now w w' A G R ptrs x s') (fun ch w'=>(∀ n,p≠.uP n)/\Pb p ch/\aaO w w' A G R ptrs x s')) [⟨.fn (.func 112) #[Pt b3,Pt b9,Pt b6,Pt b7,Pt b8],#[]⟩] (.panicking ch) w1:=fun {t v lc} e1 e2 ht hn hb=>by
      subst e1;refine Bq (R1:=fun _=>False) rfl rfl e2 (Xj rfl ht) (fun w' h=>h.elim) (fun c2 w' h=>?_) h1;obtain ⟨rfl,rfl⟩:=h;exact ⟨hn,hb _ ⟨_,rfl,fun e he=>by
       rcases qK.1 he with rfl | he
       · rfl
       · exact e2 e he⟩,more,m',(b.arr [5,6,7,8,9] rfl).dp [1,2,3,4,5,6,7]⟩
     cases p with
     | ok o=>exact hq.elim
     | uP n=>
      obtain ⟨lc,rfl,hlc⟩:=hq;refine Bq rfl rfl hlc (YN (n:=n) b rfl (by omega)) (fun w2 b=>?_) (fun c w' h=>h.elim) h1;refine zu (fn:=f97) rfl (Tf hf6 (fun ρ h=>l3 h (b.bk 2 rfl) rfl) (b.bk 2 rfl)) (Tf hf7 (fun ρ h=>l4 h (b.bk 3 rfl) rfl) (b.bk 3 rfl)) (Tf hf8 (fun ρ h=>l4 h (b.bk 4 rfl) rfl) (b.bk 4 rfl)) ?_;exact ⟨.inr ⟨n,rfl,rfl⟩,m',(b.arr [5,6,7,8,9] rfl).dp [1,2,3,4,5,6,7]⟩
     | err e=>obtain ⟨lc,h2,h3⟩:=hq;exact hgo h2 h3 (by decide) (fun n h=>by cases h) (fun _ h=>h)
     | rt=>obtain ⟨u,lc,h2,h3⟩:=hq;exact hgo h2 h3 (by decide) (fun n h=>by cases h) (fun _ h=>⟨u,h⟩)
   | _=>exact q.elim
def ab3 (sm:Sm)(s:Sg)(x:jI):Option (Pn (Option Int) × Sg):=(EJ sm s x.e).bind fun (p,s)=>match p with
 | .uP v=>match ix? s.a.ws x.g with
  | none=>some (.rt,s)
  | some []=>some (.rt,s)
  | some (_ :: r)=>EJ sm { s with a:={ s.a with ws:=s.a.ws.set x.g.toNat (v :: r) } } x.h
 | p=>some (p,s)
theorem aan:jH prog 97:=⟨_,func97,by kernel_rfl,by kernel_rfl⟩
def CTr (R:Rn)(sm:List qx->Sm):Prop:=∀ {w:World}{A:Nat->Prop}{m:BX}{ptrs:List Nat}{x:vV}{s s':Sg}{xs:List vV}{gs:List qx}{y:jI}{a7:Option Addr}{c7:Nat}{a10:Option Addr}{c10:Nat}{a11:Option Addr}{c11:Nat}{a12:Option Addr}{c12:Nat}{p:Pn (Option Int)},Tj w A R m ptrs x s xs gs (dS y a7 c7 a10 c10 a11 c11 a12 c12)->ab3 (sm gs) s y=some (p,s')-> Calls prog 75 #[Pt R.rb,Pt x.b,.agg (cS y a7 c7 a10 c10 a11 c11 a12 c12).toArray] w (RP (fun v w'=>∃ o,p=.ok o/\v=.tuple #[V (o.getD 0),.bool o.isSome]/\Ok w A R m ptrs x s s' w') (Pk p w A R m ptrs x s s'))
theorem Zq {R:Rn}{sm:List qx->Sm}(hL:CLs R sm)(hA:CAt R sm):CTr R sm:=by
 intro w A m ptrs x s s' xs gs y a7 c7 a10 c10 a11 c11 a12 c12 p hR hm;obtain ⟨hP,hl,hB,hp,hn⟩:=hR;have b:=hP.bx;clear hP;unfold Ok Pk;generalize hG:lH (Lj R m ptrs x s)=G at b hl ⊢;refine xZ func75 rfl ?_;refine lG [(0,Pt R.rb),(1,Pt x.b),(2,.agg (cS y a7 c7 a10 c10 a11 c11 a12 c12).toArray)] ⟨rfl,rfl,rfl,trivial⟩ fun av=>?_;unfold ab3 at hm;obtain ⟨⟨q,s1⟩,h1,hm⟩:=bs hm;refine Im (AX ?_);refine su b (uK rfl) fun w1 b5 b=>?_;refine goC b ?_;have hr:Tj w1 (Ei w A (pick _ [1,2,3,4,5] ++ pick _ [0])) R m ptrs x s xs gs [.l a11 c11 y.e]:=⟨b.pr [1,2,3,4,5] [0] [2,4,5,6,7,8,9] rfl,xQ b hl (fun it hi=>wI _ hi),q9 hB b.rM.size,hp,hn⟩;have hc:=hA hr h1;clear hr;refine Nk (l6 aan rfl) hc (fun ch w2 hq=>?_) ?_
 · obtain ⟨hne,hq,more,m4,hK⟩:=hq;have hb:=b.cn [1,2,3,4,5] [0] hK;have hb:=(hb.arr [0,1,2,3,4] rfl).dp [0,1,2,3,4,5];cases q with
   | ok o=>exact hq.elim
   | uP n=>exact (hne n rfl).elim
   | _=>cases hm;exact ⟨hq,more,m4,hb⟩
 clear hc;rintro _ w2 ⟨(⟨o,rfl,rfl⟩|⟨n,rfl,rfl⟩),m4,hK⟩
 · replace b:=b.cn [1,2,3,4,5] [0] hK;replace b:=(b.arr [0,1,2,3,4] rfl).dp [0,1,2,3,4,5];cases hm;refine kr (xw (.tuple #[V (o.getD 0),.bool o.isSome,.bool false]) rfl) ?_;refine go ?_;refine kH ?_;refine ng (fn:=f75) rfl (kL rfl) (kL rfl) ?_;exact ⟨o,rfl,rfl,m4,b⟩
 · replace b:=b.cn [1,2,3,4,5] [0] hK;replace b:=(b.arr [5,0,1,2,3,4] rfl).dp [9,0,1,2,3,4,5];refine kr (xw (.tuple #[V n,.bool false,.bool true]) rfl) ?_;refine go ?_;refine ql (fun u=>nS u b5 122 (cS y a7 c7 a10 c10 a11 c11 a12 c12).toArray) (fun u=>(It.act x s1.a).p u) [10] (by kernel_rfl) ?_;replace b:=b.drew;have m1:nS w2.drew b5 122 (cS y a7 c7 a10 c10 a11 c11 a12 c12).toArray:=b.bk 0 rfl;have m2:(It.act x s1.a).p w2.drew:=b.at 5 rfl;refine pL 0 r (oF r) m1 m2 (pL 1 r (xn r) m1 m2 (pL 2 r (IX r) m1 m2 (tS 11 3 r (fun _ h=>Wn r (It.o9 h) r) (kJ m1 m2) (pL 4 r (Jh r) m1 m2 (tU 5 r (fun _ h=>l3 r h r) (kJ m1 m2) (pL 8 r (Qw r) m1 m2 ?_))))));dsimp only at hm;have hb:=(b.arr [1,2,3,4,5] rfl).dp [1,2,3,4,5,6];cases hv:ix? s1.a.ws y.g with
   | none=>
     rw [hv] at hm;cases hm;refine hO 6 (OT r underlying93 r r (Cz hv) fun u w3 hw f=>⟨⟨u,zo _⟩,[],m4,?_⟩);rw [vJ];rcases hw with rfl | rfl
     · exact hb
     · exact hb.drew
   | some row=>
   rw [hv] at hm;obtain ⟨k,hk,hrow⟩:=RA hv;obtain ⟨r0,hr0,hB0,hA0,hcell⟩:=It.tO m2 hrow;refine tS 11 6 r (fun _ h=>AV k hA0 underlying93 xg r r hk (jU hrow)) (kJ m1 m2) ?_;refine tS 11 7 r (fun _ h=>jV (a:=⟨nE x.A,ow x.A+k * 1,none⟩) underlying22 rfl r (uW h hr0 hrow)) (kJ m1 m2) ?_;cases row with
   | nil=>
     cases hm;refine hO 9 (OT r underlying22 r r (by simp) fun u w3 hw f=>⟨⟨u,zo _⟩,[],m4,?_⟩);rw [vJ];rcases hw with rfl | rfl
     · exact hb
     · exact hb.drew
   | cons z row=>
   refine pL 9 r (xIdx 0 underlying22 ny r r r (by simp)) m1 m2 ?_;refine hO 10 (os r r (CY b 5 rfl hr0 hrow (j:=0) (by simp) r r) fun w3 b=>⟨sy 10 (b.bk 0 rfl),hD ?_⟩);clear hb m1 m2 hB0 hcell;rw [show setW s1.a.ws (k,0) n=s1.a.ws.set y.g.toNat (n :: row) from by rw [hk];simp [setW,Gb,hrow]] at b;refine go ?_;refine goC b ?_;have hr:Tj w3 (Ei w A (pick _ [1,2,3,4,5] ++ pick _ [0])) R m4 ptrs x { s1 with a:={ s1.a with ws:=s1.a.ws.set y.g.toNat (n :: row) } } xs gs [.l a12 c12 y.h]:=⟨b.pr [1,2,3,4,5] [0] [0,1,2,3,4,5,6] rfl,xQ b hl (fun it hi=>wI _ hi),q9 hB b.rM.size,hp,hn⟩;have hc:=hL hr hm;clear hr;refine Nk (l6 Rk rfl) hc (fun ch w4 hq=>?_) ?_
   · obtain ⟨hq,more,m5,hK⟩:=hq;have hb:=b.cn [1,2,3,4,5] [0] hK;exact ⟨hq,more,m5,(hb.arr [0,1,2,3,4] rfl).dp [0,1,2,3,4,5]⟩
   rintro _ w4 ⟨o,rfl,rfl,m5,hK⟩;replace b:=b.cn [1,2,3,4,5] [0] hK;replace b:=(b.arr [0,1,2,3,4] rfl).dp [0,1,2,3,4,5];refine go ?_;refine kH ?_;refine ng (fn:=f75) rfl (kL rfl) (kL rfl) ?_;exact ⟨o,rfl,rfl,m5,b⟩
theorem zi {ev:jA->Option (Pn Int)}{l:List jA}{s s':Sg}{β:Type}{k:Int->Option (Pn β × Sg)}{p:Pn β}(h:one ev l s k=some (p,s')) :∃ q,U1 ev l=some q/\((∃ n,q=.ok n/\k n=some (p,s'))\/((∀ n,q≠.ok n)/\p=q.up/\s'=s)):=by
 unfold one at h;cases l with
 | nil=>cases h;exact ⟨.rt,rfl,.inr ⟨fun n e=>(by cases e),rfl,rfl⟩⟩
 | cons x l=>
  obtain ⟨q,hq,h⟩:=bs h;refine ⟨q,hq,?_⟩;cases q with
  | ok n=>exact .inl ⟨n,rfl,h⟩
  | _=>cases h;exact .inr ⟨fun n e=>(by cases e),rfl,rfl⟩
theorem Fu {ev:jA->Option (Pn Int)}{ws:List (List Int)}{l:List jA}{s s':Sg}{β:Type}{k:Nat × Nat->Option (Pn β × Sg)}{p:Pn β}(h:Kh ev ws l s k=some (p,s')) :∃ q,wdA ev ws l=some q/\((∃ n,q=.ok n/\k n=some (p,s'))\/((∀ n,q≠.ok n)/\p=q.up/\s'=s)):=by
 unfold Kh at h;cases l with
 | nil=>cases h;exact ⟨.rt,rfl,.inr ⟨fun n e=>(by cases e),rfl,rfl⟩⟩
 | cons x l=>
  obtain ⟨q,hq,h⟩:=bs h;refine ⟨q,hq,?_⟩;cases q with
  | ok n=>exact .inl ⟨n,rfl,h⟩
  | _=>cases h;exact .inr ⟨fun n e=>(by cases e),rfl,rfl⟩
theorem RS {f:Fr}{d:Nat}{v:Value}:ev (upd f d v) (.tmp d)=v:=by show upd f d v d=v;unfold upd;rw [Nat.beq_refl];rfl
section
variable {N:Fz}{ops:Array Oper}{K:KK}{rest:List Oper}{f:Fr}{w w0:World}{d1 d2 d3:Nat}{ty ty2 ty3:TypeId}{pos pos2 pos3:String}{af af2 af3:Array Edge}{y z u v:Operand}{Z G:Nat->Prop}{L:List It}{D:List Da}{ts:Array TypeId}
theorem bor {w1:World}(b:Bx w0 w Z G L D)(h:w1=w\/w1=w.drew):Bx w0 w1 Z G L D:=by
 rcases h with rfl | rfl
 · exact b
 · exact b.drew
theorem eArg {fu:Nat}(b:Bx w0 w Z G L D)(i j:Nat){x:vV}{g:qx}{rb:Nat}{a:Option Addr}{c:Nat}{l:List jA}{q:Pn Int}(hi:L[i]?=some (It.act x g))(hj:D[j]?=some (.l a c l))(hq:U1 (xD fu g.ws) l=some q)(h1:ev f y=.slice a l.length c)(h2:ev f z=V 0)(h3:∀ α β,ev (upd (upd f d1 α) d2 β) u=Pt rb)(h4:∀ α β,ev (upd (upd f d1 α) d2 β) v=Pt x.b)(kp:∀ f ch w',Pb q ch->Bx w0 w' Z G L D->K.p f ch w')(kn:∀ n w' α β,q=.ok n->Bx w0 w' Z G L D->pV prog N ops K rest (upd (upd (upd f d1 α) d2 β) d3 (V n)) w') :pV prog N ops K (⟨some d1,.indexAddr 120 y z,ty,pos,af,none⟩ :: ⟨some d2,.load 135 (.tmp d1),ty2,pos2,af2,none⟩ :: ⟨some d3,.call { callee:=.value (.func 73),args:=#[u,v,.tmp d2],argTypes:=ts },ty3,pos3,af3,none⟩ :: rest) f w:=by
 cases l with
 | nil=>
  cases hq;exact CQ underlying120 h1 h2 (by simp) fun u w2 hw=>kp _ _ _ ⟨u,zo _⟩ (bor b hw)
 | cons e l=>
  refine Ti b j hj (show (e :: l)[0]?=some e from rfl) h1 h2 rfl fun a2 c2 b2=>?_;have hE:=l6 (P:=prog) (ρ:=ev (upd (upd f d1 (.pointer (some ⟨nE a,ow a+0 * 6,none⟩))) d2 (.agg (cE e a2 c2).toArray))) (d:=some d3) (ty:=ty3) (pos:=pos3) (af:=af3) (g:=none) (w:=w) (xs:=[u,v,.tmp d2]) (ts:=ts) Hu rfl;simp only [List.map,h3,h4,RS] at hE;have ha:=b2.at i hi;refine Nk hE (KV fu (b2.pr [] [] [0] rfl) ha hq) (fun ch w2 hp=>kp _ _ _ hp.1 (b.ext hp.2)) ?_;rintro _ w2 ⟨n,rfl,rfl,hx⟩;exact kn n w2 _ _ rfl (b.ext hx)
theorem abt {fu:Nat}(b:Bx w0 w Z G L D)(i j:Nat){x:vV}{g:qx}{rb:Nat}{a:Option Addr}{c:Nat}{l:List jA}{q:Pn (Nat × Nat)}(hi:L[i]?=some (It.act x g))(hj:D[j]?=some (.l a c l))(hq:wdA (xD fu g.ws) g.ws l=some q)(h1:ev f y=.slice a l.length c)(h2:ev f z=V 0)(h3:∀ α β,ev (upd (upd f d1 α) d2 β) u=Pt rb)(h4:∀ α β,ev (upd (upd f d1 α) d2 β) v=Pt x.b)(kp:∀ f ch w',Pb q ch->Bx w0 w' Z G L D->K.p f ch w')(kn:∀ k o r row w' α β,q=.ok (k,o)->x.R[k]?=some r->g.ws[k]?=some row->o < row.length->Bx w0 w' Z G L D->pV prog N ops K rest (upd (upd (upd f d1 α) d2 β) d3 (.pointer (some ⟨r,o,none⟩))) w') :pV prog N ops K (⟨some d1,.indexAddr 120 y z,ty,pos,af,none⟩ :: ⟨some d2,.load 135 (.tmp d1),ty2,pos2,af2,none⟩ :: ⟨some d3,.call { callee:=.value (.func 72),args:=#[u,v,.tmp d2],argTypes:=ts },ty3,pos3,af3,none⟩ :: rest) f w:=by
 cases l with
 | nil=>
  cases hq;exact CQ underlying120 h1 h2 (by simp) fun u w2 hw=>kp _ _ _ ⟨u,zo _⟩ (bor b hw)
 | cons e l=>
  refine Ti b j hj (show (e :: l)[0]?=some e from rfl) h1 h2 rfl fun a2 c2 b2=>?_;have hE:=l6 (P:=prog) (ρ:=ev (upd (upd f d1 (.pointer (some ⟨nE a,ow a+0 * 6,none⟩))) d2 (.agg (cE e a2 c2).toArray))) (d:=some d3) (ty:=ty3) (pos:=pos3) (af:=af3) (g:=none) (w:=w) (xs:=[u,v,.tmp d2]) (ts:=ts) X7 rfl;simp only [List.map,h3,h4,RS] at hE;have ha:=b2.at i hi;refine Nk hE (abv fu (b2.pr [] [] [0] rfl) ha hq) (fun ch w2 hp=>kp _ _ _ hp.1 (b.ext hp.2)) ?_;rintro _ w2 ⟨k,o,r,row,rfl,hr,hrow,ho,rfl,hx⟩;exact kn k o r row w2 _ _ rfl hr hrow ho (b.ext hx)
theorem Zh {ρ:Operand->Value}{d:Option Nat}{gd:Option (Nat × Bool)}(hL:Bx w0 w Z G L D)(i:Nat){x:vV}{g:qx}{k r:Nat}{l:List Int}(hi:L[i]?=some (It.act x g))(hr:x.R[k]?=some r)(hk:g.ws[k]?=some l)(hy:ρ y=.slice (some ⟨r,0,none⟩) l.length l.length) :To prog ρ ⟨d,.call { callee:=.builtin .clear,args:=#[y],argTypes:=#[22] },ty,pos,af,gd⟩ w fun _ w'=>Bx w0 w' Z G (L.set i (It.act x { g with ws:=g.ws.set k (List.replicate l.length 0) })) D:=by
 have h:=hL.at i hi;obtain ⟨r',hr',hB,_⟩:=It.tO h hk;rw [hr] at hr';obtain rfl:=vK hr';cases l with
 | nil=>
  refine ⟨.tuple #[],w,?_,?_⟩
  · simp [execOp,resolve,invoke,builtin,Builtin.clear_,run_underlying underlying22,hy]
  · have e:(g.ws.set k (List.replicate ([]:List Int).length 0))=g.ws:=set_self hk;rw [e];have e2:L.set i (It.act x { g with ws:=g.ws })=L:=set_self hi;rw [e2];exact hL
 | cons n l=>
  obtain ⟨q,hi1,hi2,hi3,hi4⟩:=ny;have hz:(Builtin.zeroCells (V 0).cells (n :: l).length).toList=List.replicate (n :: l).length (V 0):=by refine List.eq_replicate_iff.2 ⟨by simp [Builtin.zeroCells,Value.cells],fun v hv=>?_⟩;simp only [Builtin.zeroCells,Array.toList_map,List.mem_map] at hv;obtain ⟨i,_,rfl⟩:=hv;rw [show i % (V 0).cells.size=0 from Nat.mod_one i];rfl
  have hst:=run_storeCells_at (P:=prog) r 0 3 (List.replicate (n :: l).length (V 0)) 0 _ w hB (by simp) (fun v hv=>by rw [List.eq_of_mem_replicate hv];rfl);have e:((((n :: l).map V).toArray.toList.take (0+0)) ++ List.replicate (n :: l).length (V 0) ++ ((n :: l).map V).toArray.toList.drop (0+0+(List.replicate (n :: l).length (V 0)).length)).toArray=((List.replicate (n :: l).length (0:Int)).map V).toArray:=by
    congr 1
    simp
  rw [e] at hst;refine ⟨.tuple #[],_,?_,QA hL i hi (.inr (.inr (wC hr))) _ (Jm h hr hk (by simp))⟩;have hzv:(zeroValue 3).run prog w=.ok (V 0) w:=by simp [zeroValue,typeInfo,hi1,hi2]
  simp only [tT] at hy hz hst ⊢;simp [execOp,resolve,invoke,builtin,Builtin.clear_,run_underlying underlying22,hy,hzv,hz,hst]
end
section
variable {N:Fz}{ops:Array Oper}{K:KK}{rest:List Oper}{f:Fr}{w w1:World}{d:Nat}{ty:TypeId}{pos:String}{af:Array Edge}{u1 u2 u3:Operand}{A G:Nat→Prop}{ts:Array TypeId}
 {R:Rn} {m:BX} {ptrs:List Nat} {x:vV} {s s':Sg} {xs:List vV} {gs:List qx} {y:jI} {a7:Option Addr} {c7:Nat} {a10:Option Addr} {c10:Nat} {a11:Option Addr} {c11:Nat} {a12:Option Addr} {c12:Nat} {b5:Nat} {cs:Array Value}
theorem Zf {sm:List qx->Sm}(hS:CLs R sm)(b:Bx w w1 A G (.box b5 122 cs :: Lj R m ptrs x s) (dS y a7 c7 a10 c10 a11 c11 a12 c12 ++ oV R m s.hist s.out))(hl:Qn w G xs gs)(hB:R.B<=w.heap.size)(hp:ptrs=(xs.map (·.b)).reverse ++ [x.b])(hn:ptrs.length<=20)(j:Nat){a:Option Addr}{c:Nat}{l:List jI}{p:Pn (Option Int)}(hm:EJ (sm gs) s l=some (p,s'))(hD:pick (dS y a7 c7 a10 c10 a11 c11 a12 c12 ++ oV R m s.hist s.out) [j,4,5,6,7,8,9]=[.l a c l] ++ oV R m s.hist s.out)(h1:ev f u1=Pt R.rb)(h2:ev f u2=Pt x.b)(h3:ev f u3=.slice a l.length c)(kp:∀ f ch w' m' more,Pb p ch->Bx w w' A G (Mac R m' (ptrs ++ more) s'.hist s'.out ++ [It.act x s'.a]) (oV R m' s'.hist s'.out)->K.p f ch w')(kn:∀ o w' m',p=.ok o->Bx w w' A G (.box b5 122 cs :: Lj R m' ptrs x s') (dS y a7 c7 a10 c10 a11 c11 a12 c12 ++ oV R m' s'.hist s'.out)->pV prog N ops K rest (upd f d (.tuple #[V (o.getD 0),.bool o.isSome])) w') :pV prog N ops K (⟨some d,.call { callee:=.value (.func 30),args:=#[u1,u2,u3],argTypes:=ts },ty,pos,af,none⟩ :: rest) f w1:=by
 have hE:=l6 (P:=prog) (ρ:=ev f) (d:=some d) (ty:=ty) (pos:=pos) (af:=af) (g:=none) (w:=w1) (xs:=[u1,u2,u3]) (ts:=ts) Rk rfl;simp only [List.map,h1,h2,h3] at hE;have hr:Tj w1 (Ei w A (pick _ [1,2,3,4,5] ++ pick _ [0])) R m ptrs x s xs gs [.l a c l]:=⟨by have:=b.pr [1,2,3,4,5] [0] [j,4,5,6,7,8,9] rfl;rw [hD] at this;exact this,xQ b hl (fun it hi=>wI _ hi),q9 hB b.rM.size,hp,hn⟩;have hc:=hS hr hm;clear hr;refine Nk hE hc (fun ch w4 hq=>?_) ?_
 · obtain ⟨hq,more,m5,hK⟩:=hq;have hb:=b.cn [1,2,3,4,5] [0] hK;exact kp _ _ _ m5 more hq ((hb.arr [0,1,2,3,4] rfl).dp [0,1,2,3,4,5])
 rintro _ w4 ⟨o,rfl,rfl,m5,hK⟩;replace b:=b.cn [1,2,3,4,5] [0] hK;exact kn o w4 m5 rfl ((b.arr [5,0,1,2,3,4] rfl).dp [6,7,8,9,0,1,2,3,4,5])
theorem aaC:jH prog 71:=⟨_,func71,by kernel_rfl,by kernel_rfl⟩
theorem abX {fv:Nat}(hR:PI R)(b:Bx w w1 A G (.box b5 122 cs :: Lj R m ptrs x s) (dS y a7 c7 a10 c10 a11 c11 a12 c12 ++ oV R m s.hist s.out))(hl:Qn w G xs gs)(hB:R.B<=w.heap.size)(hp:ptrs=(xs.map (·.b)).reverse ++ [x.b])(hn:ptrs.length<=20){id:Int}{p:Pn Unit}(hm:event (jD fv R.src) R.st gs s id=some (p,s'))(h1:ev f u1=Pt R.rb)(h2:ev f u2=Pt x.b)(h3:ev f u3=V id)(kp:∀ f ch w' m',Pb p ch->Bx w w' A G (Mac R m' ptrs s'.hist s'.out ++ [It.act x s'.a]) (oV R m' s'.hist s'.out)->K.p f ch w')(kn:∀ w' m',p=.ok ()->Bx w w' A G (.box b5 122 cs :: Lj R m' ptrs x s') (dS y a7 c7 a10 c10 a11 c11 a12 c12 ++ oV R m' s'.hist s'.out)->pV prog N ops K rest (upd f d (.tuple #[])) w') :pV prog N ops K (⟨some d,.call { callee:=.value (.func 71),args:=#[u1,u2,u3],argTypes:=ts },ty,pos,af,none⟩ :: rest) f w1:=by
 have hE:=l6 (P:=prog) (ρ:=ev f) (d:=some d) (ty:=ty) (pos:=pos) (af:=af) (g:=none) (w:=w1) (xs:=[u1,u2,u3]) (ts:=ts) aaC rfl;simp only [List.map,h1,h2,h3] at hE;have hc:=TB (b.pr [1,2,3,4,5] [0] [4,5,6,7,8,9] rfl) (xQ b hl (fun it hi=>wI _ hi)) (q9 hB b.rM.size) hp hn hR.st hR.mo hm;refine Nk hE hc (fun ch w4 hq=>?_) ?_
 · obtain ⟨hq,m5,hK⟩:=hq;have hb:=b.cn [1,2,3,4,5] [0] hK;exact kp _ _ _ m5 hq ((hb.arr [0,1,2,3,4] rfl).dp [0,1,2,3,4,5])
 rintro _ w4 ⟨rfl,⟨⟨⟩,rfl⟩,m5,hK⟩;replace b:=b.cn [1,2,3,4,5] [0] hK;exact kn w4 m5 rfl ((b.arr [5,0,1,2,3,4] rfl).dp [6,7,8,9,0,1,2,3,4,5])
end
theorem UW:jH prog 20:=⟨_,func20,by kernel_rfl,by kernel_rfl⟩
theorem acK:jH prog 75:=⟨_,func75,by kernel_rfl,by kernel_rfl⟩
theorem RP.mono {P:Program}{g:FuncId}{args:Array Value}{w:World}{R R':Value->World->Prop}{V V':List PanicEntry->World->Prop}(h:Calls P g args w (RP R V))(k:∀ v w,R v w->R' v w)(kv:∀ c w,V c w->V' c w):Calls P g args w (RP R' V'):=
 h.mono fun e w he=>by
  cases e with
  | returned v=>exact k v w he
  | panicked c=>exact kv c w he
  | outgrown=>exact he
section
variable {w w1:World}{A G:Nat->Prop}{R:Rn}{m:BX}{ptrs:List Nat}{x:vV}{s s':Sg}{xs:List vV}{gs:List qx}{b5:Nat}{cs:Array Value}{D:List Da}
theorem cVal {fu:Nat}{p:Pn (List Int)}{l:List jA}{a:Option Addr}{c:Nat}(b:Bx w w1 A G (.box b5 122 cs :: Lj R m ptrs x s) D)(j:Nat)(hj:pick D [j]=[.l a c l])(hm:zq (xD fu s.a.ws) l []=some p) :Calls prog 74 #[Pt R.rb,Pt x.b,.slice a l.length c] w1 (RP (fun v w'=>∃ ns A1 c1,p=.ok ns/\v=.slice A1 ns.length c1/\Bx w w' A G (.box b5 122 cs :: Lj R m ptrs x s) (.l A1 c1 ns :: D)) (fun ch w'=>Pb p ch/\Bx w w' A G (.box b5 122 cs :: Lj R m ptrs x s) D)):=by have hP:=b.pr [] [0,1,2,3,4,5] [j] rfl;rw [hj] at hP;refine RP.mono (aa7 fu hP (b.at 5 rfl) hm) (fun v w' hq=>?_) fun ch w' hq=>⟨hq.1,b.ext hq.2⟩;obtain ⟨ns,A1,c1,h1,h2,hK⟩:=hq;exact ⟨ns,A1,c1,h1,h2,b.cn [] [0,1,2,3,4,5] hK⟩
theorem aae {sm:List qx->Sm}(hC:CCl R sm){p:Pn Int}{f:Int}{args:List Int}{h:List kC}{o:List Int}{a:Option Addr}{c:Nat}{y:jI}{a7:Option Addr}{c7:Nat}{a10:Option Addr}{c10:Nat}{a11:Option Addr}{c11:Nat}{a12:Option Addr}{c12:Nat}(b:Bx w w1 A G (.box b5 122 cs :: Lj R m ptrs x s) (.l a c args :: (dS y a7 c7 a10 c10 a11 c11 a12 c12 ++ oV R m s.hist s.out)))(hl:Qn w G xs gs)(hB:R.B<=w.heap.size)(hp:ptrs=(xs.map (·.b)).reverse ++ [x.b])(hn:ptrs.length<=20)(hm:AB sm R.src (s.a :: gs) f args s.hist s.out=some (p,h,o)) :Calls prog 20 #[Pt R.rb,V f,.slice a args.length c] w1 (RP (fun v w'=>∃ n m',p=.ok n/\v=V n/\Bx w w' A G (.box b5 122 cs :: Lj R m' ptrs x ⟨s.a,h,o⟩) (dS y a7 c7 a10 c10 a11 c11 a12 c12 ++ oV R m' h o)) (fun ch w'=>Pb p ch/\∃ more m',Bx w w' A G (Mac R m' (ptrs ++ more) h o ++ [It.act x s.a]) (oV R m' h o))):=by
 have hP:=b.pr [1,2,3,4] [0,5] [0,5,6,7,8,9,10] rfl;have hl1:Qn w1 (lH (Mac R m ptrs s.hist s.out)) (x :: xs) (s.a :: gs):=by refine ⟨⟨b.at 5 rfl,fun k hF ⟨it,hi,hk⟩=>?_⟩,xQ b hl fun it hi=>wI _ (List.mem_append_left _ hi)⟩;obtain ⟨i,hi⟩:=Ik hi;have hlt:=jU hi;have h4:i < 4:=hlt;refine b.apart (i:=5) (j:=i+1) (by omega) (x:=It.act x s.a) (y:=it) rfl ?_ k hF hk;rw [List.getElem?_cons_succ,GI hlt];exact hi
 refine RP.mono (hC hP hl1 (q9 hB b.rM.size) (by rw [hp,List.map_cons,List.reverse_cons]) hn hm) (fun v w' hq=>?_) fun ch w' hq=>?_
 · obtain ⟨n,h1,h2,m',hK⟩:=hq;have hb:=b.cn [1,2,3,4] [0,5] hK;exact ⟨n,m',h1,h2,(hb.arr [4,0,1,2,3,5] rfl).dp [7,8,9,10,0,1,2,3,4,5]⟩
 · obtain ⟨h1,more,m',hK⟩:=hq;have hb:=b.cn [1,2,3,4] [0,5] hK;exact ⟨h1,more,m',(hb.arr [0,1,2,3,5] rfl).dp [0,1,2,3,4,5]⟩
end
end Go.Proofs.YtfglbdkfnphjgaaGreat
