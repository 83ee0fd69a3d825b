/- The lowering's function that makes a label. -/
import Derived.Test.YtdkneekpdecjbaaGreatZ15
set_option linter.unusedVariables false
set_option maxRecDepth 4000
set_option maxHeartbeats 12800000
namespace Go.Proofs.YtdkneekpdecjbaaGreat
open Go.RowKit Go.Fw Go.Proofs.Tryz
theorem UD {t:Nat}(h:t < 9223372036854775807):wr ((t:Int)+1)=((t+1:Nat):Int):=by unfold wr;rw [Uo (by omega) (by omega)];omega
abbrev cV (x:iA):List Value:=[T x.c,V x.b,V x.e,V x.a,.bool x.g,V x.f,V x.d]
def parts (v:Int)(j:Nat):List Pc:=(List.range j).map fun i=>(v,((i:Nat):Int))
theorem Uy {v:Int}{j:Nat}:(parts v j).length=j:=by simp [parts]
theorem QY {v:Int}{j:Nat}:parts v (j+1)=parts v j ++ [(v,(j:Int))]:=by simp [parts,List.range_succ]
theorem aac {ρ:Operand->Value}{w:World}{d:Option Nat}{ty:TypeId}{pos:String}{af:Array Edge}{g:Option (Nat × Bool)}{x:Operand}{p:Pc}(h:ρ x=.agg (cP p).toArray):(execOp ρ ⟨d,.buildSlice 168 1 #[(0,x)],ty,pos,af,g⟩).run prog w=.ok (.value (.slice (some ⟨w.heap.size,0,none⟩) 1 1)) (w.alloc (.cells (cP p).toArray 172)):=by
 have e:(Instr.buildSlice 168 1 #[(0,.agg (cP p).toArray)]).run prog w=.ok (.slice (some ⟨w.heap.size,0,none⟩) 1 1) (w.alloc (.cells (cP p).toArray 172)):=by kernel_rfl
 simp [execOp,h,e]
theorem QU {N:Fz}{ops:Array Oper}{S1 S:World->Prop}{T:List Nat}{K:KK}{n:Nat}{L:Array Bool}{f:Fr}{w:World}(i j:Nat)(hr:Region.ready .any ops L=[i,j])(h1:BD prog N ops S1 S T K n L f w i)(h2:BD prog N ops S1 S T K n L f w j):oh prog N ops S1 S T K (n+1) L f w:=
 mP i [j] hr fun k hk=>by
  rcases qg.1 hk with rfl | hk
  · exact h1
  · rw [List.mem_singleton.1 hk];exact h2
theorem HZ {R:Rn}{fv:Nat}{stmt:Int}:Ch R (fun _=>True) 35 #[Pt R.lb,V stmt] (rU (jS fv R.src) R.src.c stmt) VL []:=by
 refine pY fun w Z G m s q b hZ _ hB hm=>?_;obtain ⟨vl,hvl,hm⟩:=bs hm;obtain ⟨rp,hrp,hm⟩:=bs hm;refine kX func35 rfl ?_;refine lH [(0,Pt R.lb),(1,V stmt)] ⟨rfl,rfl,trivial⟩ fun av=>?_;refine jW b ?_;refine kQ (DC (v:=.agg #[V (-1),sn]) rfl (by kernel_rfl)) ?_;refine Ej b (uV rfl) fun w1 b11 b=>?_;refine jW b ?_;refine Fg b [] fun b=>?_;refine Bj b ?_;refine wQ 3 rfl ?_;refine dU (fun hu=>lu [.slice R.a.a1 R.src.a.a.length R.a.c1,.slice R.a.a2 R.src.a.b.length R.a.c2,.slice R.a.a3 R.src.c.length R.a.c3,.slice R.a.a4 R.src.b.length R.a.c4] underlying30 zB rfl (hu.bk 0 rfl)) (jI kI b) ?_;refine Bj b ?_;refine hO 9 (oc rfl rfl (jM ab2 rfl) (Gh fv (b.pr [] [0,1,2,3,4,5,6,7,8,9] [6,7,8,9] rfl) hvl) ?_);rintro _ w2 ⟨A1,c1,cs1,rfl,hK⟩;have b2:=b.cn [] [0,1,2,3,4,5,6,7,8,9] hK;have b3:Bx w w2 Z G (Low R m s ++ ([] ++ [.box b11 170 #[V (-1),sn]])) (kK R m s ++ []):=b2.ad [1,2,3,4,5,6,7,8,9,10] [1,2,3,4,5,6,7,8,9,10];refine ⟨jI kI b3,?_⟩;refine Bj b3 ?_;refine hD ?_;have hbd:vl.length<=9223372036854775807:=by rw [<-(b2.de 0 rfl).len];have:=(b2.bo 0 rfl).cap;have h2:cs1.length<=maxLen:=rT this.1 this.2;simp only [maxLen] at h2;omega
 replace b:=(b2.KN hZ 0 0 rfl rfl).FD Pc 172;have b:Bx w w2 Z G (Low R m s ++ [.box b11 170 #[V (-1),.slice none ([]:List Pc).length 0],.own w.heap.size none 0 172 (Rp.sz Pc) []]) (kK R m s ++ [.l A1 c1 vl,.els [] ([]:List Pc)]):=b.ad [1,2,3,4,5,6,7,8,9,10,0] [2,3,4,5,6,7,8,9,10,11,1,0];refine jW b ?_
 refine kG (fun aw f w'=>∃ (t:Nat)(acc:List Pc)(a1:Option Addr)(c2:Nat)(cs:List (List Value)),aw=vl.length - t∧t≤vl.length∧Has f [(0,Pt R.lb),(5,Pt b11),(21,.slice A1 vl.length c1),(22,V (vl.length:Int)),(23,V (t:Int))]∧
     Bx w w' Z G (Low R m s ++ [.box b11 170 #[V (-1),.slice a1 acc.length c2],.own w.heap.size a1 c2 172 (Rp.sz Pc) cs]) (kK R m s ++ [.l A1 c1 vl,.els cs acc])/\LZ (ix? R.src.c s.f) (vl.drop t) acc=some rp)
   vl.length ⟨0,[],none,0,[],rfl,uW _,⟨rfl,rfl,rfl,rfl,rfl,trivial⟩,b,hrp⟩ ?_
 clear b b2 b3 hK hrp;rintro aw f w3 ⟨t,acc,a1,c2,cs,rfl,ht,hf,b,hrp⟩ J hJ;obtain ⟨av,rfl⟩:=kZ _ _ hf;clear hf;refine jW b ?_;refine rZ rfl (fun h=>?_) (fun h=>?_)
 · obtain ⟨v,hv⟩:=mI (l:=vl) (k:=t) (by omega);rw [l5 hv,LZ] at hrp;refine jW b ?_;refine kQ (lg underlying22 oJ rfl rfl rfl (b.dl 10 rfl) hv) (kQ (ku underlying3 rfl rfl ((uY (ds:=[V v]) (b.dl 10 rfl) hv (fun _ h=>h)) 0 _ rfl)) ?_);refine jW b ?_;cases hvs:ix? R.src.c s.f with
   | none=>
     rw [hvs] at hrp;cases hrp;cases hm;refine Fg b [15] fun b=>?_;refine Bj b ?_;refine QU 9 14 (by kernel_rfl) (wK rfl underlying27 rfl rfl (qO hvs) fun u w' hw _=>?_) (oo rfl rfl (qV b (jP wz)) ?_)
     · exact prt b u w' hw
     rintro _ w4 ⟨b8,rfl,b⟩;refine ⟨jI kI b.tl,hO 9 (wK rfl underlying27 rfl rfl (qO hvs) fun u w' hw _=>?_)⟩;exact prt b u w' hw
   | some vs=>
   rw [hvs] at hrp;obtain ⟨kf,hkf,hvk⟩:=Wp hvs;obtain ⟨cs0,hr0,b⟩:=b.nm 8 rfl hvk;obtain ⟨a5,c5,rfl,hv5⟩:=hr0;replace b:=b.jX (d:=.l a5 c5 vs) hv5;refine Fg b [15] fun b=>?_;refine Bj b ?_;refine wQ 9 rfl ?_;refine dP (lg underlying27 F8 rfl rfl hkf (b.dl 10 rfl) hvk) (jI kI b) ?_;refine wQ 10 rfl ?_;refine dU (fun hu=>ku underlying53 rfl rfl ((hu.dc 1 rfl) 0 _ rfl)) (jI kI b) ?_;cases hx:ix? vs v with
   | none=>
     rw [Option.bind_some,hx] at hrp;cases hrp;cases hm;refine QU 12 14 (by kernel_rfl) (wK rfl underlying53 rfl rfl (qO hx) fun u w' hw _=>?_) (oo rfl rfl (qV b (jP wz)) ?_)
     · exact prt b u w' hw
     rintro _ w4 ⟨b8,rfl,b⟩;refine ⟨jI kI b.tl,hO 12 (wK rfl underlying53 rfl rfl (qO hx) fun u w' hw _=>?_)⟩;exact prt b u w' hw
   | some x=>
   rw [Option.bind_some,hx] at hrp;obtain ⟨kx,hkx,hxk⟩:=Wp hx;refine wQ 12 rfl ?_;refine dP (lg underlying53 wz rfl rfl hkx (b.dl 0 rfl) hxk) (jI kI b) ?_;refine wQ 13 rfl ?_;refine dU (fun hu=>nO (cV x) underlying55 rfl wz rfl rfl (uY (hu.dl 0 rfl) hxk (fun _ h=>h))) (jI kI b) ?_;refine hO 14 (oo rfl rfl (qV b (jP wz)) ?_);rintro _ w4 ⟨b8,rfl,b⟩;refine ⟨jI kI b.tl,hO 15 (os rfl rfl (mM b 0 (cV x) rfl wz rfl rfl) fun w5 b=>⟨sy 15 kI,hD ?_⟩)⟩;have b:Bx w w5 Z G (Low R m s ++ [.box b11 170 #[V (-1),.slice a1 acc.length c2],.own w.heap.size a1 c2 172 (Rp.sz Pc) cs,.box b8 55 (cV x).toArray]) (kK R m s ++ [.l A1 c1 vl,.els cs acc]):=b.ad [1,2,3,4,5,6,7,8,9,10,11,0] [2,3,4,5,6,7,8,9,10,11,12,13];refine jW b ?_;refine rZ rfl (fun hk=>?_) (fun hk=>?_)
   · dsimp only at hrp;rw [lX hk] at hrp;refine uL ?_;refine jW b ?_;exact hJ (vl.length - (t+1)) _ _ (by omega) ⟨t+1,acc,a1,c2,cs,rfl,by omega,⟨rfl,rfl,rfl,rfl,congrArg V (UD (by omega)),trivial⟩,lY b [0,1] [0,1],by rw [hvs];exact hrp⟩
   · dsimp only at hrp;rw [lW hk] at hrp;obtain ⟨acc2,hacc,hrp⟩:=bs hrp;obtain ⟨hcap,rfl⟩:=wm hacc;have hcap:acc.length+x.a.toNat<=1000000000:=by simpa using hcap
     refine jW b ?_
     refine kG (fun aw f w'=>∃ (j:Nat)(a1:Option Addr)(c2:Nat)(cs:List (List Value)),aw=x.a.toNat - j∧j≤x.a.toNat∧Has f [(0,Pt R.lb),(5,Pt b11),(7,V v),(21,.slice A1 vl.length c1),(22,V (vl.length:Int)),(23,V (t:Int)),(45,V x.a),(46,V (j:Int))]∧
        Bx w w' Z G (Low R m s ++ [.box b11 170 #[V (-1),.slice a1 (acc ++ parts v j).length c2],.own w.heap.size a1 c2 172 (Rp.sz Pc) cs]) (kK R m s ++ [.l A1 c1 vl,.els cs (acc ++ parts v j)]))
       x.a.toNat ⟨0,a1,c2,cs,rfl,uW _,⟨rfl,rfl,rfl,rfl,rfl,rfl,rfl,rfl,trivial⟩,by rw [show parts v 0=[] from rfl,FU];exact lY b [0,1] [0,1]⟩ ?_
     clear b;rintro aw f w6 ⟨j,a1,c2,cs,rfl,hj,hf,b⟩ J2 hJ2;obtain ⟨av2,rfl⟩:=kZ _ _ hf;clear hf;refine jW b ?_;refine rZ rfl (fun hlt=>?_) (fun hlt=>?_)
     · have happ:app (acc ++ parts v j) [((v,(j:Int)):Pc)]=some (acc ++ parts v (j+1)):=by unfold app;rw [lX (by simp [Uy];omega),QY,H9]
       refine jW b ?_;refine kQ (DC (v:=.agg (cP (v,(j:Int))).toArray) rfl (by kernel_rfl)) ?_;refine p8 (jJ b [cP (v,(j:Int))] ([(v,(j:Int))]:List Pc) (aac rfl) rfl rfl (by decide) ⟨rfl,trivial⟩) ?_;rintro _ w7 ⟨b12,rfl,b⟩;refine p8 (ko (α:=Pc) b 11 12 rfl rfl underlying168 AU rfl (by decide) (by decide) (ng _) rfl rfl (b.Bc 0 0 rfl rfl) happ) ?_;rintro _ w8 ⟨A3,c3,cs3,rfl,b⟩;refine jW b ?_;refine kY (t_n b 10 [.slice A3 (acc ++ parts v (j+1)).length c3] rfl acO rfl rfl) fun w9 b=>?_;refine jW b ?_;exact hJ2 (x.a.toNat - (j+1)) _ _ (by omega) ⟨j+1,A3,c3,cs3,rfl,by omega,⟨rfl,rfl,rfl,rfl,rfl,rfl,rfl,congrArg V (UD (by omega)),trivial⟩,b.ad [1,2,3,4,5,6,7,8,9,10,11] [1,2,3,4,5,6,7,8,9,10,11,12]⟩
     · obtain rfl:j=x.a.toNat:=by omega
       refine jW b ?_;refine uL ?_;refine jW b ?_;exact hJ (vl.length - (t+1)) _ _ (by omega) ⟨t+1,acc ++ parts v x.a.toNat,a1,c2,cs,rfl,by omega,⟨rfl,rfl,rfl,rfl,congrArg V (UD (by omega)),trivial⟩,b,by rw [hvs];exact hrp⟩
 · obtain rfl:t=vl.length:=by omega
   rw [lV,LZ] at hrp;cases hrp;cases hm;refine jW b ?_;refine uL ?_;refine jW b ?_;refine lT ?_;have hlh:m.lh.length=s.labs.length:=by rw [(b.de 4 rfl).len,Df]
   have hbs:m.bs.length=s.labs.length:=by rw [(b.at 8 rfl).1.len,Bw hlh]
   replace b:=b.KN hZ 10 11 rfl rfl;have hE:=(b.de 5 rfl).app (ds:=[[.slice a1 acc.length c2]]) (m:=[acc]) ⟨⟨a1,c2,rfl,b.dl 0 rfl⟩,trivial⟩;replace b:=b.Jp 5 (d:=.els _ _) hE;have hQ:Da.ok (.wp (.l m.cA m.cC s.ctxs) (HP m.hp m.bs s.hnd)) _ _:=b.d 6 rfl;have hq2:HP m.hp (m.bs ++ [b11]) s.hnd:=⟨hQ.2.1,fun k i hk=>by obtain ⟨x,h1,h2⟩:=hQ.2.2 k i hk;exact ⟨x,h1,tO ⟨[b11],rfl⟩ h2⟩⟩;replace b:=b.Jp 6 (d:=.wp (.l m.cA m.cC s.ctxs) (HP m.hp (m.bs ++ [b11]) s.hnd)) ⟨hQ.1,hq2⟩;replace b:=b.Yy 8 9 (c:=[V (-1),.slice a1 acc.length c2]) (by decide) rfl rfl;refine jL rfl (nD rfl) ⟨_,_,{ m with bs:=m.bs ++ [b11],lh:=m.lh ++ [[.slice a1 acc.length c2]] },[],rfl,⟨⟨b11,?_,rfl⟩,rfl⟩,⟨[b11],rfl⟩,?_⟩
   · show (m.bs ++ [b11])[s.labs.length]?=_;rw [<-hbs];simp
   · have e1:sS (s.labs ++ [((-1:Int),acc)]) (m.lh ++ [[.slice a1 acc.length c2]])=sS s.labs m.lh ++ [[V (-1),.slice a1 acc.length c2]]:=(JN hlh).symm;have e2:(s.labs ++ [((-1:Int),acc)]).map (·.2)=s.labs.map (·.2) ++ [acc]:=by simp
     simp only [Low,kK,DI,e1,e2,E8];exact b.ad [0,1,2,3,4,5,6,7,8] [1,2,3,4,5,6,7,8,9,10]
theorem IX:jC prog 148:=⟨_,func148,by kernel_rfl,by kernel_rfl⟩
theorem Zi:jC prog 36:=⟨_,func36,by kernel_rfl,by kernel_rfl⟩
theorem Bu {w:World}:Calls prog 148 #[] w (tN fun v w'=>v=.agg #[V (-1),sn]/\Ext w w'):=by refine cf func148 rfl ?_;have b:Bx w w (fun _=>True) (mV []) [] []:=Pre.bx ⟨fun _ h=>(by cases h),fun _ h=>(by cases h),List.Pairwise.nil,fun _ h=>(by cases h)⟩;refine go ?_;refine tq b (jP rR) fun w1 b0 b=>?_;refine go ?_;refine kQ (DC (v:=.agg #[V (-1),sn]) rfl (by kernel_rfl)) ?_;refine kY (mM b 0 [V (-1),sn] rfl rR rfl rfl) fun w2 b=>?_;refine go ?_;refine lT ?_;exact jL rfl (ug rfl underlying64 rfl rR rfl (b.bk 0 rfl)) ⟨rfl,(b.ad [] []).ex⟩
theorem acg {ρ:Operand->Value}{w:World}{d:Option Nat}{ty:TypeId}{pos:String}{af:Array Edge}{g:Option (Nat × Bool)}{x y:Operand}{vb:Option Nat}{vals:Option (List (Pc × Int))}{l:List (Pc × Int)}{p:Pc}(h:(It.Nn ekP VR vb vals).p w)(hl:vals=some l)(hx:ρ x=.map vb)(hy:ρ y=.agg (cP p).toArray):Yl prog ρ (.lookup 87 x y false) d ty pos af g w (V ((q9 l p).getD 0)):=by obtain ⟨q,rfl,hm⟩:=MX (i:=none) h hl;exact WE (z:=0) (ev:=VR) (k:=p) underlying87 fkP (Zm oJ) hm hx hy
def LRo (R:Rn)(m:zk)(w0:World)(Z G:Nat->Prop)(p:Lo uD):Ending->World->Prop:=RP (fun v w'=>∃ e s' m' A c cs,p=.ok e s'/\v=.agg #[V e.b,.slice A e.a.length c]/\(∃ t,m'.bs=m.bs ++ t)/\Bx w0 w' Z G (Low R m' s' ++ [.own w0.heap.size A c 3 (Rp.sz Int) cs]) (.els cs e.a :: kK R m' s')) (fun ch w'=>Pb p ch/\Bx w0 w' Z G [] [])
theorem P6 {R:Rn}{i c:Nat}{a:Option Addr}{cc:Nat}{first:List Int}{w:World}{Z G:Nat->Prop}{m0:zk}{s0:Lw}{q:Lo uD}(b:Bx w w Z G (Low R m0 s0 ++ []) (kK R m0 s0 ++ [.l a cc first]))(hZ:∀ b,G b->Z b)(hH:m0.bs[i]?=some c)(hB:R.B<=w.heap.size)(hm:xR i first s0=some q) :Calls prog 142 #[Pt R.lb,Pt c,.slice a first.length cc] w (LRo R m0 w Z G q):=by
 refine kX func142 rfl ?_;refine lH [(0,Pt R.lb),(1,Pt c),(2,.slice a first.length cc)] ⟨rfl,rfl,rfl,trivial⟩ fun av=>?_;refine GD (xW ?_);refine Ej b (jP rR) fun w1 b6 b=>?_;refine jW b ?_;have b:Bx w w1 Z G (Low R m0 s0 ++ [.box b6 64 #[V 0,sn]]) (kK R m0 s0 ++ [.l a cc first]):=b;refine uR (Ml (i:=i) (c:=c)) (jM Zi rfl) b hZ hB hH hm fun s m w2 hm hbs b=>?_;have hH:=tO hbs hH;obtain ⟨t,ht,hm⟩:=bs hm;obtain ⟨l,hl,hm⟩:=bs hm;obtain ⟨args,hargs,hm⟩:=bs hm;cases hm;obtain ⟨hcap,rfl⟩:=wm hargs;obtain ⟨hl1,h,h2,h3,h5,h7⟩:=Dv b 8 4 rfl rfl hH ht;obtain ⟨A1,c1,rfl,hps⟩:=h7;replace b:=b.jX (d:=.l A1 c1 t.2) hps;have b:Bx w w2 Z G (Low R m s ++ [.box b6 64 #[V 0,sn]]) (kK R m s ++ [.l a cc first,.l A1 c1 t.2]):=b.ad [0,1,2,3,4,5,6,7,8,9] [1,2,3,4,5,6,7,8,9,10,11,0];refine jW b ?_
 refine qM (fun f' w'=>∃ (A2:Option Addr)(c2 b7:Nat)(cs2:List (List Value)),Has f' [(0,Pt R.lb),(1,Pt c),(6,Pt b6),(7,Pt b7)]∧
   Bx w w' Z G (Low R m s ++ [.box b6 64 #[V 0,sn],.box b7 64 #[V t.1,.slice A2 first.length c2],.own w.heap.size A2 c2 3 (Rp.sz Int) cs2]) (kK R m s ++ [.l A1 c1 t.2,.els cs2 first])) (fun J hJ=>?_) ?_
 · have happ:app ([]:List Int) first=some first:=by unfold app;rw [lX (by have:=hcap;simp at this ⊢;omega)];rfl
   refine Fg b [8] fun b=>?_;have hlab:∀ u,Bx w u Z G (Low R m s ++ [.box b6 64 #[V 0,sn]]) (kK R m s ++ [.l a cc first,.l A1 c1 t.2])->uz u c 170 #[V t.1,.slice A1 t.2.length c1]:=fun u hu=>by obtain ⟨_,h',h2',_,h5',_⟩:=Dv hu 8 4 rfl rfl hH ht;rw [h2] at h2';cases h2';exact h5'
   refine Bj b ?_;refine wQ 3 rfl ?_;refine dU (fun hu=>yL rfl (hlab _ hu) rfl rfl rfl) (jI kI b) ?_;refine Bj b ?_;refine QU 5 7 (by kernel_rfl) (oo rfl rfl (ko (b.FD Int 3) 0 0 rfl rfl underlying22 oJ rfl (by decide) (by decide) (ng _) rfl rfl ((b.FD Int 3).QG 11 rfl) happ) ?_) (oo rfl rfl (qV b (jP rR)) ?_)
   · rintro _ w3 ⟨A2,c2,cs2,rfl,b⟩;have b':Bx w w3 Z G (Low R m s ++ [.box b6 64 #[V 0,sn]]) (kK R m s ++ [.l a cc first,.l A1 c1 t.2]):=b.ad [1,2,3,4,5,6,7,8,9,10] [1,2,3,4,5,6,7,8,9,10,11,12];refine ⟨jI kI b',?_⟩;refine wQ 6 rfl ?_;refine dP (DC (v:=.agg #[V t.1,.slice A2 first.length c2]) rfl (by kernel_rfl)) (jI kI b') ?_;refine hO 7 (oo rfl rfl (qV b (jP rR)) ?_);rintro _ w4 ⟨b7,rfl,b⟩;have b':Bx w w4 Z G (Low R m s ++ [.box b6 64 #[V 0,sn]]) (kK R m s ++ [.l a cc first,.l A1 c1 t.2]):=b.ad [2,3,4,5,6,7,8,9,10,11] [1,2,3,4,5,6,7,8,9,10,11,12];refine ⟨jI kI b',hO 8 (os rfl rfl (mM b 0 [V t.1,.slice A2 first.length c2] rfl rR rfl rfl) fun w5 b=>⟨sy 8 kI,hD ?_⟩)⟩;exact hJ _ _ ⟨A2,c2,b7,cs2,⟨rfl,rfl,rfl,rfl,trivial⟩,b.ad [2,3,4,5,6,7,8,9,10,11,0,1] [1,2,3,4,5,6,7,8,9,10,12,0]⟩
   · rintro _ w3 ⟨b7,rfl,b⟩;refine ⟨jI kI b.tl,?_⟩;refine hO 5 (oo rfl rfl (ko (b.FD Int 3) 0 0 rfl rfl underlying22 oJ rfl (by decide) (by decide) (ng _) rfl rfl ((b.FD Int 3).QG 11 rfl) happ) ?_);rintro _ w4 ⟨A2,c2,cs2,rfl,b⟩;have b':Bx w w4 Z G (Low R m s ++ [.box b6 64 #[V 0,sn]]) (kK R m s ++ [.l a cc first,.l A1 c1 t.2]):=b.ad [2,3,4,5,6,7,8,9,10,11] [1,2,3,4,5,6,7,8,9,10,11,12];refine ⟨jI kI b',?_⟩;refine wQ 6 rfl ?_;refine dP (DC (v:=.agg #[V t.1,.slice A2 first.length c2]) rfl (by kernel_rfl)) (jI kI b') ?_;refine hO 8 (os rfl rfl (mM b 1 [V t.1,.slice A2 first.length c2] rfl rR rfl rfl) fun w5 b=>⟨sy 8 kI,hD ?_⟩);exact hJ _ _ ⟨A2,c2,b7,cs2,⟨rfl,rfl,rfl,rfl,trivial⟩,b.ad [2,3,4,5,6,7,8,9,10,11,1,0] [1,2,3,4,5,6,7,8,9,10,12,0]⟩
 clear b hps;rintro f' w3 ⟨A2,c2,b7,cs2,hf,b⟩;obtain ⟨av2,rfl⟩:=kZ _ _ hf;clear hf;obtain ⟨_,h',h2',_,h5',_⟩:=Dv b 8 4 rfl rfl hH ht;rw [h2] at h2';cases h2';refine jW b ?_;refine gL rfl h5' rfl rfl ?_;refine jW b ?_;have hbd:=(b.dl 10 rfl).bd;have hcap:first.length+t.2.length<=1000000000:=by simpa using hcap
 refine kG (fun aw f w'=>∃ (j:Nat)(A2:Option Addr)(c2:Nat)(cs2:List (List Value)),aw=t.2.length - j∧j≤t.2.length∧Has f [(0,Pt R.lb),(1,Pt c),(6,Pt b6),(7,Pt b7),(23,.slice A1 t.2.length c1),(24,V (t.2.length:Int)),(25,V (j:Int))]∧
     Bx w w' Z G (Low R m s ++ [.box b6 64 #[V 0,sn],.box b7 64 #[V t.1,.slice A2 (first ++ (t.2.take j).map fun p=>(q9 l p).getD 0).length c2],.own w.heap.size A2 c2 3 (Rp.sz Int) cs2]) (kK R m s ++ [.l A1 c1 t.2,.els cs2 (first ++ (t.2.take j).map fun p=>(q9 l p).getD 0)]))
   t.2.length ⟨0,A2,c2,cs2,rfl,uW _,⟨rfl,rfl,rfl,rfl,rfl,rfl,rfl,trivial⟩,by rw [List.take_zero,List.map_nil,FU];exact b⟩ ?_
 clear b h5';rintro aw f w4 ⟨j,A2,c2,cs2,rfl,hj,hf,b⟩ J hJ;obtain ⟨av3,rfl⟩:=kZ _ _ hf;clear hf;refine jW b ?_;refine rZ rfl (fun hlt=>?_) (fun hlt=>?_)
 · obtain ⟨p,hp⟩:=mI (l:=t.2) (k:=j) (by omega);have happ:app (first ++ (t.2.take j).map fun p=>(q9 l p).getD 0) [(q9 l p).getD 0]=some (first ++ (t.2.take (j+1)).map fun p=>(q9 l p).getD 0):=by unfold app;rw [lX (by simp;omega),List.take_add_one,hp];simp
   refine jW b ?_;refine kQ (lg underlying168 AU rfl rfl rfl (b.dl 10 rfl) hp) (kQ (nO (cP p) underlying172 rfl AU rfl rfl (uY (b.dl 10 rfl) hp (fun _ h=>h))) ?_);refine Ej b (jP AU) fun w5 b9 b=>?_;refine kY (mM b 12 (cP p) rfl AU rfl rfl) fun w6 b=>?_;have b:Bx w w6 Z G (Low R m s ++ [.box b6 64 #[V 0,sn],.box b7 64 #[V t.1,.slice A2 (first ++ (t.2.take j).map fun p=>(q9 l p).getD 0).length c2],.own w.heap.size A2 c2 3 (Rp.sz Int) cs2,.box b9 172 (cP p).toArray]) (kK R m s ++ [.l A1 c1 t.2,.els cs2 (first ++ (t.2.take j).map fun p=>(q9 l p).getD 0)]):=b;refine jW b ?_;refine Fg b [9,11] fun b=>?_;refine Bj b ?_;refine wQ 6 rfl ?_;refine dU (fun hu=>lu (cP p) underlying172 AU rfl (hu.bk 12 rfl)) (jI kI b) ?_;refine wQ 7 rfl ?_;refine dU (fun hu=>acg (hu.at 5 rfl) hl rfl rfl) (jI kI b) ?_;refine hO 8 (oo rfl rfl (jJ b [[V ((q9 l p).getD 0)]] ([(q9 l p).getD 0]:List Int) (Wt rfl) rfl rfl (by decide) ⟨rfl,trivial⟩) ?_);rintro _ w7 ⟨b12,rfl,b⟩;refine ⟨jI kI (b.ad [1,2,3,4,5,6,7,8,9,10,11,12,13] [1,2,3,4,5,6,7,8,9,10,11,12]),?_⟩;refine hO 9 (oo rfl rfl (ko b 12 12 rfl rfl underlying22 oJ rfl (by decide) (by decide) (ng _) rfl rfl (b.Bc 0 0 rfl rfl) happ) ?_);rintro _ w8 ⟨A3,c3,cs3,rfl,b⟩;refine ⟨sy 9 kI,?_⟩;refine wQ 10 rfl ?_;refine dP (yF rfl rfl rfl rfl) (sy 9 kI) ?_;refine hO 11 (os rfl rfl (t_n b 11 [.slice A3 (first ++ (t.2.take (j+1)).map fun p=>(q9 l p).getD 0).length c3] rfl He rfl rfl) fun w9 b=>⟨sy 9 kI,hD ?_⟩);refine jW b ?_;exact hJ (t.2.length - (j+1)) _ _ (by omega) ⟨j+1,A3,c3,cs3,rfl,by omega,⟨rfl,rfl,rfl,rfl,rfl,rfl,congrArg V (UD (by omega)),trivial⟩,b.ad [1,2,3,4,5,6,7,8,9,10,11,12] [1,2,3,4,5,6,7,8,9,10,11,12]⟩
 · obtain rfl:j=t.2.length:=by omega
   rw [List.take_length] at b;refine jW b ?_;refine uL ?_;refine jW b ?_;refine kQ (lu [V t.1,.slice A2 (first ++ t.2.map fun p=>(q9 l p).getD 0).length c2] underlying64 rR rfl (b.bk 10 rfl)) ?_;refine kY (mM b 9 [V t.1,.slice A2 (first ++ t.2.map fun p=>(q9 l p).getD 0).length c2] rfl rR rfl rfl) fun w5 b=>?_;refine jW b ?_;refine lT ?_;refine jL rfl (ug rfl underlying64 rfl rR rfl (b.bk 9 rfl)) ⟨_,s,m,A2,c2,cs2,rfl,rfl,hbs,?_⟩;exact b.ad [0,1,2,3,4,5,6,7,8,11] [11,0,1,2,3,4,5,6,7,8,9]
theorem zZ {R:Rn}{i c:Nat}{a:Option Addr}{cc:Nat}{first:List Int}:Ch R (fun m=>m.bs[i]?=some c) 142 #[Pt R.lb,Pt c,.slice a first.length cc] (xR i first) VE [.l a cc first]:=by
 refine pY fun w Z G m0 s0 q b hZ hH hB hm=>?_;refine (P6 b hZ hH hB hm).mono fun e w' he=>?_;cases e with
 | returned v=>
  obtain ⟨e,s',m',A,c,cs,h1,h2,h3,h4⟩:=he;exact ⟨e,s',m',_,h1,⟨A,c,h2,rfl⟩,h3,(h4.KN hZ 9 0 rfl rfl).ad [0,1,2,3,4,5,6,7,8] [0,1,2,3,4,5,6,7,8,9,10]⟩
 | panicked ch=>exact he
 | outgrown=>exact he.elim
theorem Qx:jC prog 69:=⟨_,func69,by kernel_rfl,by kernel_rfl⟩
theorem Vk {l:List pR}{s s':Lw}(h:lop l s=some (.ok () s')):∃ n bl,s'={ s with ops:=n,blocks:=bl }:=by
 unfold lop at h;split at h
 · cases h
 split at h
 · cases h
 obtain ⟨o,_,h⟩:=bs h;cases h;exact ⟨_,_,rfl⟩
theorem XJ {o:pR}{s s':Lw}{v:Int}(h:Jw o s=some (.ok v s')):∃ k n bl,s'={ s with next:=k,ops:=n,blocks:=bl }:=by
 obtain ⟨q,h1,h⟩:=lbi h;cases q with
 | ok a s2=>
  obtain ⟨n,bl,rfl⟩:=Vk h1;cases h;exact ⟨_,_,_,rfl⟩
 | lim=>cases h
 | rt=>cases h
theorem QO {p:Pc}{v:Int}{s s':Lw}(h:Bb p v s=some (.ok () s')):s'.labs=s.labs/\s'.pend=s.pend:=by obtain ⟨l,hl,h⟩:=bs h;obtain ⟨n,bl,rfl⟩:=Vk h;exact ⟨rfl,rfl⟩
theorem ZV {w0 w:World}{Z G:Nat->Prop}{L:List It}{D:List Da}{κ ν:Type}{ek:κ->Value}{ev:ν->Value}{b:Nat}{l:List (κ × ν)}(h:Bx w0 w Z G L D)(i:Nat)(hi:L[i]?=some (.map ek ev b l)):Bx w0 w Z G (L.set i (.Nn ek ev (some b) (some l))) D:=
 h.put i hi ((Ext.refl w).FM _) (it':=.Nn ek ev (some b) (some l)) (h.at (it:=.map ek ev b l) i hi) fun k hk=>.inl (by injection hk with hk;exact hk.symm)
theorem Vo {l:List Int}{f:Nat->Int}{k:Nat}(hk:k < l.length):((List.range k).map f ++ l.drop k).set k (f k)=(List.range (k+1)).map f ++ l.drop (k+1):=by rw [List.set_append,lW (by simp),List.range_succ,List.map_append,H9,Df,List.length_range,Nat.sub_self,List.drop_eq_getElem_cons hk,List.set_cons_zero];rfl
theorem vk {R:Rn}{i c:Nat}{first:Int}:Ch R (fun m=>m.bs[i]?=some c) 37 #[Pt R.lb,Pt c,V first] (oD i first) VU []:=by
 refine pY fun w Z G m s q b hZ hH hB hm=>?_;obtain ⟨t,ht,hm⟩:=bs hm;dsimp only at hm;refine kX func37 rfl ?_;refine lH [(0,Pt R.lb),(1,Pt c),(2,V first)] ⟨rfl,rfl,rfl,trivial⟩ fun av=>?_;obtain ⟨hl1,h,h2,h3,h5,h7⟩:=Dv b 8 4 rfl rfl hH ht;obtain ⟨A1,c1,rfl,hps⟩:=h7;replace b:=b.jX (d:=.l A1 c1 t.2) hps;have b:Bx w w Z G (Low R m s ++ []) (kK R m s ++ [.l A1 c1 t.2]):=b.ad [0,1,2,3,4,5,6,7,8] [1,2,3,4,5,6,7,8,9,10,0];have hbd:=(b.dl 10 rfl).bd;have hlab:∀ {u:World}{X:List It}{Y:List Da}{m':zk}{s':Lw},Bx w u Z G (Low R m' s' ++ X) (kK R m' s' ++ Y)->m'.bs[i]?=some c->s'.labs[i]?=some t->m'.lh[i]?=some [.slice A1 t.2.length c1]->uz u c 170 #[V t.1,.slice A1 t.2.length c1]:=fun hu e1 e2 e3=>by obtain ⟨_,h',h2',_,h5',_⟩:=Dv hu 8 4 rfl rfl e1 e2;rw [e3] at h2';cases h2';exact h5'
 refine jW b ?_;refine Fg b [] fun b=>?_;refine Bj b ?_;refine wQ 4 rfl ?_;refine dU (fun hu=>yL rfl (hlab hu hH ht h2) rfl rfl rfl) (jI kI b) ?_;refine Bj b ?_;refine hD ?_;refine jW b ?_;refine rZ rfl (fun h0=>?_) (fun h0=>?_)
 · rw [lX h0] at hm;cases hm;refine jW b ?_;exact XK rfl fun _=>XH b
 rw [lW h0] at hm;generalize hN:wr (wr (first+(t.2.length:Int))+(s.pend.length:Int))=N at hm h0 ⊢;refine jW b ?_;refine gL rfl (hlab b hH ht h2) rfl rfl ?_;refine jW b ?_;refine kY (t_n b 0 [V t.1] rfl oJ rfl rfl) fun w1 b=>?_;refine jW b ?_;refine kY (t_n b 0 [.bool true] rfl ti4 rfl rfl) fun w2 b=>?_;refine jW b ?_;refine kY (t_n b 0 [V N] rfl oJ rfl rfl) fun w3 b=>?_;have b:Bx w w3 Z G (Low R m { s with blk:=t.1,opn:=true,next:=N } ++ []) (kK R m { s with blk:=t.1,opn:=true,next:=N } ++ [.l A1 c1 t.2]):=b;refine jW b ?_;refine Fg b [12] fun b=>?_;refine Bj b ?_;refine wQ 8 rfl ?_;refine dU (fun hu=>yL rfl (hlab hu hH ht h2) rfl rfl rfl) (jI kI b) ?_;refine Bj b ?_;cases hb:ix? s.blocks t.1 with
 | none=>
   rw [hb] at hm;cases hm;refine hO 10 (wK rfl underlying48 rfl rfl (qO hb) fun u w' hw _=>?_);exact prt b u w' hw
 | some bk=>
 rw [hb] at hm;dsimp only at hm;obtain ⟨k,hk,hbk⟩:=Wp hb;obtain ⟨g1,g2,g3,hA,hkl,r,tt,hr,htt,hc,hl,hcell⟩:=QJ (s:={ s with blk:=t.1,opn:=true,next:=N }) b 1 0 1 rfl rfl rfl hbk;refine wQ 10 rfl ?_;refine dP (Hf k hA underlying48 Oj rfl rfl hk hkl) (jI kI b) ?_;refine Bj b ?_;refine hO 12 (os rfl rfl (abv (o:=0) (u':=V N :: (r.hdr ++ tt)) b 1 [V N] rfl hc (fun x hx=>(g3 x hx).1) oJ rfl rfl (by simp) (by simp)) fun w4 b=>⟨sy 12 kI,hD ?_⟩);have hkn:t.1.toNat=k:=by omega
 have b:Bx w w4 Z G (Low R { m with R:=m.R.set k r,tc:=m.tc.set k tt } { s with blk:=t.1,opn:=true,next:=N,blocks:=s.blocks.set k { bk with a:=N } } ++ []) (kK R { m with R:=m.R.set k r,tc:=m.tc.set k tt } { s with blk:=t.1,opn:=true,next:=N,blocks:=s.blocks.set k { bk with a:=N } } ++ [.l A1 c1 t.2]):=by rw [NJ (s:={ s with blk:=t.1,opn:=true,next:=N }) _ _ _ g1 g2,JW (s:={ s with blk:=t.1,opn:=true,next:=N }),set_self hr,set_self htt,set_self (l:=s.blocks.map (·.c)) (by rw [Bn,hbk];rfl),set_self (l:=s.blocks.map (·.b)) (by rw [Bn,hbk];rfl)];exact b
 rw [set_self hr,set_self htt] at b;refine jW b ?_;refine p8 (Zc b ekP VR underlying87) ?_;rintro _ w5 ⟨vb,rfl,b⟩;refine jW b ?_;refine kY (t_n b 1 [.map (some vb)] rfl aem rfl rfl) fun w6 b=>?_;replace b:=ZV b 0 rfl;rw [hkn] at hm;have b:Bx w w6 Z G (Low R { m with vb:=some vb } { s with blk:=t.1,opn:=true,next:=N,blocks:=s.blocks.set k { bk with a:=N },vals:=some [] } ++ []) (kK R { m with vb:=some vb } { s with blk:=t.1,opn:=true,next:=N,blocks:=s.blocks.set k { bk with a:=N },vals:=some [] } ++ [.l A1 c1 t.2]):=b.ad [1,2,3,4,5,0,7,8,9] [0,1,2,3,4,5,6,7,8,9,10];refine jW b ?_;refine gL rfl (hlab b hH ht h2) rfl rfl ?_;refine jW b ?_;generalize hs1:({ s with blk:=t.1,opn:=true,next:=N,blocks:=s.blocks.set k { bk with a:=N },vals:=some [] }:Lw)=s1 at hm b;have e1:s1.labs=s.labs/\s1.pend=s.pend:=by subst hs1;exact ⟨rfl,rfl⟩
 have hlb:m.lh=({ m with vb:=some vb }:zk).lh:=rfl;generalize hm1:({ m with vb:=some vb }:zk)=m1 at b;have e2:m1.bs=m.bs:=by subst hm1;rfl
 have e3:m1.lh=m.lh:=by subst hm1;rfl
 clear hs1 hm1 hlb
 refine kG (fun aw f w'=>∃ (j:Nat)(m2:zk)(s2:Lw),aw=t.2.length - j∧j≤t.2.length∧Has f [(0,Pt R.lb),(1,Pt c),(2,V first),(60,.slice A1 t.2.length c1),(61,V (t.2.length:Int)),(62,V (j:Int))]∧
     Bx w w' Z G (Low R m2 s2 ++ []) (kK R m2 s2 ++ [.l A1 c1 t.2])/\(∃ x,m2.bs=m.bs ++ x)/\(s2.labs=s.labs/\s2.pend=s.pend)/\(Et (t.2.drop j) first j |>.bind fun _ s'=>some (.ok () { s' with pend:=(List.range s'.pend.length).map fun k=>wr (wr (first+(t.2.length:Int))+(k:Nat)) })) s2=some q)
   t.2.length ⟨0,m1,s1,rfl,uW _,⟨rfl,rfl,rfl,rfl,rfl,rfl,trivial⟩,b,⟨[],by rw [e2,FU]⟩,e1,hm⟩ ?_
 clear b hm e1 e2 e3;rintro aw f w7 ⟨j,m2,s2,rfl,hj,hf,b,hbs,hk2,hm⟩ J hJ;obtain ⟨av3,rfl⟩:=kZ _ _ hf;clear hf;refine jW b ?_;refine rZ rfl (fun hlt=>?_) (fun hlt=>?_)
 · obtain ⟨p,hp⟩:=mI (l:=t.2) (k:=j) (by omega);rw [l5 hp,Et,XR] at hm;refine jW b ?_;refine kQ (lg underlying168 AU rfl rfl rfl (b.dl 10 rfl) hp) (kQ (nO (cP p) underlying172 rfl AU rfl rfl (uY (b.dl 10 rfl) hp (fun _ h=>h))) ?_);refine Ej b (jP AU) fun w8 b8 b=>?_;refine jW b ?_;refine kY (mM b 9 (cP p) rfl AU rfl rfl) fun w9 b=>?_;have b:Bx w w9 Z G (Low R m2 s2 ++ [.box b8 172 (cP p).toArray]) (kK R m2 s2 ++ [.l A1 c1 t.2]):=b;refine jW b ?_;refine kQ (lu (cP p) underlying172 AU rfl (b.bk 9 rfl)) ?_;refine jW b ?_;refine ad2 GL (jM Qx rfl) b hZ hB kI hm fun s3 m3 w10 h0 hm hbs3 b=>?_;have hk3:=QO h0;refine jW b ?_;exact hJ (t.2.length - (j+1)) _ _ (by omega) ⟨j+1,m3,s3,rfl,by omega,⟨rfl,rfl,rfl,rfl,rfl,congrArg V (UD (by omega)),trivial⟩,lY b [] [0],lF hbs hbs3,⟨hk3.1.trans hk2.1,hk3.2.trans hk2.2⟩,hm⟩
 · obtain rfl:j=t.2.length:=by omega
   rw [lV,Et] at hm;cases hm;refine jW b ?_;refine uL ?_;refine jW b ?_;have hpl:=(b.vw 6 3 rfl rfl).bd
   refine kG (fun aw f w'=>∃ (k:Nat)(pc:List (List Value)),aw=s2.pend.length - k∧k≤s2.pend.length∧Has f [(0,Pt R.lb),(1,Pt c),(2,V first),(78,V (s2.pend.length:Int)),(79,V (k:Int))]∧
       Bx w w' Z G (Low R { m2 with pc:=pc } s2 ++ []) ((kK R m2 s2).set 3 (.els pc ((List.range k).map (fun k=>wr (wr (first+(t.2.length:Int))+(k:Nat))) ++ s2.pend.drop k)) ++ [.l A1 c1 t.2]))
     s2.pend.length ⟨0,m2.pc,rfl,uW _,⟨rfl,rfl,rfl,rfl,rfl,trivial⟩,b⟩ ?_
   clear b;rintro aw f w8 ⟨k,pc,rfl,hk4,hf,b⟩ J2 hJ2;obtain ⟨av4,rfl⟩:=kZ _ _ hf;clear hf;have hlab2:∀ {u:World}{pc':List (List Value)}{l':List Int},Bx w u Z G (Low R { m2 with pc:=pc' } s2 ++ []) ((kK R m2 s2).set 3 (.els pc' l') ++ [.l A1 c1 t.2])->∃ h',m2.lh[i]?=some h'/\uz u c 170 (V t.1 :: h').toArray/\∃ A c5,h'=[.slice A t.2.length c5]:=fun hu=>by obtain ⟨_,h',e1,_,h5',A,c5,e2,_⟩:=Dv (s:=s2) (m:=m2) (t:=t) hu 8 4 rfl rfl (tO hbs hH) (by rw [hk2.1];exact ht);exact ⟨h',e1,h5',A,c5,e2⟩
   refine jW b ?_;refine rZ rfl (fun hlt=>?_) (fun hlt=>?_)
   · refine jW b ?_;obtain ⟨_,hl9,_,A9,c9,rfl⟩:=hlab2 b;have hA:=Jz (b.bo 6 rfl) (by rw [(b.de 3 rfl).len];simp;omega);have hpcl:pc.length=s2.pend.length:=by rw [(b.de 3 rfl).len];simp;omega
     obtain ⟨x0,hx0⟩:=mI (l:=(List.range k).map (fun k=>wr (wr (first+(t.2.length:Int))+(k:Nat))) ++ s2.pend.drop k) (k:=k) (by simp;omega);obtain ⟨_,hq0,rfl⟩:=(b.de 3 rfl).get hx0;refine Fg b [15] fun b=>?_;refine Bj b ?_;refine wQ 9 rfl ?_;refine dU (v:=.slice A9 t.2.length c9) (fun hu=>?_) (jI kI b) ?_
     · obtain ⟨_,e1,e2,_⟩:=hlab2 hu;rw [hl9] at e1;cases e1;exact yL rfl e2 rfl rfl rfl
     refine Bj b ?_;refine wQ 14 rfl ?_;refine dP (Hf k hA underlying22 oJ rfl rfl rfl (by omega)) (jI kI b) ?_;refine hO 15 (os rfl rfl (Lj b (α:=Int) 6 3 k 0 [V (wr (wr (first+(t.2.length:Int))+(k:Nat)))] rfl rfl hq0 oJ rfl rfl rfl rfl rfl rfl (v':=wr (wr (first+(t.2.length:Int))+(k:Nat))) rfl (Vo (f:=fun k=>wr (wr (first+(t.2.length:Int))+(k:Nat))) (by omega))) fun w9 hb9=>⟨sy 15 kI,hD ?_⟩);obtain ⟨pc2,b⟩:=hb9;refine jW b ?_;exact hJ2 (s2.pend.length - (k+1)) _ _ (by omega) ⟨k+1,pc2,rfl,by omega,⟨rfl,rfl,rfl,rfl,congrArg V (UD (by omega)),trivial⟩,b⟩
   · obtain rfl:k=s2.pend.length:=by omega
     rw [List.drop_length,FU,FU] at b;refine jW b ?_;refine uL ?_;refine jW b ?_;refine nJ rfl ⟨_,_,{ m2 with pc:=pc },[],rfl,⟨rfl,rfl⟩,hbs,?_⟩;have e1:((List.range s2.pend.length).map fun k=>wr (wr (first+(t.2.length:Int))+(k:Nat))).length=s2.pend.length:=by simp
     simp only [Low,kK,DI,e1,E8];exact b.ad [0,1,2,3,4,5,6,7,8] [0,1,2,3,4,5,6,7,8,9]
theorem Cg:jC prog 142:=⟨_,func142,by kernel_rfl,by kernel_rfl⟩
theorem Ij:jC prog 149:=⟨_,func149,by kernel_rfl,by kernel_rfl⟩
theorem EI:jC prog 37:=⟨_,func37,by kernel_rfl,by kernel_rfl⟩
theorem R8:jC prog 150:=⟨_,func150,by kernel_rfl,by kernel_rfl⟩
theorem EL:jC prog 114:=⟨_,func114,by kernel_rfl,by kernel_rfl⟩
theorem WS:jC prog 112:=⟨_,func112,by kernel_rfl,by kernel_rfl⟩
theorem IB:jC prog 146:=⟨_,func146,by kernel_rfl,by kernel_rfl⟩
theorem Il:jC prog 170:=⟨_,func170,by kernel_rfl,by kernel_rfl⟩
theorem WG:TI prog 65 (.agg #[V 0,sn,V 0,sn]) 4 64:=nU (by kernel_rfl)
abbrev ln:Da:=.l none 0 ([]:List Int)
theorem Jm {w0 w:World}{Z G:Nat->Prop}{X:List It}{Y:List Da}{R:Rn}{m:zk}{s:Lw}(b:Bx w0 w Z G (Low R m s ++ X) (kK R m s ++ Y)):Bx w0 w Z G (Low R m s ++ X) (kK R m s ++ (ln :: Y)):=(b.jX (d:=ln) kr.nil).Au fun d hd=>by
 rcases qN.1 hd with hd | hd
 · exact xQ _ (List.mem_append_left _ hd)
 · rcases qg.1 hd with rfl | hd
   · exact zH ..
   · exact xQ _ (List.mem_append_right _ hd)
theorem y3 {a b c:Da}{Y:List Da}(h1:a ∈ Y)(h2:b ∈ Y)(h3:c ∈ Y):∀ d ∈ [a,b,c],d ∈ Y:=fun d hd=>by
 rcases qg.1 hd with rfl | hd
 · exact h1
 rcases qg.1 hd with rfl | hd
 · exact h2
 rw [List.mem_singleton.1 hd];exact h3
theorem EN {R:Rn}{i c:Nat}:Ch R (fun m=>m.bs[i]?=some c) 141 #[Pt R.lb,Pt c] (xL i) VU []:=by
 refine pY fun w Z G m s q b hZ hH hB hm=>?_;unfold xL at hm;refine kX func141 rfl ?_;refine lH [(0,Pt R.lb),(1,Pt c)] ⟨rfl,rfl,trivial⟩ fun av=>?_;refine jW b ?_;by_cases h:s.opn=true
 · rw [lX h] at hm;refine jK (congrArg Value.bool h) ?_;refine jW b ?_;refine UE (zZ (a:=none) (cc:=0) (first:=[])) (jM Cg rfl) (Jm b) hZ hB hH hm (fun e A ce s m w1 hm hbs b=>?_) y1;refine Fj (jM IX rfl) Bu ?_;rintro _ w2 ⟨rfl,hx⟩;replace b:=b.ext hx;refine kQ (DC (v:=.agg #[V e.b,.slice A e.a.length ce,V (-1),sn]) rfl (by kernel_rfl)) ?_;refine kQ (DC (v:=.agg (cT ⟨1,0,0,[],⟨e,R4⟩⟩ none 0 A ce none 0).toArray) rfl (by kernel_rfl)) ?_;refine uR (k:=nX) Ir (jM Ij rfl) b hZ hB kI (by rw [Dq];exact hm) (fun s' m' w5 hm hbs2 b=>?_) (y3 (.tail _ (.head _)) (.head _) (.tail _ (.head _)));cases hm;refine jW b ?_;exact nJ rfl ⟨_,_,_,[],rfl,⟨rfl,rfl⟩,lF hbs hbs2,lf0 b⟩
 · rw [lW h] at hm;cases hm;refine jD (congrArg Value.bool (nt h)) ?_;refine jW b ?_;exact nJ rfl ⟨_,_,_,[],rfl,⟨rfl,rfl⟩,OM,lf0 b⟩
abbrev cE (e:uD)(a:Option Addr)(c:Nat):List Value:=[V e.b,.slice a e.a.length c]
theorem ET {R:Rn}{v:Int}{yes no:uD}{a1 a2:Option Addr}{c1 c2:Nat}:Ch R (fun _=>True) 143 #[Pt R.lb,V v,.agg (cE yes a1 c1).toArray,.agg (cE no a2 c2).toArray] (Cx v yes no) VU [.l a1 c1 yes.a,.l a2 c2 no.a]:=by refine pY fun w Z G m s q b hZ _ hB hm=>?_;refine kX func143 rfl ?_;refine lH [(0,Pt R.lb),(1,V v),(2,.agg (cE yes a1 c1).toArray),(3,.agg (cE no a2 c2).toArray)] ⟨rfl,rfl,rfl,rfl,trivial⟩ fun av=>?_;refine GD (xW ?_);refine Ej b (uV rfl) fun w1 b6 b=>?_;refine Ej b (uV rfl) fun w1 b7 b=>?_;refine jW b ?_;refine kQ (lu (cE yes a1 c1) underlying64 rR rfl (b.bk 9 rfl)) ?_;refine kQ (lu (cE no a2 c2) underlying64 rR rfl (b.bk 10 rfl)) ?_;refine kQ (DC (v:=.agg #[V yes.b,.slice a1 yes.a.length c1,V no.b,.slice a2 no.a.length c2]) rfl (by kernel_rfl)) ?_;refine kQ (DC (v:=.agg (cT ⟨2,v,0,[],⟨yes,no⟩⟩ none 0 a1 c1 a2 c2).toArray) rfl (by kernel_rfl)) ?_;refine uR (k:=nX) Ir (jM Ij rfl) (Jm b) hZ hB kI (by rw [Dq];exact hm) (fun s' m' w5 hm hbs b=>?_) (y3 (.head _) (.tail _ (.head _)) (.tail _ (.tail _ (.head _))));cases hm;refine jW b ?_;exact nJ rfl ⟨_,_,_,[],rfl,⟨rfl,rfl⟩,hbs,lf0 b⟩
theorem OB {R:Rn}{v:Int}:Ch R (fun _=>True) 110 #[Pt R.lb,V v] (DZ v) VU []:=by refine pY fun w Z G m s q b hZ _ hB hm=>?_;refine kX func110 rfl ?_;refine lH [(0,Pt R.lb),(1,V v)] ⟨rfl,rfl,trivial⟩ fun av=>?_;refine jW b ?_;refine Fj (jM IX rfl) Bu ?_;rintro _ w2 ⟨rfl,hx⟩;replace b:=b.ext hx;refine Fj (jM IX rfl) Bu ?_;rintro _ w3 ⟨rfl,hx⟩;replace b:=b.ext hx;refine kQ (DC (v:=.agg #[V (-1),sn,V (-1),sn]) rfl (by kernel_rfl)) ?_;refine kQ (DC (v:=.agg (cT ⟨4,v,0,[],⟨R4,R4⟩⟩ none 0 none 0 none 0).toArray) rfl (by kernel_rfl)) ?_;refine uR (k:=nX) Ir (jM Ij rfl) (Jm b) hZ hB kI (by rw [Dq];exact hm) (fun s' m' w5 hm hbs b=>?_) (y3 (.head _) (.head _) (.head _));cases hm;refine jW b ?_;exact nJ rfl ⟨_,_,_,[],rfl,⟨rfl,rfl⟩,hbs,lf0 b⟩
theorem PK {R:Rn}{v:Int}:Ch R (fun _=>True) 112 #[Pt R.lb,V v] (zn v) VU []:=by
 refine pY fun w Z G m s q b hZ _ hB hm=>?_;unfold zn at hm;refine kX func112 rfl ?_;refine lH [(0,Pt R.lb),(1,V v)] ⟨rfl,rfl,trivial⟩ fun av=>?_;refine jW b ?_;refine Fj (jM IX rfl) Bu ?_;rintro _ w2 ⟨rfl,hx⟩;replace b:=b.ext hx;refine Fj (jM IX rfl) Bu ?_;rintro _ w3 ⟨rfl,hx⟩;replace b:=b.ext hx;refine kQ (DC (v:=.agg #[V (-1),sn,V (-1),sn]) rfl (by kernel_rfl)) ?_;refine Ej b (jP WG) fun w1 b4 b=>?_;refine kY (mM b 9 [V (-1),sn,V (-1),sn] rfl WG rfl rfl) fun w4 b=>?_;have b:Bx w w4 Z G (Low R m s ++ [.box b4 65 #[V (-1),sn,V (-1),sn]]) (kK R m s ++ []):=b;refine jW b ?_;have hQ:Da.ok (.wp (.l m.cA m.cC s.ctxs) (HP m.hp m.bs s.hnd)) _ _:=b.d 5 rfl;obtain ⟨hq1,hq2⟩:=hQ.2;refine rZ rfl (fun h=>?_) (fun h=>?_)
 · cases hl:s.hnd.getLast? with
   | none=>rw [List.getLast?_eq_none_iff.1 hl] at h;simp at h
   | some hd=>
   rw [hl] at hm;have hl':s.hnd[s.hnd.length - 1]?=some hd:=by rw [List.getLast?_eq_getElem?] at hl;exact hl
   obtain ⟨ch,hch,hcb⟩:=hq2 _ _ hl';have hcap:=(b.bo 7 rfl).cap;have hlen:(Ci m.hp).length=s.hnd.length:=by rw [Df,hq1]
   have hbd:s.hnd.length<=9223372036854775807:=by rw [hlen] at hcap;have:=rT hcap.1 hcap.2;simp only [maxLen] at this;omega
   refine jW b ?_;rw [UC hbd];have ho:=b.bo 7 rfl;have hA:=Jz ho (by rw [hlen];omega);refine kQ (Hf (s.hnd.length - 1) hA underlying88 Si rfl rfl (by omega) (by omega)) ?_;have hcell:w4.cell? ⟨mX m.hA,nW m.hA+(s.hnd.length - 1) * 1,none⟩=some (Pt ch):=by
    have hfl:(Ci m.hp).flatten=m.hp.map fun b=>Pt b:=by
     generalize m.hp=l
     induction l with
     | nil=>rfl
     | cons a l ih=>simp only [Ci,List.map_cons,AY] at ih ⊢;rw [ih];rfl
    obtain ⟨g0,hg⟩:=ho.TW (by rw [hlen];omega);rw [hg] at ho ⊢;rw [hfl] at ho;have:=ho.cell (j:=s.hnd.length - 1) (v:=Pt ch) (by rw [Bn,hch];rfl);simpa [mX,nW] using this
   refine gC rfl hcell rfl ?_;refine jW b ?_;refine p8 (jJ b [[V v]] ([v]:List Int) (Wt rfl) rfl rfl (by decide) ⟨rfl,trivial⟩) ?_;rintro _ w5 ⟨b5,rfl,b⟩;have b:Bx w w5 Z G (Low R m s ++ [.box b4 65 #[V (-1),sn,V (-1),sn]]) (kK R m s ++ [.l (some ⟨b5,0,none⟩) 1 [v]]):=(b.KN hZ 0 0 rfl rfl).ad [0,1,2,3,4,5,6,7,8,9] [1,2,3,4,5,6,7,8,9,10,0];refine UE (zZ (i:=hd) (c:=ch) (first:=[v])) (jM Cg rfl) b hZ hB hcb hm (fun e A ce s m w1 hm hbs b=>?_) y1;refine kQ (Go.Fw.Hf 0 underlying65 rR rfl rfl rfl (by decide)) ?_;refine kY (t_n b 9 (cE e A ce) rfl rR rfl rfl) fun w6 b=>?_;have b:Bx w w6 Z G (Low R m s ++ [.box b4 65 #[V e.b,.slice A e.a.length ce,V (-1),sn]]) (kK R m s ++ [.l A ce e.a,.l (some ⟨b5,0,none⟩) 1 [v]]):=b;refine jW b ?_;refine kQ (lu [V e.b,.slice A e.a.length ce,V (-1),sn] underlying65 WG rfl (b.bk 9 rfl)) ?_;refine kQ (DC (v:=.agg (cT ⟨1,0,0,[],⟨e,R4⟩⟩ none 0 A ce none 0).toArray) rfl (by kernel_rfl)) ?_;refine uR (k:=nX) Ir (jM Ij rfl) (Jm b) hZ hB kI (by rw [Dq];exact hm) (fun s' m' w5 hm hbs2 b=>?_) (y3 (.head _) (.tail _ (.head _)) (.head _));cases hm;refine jW b ?_;refine lT ?_;exact nJ rfl ⟨_,_,_,[],rfl,⟨rfl,rfl⟩,lF hbs hbs2,lf0 b⟩
 · have h0:s.hnd=[]:=List.eq_nil_of_length_eq_zero (by omega);rw [h0] at hm;dsimp only [List.getLast?] at hm;refine jW b ?_;refine kQ (lu [V (-1),sn,V (-1),sn] underlying65 WG rfl (b.bk 9 rfl)) ?_;refine kQ (DC (v:=.agg (cT ⟨5,v,0,[],⟨R4,R4⟩⟩ none 0 none 0 none 0).toArray) rfl (by kernel_rfl)) ?_;refine uR (k:=nX) Ir (jM Ij rfl) (Jm b) hZ hB kI (by rw [Dq];exact hm) (fun s' m' w5 hm hbs b=>?_) (y3 (.head _) (.head _) (.head _));cases hm;refine jW b ?_;exact nJ rfl ⟨_,_,_,[],rfl,⟨rfl,rfl⟩,hbs,lf0 b⟩
def SB (w0:World)(Z G:Nat->Prop)(R:Rn)(st:Int × List (Int × Int))(X:List It)(Y:List Da)(u:World):Prop:=∃ m s,(s.stmt,s.omap)=st/\Bx w0 u Z G (Low R m s ++ X) (kK R m s ++ Y)
section
variable {N:Fz}{ops:Array Oper}{S1 S:World->Prop}{T:List Nat}{K:KK}{n:Nat}{Lb:Array Bool}{f:Fr}{w w0:World}{Z G:Nat->Prop}{R:Rn}{st:Int × List (Int × Int)}{X:List It}{Y:List Da}{i:Nat}{d:Option Nat}{ty:TypeId}{pos:String}{af:Array Edge}{x:Operand}{v:Value}
theorem Ym {Q:Post}{i:Nat}{m:zk}{s:Lw}(b:Bx w0 w Z G (Low R m s ++ X) (kK R m s ++ Y))(T:List Nat)(k:Bx w0 w.drew Z G (Low R m s ++ X) (kK R m s ++ Y)->SB w0 Z G R (s.stmt,s.omap) X Y w.drew->oh prog N ops (fun _=>True) (SB w0 Z G R (s.stmt,s.omap) X Y) T ⟨Q.n,Q.p⟩ ops.size (Array.replicate ops.size false) f w.drew)(hm:prog.follows .mixedOrders=true:=by kernel_rfl):WP prog N (.region i ops true) Q f w:=
 Oi _ _ T hm (k b.drew ⟨m,s,rfl,b.drew⟩)
theorem dSt (h:ev f x=.pointer (some ⟨R.lb,0+17,none⟩))(hS:Cb S1 T (SB w0 Z G R st X Y) Lb w)(k:oh prog N ops S1 (SB w0 Z G R st X Y) T K n (Lb.setIfInBounds i true) (lq f d (V st.1)) w)(hT:(T.all fun t=>Rm ops 20 t i)=true:=by kernel_rfl):DS prog N ops S1 (SB w0 Z G R st X Y) T K (n+1) Lb i ⟨d,.load 3 x,ty,pos,af,none⟩ f w:=
 dU (fun ⟨m,s,hs,hu⟩=>by subst hs;exact yL h (hu.bk 0 rfl) rfl rfl rfl) hS k hT
theorem dSo (h:ev f x=.pointer (some ⟨R.lb,0+9,none⟩))(hS:Cb S1 T (SB w0 Z G R st X Y) Lb w)(k:oh prog N ops S1 (SB w0 Z G R st X Y) T K n (Lb.setIfInBounds i true) (lq f d (.map (some R.ob))) w)(hT:(T.all fun t=>Rm ops 20 t i)=true:=by kernel_rfl):DS prog N ops S1 (SB w0 Z G R st X Y) T K (n+1) Lb i ⟨d,.load 86 x,ty,pos,af,none⟩ f w:=
 dU (fun ⟨m,s,hs,hu⟩=>yL h (hu.bk 0 rfl) rfl rfl rfl) hS k hT
theorem fkI:FK prog 3 UJ:=abS underlying3
theorem dSl {y:Operand}{v:Int}(h:ev f x=.map (some R.ob))(h2:ev f y=V v)(hS:Cb S1 T (SB w0 Z G R st X Y) Lb w)(k:oh prog N ops S1 (SB w0 Z G R st X Y) T K n (Lb.setIfInBounds i true) (lq f d (V ((q9 st.2 v).getD 0))) w)(hT:(T.all fun t=>Rm ops 20 t i)=true:=by kernel_rfl):DS prog N ops S1 (SB w0 Z G R st X Y) T K (n+1) Lb i ⟨d,.lookup 86 x y false,ty,pos,af,none⟩ f w:=
 dU (fun ⟨m,s,hs,hu⟩=>by subst hs;exact WE (z:=0) (ev:=VR) (ek:=UJ) (k:=v) underlying86 fkI (Zm oJ) (hu.mp 4 rfl) h h2) hS k hT
theorem dSk (j:Nat){t t' b o:Nat}{cs:Array Value}(h:ev f x=.pointer (some ⟨b,o,none⟩))(hj:X[j]?=some (.box b t' cs))(hi:cs[o]?=some v)(hs:YM t=true)(hS:Cb S1 T (SB w0 Z G R st X Y) Lb w)(k:oh prog N ops S1 (SB w0 Z G R st X Y) T K n (Lb.setIfInBounds i true) (lq f d v) w)(ht:Nat.blt t R3=true:=by exact rfl)(hT:(T.all fun t=>Rm ops 20 t i)=true:=by kernel_rfl):DS prog N ops S1 (SB w0 Z G R st X Y) T K (n+1) Lb i ⟨d,.load t x,ty,pos,af,none⟩ f w:=
 dU (fun ⟨m,s,_,hu⟩=>yL h (hu.bk (9+j) (by rw [Gw (Nat.le_add_right 9 j)];show X[9+j - 9]?=_;rw [Nat.add_sub_cancel_left];exact hj)) hi hs ht) hS k hT
theorem oC {α β:Type}{H:zk->Prop}{g:FuncId}{args:Array Value}{mm:LM α}{Vv:zk->α->Value->List Da->Prop}{Yc:List Da}{m:zk}{s:Lw}{q:Lo β}{k:α->LM β}{oi:Oper}(hi:ops[i]?=some oi)(hg:oi.guard=none)(hc:Ch R H g args mm Vv Yc)(he:(execOp (ev f) oi).run prog w=.ok (.enter g args) w)(b:Bx w0 w Z G (Low R m s ++ X) (kK R m s ++ Y))(hZ:∀ b,G b->Z b)(hB:R.B<=w0.heap.size)(hH:H m)(hm:(mm.bind k) s=some q)(kk:∀ a s' m' v ds w',mm s=some (.ok a s')->Vv m' a v ds->k a s'=some q->(∃ t,m'.bs=m.bs ++ t)->Bx w0 w' Z G (Low R m' s' ++ X) (kK R m' s' ++ (ds ++ Y))->Cb S1 T S (Lb.setIfInBounds i true) w'/\oh prog N ops S1 S T K n (Lb.setIfInBounds i true) (lq f oi.dst v) w')(hY:∀ d ∈ Yc,d ∈ Y)(kp:∀ f ch w',Pb q ch->Bx w0 w' Z G [] []->K.p f ch w'):BD prog N ops S1 S T K n Lb f w i:=
 ad3 hi (by rw [hg];rfl) he (VX hc b hZ hB hH hm hY) (fun ch w' h f=>kp f ch w' h.1 h.2) fun v w' ⟨a,s',m',ds,h0,h1,h2,h3,h4⟩=>kk a s' m' v ds w' h0 h2 h1 h3 h4
theorem Kt {β:Type}{m:zk}{s:Lw}{q:Lo β}{k:Nat->LM β}{oi:Oper}{fv:Nat}{stm:Int}(hi:ops[i]?=some oi)(hg:oi.guard=none)(he:(execOp (ev f) oi).run prog w=.ok (.enter 35 #[Pt R.lb,V stm]) w)(b:Bx w0 w Z G (Low R m s ++ X) (kK R m s ++ Y))(hZ:∀ b,G b->Z b)(hB:R.B<=w0.heap.size)(hm:((rU (jS fv R.src) R.src.c stm).bind k) s=some q)(kk:∀ a c s' m' w',m'.bs[a]?=some c->k a s'=some q->(s'.stmt,s'.omap)=(s.stmt,s.omap)->(∃ t,m'.bs=m.bs ++ t)->Bx w0 w' Z G (Low R m' s' ++ X) (kK R m' s' ++ Y)->Cb S1 T S (Lb.setIfInBounds i true) w'/\oh prog N ops S1 S T K n (Lb.setIfInBounds i true) (lq f oi.dst (Pt c)) w')(kp:∀ f ch w',Pb q ch->Bx w0 w' Z G [] []->K.p f ch w':=by exact fun _ _ _ h1 h2=>⟨h1,h2⟩):BD prog N ops S1 S T K n Lb f w i:=
 oC hi hg HZ he b hZ hB kI hm (fun a s' m' v ds w' h0 h1 h2 h3 h4=>by
  obtain ⟨⟨c,h5,rfl⟩,rfl⟩:=h1;refine kk a c s' m' w' h5 h2 ?_ h3 h4;obtain ⟨l,_,h0⟩:=bs h0;obtain ⟨r,_,h0⟩:=bs h0;cases r with
  | none=>cases h0
  | some ps=>cases h0;rfl) yn kp
end
theorem Rz {w0 w:World}{Z G':Nat->Prop}{R0:Rn}{st:Int × List (Int × Int)}{X:List It}{Y:List Da}{G R:Prop}(e:SB w0 Z G' R0 st X Y w)(k:R) (h:SB w0 Z G' R0 st X Y w->R->G:=by
 intro e k
 repeat
  first
  | refine Bt 0 rfl ?_
  | refine Bt 1 rfl ?_
  | refine Bt 2 rfl ?_
  | refine Bt 3 rfl ?_
  | refine Bt 4 rfl ?_
  | refine Bt 5 rfl ?_
  | refine Bt 6 rfl ?_
  | refine Bt 7 rfl ?_
  | refine Bt 8 rfl ?_
  | refine Bt 9 rfl ?_
  | refine Bt 10 rfl ?_
  | refine Bt 11 rfl ?_
  | refine Bt 12 rfl ?_
  | refine Bt 13 rfl ?_
  | refine Bt 14 rfl ?_
  | refine Bt 15 rfl ?_
  | refine Bt 16 rfl ?_
  | refine Bt 17 rfl ?_
  | refine Bt 18 rfl ?_
  | refine Bt 19 rfl ?_
  | refine Bt 20 rfl ?_
  | refine Bt 21 rfl ?_
  | refine Bt 22 rfl ?_
  | refine Bt 23 rfl ?_
  first
  | refine ab5 rfl (jI kI e) ?_
  | refine acC rfl (jI kI e) ?_
  | refine dNl rfl (jI kI e) ?_
  | refine dF rfl rfl (jI kI e) ?_
  | refine dSt rfl (jI kI e) ?_
  | refine dSo rfl (jI kI e) ?_
  | refine dSk 0 rfl rfl rfl rfl (jI kI e) ?_
  | refine dSk 1 rfl rfl rfl rfl (jI kI e) ?_
  | refine dN rfl rfl (jI kI e) ?_
  | refine acn rfl (jI kI e) ?_
  | refine adF rfl (jI kI e) ?_
  | refine adw rfl rfl (jI kI e) ?_
  | refine adR rfl rfl (jI kI e) ?_
  | refine abX rfl (jI kI e) ?_
  | refine adE rfl (jI kI e) ?_
 exact k):G:=h e k
theorem Cu:jC prog 35:=⟨_,func35,by kernel_rfl,by kernel_rfl⟩
theorem Wn:jC prog 167:=⟨_,func167,by kernel_rfl,by kernel_rfl⟩
theorem Xg:jC prog 168:=⟨_,func168,by kernel_rfl,by kernel_rfl⟩
theorem Xv:jC prog 169:=⟨_,func169,by kernel_rfl,by kernel_rfl⟩
theorem NU:jC prog 143:=⟨_,func143,by kernel_rfl,by kernel_rfl⟩
theorem y2 {a b:Da}{Y:List Da}(h1:a ∈ Y)(h2:b ∈ Y):∀ d ∈ [a,b],d ∈ Y:=fun d hd=>by
 rcases qg.1 hd with rfl | hd
 · exact h1
 rw [List.mem_singleton.1 hd];exact h2
theorem abx {β:Type}{R:Rn}{i c:Nat}{w0 w:World}{Z G:Nat->Prop}{X:List It}{Y:List Da}{m:zk}{s:Lw}{q:Lo β}{k:uD->LM β}(b:Bx w0 w Z G (Low R m s ++ X) (kK R m s ++ Y))(hZ:∀ b,G b->Z b)(hB:R.B<=w0.heap.size)(hH:m.bs[i]?=some c)(hm:((xR i []).bind k) s=some q) :Calls prog 142 #[Pt R.lb,Pt c,sn] w (RP (fun v w'=>∃ e s' m' A cc cs,v=.agg #[V e.b,.slice A e.a.length cc]/\k e s'=some q/\(∃ t,m'.bs=m.bs ++ t)/\Bx w0 w' Z G (Low R m' s' ++ (.own w0.heap.size A cc 3 (Rp.sz Int) cs :: X)) (kK R m' s' ++ (.els cs e.a :: Y))) (fun ch w'=>Pb q ch/\Bx w0 w' Z G [] [])):=by
 obtain ⟨p,hp,hq⟩:=lbi hm;replace b:=Jm b;have hpre:Pre w (Hl w0 Z (Low R m s ++ X)) (Low R m s) (kK R m s ++ [ln]):=b.pre fun d hd=>by
  refine b.da d ?_;rcases qN.1 hd with hd | hd
  · exact List.mem_append_left _ hd
  · rw [List.mem_singleton.1 hd];exact List.mem_append_right _ (zH ..)
 have hsz:=b.tC.size;refine (P6 (a:=none) (cc:=0) (first:=[]) (hpre.bx.wid (Z':=Zg _ (mV (Low R m s))) fun b hb=>.inl hb) (fun b hb=>.inr hb) hH (rT hB hsz) hp).mono fun e w' he=>?_;cases e with
 | returned v=>
  obtain ⟨e,s',m',A,cc,cs,rfl,hv,hbs,hk⟩:=he;have b2:=(b.MS hZ hk).Au (D':=kK R m' s' ++ (.els cs e.a :: Y)) fun d hd=>by
    rcases qN.1 hd with hd | hd
    · exact List.mem_append_left _ (xQ _ hd)
    · rcases qg.1 hd with rfl | hd
      · exact List.mem_append_left _ (zH ..)
      · exact List.mem_append_right _ (List.mem_append_right _ (xQ _ hd))
  exact ⟨e,s',m',A,cc,cs,hv,hq,hbs,b2.reb 9 w0.heap.size rfl hsz⟩
 | panicked ch=>exact ⟨he.1.then hq,bno (b.MS hZ he.2)⟩
 | outgrown=>exact he.elim
theorem Ql {R:Rn}{i c:Nat}:Ch R (fun m=>m.bs[i]?=some c) 167 #[Pt R.lb,Pt c] (JE i) VE []:=by refine pY fun w Z G m0 s0 q b hZ hH hB hm=>?_;refine kX func167 rfl ?_;refine lH [(0,Pt R.lb),(1,Pt c)] ⟨rfl,rfl,trivial⟩ fun av=>?_;refine GD (xW ?_);refine Ej b (jP rR) fun w1 b4 b=>?_;refine jW b ?_;have b:Bx w w1 Z G (Low R m0 s0 ++ [.box b4 64 #[V 0,sn]]) (kK R m0 s0 ++ []):=b;refine sCP (jM Cg rfl) (abx b hZ hB hH hm) (fun ch w' h=>h) ?_;rintro _ w2 ⟨e,s,m,A,cc,cs,rfl,hm,hbs,b⟩;obtain ⟨args,hargs,hm⟩:=bs hm;cases hm;refine Ej b (jP rR) fun w3 b5 b=>?_;refine kY (mM b 11 (cE e A cc) rfl rR rfl rfl) fun w4 b=>?_;have b:Bx w w4 Z G (Low R m s ++ [.own w.heap.size A cc 3 (Rp.sz Int) cs,.box b4 64 #[V 0,sn],.box b5 64 (cE e A cc).toArray]) (kK R m s ++ [.els cs e.a]):=b;refine jW b ?_;refine Fg b [6,8] fun b=>?_;refine Bj b ?_;refine hO 6 (oo rfl rfl (ko b 9 10 rfl rfl underlying22 oJ rfl (by decide) (by decide) (ng _) rfl rfl (b.Bc 6 3 rfl rfl) hargs) ?_);rintro _ w5 ⟨A2,c2,cs2,rfl,b⟩;refine ⟨sy 6 kI,?_⟩;refine wQ 7 rfl ?_;refine dP (yF rfl rfl rfl rfl) (sy 6 kI) ?_;refine hO 8 (os rfl rfl (t_n b 11 [.slice A2 args.length c2] rfl He rfl rfl) fun w6 b=>⟨sy 6 kI,hD ?_⟩);refine jW b ?_;refine kQ (lu [V e.b,.slice A2 args.length c2] underlying64 rR rfl (b.bk 11 rfl)) ?_;refine kY (mM b 10 [V e.b,.slice A2 args.length c2] rfl rR rfl rfl) fun w7 b=>?_;refine jW b ?_;refine lT ?_;refine jL rfl (ug rfl underlying64 rfl rR rfl (b.bk 10 rfl)) ⟨_,s,m,_,rfl,⟨A2,c2,rfl,rfl⟩,hbs,?_⟩;exact (b.KN hZ 9 10 rfl rfl).ad [0,1,2,3,4,5,6,7,8] [0,1,2,3,4,5,6,7,8,9,10]
theorem MH {R:Rn}{i c:Nat}:Ch R (fun m=>m.bs[i]?=some c) 169 #[Pt R.lb,Pt c] (GI i) VU []:=by refine pY fun w Z G m s q b hZ hH hB hm=>?_;refine kX func169 rfl ?_;refine lH [(0,Pt R.lb),(1,Pt c)] ⟨rfl,rfl,trivial⟩ fun av=>?_;refine jW b ?_;refine uR (vk (i:=i) (c:=c)) (jM EI rfl) b hZ hB hH hm fun s m w1 hm hbs b=>?_;refine jW b ?_;refine uR (k:=nX) UK (jM R8 rfl) b hZ hB kI (by rw [Dq];exact hm) fun s' m' w5 hm hbs2 b=>?_;cases hm;refine jW b ?_;exact nJ rfl ⟨_,_,_,[],rfl,⟨rfl,rfl⟩,lF hbs hbs2,lf0 b⟩
theorem Qw {R:Rn}{i c:Nat}{n:Int}:Ch R (fun m=>m.bs[i]?=some c) 168 #[Pt R.lb,Pt c,V n] (FQ i n) VU []:=by
 refine pY fun w Z G m s q b hZ hH hB hm=>?_;unfold FQ at hm;refine kX func168 rfl ?_;refine lH [(0,Pt R.lb),(1,Pt c),(2,V n)] ⟨rfl,rfl,rfl,trivial⟩ fun av=>?_;refine jW b ?_;refine kY (t_n b 0 [sn] rfl He rfl rfl) fun w1 b=>?_;have b:Bx w w1 Z G (Low R { m with pA:=none,pC:=0,pc:=[] } { s with pend:=[] } ++ [.own R.B m.pA m.pC 3 1 m.pc]) (kK R { m with pA:=none,pC:=0,pc:=[] } { s with pend:=[] } ++ [.els m.pc s.pend]):=
  ((b.FD Int 3).reb 0 R.B rfl hB).ad [1,2,3,4,5,6,0,8,9,7] [1,2,3,0,5,6,7,8,9,10,4]
 refine jW b ?_;refine uR (vk (i:=i) (c:=c)) (jM EI rfl) b hZ hB hH hm fun s1 m1 w2 hm hbs b=>?_;refine jW b ?_;refine uR UK (jM R8 rfl) b hZ hB kI hm fun s1 m1 w2 hm hbs2 b=>?_;replace hbs:=lF hbs hbs2;refine jW b ?_;refine Py tV (jM EL rfl) b hZ hB kI hm fun x s1 m1 w2 hm hbs2 b=>?_;replace hbs:=lF hbs hbs2;refine uR PK (jM WS rfl) b hZ hB kI hm fun s1 m1 w2 hm hbs2 b=>?_;replace hbs:=lF hbs hbs2;cases hm;refine jW b ?_;refine kY (t_n b 0 [.slice m.pA s.pend.length m.pC] rfl He rfl rfl) fun w3 b=>?_;refine jW b ?_;exact nJ rfl ⟨_,_,{ m1 with pA:=m.pA,pC:=m.pC,pc:=m.pc },[],rfl,⟨rfl,rfl⟩,hbs,b.ad [0,1,2,3,4,5,9,7,8] [0,1,2,10,4,5,6,7,8,9]⟩
theorem FT {R:Rn}{kind:Int}:Ch R (fun _=>True) 171 #[Pt R.lb,V kind] (Ce kind) VU []:=by refine pY fun w Z G m s q b hZ _ hB hm=>?_;refine kX func171 rfl ?_;refine lH [(0,Pt R.lb),(1,V kind)] ⟨rfl,rfl,trivial⟩ fun av=>?_;refine jW b ?_;refine Py IE (jM IB rfl) b hZ hB kI hm fun x s m w1 hm hbs b=>?_;refine jW b ?_;refine Py IE (jM IB rfl) b hZ hB kI hm fun y s m w1 hm hbs2 b=>?_;replace hbs:=lF hbs hbs2;refine jW b ?_;refine kQ (DC (v:=.agg (cO ⟨kind,0,y,x,0,0,0,0,wN⟩).toArray) rfl (by kernel_rfl)) ?_;refine Py zu (jM FL rfl) b hZ hB kI hm fun x s m w1 hm hbs2 b=>?_;replace hbs:=lF hbs hbs2;refine uR (k:=nX) EY (jM Il rfl) b hZ hB kI (by rw [Dq];exact hm) fun s' m' w5 hm hbs2 b=>?_;cases hm;refine jW b ?_;exact nJ rfl ⟨_,_,_,[],rfl,⟨rfl,rfl⟩,lF hbs hbs2,lf0 b⟩
theorem VJ {R:Rn}{fv:Nat}:Ch R (fun _=>True) 172 #[Pt R.lb] (Nh (jS fv R.src) R.src.c) VU []:=by
 refine pY fun w Z G m s q b hZ _ hB hm=>?_;obtain ⟨p,hp,hm⟩:=lbi hm;unfold I5 at hp;refine kX func172 rfl ?_;refine lH [(0,Pt R.lb)] ⟨rfl,trivial⟩ fun av=>?_;have hbd:s.pend.length<=9223372036854775807:=(b.vw 6 3 rfl rfl).bd;refine jW b ?_;refine Fg b [] fun b=>?_;refine Bj b ?_;rw [UC hbd];cases hl:s.pend.getLast? with
 | none=>
  rw [hl] at hp;cases hp;cases hm;have h0:s.pend=[]:=List.getLast?_eq_none_iff.1 hl;refine hO 10 (wK rfl underlying22 rfl rfl (by rw [h0];simp) fun u w' hw _=>?_);exact prt b u w' hw
 | some v=>
 rw [hl] at hp;cases hp;obtain ⟨h1,h2⟩:=UZ hl;refine wQ 10 rfl ?_;refine dP (lg underlying22 oJ rfl rfl (by omega) (b.vw 6 3 rfl rfl) h1) (jI kI b) ?_;refine wQ 11 rfl ?_;refine dU (v:=V v) (fun hu=>ku underlying3 rfl rfl ((uY (ds:=[V v]) (hu.vw 6 3 rfl rfl) h1 (fun _ h=>h)) 0 _ rfl)) (jI kI b) ?_;refine Bj b ?_;refine hD ?_;refine jW b ?_;refine Ym b [11] fun b e=>?_;refine Rz e ?_;refine hO 5 (Kt (fv:=fv) rfl rfl (jM Cu rfl) b hZ hB hm fun n1 c1 s1 m1 w1 hc1 hm hst hbs b=>?_);have e:SB w Z G R (s.stmt,s.omap) [] [] w1:=⟨m1,s1,hst,b⟩;refine ⟨jI kI e,?_⟩;unfold QE at hm;rw [(XY hst).1] at hm;refine hO 11 (Kt (fv:=fv) rfl rfl (jM Cu rfl) b hZ hB hm fun n2 c2 s2 m2 w2 hc2 hm hst2 hbs2 b=>?_);have e:SB w Z G R (s.stmt,s.omap) [] [] w2:=⟨m2,s2,hst2.trans hst,b⟩;have hc1:=tO hbs2 hc1;replace hbs:=lF hbs hbs2;refine ⟨jI kI e,?_⟩;refine Rz e ?_;refine hD ?_;refine jW b ?_;refine UE Ql (jM Wn rfl) b hZ hB hc1 hm (fun yes A1 k1 s3 m3 w3 hm hbs2 b=>?_);have hc1:=tO hbs2 hc1;have hc2:=tO hbs2 hc2;replace hbs:=lF hbs hbs2;refine Ej b (jP rR) fun w4 b5 b=>?_;refine kY (mM b 9 (cE yes A1 k1) rfl rR rfl rfl) fun w5 b=>?_;have b:Bx w w5 Z G (Low R m3 s3 ++ [.box b5 64 (cE yes A1 k1).toArray]) (kK R m3 s3 ++ [.l A1 k1 yes.a]):=b;refine jW b ?_;refine UE (zZ (a:=none) (cc:=0) (first:=[])) (jM Cg rfl) (Jm b) hZ hB hc2 hm (fun no A2 k2 s3 m3 w3 hm hbs2 b=>?_) y1;have hc1:=tO hbs2 hc1;have hc2:=tO hbs2 hc2;replace hbs:=lF hbs hbs2;refine Ej b (jP rR) fun w4 b6 b=>?_;refine kY (mM b 10 (cE no A2 k2) rfl rR rfl rfl) fun w5 b=>?_;have b:Bx w w5 Z G (Low R m3 s3 ++ [.box b5 64 (cE yes A1 k1).toArray,.box b6 64 (cE no A2 k2).toArray]) (kK R m3 s3 ++ [.l A2 k2 no.a,ln,.l A1 k1 yes.a]):=b;refine jW b ?_;refine kQ (lu (cE yes A1 k1) underlying64 rR rfl (b.bk 9 rfl)) ?_
 refine kQ (lu (cE no A2 k2) underlying64 rR rfl (b.bk 10 rfl)) ?_;refine uR ET (jM NU rfl) b hZ hB kI hm (fun s3 m3 w3 hm hbs2 b=>?_) (y2 (.tail _ (.tail _ (.head _))) (.head _));have hc1:=tO hbs2 hc1;have hc2:=tO hbs2 hc2;replace hbs:=lF hbs hbs2;refine jW b ?_;refine uR Qw (jM Xg rfl) b hZ hB hc2 hm fun s3 m3 w3 hm hbs2 b=>?_;have hc1:=tO hbs2 hc1;replace hbs:=lF hbs hbs2;refine jW b ?_;refine uR (k:=nX) MH (jM Xv rfl) b hZ hB hc1 (by rw [Dq];exact hm) fun s' m' w5 hm hbs2 b=>?_;cases hm;refine jW b ?_;exact nJ rfl ⟨_,_,_,[],rfl,⟨rfl,rfl⟩,lF hbs hbs2,lf0 b⟩
end Go.Proofs.YtdkneekpdecjbaaGreat
