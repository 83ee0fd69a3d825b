/- Loops, try statements; any statement. -/
import Derived.Test.YtdkneekpdecjbaaGreatZ17
import Derived.Test.YtdkneekpdecjbaaGreatZ5
import Derived.Test.YtdkneekpdecjbaaGreatLa
set_option linter.unusedVariables false
set_option maxRecDepth 4000
set_option maxHeartbeats 12800000
namespace Go.Proofs.YtdkneekpdecjbaaGreat
open Go.RowKit Go.Fw Go.Proofs.Tryz
theorem Xo:jC prog 104:=⟨_,func104,by kernel_rfl,by kernel_rfl⟩
theorem ZM:jC prog 103:=⟨_,func103,by kernel_rfl,by kernel_rfl⟩
theorem aaZ:jC prog 105:=⟨_,func105,by kernel_rfl,by kernel_rfl⟩
theorem abI:jC prog 106:=⟨_,func106,by kernel_rfl,by kernel_rfl⟩
theorem Wx:jC prog 107:=⟨_,func107,by kernel_rfl,by kernel_rfl⟩
theorem ZT:jC prog 109:=⟨_,func109,by kernel_rfl,by kernel_rfl⟩
theorem RJ:jC prog 110:=⟨_,func110,by kernel_rfl,by kernel_rfl⟩
theorem aaE:jC prog 113:=⟨_,func113,by kernel_rfl,by kernel_rfl⟩
theorem YS {R:Rn}{fv fu:Nat}{st:jA->LM Unit}(hS:CSt R st){x:jA}{a:Yb}:Ch R (fun _=>True) 103 #[Pt R.lb,.agg (cS x a).toArray] (Jh (jS fv R.src) R.src.c st fu x) VU (dS x a):=by
 refine pY fun w Z G m s q b hZ _ hB hm=>?_;unfold Jh at hm;refine kX func103 rfl ?_;refine lH [(0,Pt R.lb),(1,.agg (cS x a).toArray)] ⟨rfl,rfl,trivial⟩ fun av=>?_;refine GD (xW ?_);refine Ej b (uV rfl) fun w1 b3 b=>?_;have b:Bx w w1 Z G (Low R m s ++ [.box b3 115 (cS x a).toArray]) (kK R m s ++ dS x a):=b;refine jW b ?_;refine Ym b [11] fun b eS=>?_;refine Rz eS ?_;refine hO 3 (Kt (fv:=fv) rfl rfl (jM Cu rfl) b hZ hB hm fun n1 c1 s1 m1 w1 hc1 hm hst hbs b=>?_);have eS:SB w Z G R (s.stmt,s.omap) _ _ w1:=⟨m1,s1,hst,b⟩;refine ⟨jI kI eS,?_⟩;refine hO 7 (Kt (fv:=fv) rfl rfl (jM Cu rfl) b hZ hB hm fun n2 c2 s2 m2 w2 hc2 hm hst2 hbs2 b=>?_);have eS:SB w Z G R (s.stmt,s.omap) _ _ w2:=⟨m2,s2,hst2.trans hst,b⟩;have hc1:=tO hbs2 hc1;replace hbs:=lF hbs hbs2;refine ⟨jI kI eS,?_⟩;refine hO 11 (Kt (fv:=fv) rfl rfl (jM Cu rfl) b hZ hB hm fun n3 c3 s3 m3 w3 hc3 hm hst3 hbs2 b=>?_);have eS:SB w Z G R (s.stmt,s.omap) _ _ w3:=⟨m3,s3,hst3.trans (hst2.trans hst),b⟩;have hc1:=tO hbs2 hc1;have hc2:=tO hbs2 hc2;replace hbs:=lF hbs hbs2;refine ⟨jI kI eS,?_⟩;refine Rz eS ?_;refine hD ?_;refine jW b ?_;refine uR (EN (i:=n1) (c:=c1)) (jM Iq rfl) b hZ hB hc1 hm fun s3 m3 w3 hm hbs2 b=>?_;have hc1:=tO hbs2 hc1;have hc2:=tO hbs2 hc2;have hc3:=tO hbs2 hc3;replace hbs:=lF hbs hbs2;refine jW b ?_;refine uR (vk (i:=n1) (c:=c1)) (jM EI rfl) b hZ hB hc1 hm fun s3 m3 w3 hm hbs2 b=>?_;have hc1:=tO hbs2 hc1;have hc2:=tO hbs2 hc2;have hc3:=tO hbs2 hc3;replace hbs:=lF hbs hbs2;refine jW b ?_;refine uR Sz (jM Xo rfl) b hZ hB kI hm fun s3 m3 w3 hm hbs2 b=>?_;have hc1:=tO hbs2 hc1;have hc2:=tO hbs2 hc2;have hc3:=tO hbs2 hc3;replace hbs:=lF hbs hbs2;rw [zU] at hm;refine jW b ?_;refine Qg (fun e a c=>CX e a c) b hZ hB (j:=1) rfl hm rfl rfl (fun _ _ _=>jM IL rfl) fun cv s3 m3 A v1 w1 hm hbs2 b=>?_
 have hc1:=tO hbs2 hc1;have hc2:=tO hbs2 hc2;have hc3:=tO hbs2 hc3;replace hbs:=lF hbs hbs2;refine jW b ?_;refine UE (zZ (i:=n2) (c:=c2) (a:=none) (cc:=0) (first:=[])) (jM Cg rfl) (Jm b) hZ hB hc2 hm (fun yes A1 k1 s3 m3 w3 hm hbs2 b=>?_) y1;have hc1:=tO hbs2 hc1;have hc2:=tO hbs2 hc2;have hc3:=tO hbs2 hc3;replace hbs:=lF hbs hbs2;refine Ej b (jP rR) fun w4 b8 b=>?_;refine kY (mM b 10 (cE yes A1 k1) rfl rR rfl rfl) fun w5 b=>?_;have b:Bx w w5 Z G (Low R m3 s3 ++ [.box b3 115 (cS x a).toArray,.box b8 64 (cE yes A1 k1).toArray]) (kK R m3 s3 ++ (.l A1 k1 yes.a :: ln :: dS x a)):=b;refine jW b ?_;refine UE (zZ (i:=n3) (c:=c3) (a:=none) (cc:=0) (first:=[])) (jM Cg rfl) b hZ hB hc3 hm (fun no A2 k2 s3 m3 w3 hm hbs2 b=>?_) (fun d hd=>by rw [List.mem_singleton.1 hd];exact .tail _ (.head _));have hc1:=tO hbs2 hc1;have hc2:=tO hbs2 hc2;have hc3:=tO hbs2 hc3;replace hbs:=lF hbs hbs2;refine Ej b (jP rR) fun w4 b9 b=>?_;refine kY (mM b 11 (cE no A2 k2) rfl rR rfl rfl) fun w5 b=>?_;have b:Bx w w5 Z G (Low R m3 s3 ++ [.box b3 115 (cS x a).toArray,.box b8 64 (cE yes A1 k1).toArray,.box b9 64 (cE no A2 k2).toArray]) (kK R m3 s3 ++ (.l A2 k2 no.a :: .l A1 k1 yes.a :: ln :: dS x a)):=b;refine jW b ?_;refine kQ (lu (cE yes A1 k1) underlying64 rR rfl (b.bk 10 rfl)) ?_;refine kQ (lu (cE no A2 k2) underlying64 rR rfl (b.bk 11 rfl)) ?_;refine uR ET (jM NU rfl) b hZ hB kI hm (fun s3 m3 w3 hm hbs2 b=>?_) (y2 (.tail _ (.head _)) (.head _));have hc1:=tO hbs2 hc1;have hc2:=tO hbs2 hc2;have hc3:=tO hbs2 hc3;replace hbs:=lF hbs hbs2;have b:=lY b [0] [3,4,5,6];have b:Bx w w3 Z G (Low R m3 s3 ++ [.box b3 115 (cS x a).toArray]) (kK R m3 s3 ++ dS x a):=b;refine jW b ?_;refine uR (vk (i:=n2) (c:=c2)) (jM EI rfl) b hZ hB hc2 hm fun s3 m3 w3 hm hbs2 b=>?_;have hc1:=tO hbs2 hc1
 have hc3:=tO hbs2 hc3;replace hbs:=lF hbs hbs2;refine jW b ?_;refine uR (ER hS) (jM MW rfl) b hZ hB kI hm (fun s3 m3 w3 hm hbs2 b=>?_) (fun d hd=>by rw [List.mem_singleton.1 hd];exact .tail _ (.tail _ (.head _)));have hc1:=tO hbs2 hc1;have hc3:=tO hbs2 hc3;replace hbs:=lF hbs hbs2;refine jW b ?_;refine uR (EN (i:=n1) (c:=c1)) (jM Iq rfl) b hZ hB hc1 hm fun s3 m3 w3 hm hbs2 b=>?_;have hc3:=tO hbs2 hc3;replace hbs:=lF hbs hbs2;refine jW b ?_;refine uR (k:=nX) (vk (i:=n3) (c:=c3)) (jM EI rfl) b hZ hB hc3 (by rw [Dq];exact hm) fun s' m' w5 hm hbs2 b=>?_;cases hm;refine jW b ?_;exact nJ rfl ⟨_,_,_,[],rfl,⟨rfl,rfl⟩,lF hbs hbs2,lf0 b⟩
theorem RL {F:Nat→Prop}{w:World}:∀ l:List Nat,wR F w (Ci l) (l.map PB.mk)
 | []=>trivial
 | _ :: l=>⟨rfl,RL l⟩
theorem KW {F:Nat→Prop}{w:World}:∀ {cs:List (List Value)}{l:List Nat},wR F w cs (l.map PB.mk)→cs=Ci l
 | [],[],_=>rfl
 | _ :: _,_ :: _,h=>by rw [Ci,List.map_cons,<-Ci,<-KW h.2];exact congrArg (· :: _) h.1
 | [],_ :: _,h=>h.elim
 | _ :: _,[],h=>h.elim
theorem ada {ρ:Operand->Value}{w:World}{d:Option Nat}{ty:TypeId}{pos:String}{af:Array Edge}{g:Option (Nat × Bool)}{x:Operand}{b:Nat}(h:ρ x=Pt b):(execOp ρ ⟨d,.buildSlice 88 1 #[(0,x)],ty,pos,af,g⟩).run prog w=.ok (.value (.slice (some ⟨w.heap.size,0,none⟩) 1 1)) (w.alloc (.cells #[Pt b] 111)):=by
 have e:(Instr.buildSlice 88 1 #[(0,Pt b)]).run prog w=.ok (.slice (some ⟨w.heap.size,0,none⟩) 1 1) (w.alloc (.cells #[Pt b] 111)):=by kernel_rfl
 simp [execOp,h,e]
theorem HP.push {hp bs hnd:List Nat}{h c:Nat}(k:HP hp bs hnd)(hc:bs[h]?=some c):HP (hp ++ [c]) bs (hnd ++ [h]):=by
 refine ⟨by simp [k.1],fun j i hj=>?_⟩;rw [List.getElem?_append] at hj ⊢;rw [k.1];split at hj
 · rename_i hlt;rw [lX hlt];exact k.2 j i hj
 · rename_i hlt;rw [lW hlt];rcases Nat.eq_zero_or_pos (j - hnd.length) with h0 | h0
   · rw [h0] at hj ⊢;simp only [Ec,Dm] at hj;subst hj;exact ⟨c,rfl,hc⟩
   · rw [List.getElem?_eq_none (by simp;omega)] at hj;cases hj
theorem HP.pop {hp bs hnd:List Nat}(k:HP hp bs hnd):HP hp.dropLast bs hnd.dropLast:=by
 refine ⟨by simp [k.1],fun j i hj=>?_⟩;rw [List.getElem?_dropLast] at hj ⊢;rw [k.1];split at hj
 · rename_i hlt;rw [lX hlt];exact k.2 j i hj
 · cases hj
theorem aaO {w0 w:World}{Z G:Nat->Prop}{L:List It}{D:List Da}(h:Bx w0 w Z G L D)(i:Nat){B c:Nat}{A:Option Addr}{l:List Nat}(hi:L[i]?=some (.own B A c 111 1 (Ci l))):Bx w0 w Z G (L.set i (.own B A c 111 1 (Ci l.dropLast))) D:=by
 have h1:=h.jX (d:=.els (Ci l) (l.map PB.mk)) (RL l);have h2:=h1.shr (α:=PB) i 0 (m:=l.length - 1) hi rfl (by simp) rfl;have e:(Ci l).take (l.length - 1)=Ci l.dropLast:=by rw [Ci,Ci,List.dropLast_eq_take,List.map_take]
 rw [e] at h2;exact h2.Au fun d hd=>xQ _ hd
theorem Z5 {R:Rn}{fv:Nat}{st:jA->LM Unit}(hS:CSt R st){x:jA}{a:Yb}:Ch R (fun _=>True) 113 #[Pt R.lb,.agg (cS x a).toArray] (PE (jS fv R.src) R.src.c st x) VU (dS x a):=by
 refine pY fun w Z G m s q b hZ _ hB hm=>?_;unfold PE at hm;refine kX func113 rfl ?_;refine lH [(0,Pt R.lb),(1,.agg (cS x a).toArray)] ⟨rfl,rfl,trivial⟩ fun av=>?_;refine GD (xW ?_);refine Ej b (uV rfl) fun w1 b3 b=>?_;have b:Bx w w1 Z G (Low R m s ++ [.box b3 115 (cS x a).toArray]) (kK R m s ++ dS x a):=b;refine jW b ?_;refine Ym b [7] fun b eS=>?_;refine Rz eS ?_;refine hO 3 (Kt (fv:=fv) rfl rfl (jM Cu rfl) b hZ hB hm fun n1 c1 s1 m1 w1 hc1 hm hst hbs b=>?_);have eS:SB w Z G R (s.stmt,s.omap) _ _ w1:=⟨m1,s1,hst,b⟩;refine ⟨jI kI eS,?_⟩;refine hO 7 (Kt (fv:=fv) rfl rfl (jM Cu rfl) b hZ hB hm fun n2 c2 s2 m2 w2 hc2 hm hst2 hbs2 b=>?_);have eS:SB w Z G R (s.stmt,s.omap) _ _ w2:=⟨m2,s2,hst2.trans hst,b⟩;have hc1:=tO hbs2 hc1;replace hbs:=lF hbs hbs2;refine ⟨jI kI eS,?_⟩;refine Rz eS ?_;refine hD ?_;obtain ⟨u2,hu2,hm⟩:=lbi hm;unfold Iz at hu2;split at hu2
 · cases hu2
 rename_i hcapl;cases hu2;replace hm:(tL st x.d |>.bind fun _=>I8 |>.bind fun _=>xL n2 |>.bind fun _ s=>s.labs[n1]?.bind fun t=>((if 0<=t.1 then oD n1 1 |>.bind fun _=>Bb (x.f,0) 0 |>.bind fun _=>tL st x.h |>.bind fun _=>xL n2 else nX ()) |>.bind fun _=>xq n2) s) { s2 with hnd:=s2.hnd ++ [n1] }=some q:=hm;have hq1:m2.hp.length=s2.hnd.length:=(show Da.ok (.wp (.l m2.cA m2.cC s2.ctxs) (HP m2.hp m2.bs s2.hnd)) _ _ from b.d 5 rfl).2.1;refine jW b ?_;refine p8 (jJ b [[Pt c1]] ([PB.mk c1]:List PB) (ada rfl) rfl rfl (by decide) ⟨rfl,trivial⟩) ?_;rintro _ w4 ⟨b4,rfl,b⟩;replace b:=b.jX (d:=.els (Ci m2.hp) (m2.hp.map PB.mk)) (RL _);have happ:app (m2.hp.map PB.mk) [PB.mk c1]=some ((m2.hp ++ [c1]).map PB.mk):=by unfold app;rw [lX (by simp [hq1];omega),List.map_append];rfl
 refine p8 (ko (α:=PB) b 8 0 rfl rfl underlying88 Si rfl (by decide) (by decide) hB (by show Value.slice m2.hA s2.hnd.length m2.hC=_;rw [Df,hq1]) rfl (b.Bc 0 1 rfl rfl) happ) ?_;rintro _ w5 ⟨A2,k2,cs2,rfl,b⟩;have hcs:=KW (b.de 0 rfl);subst hcs;have hlen2:((m2.hp ++ [c1]).map PB.mk).length=(s2.hnd ++ [n1]).length:=by simp [hq1]
 rw [hlen2];refine jW b ?_;refine kY (t_n b 1 [.slice A2 (s2.hnd ++ [n1]).length k2] rfl adD rfl rfl) fun w6 b=>?_;have hQ:Da.ok (.wp (.l m2.cA m2.cC s2.ctxs) (HP m2.hp m2.bs s2.hnd)) _ _:=b.d 7 rfl;replace b:=b.Jp 7 (d:=.wp (.l m2.cA m2.cC s2.ctxs) (HP (m2.hp ++ [c1]) m2.bs (s2.hnd ++ [n1]))) ⟨hQ.1,hQ.2.push hc1⟩;have b:Bx w w6 Z G (Low R { m2 with hA:=A2,hC:=k2,hp:=m2.hp ++ [c1] } { s2 with hnd:=s2.hnd ++ [n1] } ++ [.box b3 115 (cS x a).toArray]) (kK R { m2 with hA:=A2,hC:=k2,hp:=m2.hp ++ [c1] } { s2 with hnd:=s2.hnd ++ [n1] } ++ dS x a):=b.ad [1,2,3,4,5,6,7,8,9,10] [2,3,4,5,6,7,8,9,10,11,12,13,14,15];clear hQ hlen2 happ hq1;refine jW b ?_;refine uR (ER hS) (jM MW rfl) b hZ hB kI hm (fun s3 m3 w3 hm hbs2 b=>?_) (fun d hd=>by rw [List.mem_singleton.1 hd];exact .tail _ (.tail _ (.head _)));have hc1:=tO hbs2 hc1;have hc2:=tO hbs2 hc2;replace hbs:=lF hbs hbs2;obtain ⟨u3,hu3,hm⟩:=lbi hm;unfold I8 at hu3;split at hu3
 · cases hu3
 rename_i hne;cases hu3;replace hm:(xL n2 |>.bind fun _ s=>s.labs[n1]?.bind fun t=>((if 0<=t.1 then oD n1 1 |>.bind fun _=>Bb (x.f,0) 0 |>.bind fun _=>tL st x.h |>.bind fun _=>xL n2 else nX ()) |>.bind fun _=>xq n2) s) { s3 with hnd:=s3.hnd.dropLast }=some q:=hm;have hpos:0 < s3.hnd.length:=List.length_pos_iff.2 hne;have hq1:m3.hp.length=s3.hnd.length:=(show Da.ok (.wp (.l m3.cA m3.cC s3.ctxs) (HP m3.hp m3.bs s3.hnd)) _ _ from b.d 5 rfl).2.1;have hcap:=(b.bo 7 rfl).cap;rw [show (Ci m3.hp).length=s3.hnd.length by rw [Df,hq1]] at hcap;have hbd2:s3.hnd.length<=9223372036854775807:=by have:=rT hcap.1 hcap.2;simp only [maxLen] at this;omega
 refine jW b ?_;refine Fg b [14] fun b=>?_;refine Bj b ?_;rw [UC hbd2];refine wQ 11 rfl ?_;refine dP (xS (s3.hnd.length - 1) underlying88 Si rfl rfl (by omega) (by omega)) (jI kI b) ?_;refine Bj b ?_;have hlen3:s3.hnd.length - 1=s3.hnd.dropLast.length:=by simp
 rw [hlen3];refine hO 14 (os rfl rfl (t_n b 0 [.slice m3.hA s3.hnd.dropLast.length m3.hC] rfl adD rfl rfl) fun w7 b=>⟨sy 14 kI,hD ?_⟩);replace b:=aaO b 7 rfl;have hQ:Da.ok (.wp (.l m3.cA m3.cC s3.ctxs) (HP m3.hp m3.bs s3.hnd)) _ _:=b.d 5 rfl;replace b:=b.Jp 5 (d:=.wp (.l m3.cA m3.cC s3.ctxs) (HP m3.hp.dropLast m3.bs s3.hnd.dropLast)) ⟨hQ.1,hQ.2.pop⟩;have b:Bx w w7 Z G (Low R { m3 with hp:=m3.hp.dropLast } { s3 with hnd:=s3.hnd.dropLast } ++ [.box b3 115 (cS x a).toArray]) (kK R { m3 with hp:=m3.hp.dropLast } { s3 with hnd:=s3.hnd.dropLast } ++ dS x a):=b;clear hQ hcap hpos hbd2 hq1 hne hlen3;refine jW b ?_;refine uR (EN (i:=n2) (c:=c2)) (jM Iq rfl) b hZ hB hc2 hm fun s4 m4 w3 hm hbs2 b=>?_;have hc1:=tO hbs2 hc1;have hc2:=tO hbs2 hc2;replace hbs:=lF hbs hbs2;obtain ⟨t,ht,hm⟩:=bs hm;obtain ⟨_,h,h2,h3,h5,h7⟩:=Dv b 8 4 rfl rfl hc1 ht;refine jW b ?_;refine gL rfl h5 rfl rfl ?_;refine jW b ?_;refine qM (fun f' w'=>∃ (s5:Lw)(m5:zk),Has f' [(0,Pt R.lb),(5,Pt c2)]/\(∃ t,m5.bs=m4.bs ++ t)/\Bx w w' Z G (Low R m5 s5 ++ [.box b3 115 (cS x a).toArray]) (kK R m5 s5 ++ dS x a)/\xq n2 s5=some q) (fun J hJ=>?_) ?_
 · refine rZ rfl (fun h0=>?_) (fun h0=>?_)
   · rw [lX h0,XR] at hm;refine jW b ?_;refine uR (vk (i:=n1) (c:=c1)) (jM EI rfl) b hZ hB hc1 hm fun s5 m5 w3 hm hbs2 b=>?_;have hc2:=tO hbs2 hc2;have hbs5:=hbs2;rw [XR] at hm;refine jW b ?_;refine kQ (DC (v:=.agg (cP (x.f,0)).toArray) rfl (by kernel_rfl)) ?_;refine uR (GL (p:=(x.f,0))) (jM Qx rfl) b hZ hB kI hm fun s5 m5 w3 hm hbs2 b=>?_;have hc2:=tO hbs2 hc2;have hbs5:=lF hbs5 hbs2;rw [XR] at hm;refine jW b ?_;refine uR (ER hS) (jM MW rfl) b hZ hB kI hm (fun s5 m5 w3 hm hbs2 b=>?_) (fun d hd=>by rw [List.mem_singleton.1 hd];exact .tail _ (.tail _ (.tail _ (.head _))));have hc2:=tO hbs2 hc2;have hbs5:=lF hbs5 hbs2;refine jW b ?_;refine uR (EN (i:=n2) (c:=c2)) (jM Iq rfl) b hZ hB hc2 hm fun s5 m5 w3 hm hbs2 b=>?_;refine jW b ?_;exact hJ _ _ ⟨s5,m5,⟨rfl,rfl,trivial⟩,lF hbs5 hbs2,b,hm⟩
   · rw [lW h0] at hm;refine jW b ?_;exact hJ _ _ ⟨s4,m4,⟨rfl,rfl,trivial⟩,OM,b,hm⟩
 rintro f' w8 ⟨s5,m5,hf,hbs2,b,hm⟩;obtain ⟨av4,rfl⟩:=kZ _ _ hf;clear hf;have hc2:=tO hbs2 hc2;replace hbs:=lF hbs hbs2;refine jW b ?_;refine uR (k:=nX) (Mq (i:=n2) (c:=c2)) (jM Xm rfl) b hZ hB hc2 (by rw [Dq];exact hm) fun s' m' w5 hm hbs2 b=>?_;cases hm;refine jW b ?_;exact nJ rfl ⟨_,_,_,[],rfl,⟨rfl,rfl⟩,lF hbs hbs2,lf0 b⟩
theorem SA {R:Rn}{w0 w:World}{Z G:Nat->Prop}{X:List It}{Y:List Da}{m:zk}{s:Lw}{j k:Nat}{l:List jB}{y:jB}{a:Option Addr}{c:Nat}(b:Bx w0 w Z G (Low R m s ++ X) (kK R m s ++ Y))(hj:Y[j]?=some (.l a c l))(hy:l[k]?=some y) :∃ a2 c2,Bx w0 w Z G (Low R m s ++ X) (kK R m s ++ (.l a2 c2 y.a :: .at (mX a) (nW a+k * Rp.sz jB) (cX y a2 c2) :: Y)):=by obtain ⟨cs,hr,e2⟩:=b.nm (10+j) (ZU hj) hy;obtain ⟨a2,c2,rfl,hd⟩:=jB.out hr;exact ⟨a2,c2,Fb (Fb e2 |>.jX (d:=.l a2 c2 y.a) hd)⟩
theorem TH {R:Rn}{fv:Nat}:∀ fu,CSt R (vg (jS fv R.src) R.src.c fu)
 | 0=>fun x a=>pY fun w Z G m s q b hZ _ hB hm=>by cases hm
 | fu+1=>fun x a=>by
  have ih:=TH (R:=R) (fv:=fv) fu;refine pY fun w Z G m s q b hZ _ hB hm=>?_;rw [vg] at hm;dsimp only at hm;refine kX func70 rfl ?_;refine lH [(0,Pt R.lb),(1,.agg (cS x a).toArray)] ⟨rfl,rfl,trivial⟩ fun av=>?_;refine GD (xW ?_);refine Ej b (uV rfl) fun w1 b3 b=>?_;refine jW b ?_;refine kY (t_n b 0 [V x.n] rfl oJ rfl rfl) fun w2 b=>?_;have b:Bx w w2 Z G (Low R m { s with stmt:=x.n } ++ [.box b3 115 (cS x a).toArray]) (kK R m { s with stmt:=x.n } ++ dS x a):=b;generalize ({ s with stmt:=x.n }:Lw)=s at b hm;refine jW b ?_;refine rZ rfl (fun h5=>?_) (fun h5=>?_)
  · rw [lX h5] at hm;refine jW b ?_;refine kQ (lu (cS x a) underlying115 jQ rfl (b.bk 9 rfl)) ?_;refine uR (k:=nX) (YS ih) (jM ZM rfl) b hZ hB kI (by rw [Dq];exact hm) (fun s' m' w5 hm hbs b=>?_) yy;cases hm;refine jW b ?_;refine lT ?_;exact nJ rfl ⟨_,_,_,[],rfl,⟨rfl,rfl⟩,hbs,lf0 b⟩
  rw [lW h5] at hm;refine jW b ?_;refine uR Sz (jM Xo rfl) b hZ hB kI hm fun s m w1 hm hbs b=>?_;refine jW b ?_;refine rZ rfl (fun h1=>?_) (fun h1=>?_)
  · rw [lX h1] at hm;refine jW b ?_;refine kQ (lu (cS x a) underlying115 jQ rfl (b.bk 9 rfl)) ?_;refine uR (k:=nX) QK (jM aaZ rfl) b hZ hB kI (by rw [Dq];exact hm) (fun s' m' w5 hm hbs2 b=>?_) yy;cases hm;refine jW b ?_;exact nJ rfl ⟨_,_,_,[],rfl,⟨rfl,rfl⟩,lF hbs hbs2,lf0 b⟩
  rw [lW h1] at hm;refine jW b ?_;refine rZ rfl (fun h2=>?_) (fun h2=>?_)
  · rw [lX h2] at hm;cases hT:x.e with
    | nil=>
      rw [hT] at hm;cases hm;cases hA:x.a with
      | nil=>
        refine Fg b [9] fun b=>?_;refine Bj b ?_;refine QU 3 7 (by kernel_rfl) (wK rfl underlying113 rfl rfl (by rw [hT];simp) fun u w' hw _=>?_) (wK rfl underlying113 rfl rfl (by rw [hA];simp) fun u w' hw _=>?_)
        · exact prt b u w' hw
        · exact prt b u w' hw
      | cons e le=>
        have he:x.a[0]?=some e:=by rw [hA];rfl
        obtain ⟨a2,c2,b⟩:=SA (j:=1) b rfl he;refine Fg b [9] fun b=>?_;refine Bj b ?_;refine wQ 7 rfl ?_;refine dP (lg underlying113 jR rfl rfl rfl (b.dl 13 rfl) he) (jI kI b) ?_;refine wQ 8 rfl ?_;refine dU (fun hu=>nO (cX e a2 c2) underlying166 rfl jR rfl rfl (hu.dc 11 rfl)) (jI kI b) ?_;refine hO 3 (wK rfl underlying113 rfl rfl (by rw [hT];simp) fun u w' hw _=>?_);exact prt b u w' hw
    | cons t lt=>
      have ht:x.e[0]?=some t:=by rw [hT];rfl
      rw [hT] at hm;obtain ⟨a1,c1,b⟩:=SA (j:=0) b rfl ht;cases hA:x.a with
      | nil=>
        rw [hA] at hm;cases hm;refine Fg b [9] fun b=>?_;refine Bj b ?_;refine wQ 3 rfl ?_;refine dP (lg underlying113 jR rfl rfl rfl (b.dl 12 rfl) ht) (jI kI b) ?_;refine wQ 4 rfl ?_;refine dU (fun hu=>nO (cX t a1 c1) underlying166 rfl jR rfl rfl (hu.dc 11 rfl)) (jI kI b) ?_;refine hO 7 (wK rfl underlying113 rfl rfl (by rw [hA];simp) fun u w' hw _=>?_);exact prt b u w' hw
      | cons e le=>
        have he:x.a[0]?=some e:=by rw [hA];rfl
        rw [hA] at hm;obtain ⟨a2,c2,b⟩:=SA (j:=3) b rfl he;refine Fg b [9] fun b=>?_;refine Bj b ?_;refine wQ 3 rfl ?_;refine dP (lg underlying113 jR rfl rfl rfl (b.dl 14 rfl) ht) (jI kI b) ?_;refine wQ 4 rfl ?_;refine dU (fun hu=>nO (cX t a1 c1) underlying166 rfl jR rfl rfl (hu.dc 13 rfl)) (jI kI b) ?_;refine wQ 7 rfl ?_;refine dP (lg underlying113 jR rfl rfl rfl (b.dl 15 rfl) he) (jI kI b) ?_;refine wQ 8 rfl ?_;refine dU (fun hu=>nO (cX e a2 c2) underlying166 rfl jR rfl rfl (hu.dc 11 rfl)) (jI kI b) ?_;refine hO 9 (oC (k:=nX) rfl rfl (Ue (fv:=fv) (fu:=fu)) (jM abI rfl) b hZ hB kI (by rw [Dq];exact hm) (fun _ s' m' v' ds w3 _ h1 hm hbs2 b=>?_) (y2 (.tail _ (.tail _ (.head _))) (.head _)) fun _ _ _ h1 h2=>⟨h1,h2⟩);obtain ⟨rfl,rfl⟩:=h1;cases hm;refine ⟨sy 9 kI,hD ?_⟩;refine jW b ?_;exact nJ rfl ⟨_,_,_,[],rfl,⟨rfl,rfl⟩,lF hbs hbs2,lf0 b⟩
  rw [lW h2] at hm;refine jW b ?_;refine rZ rfl (fun h3=>?_) (fun h3=>?_)
  · rw [lX h3] at hm;refine jW b ?_;refine kQ (lu (cS x a) underlying115 jQ rfl (b.bk 9 rfl)) ?_;refine uR TF (jM Wx rfl) b hZ hB kI hm (fun s m w5 hm hbs2 b=>?_) yy;replace hbs:=lF hbs hbs2;refine jW b ?_;cases hT:x.e with
    | nil=>
      rw [hT] at hm;cases hm;refine jD rfl ?_;refine jW b ?_;exact nJ rfl ⟨_,_,_,[],rfl,⟨rfl,rfl⟩,hbs,lf0 b⟩
    | cons t lt=>
      have ht:x.e[0]?=some t:=by rw [hT];rfl
      rw [hT] at hm;obtain ⟨a1,c1,b⟩:=SA (j:=0) b rfl ht;refine jK ?_ ?_
      · show Value.bool (decide _)=_;rw [Gd];simp
      refine jW b ?_;refine kQ (lg underlying113 jR rfl rfl rfl (b.dl 12 rfl) ht) (kQ (nO (cX t a1 c1) underlying166 rfl jR rfl rfl (b.dc 11 rfl)) ?_);refine Fj (jM RH rfl) Gg ?_;rintro _ w6 ⟨rfl,hx⟩;replace b:=b.ext hx;refine uR (k:=nX) GL (jM Qx rfl) b hZ hB kI (by rw [Dq];exact hm) fun s' m' w5 hm hbs2 b=>?_;cases hm;refine jW b ?_;exact nJ rfl ⟨_,_,_,[],rfl,⟨rfl,rfl⟩,lF hbs hbs2,lf0 b⟩
  rw [lW h3] at hm;refine jW b ?_;refine rZ rfl (fun h4=>?_) (fun h4=>?_)
  · rw [lX h4] at hm;refine jW b ?_;refine kQ (lu (cS x a) underlying115 jQ rfl (b.bk 9 rfl)) ?_;refine uR (k:=nX) (TU ih) (jM ZT rfl) b hZ hB kI (by rw [Dq];exact hm) (fun s' m' w5 hm hbs2 b=>?_) yy;cases hm;refine jW b ?_;exact nJ rfl ⟨_,_,_,[],rfl,⟨rfl,rfl⟩,lF hbs hbs2,lf0 b⟩
  rw [lW h4] at hm;refine jW b ?_;refine rZ rfl (fun h6=>?_) (fun h6=>?_)
  · rw [lX h6] at hm;refine jW b ?_;refine kQ (Od rfl rfl) ?_;refine jW b ?_;refine rZ rfl (fun hf=>?_) (fun hf=>?_)
    · rw [lX (show x.k≠be from hf)] at hm;refine jW b ?_;refine kQ (lu (cS x a) underlying115 jQ rfl (b.bk 9 rfl)) ?_;refine uR TF (jM Wx rfl) b hZ hB kI hm (fun s m w5 hm hbs2 b=>?_) yy;replace hbs:=lF hbs hbs2;refine jW b ?_;refine uR (k:=nX) OB (jM RJ rfl) b hZ hB kI (by rw [Dq];exact hm) fun s' m' w5 hm hbs2 b=>?_;cases hm;refine jW b ?_;exact nJ rfl ⟨_,_,_,[],rfl,⟨rfl,rfl⟩,lF hbs hbs2,lf0 b⟩
    · rw [lW (show ¬ x.k≠be from hf),zU] at hm;refine jW b ?_;refine Qg (fun e a c=>CX e a c) b hZ hB (j:=1) rfl hm rfl rfl (fun _ _ _=>jM IL rfl) fun cv s m A v1 w1 hm hbs2 b=>?_;replace hbs:=lF hbs hbs2;refine uR (k:=nX) OB (jM RJ rfl) b hZ hB kI (by rw [Dq];exact hm) fun s' m' w5 hm hbs2 b=>?_;cases hm;refine jW b ?_;exact nJ rfl ⟨_,_,_,[],rfl,⟨rfl,rfl⟩,lF hbs hbs2,lf0 b⟩
  rw [lW h6] at hm;refine jW b ?_;refine rZ rfl (fun h7=>?_) (fun h7=>?_)
  · rw [lX h7,zU] at hm;refine jW b ?_;refine Qg (fun e a c=>CX e a c) b hZ hB (j:=1) rfl hm rfl rfl (fun _ _ _=>jM IL rfl) fun cv s m A v1 w1 hm hbs2 b=>?_;replace hbs:=lF hbs hbs2;refine uR (k:=nX) PK (jM WS rfl) b hZ hB kI (by rw [Dq];exact hm) fun s' m' w5 hm hbs2 b=>?_;cases hm;refine jW b ?_;exact nJ rfl ⟨_,_,_,[],rfl,⟨rfl,rfl⟩,lF hbs hbs2,lf0 b⟩
  rw [lW h7] at hm;refine jW b ?_;refine rZ rfl (fun h8=>?_) (fun h8=>?_)
  · rw [lX h8] at hm;refine jW b ?_;refine kQ (lu (cS x a) underlying115 jQ rfl (b.bk 9 rfl)) ?_;refine uR (k:=nX) (Z5 ih) (jM aaE rfl) b hZ hB kI (by rw [Dq];exact hm) (fun s' m' w5 hm hbs2 b=>?_) yy;cases hm;refine jW b ?_;exact nJ rfl ⟨_,_,_,[],rfl,⟨rfl,rfl⟩,lF hbs hbs2,lf0 b⟩
  rw [lW h8] at hm;refine jW b ?_;refine rZ rfl (fun h9=>?_) (fun h9=>?_)
  · rw [lX h9,zU] at hm;refine jW b ?_;refine Qg (fun e a c=>CX e a c) b hZ hB (j:=1) rfl hm rfl rfl (fun _ _ _=>jM IL rfl) fun cv s m A v1 w1 hm hbs2 b=>?_;replace hbs:=lF hbs hbs2;refine kQ (DC (v:=.agg (cO ⟨18,0,cv,0,0,0,0,0,wN⟩).toArray) rfl (by kernel_rfl)) ?_;refine lOp (k:=nX) b hZ hB (by rw [Dq];exact hm) rfl (fun _ _=>jM Gu rfl) fun s' m' w4 A hm hbs2 b=>?_;cases hm;refine jW b ?_;exact nJ rfl ⟨_,_,_,[],rfl,⟨rfl,rfl⟩,lF hbs hbs2,lf0 b⟩
  rw [lW h9] at hm;refine jW b ?_;refine rZ rfl (fun h10=>?_) (fun h10=>?_)
  · rw [lX h10] at hm;refine jW b ?_;refine Py tV (jM EL rfl) b hZ hB kI hm fun z s m w1 hm hbs2 b=>?_;replace hbs:=lF hbs hbs2;refine uR (k:=nX) OB (jM RJ rfl) b hZ hB kI (by rw [Dq];exact hm) fun s' m' w5 hm hbs2 b=>?_;cases hm;refine jW b ?_;exact nJ rfl ⟨_,_,_,[],rfl,⟨rfl,rfl⟩,lF hbs hbs2,lf0 b⟩
  rw [lW h10] at hm;cases hm;refine jW b ?_;exact nJ rfl ⟨_,_,_,[],rfl,⟨rfl,rfl⟩,hbs,lf0 b⟩
theorem ae4:TI prog 49 sn 1 24:=nU (by kernel_rfl)
theorem aeR:TI prog 50 sn 1 24:=nU (by kernel_rfl)
theorem aeU:TI prog 57 (.agg #[V 0,V 0,V 0]) 3 24:=nU (by kernel_rfl)
abbrev cF (x:kT)(a1:Option Addr)(c1:Nat)(a2:Option Addr)(c2:Nat):List Value:=[T x.c,V x.g,.slice a1 x.a.length c1,.slice a2 x.d.length c2]
section
variable {ρ:Operand->Value}{w:World}{d:Option Nat}{ty:TypeId}{pos:String}{af:Array Edge}{g:Option (Nat × Bool)}{x:Operand}{n1 n2 n3:Int}
theorem aco (h:ρ x=.agg #[V n1,V n2,V n3]):(execOp ρ ⟨d,.buildSlice 49 1 #[(0,x)],ty,pos,af,g⟩).run prog w=.ok (.value (.slice (some ⟨w.heap.size,0,none⟩) 1 1)) (w.alloc (.cells #[V n1,V n2,V n3] 107)):=by
 have e:(Instr.buildSlice 49 1 #[(0,.agg #[V n1,V n2,V n3])]).run prog w=.ok (.slice (some ⟨w.heap.size,0,none⟩) 1 1) (w.alloc (.cells #[V n1,V n2,V n3] 107)):=by kernel_rfl
 simp [execOp,h,e]
theorem adu (h:ρ x=.agg #[V n1,V n2,V n3]):(execOp ρ ⟨d,.buildSlice 50 1 #[(0,x)],ty,pos,af,g⟩).run prog w=.ok (.value (.slice (some ⟨w.heap.size,0,none⟩) 1 1)) (w.alloc (.cells #[V n1,V n2,V n3] 57)):=by
 have e:(Instr.buildSlice 50 1 #[(0,.agg #[V n1,V n2,V n3])]).run prog w=.ok (.slice (some ⟨w.heap.size,0,none⟩) 1 1) (w.alloc (.cells #[V n1,V n2,V n3] 57)):=by kernel_rfl
 simp [execOp,h,e]
end
theorem Vf {R:Rn}{fv fu:Nat}:Ch R (fun _=>True) 24 #[Pt R.lb] (PZ (jS fv R.src) R.src fu) VU []:=by
 refine pY fun w Z G m s q b hZ _ hB hm=>?_;unfold PZ at hm;refine kX func24 rfl ?_;refine lH [(0,Pt R.lb)] ⟨rfl,trivial⟩ fun av=>?_;refine jW b ?_;cases hfn:ix? R.src.a.b s.f with
 | none=>
   rw [hfn] at hm;cases hm;refine Fg b [13] fun b=>?_;refine Bj b ?_;refine QU 10 12 (by kernel_rfl) (wK rfl underlying24 rfl rfl (qO hfn) fun u w' hw _=>?_) (oo rfl rfl (qV b (jP oz)) ?_)
   · exact prt b u w' hw
   rintro _ w4 ⟨b8,rfl,b⟩;refine ⟨jI kI b.tl,hO 10 (wK rfl underlying24 rfl rfl (qO hfn) fun u w' hw _=>?_)⟩;exact prt b u w' hw
 | some fn=>
 rw [hfn] at hm;dsimp only at hm;obtain ⟨kf,hkf,hfk⟩:=Wp hfn;obtain ⟨cs0,hr0,b⟩:=b.nm 7 rfl hfk;obtain ⟨a1,c1,a2,c2,rfl,hd1,hd2⟩:=kT.out hr0;replace b:=Fb (Fb b |>.jX (d:=.l a2 c2 fn.d) hd2);refine Fg b [13] fun b=>?_;refine Bj b ?_;refine wQ 10 rfl ?_;refine dP (lg underlying24 oz rfl rfl hkf (b.dl 7 rfl) hfk) (jI kI b) ?_;refine wQ 11 rfl ?_;refine dU (fun hu=>nO (cF fn a1 c1 a2 c2) underlying61 rfl oz rfl rfl (hu.dc 11 rfl)) (jI kI b) ?_;refine hO 12 (oo rfl rfl (qV b (jP oz)) ?_);rintro _ w4 ⟨b4,rfl,b⟩;refine ⟨jI kI b.tl,hO 13 (os rfl rfl (mM b 0 (cF fn a1 c1 a2 c2) rfl oz rfl rfl) fun w5 b=>⟨sy 13 kI,hD ?_⟩)⟩;have b:Bx w w5 Z G (Low R m s ++ [.box b4 61 (cF fn a1 c1 a2 c2).toArray]) (kK R m s ++ [.l a2 c2 fn.d]):=b.ad [1,2,3,4,5,6,7,8,9,0] [0,1,2,3,4,5,6,7,8,9,10];refine jW b ?_;refine kY (t_n b 0 [V (fn.a.length:Int)] rfl oJ rfl rfl) fun w6 b=>?_;have b:Bx w w6 Z G (Low R m { s with b:=fn.a.length } ++ [.box b4 61 (cF fn a1 c1 a2 c2).toArray]) (kK R m { s with b:=fn.a.length } ++ [.l a2 c2 fn.d]):=b;refine jW b ?_;refine kQ (DC (v:=.agg #[V (-1),V (-1),V s.f]) rfl (by kernel_rfl)) ?_;refine p8 (jJ b [[V (-1),V (-1),V s.f]] ([⟨-1,-1,s.f⟩]:List BR) (aco rfl) rfl rfl (by decide) ⟨rfl,trivial⟩) ?_;rintro _ w7 ⟨b5,rfl,b⟩;replace b:=aaB b hZ;refine jW b ?_;refine kY (t_n b 0 [.slice (some ⟨b5,0,none⟩) 1 1] rfl ae4 rfl rfl) fun w8 b=>?_;have hQ:Da.ok (.wp (.l m.cA m.cC s.ctxs) (HP m.hp m.bs s.hnd)) _ _:=b.d 5 rfl;have hL:Da.ok (.l (some ⟨b5,0,none⟩) 1 ([⟨-1,-1,s.f⟩]:List BR)) _ _:=b.d 10 rfl;replace b:=b.Jp 5 (d:=.wp (.l (some ⟨b5,0,none⟩) 1 ([⟨-1,-1,s.f⟩]:List BR)) (HP m.hp m.bs s.hnd)) ⟨hL,hQ.2⟩
 have b:Bx w w8 Z G (Low R { m with cA:=some ⟨b5,0,none⟩,cC:=1 } { s with b:=fn.a.length,ctxs:=[⟨-1,-1,s.f⟩] } ++ [.box b4 61 (cF fn a1 c1 a2 c2).toArray]) (kK R { m with cA:=some ⟨b5,0,none⟩,cC:=1 } { s with b:=fn.a.length,ctxs:=[⟨-1,-1,s.f⟩] } ++ [.l a2 c2 fn.d]):=b.ad [0,1,2,3,4,5,6,7,8,9] [0,1,2,3,4,5,6,7,8,9,11];clear hQ hL;refine jW b ?_;cases hvs:ix? R.src.c s.f with
 | none=>
   rw [hvs] at hm;cases hm;refine Fg b [] fun b=>?_;refine Bj b ?_;refine hO 9 (wK rfl underlying27 rfl rfl (qO hvs) fun u w' hw _=>?_);exact prt b u w' hw
 | some vs=>
 rw [hvs] at hm;dsimp only at hm;obtain ⟨kv,hkv,hvk⟩:=Wp hvs;obtain ⟨cs1,hr1,b⟩:=b.nm 8 rfl hvk;obtain ⟨a5,c5,rfl,hv5⟩:=hr1;replace b:=Fb (Fb b |>.jX (d:=.l a5 c5 vs) hv5);refine Fg b [] fun b=>?_;refine Bj b ?_;refine wQ 9 rfl ?_;refine dP (lg underlying27 F8 rfl rfl hkv (b.dl 8 rfl) hvk) (jI kI b) ?_;refine wQ 10 rfl ?_;refine dU (fun hu=>ku underlying53 rfl rfl ((hu.dc 11 rfl) 0 _ rfl)) (jI kI b) ?_;refine Bj b ?_;refine hD ?_;replace b:=lY b [0] [0,2];have hbd:=(b.dl 10 rfl).bd;generalize hK:(fun (_:Unit)=>xV fn.d fun x=>rU (jS fv R.src) R.src.c x.n |>.bind fun e=>wo e |>.bind fun _=>oD e 0 |>.bind fun _=>tL (vg (jS fv R.src) R.src.c fu) fn.d)=kont at hm;refine jW b ?_
 refine kG (fun aw f w'=>∃ (j:Nat)(m2:zk)(s2:Lw),aw=vs.length - j∧j≤vs.length∧Has f [(0,Pt R.lb),(2,Pt b4),(45,.slice a5 vs.length c5),(46,V (vs.length:Int)),(47,V (j:Int))]∧(∃ t,m2.bs=m.bs ++ t)∧
     Bx w w' Z G (Low R m2 s2 ++ [.box b4 61 (cF fn a1 c1 a2 c2).toArray]) (kK R m2 s2 ++ [.l a5 c5 vs,.l a2 c2 fn.d])/\(DU (vs.drop j) j |>.bind kont) s2=some q)
   vs.length ⟨0,{ m with cA:=some ⟨b5,0,none⟩,cC:=1 },_,rfl,uW _,⟨rfl,rfl,rfl,rfl,rfl,trivial⟩,OM,b,hm⟩ ?_
 clear b hm;rintro aw f w6 ⟨j,m2,s2,rfl,hj,hf,hbs,b,hm⟩ J hJ;obtain ⟨av2,rfl⟩:=kZ _ _ hf;clear hf;refine jW b ?_;refine rZ rfl (fun hlt=>?_) (fun hlt=>?_)
 · obtain ⟨x,hx⟩:=mI (l:=vs) (k:=j) (by omega);rw [l5 hx,DU] at hm;unfold LM.bind at hm;dsimp only at hm;refine jW b ?_;refine kQ (lg underlying53 wz rfl rfl rfl (b.dl 10 rfl) hx) (kQ (nO (cV x) underlying55 rfl wz rfl rfl (uY (b.dl 10 rfl) hx (fun _ h=>h))) ?_);refine Ej b (jP wz) fun w7 b5 b=>?_;refine jW b ?_;refine kY (mM b 10 (cV x) rfl wz rfl rfl) fun w8 b=>?_;have b:Bx w w8 Z G (Low R m2 s2 ++ [.box b4 61 (cF fn a1 c1 a2 c2).toArray,.box b5 55 (cV x).toArray]) (kK R m2 s2 ++ [.l a5 c5 vs,.l a2 c2 fn.d]):=b;refine jW b ?_;refine rZ rfl (fun h8=>?_) (fun h8=>?_)
   · rw [lX h8] at hm;cases hm;refine jW b ?_;exact XK rfl fun _=>XH b
   rw [lW h8] at hm;refine jW b ?_;refine rZ rfl (fun h3=>?_) (fun h3=>?_)
   · rw [lX h3,Option.bind_assoc] at hm;obtain ⟨o2,ho2,hm⟩:=bs hm;refine jW b ?_;refine Fg b [11] fun b=>?_;refine Bj b ?_;refine hO 11 (os rfl rfl (ac1 b 4 (k:=((j:Nat):Int)) (u:=((s2.objs.length:Nat):Int)) rfl underlying86 fkI rfl rfl rfl) fun w9 b=>⟨sy 11 kI,hD ?_⟩);have b:Bx w w9 Z G (Low R m2 { s2 with omap:=Ay s2.omap j s2.objs.length } ++ [.box b4 61 (cF fn a1 c1 a2 c2).toArray,.box b5 55 (cV x).toArray]) (kK R m2 { s2 with omap:=Ay s2.omap j s2.objs.length } ++ [.l a5 c5 vs,.l a2 c2 fn.d]):=b;refine jW b ?_;refine Fg b [11,15] fun b=>?_;refine Bj b ?_;refine wQ 9 rfl ?_;refine dP (DC (v:=.agg #[V 0,V (j:Int),V x.a]) rfl (by kernel_rfl)) (jI kI b) ?_;refine hO 10 (oo rfl rfl (jJ b [[V 0,V (j:Int),V x.a]] ([⟨0,j,x.a⟩]:List Cr) (adu rfl) rfl rfl (by decide) ⟨rfl,trivial⟩) ?_);rintro _ w10 ⟨b6,rfl,b⟩;refine ⟨jI kI (b.tl.Au fun d hd=>xQ _ hd),hO 11 (oo rfl rfl (ko (α:=Cr) b 4 3 rfl rfl underlying50 aeU rfl (by decide) (by decide) hB rfl rfl (b.Bc 0 0 rfl rfl) ho2) ?_)⟩;rintro _ w11 ⟨A2,k2,cs2,rfl,b⟩;refine ⟨sy 11 kI,?_⟩;refine wQ 12 rfl ?_;refine dNl rfl (sy 11 kI) ?_;refine wQ 13 rfl ?_;refine dP (yF rfl rfl rfl rfl) (sy 11 kI) ?_;refine wQ 14 rfl ?_;refine dP (yF rfl rfl rfl rfl) (sy 11 kI) ?_;refine hO 15 (os rfl rfl (t_n b 1 [.slice A2 o2.length k2] rfl aeR rfl rfl) fun w12 b=>⟨sy 15 kI,hD ?_⟩);have b:Bx w w12 Z G (Low R { m2 with oA:=A2,oC:=k2,oc:=cs2 } { s2 with omap:=Ay s2.omap j s2.objs.length,objs:=o2 } ++ [.box b4 61 (cF fn a1 c1 a2 c2).toArray,.box b5 55 (cV x).toArray]) (kK R { m2 with oA:=A2,oC:=k2,oc:=cs2 } { s2 with omap:=Ay s2.omap j s2.objs.length,objs:=o2 } ++ [.l a5 c5 vs,.l a2 c2 fn.d]):=b.ad [1,2,3,4,5,6,7,8,9,10,11] [1,2,3,4,5,6,7,8,9,10,11,12];refine jW b ?_
     exact hJ (vs.length - (j+1)) _ _ (by omega) ⟨j+1,{ m2 with oA:=A2,oC:=k2,oc:=cs2 },_,rfl,by omega,⟨rfl,rfl,rfl,rfl,congrArg V (UD (by omega)),trivial⟩,hbs,lY b [0] [0,1],hm⟩
   · rw [lW h3] at hm;refine jW b ?_;exact hJ (vs.length - (j+1)) _ _ (by omega) ⟨j+1,_,_,rfl,by omega,⟨rfl,rfl,rfl,rfl,congrArg V (UD (by omega)),trivial⟩,hbs,lY b [0] [0,1],hm⟩
 obtain rfl:j=vs.length:=by omega
 rw [lV,DU] at hm;subst hK;replace hm:(xV fn.d fun x=>rU (jS fv R.src) R.src.c x.n |>.bind fun e=>wo e |>.bind fun _=>oD e 0 |>.bind fun _=>tL (vg (jS fv R.src) R.src.c fu) fn.d) s2=some q:=hm;rw [zU] at hm;unfold RV at hm;refine jW b ?_;refine uL ?_;refine jW b ?_;cases h0:fn.d[0]? with
 | none=>
   rw [h0] at hm;cases hm;have:=List.getElem?_eq_none_iff.1 h0;exact Xp underlying59 rfl rfl (by omega) fun u w' hw=>prt b u w' hw
 | some x=>
 rw [h0] at hm;dsimp only at hm;obtain ⟨cs,hr,e2⟩:=b.nm 11 rfl h0;obtain ⟨a6,k6,a7,k7,a8,k8,a9,k9,rfl,_⟩:=jA.out hr;replace b:=Fb e2;refine kQ (lg underlying59 jQ rfl rfl rfl (b.dl 12 rfl) h0) ?_;refine jW b ?_;refine gC rfl ((b.dc 10 rfl) 2 _ rfl) rfl ?_;refine jW b ?_;refine lCl (HZ (fv:=fv)) (jM Cu rfl) b hZ hB kI hm fun n1 c1 s3 m3 w3 hc1 hm hbs2 b=>?_;replace hbs:=lF hbs hbs2;refine jW b ?_;refine uR (Ml (i:=n1) (c:=c1)) (jM Zi rfl) b hZ hB hc1 hm fun s3 m3 w3 hm hbs2 b=>?_;have hc1:=tO hbs2 hc1;replace hbs:=lF hbs hbs2;refine jW b ?_;refine uR (vk (i:=n1) (c:=c1)) (jM EI rfl) b hZ hB hc1 hm fun s3 m3 w3 hm hbs2 b=>?_;replace hbs:=lF hbs hbs2;refine jW b ?_;refine uR (k:=nX) (ER (TH fu)) (jM MW rfl) b hZ hB kI (by rw [Dq];exact hm) (fun s' m' w5 hm hbs2 b=>?_) (fun d hd=>by rw [List.mem_singleton.1 hd];exact .tail _ (.tail _ (.head _)));cases hm;refine jW b ?_;exact nJ rfl ⟨_,_,_,[],rfl,⟨rfl,rfl⟩,lF hbs hbs2,lf0 b⟩
theorem Ph {P:Program}{w:World}{t:TypeId}{ms:Array (String × TypeId)}(n:Nat)(ht:P.underlying t=some (.interface ms)){v:Value}{b:Bool}(hv:(v=.nilIface/\b=true)\/(∃ t' u,v=.iface t' u/\b=false)):(Op.equalIn (n+1) t v .nilIface).run P w=.ok b w:=by
 rcases hv with ⟨rfl,rfl⟩|⟨t',u,rfl,rfl⟩
 · simp only [Op.equalIn,Sem.run_bind,run_underlying ht,Result.andThen_ok];rfl
 · simp only [Op.equalIn,Sem.run_bind,run_underlying ht,Result.andThen_ok];rfl
theorem Ux {P:Program}{w:World}{t:TypeId}{ms:Array (String × TypeId)}(ht:P.underlying t=some (.interface ms)){v:Value}{b:Bool}(hv:(v=.nilIface/\b=true)\/(∃ t' u,v=.iface t' u/\b=false)):(Op.equal t v .nilIface).run P w=.ok b w:=
 Ph 9999 ht hv
section
variable {P:Program}{w:World}{ρ:Operand->Value}{d:Option Nat}{ty:TypeId}{pos:String}{af:Array Edge}{g:Option (Nat × Bool)}{t t':TypeId}{x:Operand}
theorem Zq {ms:Array (String × TypeId)}{v:Value}{b:Bool}(ht:P.underlying t=some (.interface ms))(hx:ρ x=v)(hc:ρ (.const .nilIface)=.nilIface)(hv:(v=.nilIface/\b=true)\/(∃ t' u,v=.iface t' u/\b=false)) :Yl P ρ (.binOp .neq t x (.const .nilIface) t') d ty pos af g w (.bool !b):=by
 have heq:=Ux (w:=w) ht hv;have hg:(eqGuard .neq t x (.const .nilIface) v .nilIface).run P w=.ok () w:=by rcases hv with ⟨rfl,_⟩|⟨t',u,rfl,_⟩ <;> simp [eqGuard]
 have hbin:(binOp .neq t v .nilIface).run P w=.ok (.bool !b) w:=by
  have:binOp .neq t v .nilIface=(do pure (.bool !(<- Op.equal t v .nilIface)):Sem Value):=by rcases hv with ⟨rfl,_⟩|⟨t',u,rfl,_⟩ <;> rfl
  rw [this];simp only [Sem.run_bind,heq,Result.andThen_ok,Sem.run_pure]
 unfold Yl execOp;simp only [hx,hc,Sem.run_bind,hg,hbin,Result.andThen_ok,Sem.run_pure]
theorem aeB {xt:TypeId}{fs:Array Field}{v:Value}(hu:P.underlying t=some (.struct fs))(hx:ρ x=.iface t v):Yl P ρ (.typeAssert x xt t true) d ty pos af g w (.tuple #[v,.bool true]):=by simp [Yl,execOp,hx,Instr.typeAssert,run_underlying hu]
end
theorem rdC {P : Program} {f : Fr} {w : World} {t b : Nat} {ty te : TypeId} {v : Value} (hf : f t = .pointer (some ⟨b, 0, none⟩)) (hu : ∀ ρ : Operand -> Value, ρ (.tmp 0) = .pointer (some ⟨b, 0, none⟩) -> Yl P ρ (.load ty (.tmp 0)) none 0 "" #[] none w v) {cs : Array Value} (hB : uz w b te cs) : Xz P f w (.cell t ty) v := by
 refine ⟨b,te,cs,hf,hB,?_⟩;have hl:=hu (fun _=>.pointer (some ⟨b,0,none⟩)) rfl;simp only [Yl,execOp,Instr.loadAt,Instr.sureAddr,Sem.run_bind,Sem.run_pure,Result.andThen_ok] at hl;cases hq:(loadVar ty ⟨b,0,none⟩).run P w with
 | ok v w'=>rw [hq] at hl;simp at hl;rw [hl.1,hl.2]
 | halt h w'=>rw [hq] at hl;simp at hl
section
variable {P:Program}{N:Fz}
theorem acA {x y:Code}{Q:Exit->Act->World->Prop}{f:Fr}{w:World}(h:WP P N x ⟨fun f w=>Xy P N y Q f w,fun _ _ _=>False,fun _ _=>False,fun _ _ _=>False⟩ f w):Xy P N (.seq x y) Q f w:=
 aek h fun e a w q=>by
  cases e with
  | normal=>obtain ⟨f,h1,h2⟩:=q;exact h2.elim
  | exit i=>obtain ⟨f,h1,h2⟩:=q;exact h2.elim
  | ret=>obtain ⟨f,h1,h2⟩:=q;exact h2.elim
  | panic c=>obtain ⟨f,h1,h2⟩:=q;exact h2.elim
  | _=>exact q.elim
theorem Zo (l:List (Nat × Value)){c:Code}{Q:Exit->Act->World->Prop}{f:Fr}{w:World}(h:Has f l)(k:∀ g,Xy P N c Q (QW g l) w):Xy P N c Q f w:=by rw [<-GY h];exact k f
theorem Ro {fn:Func}{d:Deferred}{fv:Fn}{cap:Array Value}{g:FuncId}{args:Array Value}{R:Ending->World->Prop}{f:Fr}{a:Act}{w:World}{M:Fz}{v:Value}{l:List PanicEntry}{R1:World->Prop}{V1:List PanicEntry->World->Prop}(hT:d.target=.fn fv cap)(hi:(invoke d.target d.args).run P w=.ok (.enter g args) w)(hl:∀ e ∈ l,e.goexit=false)(hc:CallsD P g args (.panicking (⟨v,false,false⟩ :: l)) w (RD (.panicking (⟨v,true,false⟩ :: l)) R1 V1))(h:∀ w',R1 w'->Reads P fn (fun v w'=>R (.returned v) w') f w')(hv:∀ c w',V1 c w'->R (.panicked (c ++ ⟨v,true,false⟩ :: l)) w')(ha:Lh M f a):Leaves P fn a.tmps R [d] (.panicking (⟨v,false,false⟩ :: l)) w:=by
 refine ⟨by simp,fv,cap,g,args,hT,hi,?_⟩;intro c cs hu;obtain ⟨e,u',w',fr,h1,h2,h3⟩:=hc c cs hu;refine ⟨e,u',w',fr,?_,h2,h3⟩;cases e with
 | returned v1=>
  obtain ⟨rfl,h1⟩:=h1;have hq:=h w' h1;unfold Reads at hq;obtain ⟨v2,hv2,hR⟩:=hq a.tmps ha.get;have hs:settle (.panicking (⟨v,true,false⟩ :: l))=.returning:=by
   have e:l.dropWhile (!·.goexit)=[]:=by
    clear hc hv h2 hu hq h
    induction l with
    | nil=>rfl
    | cons e l ih=>rw [List.dropWhile_cons,hl e (zH ..)];exact ih (fun e he=>hl e (xQ _ he))
   unfold settle;dsimp only;rw [e]
  show Leaves P fn a.tmps R [] (settle _) w';rw [hs];exact ⟨v2,hv2,hR⟩
 | panicked c=>
  obtain ⟨rfl,h1⟩:=h1;exact hv _ _ h1
 | outgrown=>exact h1.elim
end
theorem Px {P:Program}{fn:Func}{d:Deferred}{fv:Fn}{cap:Array Value}{g:FuncId}{args:Array Value}{R:Ending->World->Prop}{f:Fr}{a:Act}{w:World}{M:Fz}{R1:World->Prop}(hT:d.target=.fn fv cap)(hi:(invoke d.target d.args).run P w=.ok (.enter g args) w)(hc:CallsD P g args .returning w (RD .returning R1 (fun _ _=>False)))(h:∀ w',R1 w'->Reads P fn (fun v w'=>R (.returned v) w') f w')(ha:Lh M f a):Leaves P fn a.tmps R [d] .returning w:=by
 refine ⟨by simp,fv,cap,g,args,hT,hi,?_⟩;intro c cs hu;obtain ⟨e,u',w',fr,h1,h2,h3⟩:=hc c cs hu;refine ⟨e,u',w',fr,?_,h2,h3⟩;cases e with
 | returned v=>
  obtain ⟨rfl,h1⟩:=h1;have h:=h w' h1;unfold Reads at h;obtain ⟨v2,hv,hR⟩:=h a.tmps ha.get;exact ⟨v2,hv,hR⟩
 | panicked c=>exact h1.2.elim
 | outgrown=>exact h1.elim
theorem aey {P:Program}{ρ:Operand->Value}{pos:String}{af:Array Edge}{w:World}{x:Operand}{fn:Fn}{caps:Array Value}(h:ρ x=.func fn #[] caps) :(execOp ρ ⟨none,.defer ⟨.value x,#[],#[]⟩,0,pos,af,none⟩).run P w=.ok (.defer ⟨.fn fn caps,#[]⟩) w:=by simp [execOp,resolve,h,Deferred.ofValue]
theorem adQ {P:Program}{w:World}{ρ:Operand->Value}{d:Option Nat}{ty:TypeId}{pos:String}{af:Array Edge}{g:Option (Nat × Bool)}{x:Operand}(v:Value)(h:ρ x=v):Yl P ρ (.assign x) d ty pos af g w v:=by rw [<-h];rfl
theorem V9 {P:Program}{w:World}{ρ:Operand->Value}{d:Option Nat}{ty:TypeId}{pos:String}{af:Array Edge}{g:Option (Nat × Bool)}{x:Operand}(v:Value)(h:ρ x=v):Yl P ρ (.move x) d ty pos af g w v:=by rw [<-h];rfl
theorem ad9 {P:Program}{w:World}{ρ:Operand->Value}{d:Option Nat}{ty:TypeId}{pos:String}{af:Array Edge}{g:Option (Nat × Bool)}{fn:Fn}{caps:List Operand}{vs:List Value}(h:caps.map ρ=vs):Yl P ρ (.makeFunc fn #[] caps.toArray) d ty pos af g w (.func fn #[] vs.toArray):=by subst h;simp [Yl,execOp,Instr.makeFunc]
section
variable {P:Program}
theorem ab4 {i:Nat}{o o2:Oper}{Q:Exit->Act->List Frame->World->Prop}{a:Act}{c:Frame}{cs:List Frame}{w:World}{v:Value}(hg:o.guard=none)(he:(execOp a.eval o).run P w=.ok .recover w)(hg2:o2.guard=none)(he2:(execOp (a.put o.dst (Gt c.mode).1).eval o2).run P w=.ok (.value v) w)(k:Q .normal ((a.put o.dst (Gt c.mode).1).put o2.dst v) ({ c with mode:=(Gt c.mode).2 } :: cs) w):(Code.region i #[o,o2] false).wpS P Q a (c :: cs) w:=by
 refine wpS_region ?_;show wpOpsS P #[o,o2] Q [0,1] a (c :: cs) w;have k2:wpOpsS P #[o,o2] Q [1] (a.put o.dst (Gt c.mode).1) ({ c with mode:=(Gt c.mode).2 } :: cs) w:=by simp only [wpOpsS,List.getElem?_toArray,List.getElem?_cons_succ,Ec,Region.wanted,hg2,if_true,he2,Oper.upon];exact k
 have e:∀ m,c.mode=m->({ c with mode:=m }:Frame)=c:=fun m h=>by subst h;rfl
 rw [wpOpsS];simp only [List.getElem?_toArray,Ec,Region.wanted,hg,if_true,he];cases hm:c.mode with
 | panicking l=>
  cases l with
  | nil=>simp only [recoverD,hm];rw [hm] at k2;simp only [Gt] at k2;rw [e _ hm] at k2;exact k2
  | cons e l=>
   obtain ⟨v,r,g⟩:=e;cases r <;> cases g <;> simp only [recoverD,hm] <;> (rw [hm] at k2;simp only [Gt] at k2;first | exact k2 | (rw [e _ hm] at k2;exact k2))
 | _=>simp only [recoverD,hm];rw [hm] at k2;simp only [Gt] at k2;rw [e _ hm] at k2;exact k2
theorem KS {g:FuncId}{fn:Func}{i:Nat}{o o2:Oper}{y:Code}{args:Array Value}{u:FrameMode}{w:World}{R:World->Prop}{V:List PanicEntry->World->Prop}{v:Value}(hf:P.funcs[g]?=some fn)(hb:fn.body=some (.seq (.region i #[o,o2] false) y))(hr:fn.results=#[])(he:(execOp (ev (BK args)) o).run P w=.ok .recover w)(he2:(execOp (ev (lq (BK args) o.dst (Gt u).1)) o2).run P w=.ok (.value v) w)(h:WP P (fn.ntmps,[]) y ⟨fun _ w=>R w,fun _ _ _=>False,fun _ w=>R w,fun _ c w=>V c w⟩ (lq (lq (BK args) o.dst (Gt u).1) o2.dst v) w)(hg:o.guard=none:=by rfl)(hg2:o2.guard=none:=by rfl)(hs:Nat.ble args.size fn.ntmps=true:=by exact rfl)(hok:Ju (fn.ntmps,[]) (.seq (.region i #[o,o2] false) y)=true:=by kernel_rfl) :CallsD P g args u w (RD (Gt u).2 R V):=by
 refine callsD_of_wpS hf hb fun c cs hu=>?_;subst hu;simp only [Ju,Ef] at hok;have ha:=KX (Nat.le_of_ble_eq_true hs);have hd1:AB (fn.ntmps,[]) o=true/\AB (fn.ntmps,[]) o2=true:=by have:=hok.1;simp at this;exact this
 have hp:=ha.put o.dst (tJ hd1.1) (Gt c.mode).1;refine wpS_seq (ab4 hg (by rw [ha.Bd];exact he) hg2 (by rw [hp.Bd];exact he2) (wpS_of_wp ?_));unfold WP at h;refine Code.wp_mono (fun e a w q=>?_) (h hok.2 _ (hp.put o2.dst (tJ hd1.2) _));cases e with
 | normal=>obtain ⟨f,h1,h2⟩:=q;exact ⟨h1.dfr,_,rfl,_,results_none hr _ P w,rfl,h2⟩
 | ret=>obtain ⟨f,h1,h2⟩:=q;exact ⟨h1.dfr,_,rfl,_,results_none hr _ P w,rfl,h2⟩
 | panic c=>obtain ⟨f,h1,h2⟩:=q;exact ⟨h1.dfr,_,rfl,rfl,h2⟩
 | exit i=>obtain ⟨f,h1,h2⟩:=q;exact h2.elim
 | _=>exact q.elim
end
def lkD {α:Type}[Rp α](R:List Rw)(m:List (List α)):Da:=⟨fun F w=>R.length=m.length/\∀ (k:Nat)(r:Rw)(x:List α),R[k]?=some r->m[k]?=some x->r.cs.length=x.length/\kr F w r.a r.c x,fun h k=>⟨h.1,fun i r x h1 h2=>⟨(h.2 i r x h1 h2).1,(h.2 i r x h1 h2).2.mv k⟩⟩⟩
theorem abr {α:Type}[Rp α]{w0 w:World}{Z G:Nat->Prop}{L:List It}{D:List Da}{base e:Nat}{R:List Rw}{m:List (List α)}(h:Bx w0 w Z G (.tF base e (Rp.sz α) R none :: L) D)(hZ:∀ b,G b->Z b)(j:Nat)(hj:D[j]?=some (.mZ R m)):Bx w0 w Z G L (lkD R m :: D.eraseIdx j):=by have hpw:=Dn.1 h.pw;have h1:Bx w0 w Z G L (D.eraseIdx j):=h.tl.Au fun d hd=>(List.eraseIdx_sublist D j).subset hd;have hf:=h.it _ (zH ..);have hE:=h.tl.d2 j hj;refine h1.jX (d:=lkD R m) ⟨hE.len,fun k r x hr hx=>?_⟩;obtain ⟨r',hr',hEx⟩:=hE.get hx;rw [hr] at hr';cases hr';refine ⟨hEx.len,(hf.1.1 k r hr (by simp)).Wq hEx fun b hb=>⟨fun hl=>hZ b (hf.2 b ⟨k,r,hr,by simp,hb⟩ hl),fun it hi=>hpw.1 it hi b ⟨k,r,hr,by simp,hb⟩⟩⟩
theorem Sw {F:Nat→Prop}{w:World}:∀ {bl:List nk}{R:List Rw}{T:List (List Value)},(lkD R (bl.map (·.c))).ok F w→wR F w T (bl.map (·.b))→wR F w (nV bl R T) bl
 | [],[],[],_,_=>trivial
 | b :: bl,r :: R,t :: T,h1,h2=>by obtain ⟨hc,hl⟩:=h1.2 0 r b.c rfl rfl;refine ⟨?_,Sw (bl:=bl) (R:=R) (T:=T) ⟨by have:=h1.1;simpa using this,fun k r x h3 h4=>h1.2 (k+1) r x (by simpa using h3) (by simpa using h4)⟩ h2.2⟩;obtain ⟨a,a',c,c',e,e',rfl,k1,k2,k3⟩:=zl.out h2.1;refine nk.inn ⟨r.a,r.c,a,a',c,c',e,e',?_,hl,k1,k2,k3⟩;show V b.a :: (r.hdr ++ _)=_;rw [Rw.hdr,hc];rfl
 | [],r :: R,_,h,_=>absurd h.1 (by simp)
 | b :: bl,[],_,h,_=>absurd h.1 (by simp)
 | b :: bl,r :: R,[],_,h=>h.elim
 | [],[],t :: T,_,h=>h.elim
theorem U1:TI prog 83 (.agg #[]) 0 0:=nU (by kernel_rfl)
theorem ach:jC prog 24:=⟨_,func24,by kernel_rfl,by kernel_rfl⟩
theorem aeS {N:Fz}{ops:Array Oper}{K:KK}{rest:List Oper}{f:Fr}{w:World}{d:Option Nat}{ty:TypeId}{pos:String}{af:Array Edge}{x:Operand}{t xt t2:TypeId}{fs:Array Field}{v z:Value}{s by_:Nat}(hu:prog.underlying t=some (.struct fs))(hz:TI prog t z s by_)(hx:ev f x=.iface t2 v)(hne:t2≠t)(h:oM prog N ops K rest (lq f d (.tuple #[z,.bool false])) w):oM prog N ops K (⟨d,.typeAssert x xt t true,ty,pos,af,none⟩ :: rest) f w:=by obtain ⟨i,hi1,hi2,hi3,hi4⟩:=hz;refine kQ (v:=.tuple #[z,.bool false]) ?_ h;simp [execOp,hx,Instr.typeAssert,run_underlying hu,zeroValue,typeInfo,hi1,hi2,hne]
abbrev cM (A:Option Addr)(n c:Nat):List Value:=[.slice A n c]
def acJ (x:Value)(e:Int):Prop:=x=.iface 83 (.agg #[])/\e=5\/∃ t v,x=.iface t v/\t≠83/\e=4
theorem YA {A G:Nat->Prop}{D:List Da}{w0 w:World}{b2 b3:Nat}{u:FrameMode}{A1:Option Addr}{n c:Nat}{e:Int}(b:Bx w0 w A G [.box b2 36 (cM A1 n c).toArray,.box b3 37 #[V 0]] D)(hu:acJ (Gt u).1 e) :CallsD prog 23 #[Pt b2,Pt b3] u w (RD (Gt u).2 (fun w'=>Bx w0 w' A G [.box b2 36 (cM none 0 0).toArray,.box b3 37 #[V e]] D) (fun _ _=>False)):=by
 have key:∃ t v,(Gt u).1=.iface t v/\(t=83/\v=.agg #[]/\e=5\/t≠83/\e=4):=by
   rcases hu with ⟨h,h5⟩|⟨t,v,h,h1,h2⟩
   · exact ⟨_,_,h,.inl ⟨rfl,rfl,h5⟩⟩
   · exact ⟨t,v,h,.inr ⟨h1,h2⟩⟩
 clear hu;obtain ⟨t,v,hx,hu⟩:=key;refine KS (v:=.iface t v) func23 rfl rfl rfl (adQ _ hx) ?_;rw [hx];refine lH [(0,Pt b2),(1,Pt b3),(2,.iface t v)] ⟨rfl,rfl,rfl,trivial⟩ fun av=>?_;refine GD (xW ?_);refine kQ (V9 (.iface t v) rfl) ?_;refine kQ (Zq underlying20 rfl rfl (.inr ⟨t,v,rfl,rfl⟩)) ?_;refine jW b ?_;refine kQ (DC (v:=.agg #[sn]) rfl (by kernel_rfl)) ?_;refine kY (mM b 0 [sn] rfl NK rfl rfl) fun w1 b=>?_;refine kY (t_n b 1 [V 4] rfl O9 rfl rfl) fun w2 b=>?_;have b:Bx w0 w2 A G [.box b2 36 (cM none 0 0).toArray,.box b3 37 #[V 4]] D:=b;refine jW b ?_;refine kQ (V9 (.iface t v) rfl) ?_;rcases hu with ⟨rfl,rfl,rfl⟩|⟨h83,rfl⟩
 · refine kQ (aeB underlying83 rfl) ?_;refine kQ (V9 (.tuple #[.agg #[],.bool true]) rfl) ?_;refine jW b ?_;refine tq b (jP U1) fun w3 b5 b=>?_;refine kY (mM b 0 [] rfl U1 rfl rfl) fun w4 b=>?_;refine jW b ?_;refine kY (t_n b 2 [V 5] rfl O9 rfl rfl) fun w5 b=>?_;refine jW b ?_;exact b.tl
 · refine aeS underlying83 U1 rfl h83 ?_;refine kQ (V9 (.tuple #[.agg #[],.bool false]) rfl) ?_;refine jW b ?_;refine tq b (jP U1) fun w3 b5 b=>?_;refine kY (mM b 0 [] rfl U1 rfl rfl) fun w4 b=>?_;refine jW b ?_;exact b.tl
theorem aa8 {R:Rn}{g:FuncId}{args:Array Value}{mm:LM Unit}{w0 w:World}{Z G:Nat->Prop}{X:List It}{Y:List Da}{m:zk}{s:Lw}{p:Lo Unit}(hc:Ch R (fun _=>True) g args mm VU [])(b:Bx w0 w Z G (Low R m s ++ X) (kK R m s ++ Y))(hZ:∀ b,G b->Z b)(hB:R.B<=w0.heap.size)(hp:mm s=some p) :Calls prog g args w (RP (fun v w'=>∃ s' m',v=.tuple #[]/\p=.ok () s'/\Bx w0 w' Z G (Low R m' s' ++ X) (kK R m' s' ++ Y)) (fun ch w'=>Pb p ch/\Bx w0 w' Z G X [])):=by
 have hpre:Pre w (Hl w0 Z (Low R m s ++ X)) (Low R m s) ([] ++ kK R m s):=b.pre fun d hd=>b.da d (List.mem_append_left _ (by simpa using hd));refine (hc _ _ _ _ _ hpre kI (rT hB b.tC.size) hp).mono fun e w' he=>?_;cases e with
 | returned v=>
  obtain ⟨a,s',m',ds,rfl,⟨rfl,rfl⟩,hbs,hk⟩:=he;refine ⟨s',m',rfl,rfl,(b.MS hZ hk).Au fun d hd=>?_⟩;rcases qN.1 hd with hd | hd
  · exact List.mem_append_left _ (by simpa using hd)
  · exact List.mem_append_right _ (List.mem_append_right _ hd)
 | panicked ch=>exact ⟨he.1,(b.MS hZ he.2).Au fun d hd=>by cases hd⟩
 | outgrown=>exact he.elim
abbrev m0:zk:=⟨none,0,[],[],none,0,none,0,[],none,none,0,[],none,0,[],[],[]⟩
theorem XE {w0 w:World}{Z G:Nat->Prop}{R:Rn}{f:Int}{i1 i2 i3 i4:It}{d1:Da}(b:Bx w0 w Z G [.box R.lb 90 (DI R m0 (Rc f)).toArray,.map UJ VR R.ob ([]:List (Int × Int)),i1,i2,i3,i4] [d1,.l R.a.a1 R.a.c1 R.src.a.a,.l R.a.a2 R.a.c2 R.src.a.b,.l R.a.a3 R.a.c3 R.src.c,.l R.a.a4 R.a.c4 R.src.b]) :Bx w0 w Z G (Low R m0 (Rc f) ++ [i1,i2,i3,i4]) (kK R m0 (Rc f) ++ [d1]):=by have b1:=b.push (it:=.own R.B none 0 69 10 []) (Ext.refl w) (Go.Fw.Own.nil w _ 69 10) (fun k hk=>by cases hk);have b2:=b1.push (it:=.tF R.B 73 11 [] none) (Ext.refl w) ⟨fun i r h=>(nomatch h),fun i j r s b h=>(nomatch h)⟩ (fun k ⟨i,r,h,_⟩=>by cases h);have b3:=b2.push (it:=.own R.B none 0 57 3 []) (Ext.refl w) (Go.Fw.Own.nil w _ 57 3) (fun k hk=>by cases hk);have b4:=b3.push (it:=.Nn ekP VR none none) (Ext.refl w) kI (fun k hk=>by cases hk);have b5:=b4.push (it:=.own R.B none 0 3 1 []) (Ext.refl w) (Go.Fw.Own.nil w _ 3 1) (fun k hk=>by cases hk);have b6:=b5.push (it:=.own R.B none 0 111 1 []) (Ext.refl w) (Go.Fw.Own.nil w _ 111 1) (fun k hk=>by cases hk);have b7:=b6.push (it:=.OL 170 [] []) (Ext.refl w) ⟨kI,List.nodup_nil⟩ (fun k hk=>by cases hk);have e1:=b7.jX (d:=.mZ ([]:List Rw) ([]:List (List pR))) kI;have e2:=e1.jX (d:=.els [] ([]:List zl)) kI;have e3:=e2.jX (d:=.els [] ([]:List Cr)) kI;have e4:=e3.jX (d:=.els [] ([]:List Int)) kI;have e5:=e4.jX (d:=.els [] ([]:List (List Pc))) kI;have e6:=e5.jX (d:=.wp (.l none 0 ([]:List BR)) (HP [] [] [])) ⟨kr.nil,rfl,fun k i h=>by cases h⟩;exact e6.ad [7,6,5,4,8,3,2,1,0,9,10,11,12] [5,4,3,2,1,0,7,8,9,10,6]
theorem Yq {w0 w:World}{Z G:Nat->Prop}{R:Rn}{m:zk}{s:Lw}{i1 i2 i3 i4:It}{d1:Da}(b:Bx w0 w Z G (Low R m s ++ [i1,i2,i3,i4]) (kK R m s ++ [d1]))(hZ:∀ b,G b->Z b) :Bx w0 w Z G [.box R.lb 90 (DI R m s).toArray,i1,i2,i3,i4] [.l m.bA m.bC s.blocks,.l m.cA m.cC s.ctxs,.l m.oA m.oC s.objs,d1,.l R.a.a1 R.a.c1 R.src.a.a,.l R.a.a2 R.a.c2 R.src.a.b,.l R.a.a3 R.a.c3 R.src.c,.l R.a.a4 R.a.c4 R.src.b]:=by have b1:=abr (α:=pR) (b.ad [2,0,1,3,9,10,11,12] [0,1,2,3,4,5,6,7,8,9,10]) hZ 0 rfl;have hE:=Sw (bl:=s.blocks) (R:=m.R) (T:=m.tc) (b1.d 0 rfl) (b1.de 1 rfl);have b2:=b1.jX (d:=.els (nV s.blocks m.R m.tc) s.blocks) hE;have b3:=b2.KN (α:=nk) hZ 1 0 rfl rfl;have b4:=b3.KN (α:=Cr) hZ 1 3 rfl rfl;have hc:Da.ok (.wp (.l m.cA m.cC s.ctxs) (HP m.hp m.bs s.hnd)) _ _:=b4.d 6 rfl;have b5:=b4.jX (d:=.l m.cA m.cC s.ctxs) hc.1;exact b5.ad [0,1,2,3,4] [2,0,1,12,8,9,10,11]
set_option linter.unusedSimpArgs false
noncomputable section
def KP (m:jY->Option (DF × Int)):Prop:=∀ {p x}{o:jY}{a b c d e f h i R},Pre p x [] [.l a b o.a.a,.l c d o.a.b,.l e f o.c,.l h i o.b]->m o=some R-> Calls prog 11 #[.agg #[Z a o.a.a b,Z c o.a.b d,Z e o.c f,Z h o.b i]] p (tN fun v w=>jy R fun t u=>∃ (j:OA)(k:Nat),v=.tuple #[.agg #[Z j t.b k],V u]/\Bx p w x (mV []) [] [.l j k t.b])
end
end Go.Proofs.YtdkneekpdecjbaaGreat
