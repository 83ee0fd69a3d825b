/- Lemmas. -/
import Derived.Test.YtdkneekpdecjbaaGreatZ11
import Derived.LaidEqlPtr
import Derived.Test.YtdkneekpdecjbaaGreatZ3
import Derived.Test.YtdkneekpdecjbaaGreatZ4
import Derived.Test.YtdkneekpdecjbaaGreatZ9
import Derived.Test.YtdkneekpdecjbaaGreatZ10
set_option linter.all false
set_option maxRecDepth 4000
set_option maxHeartbeats 12800000
namespace Go.Proofs.YtdkneekpdecjbaaGreat
open Go.RowKit Go.Fw Go.Proofs.Tryz
theorem afL:TI prog 170 (.agg #[V 0,sn]) 2 32:=nY (by kernel_rfl)
theorem ag5 {P:Program}{w:World}{ρ:Operand->Value}{d:Option Nat}{ty:TypeId}{pos:String}{af:Array Edge}{g:Option (Nat × Bool)}{t t' te ta tb:TypeId}{z:Value}{s by_:Nat}{x y:Operand}{a b:Nat}{ca cb:Array Value}(hp:P.underlying t=some (.pointer te))(he:TI P te z s by_)(hs:s≠0)(hx:ρ x=Pt a)(hy:ρ y=Pt b)(hA:yA w a ta ca)(hB:yA w b tb cb):Yl P ρ (.binOp .neq t x y t') d ty pos af g w (.bool (decide (a≠b))):=by
 obtain ⟨i,hte,_,h3,_⟩:=he;by_cases h:a=b
 · subst h;have h1:∀ d:Nat,(Op.equalIn (d+1) t (Pt a) (Pt a)).run P w=.ok true w:=fun d=>by simp [Op.equalIn,run_underlying hp,sizeOf,typeInfo,hte,run_sameAddr_same]
   simp [Yl,execOp,hx,hy,eqGuard,binOp,Op.equal,Op.maxDepth,h1 9999]
 · have hne:(⟨a,0,none⟩:Addr)≠⟨b,0,none⟩:=fun e=>h (by injection e);have h1:∀ d:Nat,(Op.equalIn (d+1) t (Pt a) (Pt b)).run P w=.ok false w:=fun d=>by simp [Op.equalIn,run_underlying hp,sizeOf,typeInfo,hte,h3,hs,run_sameAddr_other w hne hA hB]
   simp [Yl,execOp,hx,hy,eqGuard,binOp,Op.equal,Op.maxDepth,h1 9999,h]
theorem VZ {B:List Nat}(hn:B.Nodup){i j a b:Nat}(hi:B[i]?=some a)(hj:B[j]?=some b):a=b ↔ i=j:=by
 constructor
 · intro e;subst e;obtain ⟨h1,h2⟩:=List.getElem?_eq_some_iff.1 hi;obtain ⟨h3,h4⟩:=List.getElem?_eq_some_iff.1 hj;obtain h | h | h:=Nat.lt_trichotomy i j
   · exact absurd (h2.trans h4.symm) (List.pairwise_iff_getElem.1 hn i j h1 h3 h)
   · exact h
   · exact absurd (h4.trans h2.symm) (List.pairwise_iff_getElem.1 hn j i h3 h1 h)
 · intro e;subst e;rw [hi] at hj;exact Kj hj
theorem VJ {R:Rn}{fv fu:Nat}{st:jC->LM Unit}(hS:CSt R st){x:jC}{a:Z6}:CZ R (fun _=>True) 109 #[Pt R.lb,.agg (cS x a).toArray] (Dz (jS fv R.src) R.src.c st fu x) VU (dS x a):=by
 refine qw fun w Z G m s q b hZ _ hB hm=>?_;unfold Dz at hm;rw [AX] at hm;refine lq func109 rfl ?_;refine uN [(0,Pt R.lb),(1,.agg (cS x a).toArray)] jA fun av=>?_;refine tV (nU ?_);refine FD b (rD rfl) fun w1 b3 b=>?_;have b:Bx w w1 Z G (Low R m s ++ [.box b3 115 (cS x a).toArray]) (kK R m s ++ dS x a):=b;refine kr b ?_;refine SV (fun e a c=>D8 e a c) b hZ hB (j:=1) rfl hm rfl rfl (fun _ _ _=>jO JL rfl) fun cv s m A v1 w1 hm hbs b=>?_;refine kr b ?_;refine wDB b [7] fun b eS=>?_;refine TU eS ?_;refine hO 3 (LB (fv:=fv) rfl rfl (jO Dx rfl) b hZ hB hm fun n1 c1 s1 m1 w1 hc1 hm hst hbs2 b=>?_);have eS:SB w Z G R (s.stmt,s.omap) _ _ w1:=⟨m1,s1,hst,b⟩;replace hbs:=lQ hbs hbs2;refine ⟨jL kE eS,?_⟩;refine hO 7 (LB (fv:=fv) rfl rfl (jO Dx rfl) b hZ hB hm fun n2 c2 s2 m2 w2 hc2 hm hst2 hbs2 b=>?_);have eS:SB w Z G R (s.stmt,s.omap) _ _ w2:=⟨m2,s2,hst2.trans hst,b⟩;have hc1:=uK hbs2 hc1;replace hbs:=lQ hbs hbs2;refine ⟨jL kE eS,?_⟩;refine TU eS ?_;refine hD ?_;refine kr b ?_
 refine qQ (fun f' w'=>∃ (ot co:Nat)(s4:Lw)(m4:zN),Has f' [(0,Pt R.lb),(3,Pt b3),(4,V cv),(5,Pt c1),(6,Pt c2),(7,Pt co)]∧(∃ t,m4.bs=m2.bs ++ t)∧m4.bs[ot]?=some co∧Bx w w' Z G (Low R m4 s4 ++ [.box b3 115 (cS x a).toArray]) (kK R m4 s4 ++ dS x a)∧
     (yE n1 [] |>.bind fun yes=>yE ot [] |>.bind fun no=>Em cv yes no |>.bind fun _=>ou n1 0 |>.bind fun _=>rA st x.d |>.bind fun _=>xL n2 |>.bind fun _=>(if ot=n2 then oL () else ou ot 0 |>.bind fun _=>rA st x.i |>.bind fun _=>xL n2) |>.bind fun _=>xW n2) s4=some q) (fun J hJ=>?_) ?_
 · refine tL rfl (fun h=>?_) (fun h=>?_)
   · rw [kQ (by omega)] at hm;refine kr b ?_;refine lCl Ig (jO Dx rfl) b hZ hB kE hm fun ot co s4 m4 w10 hc7 hm hbs2 b=>?_;refine kr b ?_;exact hJ _ _ ⟨ot,co,s4,m4,jA,hbs2,hc7,b,hm⟩
   · rw [lF (by omega)] at hm;refine kr b ?_;exact hJ _ _ ⟨n2,c2,s2,m2,jA,Qq,hc2,b,hm⟩
 rintro f' w3 ⟨ot,co,s4,m4,hf,hbs2,hco,b,hm⟩;obtain ⟨av2,rfl⟩:=lg _ _ hf;clear hf;have hc1:=uK hbs2 hc1;have hc2:=uK hbs2 hc2;replace hbs:=lQ hbs hbs2;refine kr b ?_;refine WC (Az (a:=none) (cc:=0) (first:=[])) (jO Cx rfl) (Ky b) hZ hB hc1 hm (fun yes A1 k1 s3 m3 w3 hm hbs2 b=>?_) y1;have hc1:=uK hbs2 hc1;have hc2:=uK hbs2 hc2;have hco:=uK hbs2 hco;replace hbs:=lQ hbs hbs2;refine FD b (jN oK) fun w4 b8 b=>?_;refine kV (mQ b 10 (cE yes A1 k1) rfl oK rfl rfl) fun w5 b=>?_;have b:Bx w w5 Z G (Low R m3 s3 ++ [.box b3 115 (cS x a).toArray,.box b8 64 (cE yes A1 k1).toArray]) (kK R m3 s3 ++ (.l A1 k1 yes.a :: ln :: dS x a)):=b;refine kr b ?_;refine WC (Az (i:=ot) (c:=co) (a:=none) (cc:=0) (first:=[])) (jO Cx rfl) b hZ hB hco hm (fun no A2 k2 s3 m3 w3 hm hbs2 b=>?_) (fun d hd=>by rw [List.mem_singleton.1 hd];exact .tail _ (.head _));have hc1:=uK hbs2 hc1;have hc2:=uK hbs2 hc2;have hco:=uK hbs2 hco;replace hbs:=lQ hbs hbs2;refine FD b (jN oK) fun w4 b9 b=>?_;refine kV (mQ b 11 (cE no A2 k2) rfl oK rfl rfl) fun w5 b=>?_;have b:Bx w w5 Z G (Low R m3 s3 ++ [.box b3 115 (cS x a).toArray,.box b8 64 (cE yes A1 k1).toArray,.box b9 64 (cE no A2 k2).toArray]) (kK R m3 s3 ++ (.l A2 k2 no.a :: .l A1 k1 yes.a :: ln :: dS x a)):=b;refine kr b ?_;refine jJ (kZ (cE yes A1 k1) underlying64 oK rfl (b.bk 10 rfl)) ?_;refine jJ (kZ (cE no A2 k2) underlying64 oK rfl (b.bk 11 rfl)) ?_;refine vQ F7 (jO Qg rfl) b hZ hB kE hm (fun s3 m3 w3 hm hbs2 b=>?_) (y2 (.tail _ (.head _)) (.head _));have hc1:=uK hbs2 hc1;have hc2:=uK hbs2 hc2;have hco:=uK hbs2 hco;replace hbs:=lQ hbs hbs2;have b:=lY b [0] [3,4,5,6];have b:Bx w w3 Z G (Low R m3 s3 ++ [.box b3 115 (cS x a).toArray]) (kK R m3 s3 ++ dS x a):=b;refine kr b ?_
 refine vQ (wG (i:=n1) (c:=c1)) (jO Fe rfl) b hZ hB hc1 hm fun s3 m3 w3 hm hbs2 b=>?_;have hc2:=uK hbs2 hc2;have hco:=uK hbs2 hco;replace hbs:=lQ hbs hbs2;refine kr b ?_;refine vQ (Gd hS) (jO Oc rfl) b hZ hB kE hm (fun s3 m3 w3 hm hbs2 b=>?_) (fun d hd=>by rw [List.mem_singleton.1 hd];exact .tail _ (.tail _ (.head _)));have hc2:=uK hbs2 hc2;have hco:=uK hbs2 hco;replace hbs:=lQ hbs hbs2;refine kr b ?_;refine vQ (Gc (i:=n2) (c:=c2)) (jO Jy rfl) b hZ hB hc2 hm fun s3 m3 w3 hm hbs2 b=>?_;have hc2:=uK hbs2 hc2;have hco:=uK hbs2 hco;replace hbs:=lQ hbs hbs2;have hlh:m3.lh.length=s3.labs.length:=by rw [(b.de 4 rfl).len,Dg]
 have hbx:=b.at 8 rfl;have hbl:m3.bs.length=s3.labs.length:=by rw [hbx.1.len,CX hlh]
 have hne:(decide (co≠c2))=decide (¬ ot=n2):=by have:=VZ hbx.2 hco hc2;by_cases h:ot=n2 <;> simp [this,h]
 have hB1:∃ C,yA w3 co 170 C:=by obtain ⟨u,hu⟩:=lZ (l:=tZ s3.labs m3.lh) (k:=ot) (by rw [CX hlh,<-hbl];exact ku hco);obtain ⟨c',h1,h2⟩:=hbx.1.get hu;rw [hco] at h1;cases h1;exact ⟨_,h2⟩
 have hB2:∃ C,yA w3 c2 170 C:=by obtain ⟨u,hu⟩:=lZ (l:=tZ s3.labs m3.lh) (k:=n2) (by rw [CX hlh,<-hbl];exact ku hc2);obtain ⟨c',h1,h2⟩:=hbx.1.get hu;rw [hc2] at h1;cases h1;exact ⟨_,h2⟩
 obtain ⟨_,hB1⟩:=hB1;obtain ⟨_,hB2⟩:=hB2;refine kr b ?_;refine jJ (ag5 underlying111 afL (by decide) rfl rfl hB1 hB2) ?_;rw [hne];refine sN ?_;repeat refine tV ?_
 refine qQ (fun f' w'=>∃ (s4:Lw)(m4:zN),Has f' [(0,Pt R.lb),(6,Pt c2)]/\(∃ t,m4.bs=m3.bs ++ t)/\Bx w w' Z G (Low R m4 s4 ++ [.box b3 115 (cS x a).toArray]) (kK R m4 s4 ++ dS x a)/\xW n2 s4=some q) (fun J hJ=>?_) ?_
 · refine tL rfl (fun h=>?_) (fun h=>?_)
   · rw [kQ h,ZV] at hm;refine kr b ?_;refine vQ (wG (i:=ot) (c:=co)) (jO Fe rfl) b hZ hB hco hm fun s4 m4 w3 hm hbs2 b=>?_;have hc2:=uK hbs2 hc2;have hbs4:=hbs2;rw [ZV] at hm;refine kr b ?_;refine vQ (Gd hS) (jO Oc rfl) b hZ hB kE hm (fun s4 m4 w3 hm hbs2 b=>?_) (fun d hd=>by rw [List.mem_singleton.1 hd];exact .tail _ (.tail _ (.tail _ (.head _))));have hc2:=uK hbs2 hc2;have hbs4:=lQ hbs4 hbs2;refine kr b ?_;refine vQ (Gc (i:=n2) (c:=c2)) (jO Jy rfl) b hZ hB hc2 hm fun s4 m4 w3 hm hbs2 b=>?_;refine kr b ?_;exact hJ _ _ ⟨s4,m4,jA,lQ hbs4 hbs2,b,hm⟩
   · rw [lF (by omega)] at hm;refine kr b ?_;exact hJ _ _ ⟨s3,m3,jA,Qq,b,hm⟩
 rintro f' w4 ⟨s4,m4,hf,hbs2,b,hm⟩;obtain ⟨av4,rfl⟩:=lg _ _ hf;clear hf;have hc2:=uK hbs2 hc2;replace hbs:=lQ hbs hbs2;refine kr b ?_;refine vQ (k:=oL) (OD (i:=n2) (c:=c2)) (jO (vT func151) rfl) b hZ hB hc2 (by rw [Ee];exact hm) fun s' m' w5 hm hbs2 b=>?_;cases hm;refine kr b ?_;exact nR rfl ⟨_,_,_,[],rfl,⟨rfl,rfl⟩,lQ hbs hbs2,lf0 b⟩
theorem aag {R:Rn}{fv fu:Nat}{st:jC->LM Unit}(hS:CSt R st){x:jC}{a:Z6}:CZ R (fun _=>True) 103 #[Pt R.lb,.agg (cS x a).toArray] (JW (jS fv R.src) R.src.c st fu x) VU (dS x a):=by
 refine qw fun w Z G m s q b hZ _ hB hm=>?_;unfold JW at hm;refine lq func103 rfl (uN [(0,Pt R.lb),(1,.agg (cS x a).toArray)] jA fun av=>tV (nU (FD b (rD rfl) fun w1 b3 b=>?_)));have b:Bx w w1 Z G (Low R m s ++ [.box b3 115 (cS x a).toArray]) (kK R m s ++ dS x a):=b;refine kr b ?_;refine wDB b [11] fun b eS=>TU eS ?_;refine hO 3 (LB (fv:=fv) rfl rfl (jO Dx rfl) b hZ hB hm fun n1 c1 s1 m1 w1 hc1 hm hst hbs b=>?_);have eS:SB w Z G R (s.stmt,s.omap) _ _ w1:=⟨m1,s1,hst,b⟩;refine ⟨jL kE eS,hO 7 (LB (fv:=fv) rfl rfl (jO Dx rfl) b hZ hB hm fun n2 c2 s2 m2 w2 hc2 hm hst2 hbs2 b=>?_)⟩;have eS:SB w Z G R (s.stmt,s.omap) _ _ w2:=⟨m2,s2,hst2.trans hst,b⟩;have hc1:=uK hbs2 hc1;replace hbs:=lQ hbs hbs2;refine ⟨jL kE eS,hO 11 (LB (fv:=fv) rfl rfl (jO Dx rfl) b hZ hB hm fun n3 c3 s3 m3 w3 hc3 hm hst3 hbs2 b=>?_)⟩;have eS:SB w Z G R (s.stmt,s.omap) _ _ w3:=⟨m3,s3,hst3.trans (hst2.trans hst),b⟩;have hc1:=uK hbs2 hc1;have hc2:=uK hbs2 hc2;replace hbs:=lQ hbs hbs2;refine ⟨jL kE eS,TU eS ?_⟩;refine hD (kr b ?_);refine vQ (Gc (i:=n1) (c:=c1)) (jO Jy rfl) b hZ hB hc1 hm fun s3 m3 w3 hm hbs2 b=>?_;have hc1:=uK hbs2 hc1;have hc2:=uK hbs2 hc2;have hc3:=uK hbs2 hc3;replace hbs:=lQ hbs hbs2;refine kr b ?_;refine vQ (wG (i:=n1) (c:=c1)) (jO Fe rfl) b hZ hB hc1 hm fun s3 m3 w3 hm hbs2 b=>?_;have hc1:=uK hbs2 hc1;have hc2:=uK hbs2 hc2;have hc3:=uK hbs2 hc3;replace hbs:=lQ hbs hbs2;refine kr b ?_;refine vQ UY (jO (vT func104) rfl) b hZ hB kE hm fun s3 m3 w3 hm hbs2 b=>?_;have hc1:=uK hbs2 hc1;have hc2:=uK hbs2 hc2;have hc3:=uK hbs2 hc3;replace hbs:=lQ hbs hbs2;rw [AX] at hm;refine kr b ?_;refine SV (fun e a c=>D8 e a c) b hZ hB (j:=1) rfl hm rfl rfl (fun _ _ _=>jO JL rfl) fun cv s3 m3 A v1 w1 hm hbs2 b=>?_;have hc1:=uK hbs2 hc1;have hc2:=uK hbs2 hc2;have hc3:=uK hbs2 hc3;replace hbs:=lQ hbs hbs2
 refine kr b ?_;refine WC (Az (i:=n2) (c:=c2) (a:=none) (cc:=0) (first:=[])) (jO Cx rfl) (Ky b) hZ hB hc2 hm (fun yes A1 k1 s3 m3 w3 hm hbs2 b=>?_) y1;have hc1:=uK hbs2 hc1;have hc2:=uK hbs2 hc2;have hc3:=uK hbs2 hc3;replace hbs:=lQ hbs hbs2;refine FD b (jN oK) fun w4 b8 b=>kV (mQ b 10 (cE yes A1 k1) rfl oK rfl rfl) fun w5 b=>?_;have b:Bx w w5 Z G (Low R m3 s3 ++ [.box b3 115 (cS x a).toArray,.box b8 64 (cE yes A1 k1).toArray]) (kK R m3 s3 ++ (.l A1 k1 yes.a :: ln :: dS x a)):=b;refine kr b ?_;refine WC (Az (i:=n3) (c:=c3) (a:=none) (cc:=0) (first:=[])) (jO Cx rfl) b hZ hB hc3 hm (fun no A2 k2 s3 m3 w3 hm hbs2 b=>?_) (fun d hd=>by rw [List.mem_singleton.1 hd];exact .tail _ (.head _));have hc1:=uK hbs2 hc1;have hc2:=uK hbs2 hc2;have hc3:=uK hbs2 hc3;replace hbs:=lQ hbs hbs2;refine FD b (jN oK) fun w4 b9 b=>kV (mQ b 11 (cE no A2 k2) rfl oK rfl rfl) fun w5 b=>?_;have b:Bx w w5 Z G (Low R m3 s3 ++ [.box b3 115 (cS x a).toArray,.box b8 64 (cE yes A1 k1).toArray,.box b9 64 (cE no A2 k2).toArray]) (kK R m3 s3 ++ (.l A2 k2 no.a :: .l A1 k1 yes.a :: ln :: dS x a)):=b;refine kr b ?_;refine jJ (kZ (cE yes A1 k1) underlying64 oK rfl (b.bk 10 rfl)) (jJ (kZ (cE no A2 k2) underlying64 oK rfl (b.bk 11 rfl)) (vQ F7 (jO Qg rfl) b hZ hB kE hm (fun s3 m3 w3 hm hbs2 b=>?_) (y2 (.tail _ (.head _)) (.head _))));have hc1:=uK hbs2 hc1;have hc2:=uK hbs2 hc2;have hc3:=uK hbs2 hc3;replace hbs:=lQ hbs hbs2;have b:=lY b [0] [3,4,5,6];have b:Bx w w3 Z G (Low R m3 s3 ++ [.box b3 115 (cS x a).toArray]) (kK R m3 s3 ++ dS x a):=b;refine kr b ?_;refine vQ (wG (i:=n2) (c:=c2)) (jO Fe rfl) b hZ hB hc2 hm fun s3 m3 w3 hm hbs2 b=>?_;have hc1:=uK hbs2 hc1;have hc3:=uK hbs2 hc3;replace hbs:=lQ hbs hbs2;refine kr b ?_
 refine vQ (Gd hS) (jO Oc rfl) b hZ hB kE hm (fun s3 m3 w3 hm hbs2 b=>?_) (fun d hd=>by rw [List.mem_singleton.1 hd];exact .tail _ (.tail _ (.head _)));have hc1:=uK hbs2 hc1;have hc3:=uK hbs2 hc3;replace hbs:=lQ hbs hbs2;refine kr b ?_;refine vQ (Gc (i:=n1) (c:=c1)) (jO Jy rfl) b hZ hB hc1 hm fun s3 m3 w3 hm hbs2 b=>?_;have hc3:=uK hbs2 hc3;replace hbs:=lQ hbs hbs2;refine kr b ?_;refine vQ (k:=oL) (wG (i:=n3) (c:=c3)) (jO Fe rfl) b hZ hB hc3 (by rw [Ee];exact hm) fun s' m' w5 hm hbs2 b=>?_;cases hm;refine kr b ?_;exact nR rfl ⟨_,_,_,[],rfl,⟨rfl,rfl⟩,lQ hbs hbs2,lf0 b⟩
theorem Uy {F:Nat→Prop}{w:World}:∀ l:List Nat,xC F w (Df l) (l.map PB.mk)
 | []=>trivial
 | _ :: l=>⟨rfl,Uy l⟩
theorem Mf {F:Nat→Prop}{w:World}:∀ {cs:LV}{l:List Nat},xC F w cs (l.map PB.mk)→cs=Df l
 | [],[],_=>rfl
 | _ :: _,_ :: _,h=>by rw [Df,List.map_cons,<-Df,<-Mf h.2];exact congrArg (· :: _) h.1
 | [],_ :: _,h=>h.elim
 | _ :: _,[],h=>h.elim
theorem ae0 {ρ:Operand->Value}{w:World}{d:Option Nat}{ty:TypeId}{pos:String}{af:Array Edge}{g:Option (Nat × Bool)}{x:Operand}{b:Nat}(h:ρ x=Pt b):(execOp ρ ⟨d,.buildSlice 88 1 #[(0,x)],ty,pos,af,g⟩).run prog w=.ok (.value (.slice (some ⟨w.heap.size,0,none⟩) 1 1)) (w.alloc (.cells #[Pt b] 111)):=by
 have e:(Instr.buildSlice 88 1 #[(0,Pt b)]).run prog w=.ok (.slice (some ⟨w.heap.size,0,none⟩) 1 1) (w.alloc (.cells #[Pt b] 111)):=by kernel_rfl
 simp [execOp,h,e]
theorem HP.push {hp bs hnd:List Nat}{h c:Nat}(k:HP hp bs hnd)(hc:bs[h]?=some c):HP (hp ++ [c]) bs (hnd ++ [h]):=by
 refine ⟨by simp [k.1],fun j i hj=>?_⟩;rw [List.getElem?_append] at hj ⊢;rw [k.1];split at hj
 · rename_i hlt;rw [lF hlt];exact k.2 j i hj
 · rename_i hlt;rw [kQ hlt];obtain h0 | h0:=Nat.eq_zero_or_pos (j - hnd.length)
   · rw [h0] at hj ⊢;simp only [EC,Dk] at hj;subst hj;exact ⟨c,rfl,hc⟩
   · rw [List.getElem?_eq_none (by simp;omega)] at hj;cases hj
theorem HP.pop {hp bs hnd:List Nat}(k:HP hp bs hnd):HP hp.dropLast bs hnd.dropLast:=by
 refine ⟨by simp [k.1],fun j i hj=>?_⟩;rw [List.getElem?_dropLast] at hj ⊢;rw [k.1];split at hj
 · rename_i hlt;rw [lF hlt];exact k.2 j i hj
 · cases hj
theorem acJ {w0 w:World}{Z G:Nat->Prop}{L:List It}{D:List Da}(h:Bx w0 w Z G L D)(i:Nat){B c:Nat}{A:OA}{l:List Nat}(hi:L[i]?=some (.own B A c 111 1 (Df l))):Bx w0 w Z G (L.set i (.own B A c 111 1 (Df l.dropLast))) D:=by
 have h1:=h.ko (d:=.els (Df l) (l.map PB.mk)) (Uy l);have h2:=h1.shr (α:=PB) i 0 (m:=l.length - 1) hi rfl (by simp) rfl;have e:(Df l).take (l.length - 1)=Df l.dropLast:=by rw [Df,Df,List.dropLast_eq_take,List.map_take]
 rw [e] at h2;exact h2.Bl fun d hd=>yO _ hd
theorem ab5 {R:Rn}{fv:Nat}{st:jC->LM Unit}(hS:CSt R st){x:jC}{a:Z6}:CZ R (fun _=>True) 113 #[Pt R.lb,.agg (cS x a).toArray] (QE (jS fv R.src) R.src.c st x) VU (dS x a):=by
 refine qw fun w Z G m s q b hZ _ hB hm=>?_;unfold QE at hm;refine lq func113 rfl (uN [(0,Pt R.lb),(1,.agg (cS x a).toArray)] jA fun av=>tV (nU (FD b (rD rfl) fun w1 b3 b=>?_)));have b:Bx w w1 Z G (Low R m s ++ [.box b3 115 (cS x a).toArray]) (kK R m s ++ dS x a):=b;refine kr b ?_;refine wDB b [7] fun b eS=>TU eS ?_;refine hO 3 (LB (fv:=fv) rfl rfl (jO Dx rfl) b hZ hB hm fun n1 c1 s1 m1 w1 hc1 hm hst hbs b=>?_);have eS:SB w Z G R (s.stmt,s.omap) _ _ w1:=⟨m1,s1,hst,b⟩;refine ⟨jL kE eS,hO 7 (LB (fv:=fv) rfl rfl (jO Dx rfl) b hZ hB hm fun n2 c2 s2 m2 w2 hc2 hm hst2 hbs2 b=>?_)⟩;have eS:SB w Z G R (s.stmt,s.omap) _ _ w2:=⟨m2,s2,hst2.trans hst,b⟩;have hc1:=uK hbs2 hc1;replace hbs:=lQ hbs hbs2;refine ⟨jL kE eS,TU eS ?_⟩;refine hD ?_;obtain ⟨u2,hu2,hm⟩:=lbi hm;unfold LH at hu2;split at hu2
 · cases hu2
 rename_i hcapl;cases hu2;replace hm:(rA st x.d |>.bind fun _=>LK |>.bind fun _=>xL n2 |>.bind fun _ s=>s.labs[n1]?.bind fun t=>((if 0<=t.1 then ou n1 1 |>.bind fun _=>vB (x.f,0) 0 |>.bind fun _=>rA st x.i |>.bind fun _=>xL n2 else oL ()) |>.bind fun _=>xW n2) s) { s2 with hnd:=s2.hnd ++ [n1] }=some q:=hm;have hq1:m2.hp.length=s2.hnd.length:=(show Da.ok (.wp (.l m2.cA m2.cC s2.ctxs) (HP m2.hp m2.bs s2.hnd)) _ _ from b.d 5 rfl).2.1;refine kr b ?_;refine o7 (jT b [[Pt c1]] ([PB.mk c1]:List PB) (ae0 rfl) rfl rfl ⟨rfl,trivial⟩) ?_;rintro _ w4 ⟨b4,rfl,b⟩;replace b:=b.ko (d:=.els (Df m2.hp) (m2.hp.map PB.mk)) (Uy _);have happ:app (m2.hp.map PB.mk) [PB.mk c1]=some ((m2.hp ++ [c1]).map PB.mk):=by unfold app;rw [lF (by simp [hq1];omega),List.map_append];rfl
 refine o7 (kJ (α:=PB) b 8 0 rfl rfl underlying88 UM rfl hB (by show Value.slice m2.hA s2.hnd.length m2.hC=_;rw [Dg,hq1]) rfl (b.Cj 0 1 rfl rfl) happ) ?_;rintro _ w5 ⟨A2,k2,cs2,rfl,b⟩;have hcs:=Mf (b.de 0 rfl);subst hcs;have hlen2:((m2.hp ++ [c1]).map PB.mk).length=(s2.hnd ++ [n1]).length:=by simp [hq1]
 rw [hlen2];refine kr b ?_;refine kV (t_n b 1 [.slice A2 (s2.hnd ++ [n1]).length k2] rfl aeg rfl rfl) fun w6 b=>?_;have hQ:Da.ok (.wp (.l m2.cA m2.cC s2.ctxs) (HP m2.hp m2.bs s2.hnd)) _ _:=b.d 7 rfl;replace b:=b.KD 7 (d:=.wp (.l m2.cA m2.cC s2.ctxs) (HP (m2.hp ++ [c1]) m2.bs (s2.hnd ++ [n1]))) ⟨hQ.1,hQ.2.push hc1⟩;have b:Bx w w6 Z G (Low R { m2 with hA:=A2,hC:=k2,hp:=m2.hp ++ [c1] } { s2 with hnd:=s2.hnd ++ [n1] } ++ [.box b3 115 (cS x a).toArray]) (kK R { m2 with hA:=A2,hC:=k2,hp:=m2.hp ++ [c1] } { s2 with hnd:=s2.hnd ++ [n1] } ++ dS x a):=b.ad [1,2,3,4,5,6,7,8,9,10] [2,3,4,5,6,7,8,9,10,11,12,13,14,15];clear hQ hlen2 happ hq1;refine kr b ?_;refine vQ (Gd hS) (jO Oc rfl) b hZ hB kE hm (fun s3 m3 w3 hm hbs2 b=>?_) (fun d hd=>by rw [List.mem_singleton.1 hd];exact .tail _ (.tail _ (.head _)));have hc1:=uK hbs2 hc1;have hc2:=uK hbs2 hc2;replace hbs:=lQ hbs hbs2;obtain ⟨u3,hu3,hm⟩:=lbi hm;unfold LK at hu3;split at hu3
 · cases hu3
 rename_i hne;cases hu3;replace hm:(xL n2 |>.bind fun _ s=>s.labs[n1]?.bind fun t=>((if 0<=t.1 then ou n1 1 |>.bind fun _=>vB (x.f,0) 0 |>.bind fun _=>rA st x.i |>.bind fun _=>xL n2 else oL ()) |>.bind fun _=>xW n2) s) { s3 with hnd:=s3.hnd.dropLast }=some q:=hm;have hpos:0 < s3.hnd.length:=List.length_pos_iff.2 hne;have hq1:m3.hp.length=s3.hnd.length:=(show Da.ok (.wp (.l m3.cA m3.cC s3.ctxs) (HP m3.hp m3.bs s3.hnd)) _ _ from b.d 5 rfl).2.1;have hcap:=(b.bo 7 rfl).cap;rw [show (Df m3.hp).length=s3.hnd.length by rw [Dg,hq1]] at hcap;have hbd2:s3.hnd.length<=9223372036854775807:=by have:=sO hcap.1 hcap.2;simp only [maxLen] at this;omega
 refine kr b ?_;refine EM b [14] fun b=>BQ b ?_;rw [Wj hbd2];refine wN 11 rfl (dP (BJ (s3.hnd.length - 1) underlying88 UM rfl rfl (by omega) (by omega)) (jL kE b) (BQ b ?_));have hlen3:s3.hnd.length - 1=s3.hnd.dropLast.length:=by simp
 rw [hlen3];refine hO 14 (os rfl rfl (t_n b 0 [.slice m3.hA s3.hnd.dropLast.length m3.hC] rfl aeg rfl rfl) fun w7 b=>⟨sy 14 kE,hD ?_⟩);replace b:=acJ b 7 rfl;have hQ:Da.ok (.wp (.l m3.cA m3.cC s3.ctxs) (HP m3.hp m3.bs s3.hnd)) _ _:=b.d 5 rfl;replace b:=b.KD 5 (d:=.wp (.l m3.cA m3.cC s3.ctxs) (HP m3.hp.dropLast m3.bs s3.hnd.dropLast)) ⟨hQ.1,hQ.2.pop⟩;have b:Bx w w7 Z G (Low R { m3 with hp:=m3.hp.dropLast } { s3 with hnd:=s3.hnd.dropLast } ++ [.box b3 115 (cS x a).toArray]) (kK R { m3 with hp:=m3.hp.dropLast } { s3 with hnd:=s3.hnd.dropLast } ++ dS x a):=b;clear hQ hcap hpos hbd2 hq1 hne hlen3;refine kr b ?_;refine vQ (Gc (i:=n2) (c:=c2)) (jO Jy rfl) b hZ hB hc2 hm fun s4 m4 w3 hm hbs2 b=>?_;have hc1:=uK hbs2 hc1;have hc2:=uK hbs2 hc2;replace hbs:=lQ hbs hbs2;obtain ⟨t,ht,hm⟩:=bs hm;obtain ⟨_,h,h2,h3,h5,h7⟩:=EA b 8 4 rfl rfl hc1 ht;refine kr b ?_;refine gL rfl h5 rfl rfl (kr b ?_);refine qQ (fun f' w'=>∃ (s5:Lw)(m5:zN),Has f' [(0,Pt R.lb),(5,Pt c2)]/\(∃ t,m5.bs=m4.bs ++ t)/\Bx w w' Z G (Low R m5 s5 ++ [.box b3 115 (cS x a).toArray]) (kK R m5 s5 ++ dS x a)/\xW n2 s5=some q) (fun J hJ=>?_) ?_
 · refine tL rfl (fun h0=>?_) (fun h0=>?_)
   · rw [lF h0,ZV] at hm;refine kr b ?_;refine vQ (wG (i:=n1) (c:=c1)) (jO Fe rfl) b hZ hB hc1 hm fun s5 m5 w3 hm hbs2 b=>?_;have hc2:=uK hbs2 hc2;have hbs5:=hbs2;rw [ZV] at hm;refine kr b ?_;refine jJ (Ec (v:=.agg (cP (x.f,0)).toArray) rfl (by kernel_rfl)) (vQ (Ib (p:=(x.f,0))) (jO SA rfl) b hZ hB kE hm fun s5 m5 w3 hm hbs2 b=>?_);have hc2:=uK hbs2 hc2;have hbs5:=lQ hbs5 hbs2;rw [ZV] at hm;refine kr b ?_;refine vQ (Gd hS) (jO Oc rfl) b hZ hB kE hm (fun s5 m5 w3 hm hbs2 b=>?_) (fun d hd=>by rw [List.mem_singleton.1 hd];exact .tail _ (.tail _ (.tail _ (.head _))));have hc2:=uK hbs2 hc2;have hbs5:=lQ hbs5 hbs2;refine kr b ?_;refine vQ (Gc (i:=n2) (c:=c2)) (jO Jy rfl) b hZ hB hc2 hm fun s5 m5 w3 hm hbs2 b=>kr b ?_;exact hJ _ _ ⟨s5,m5,jA,lQ hbs5 hbs2,b,hm⟩
   · rw [kQ h0] at hm;refine kr b ?_;exact hJ _ _ ⟨s4,m4,jA,Qq,b,hm⟩
 rintro f' w8 ⟨s5,m5,hf,hbs2,b,hm⟩;obtain ⟨av4,rfl⟩:=lg _ _ hf;clear hf;have hc2:=uK hbs2 hc2;replace hbs:=lQ hbs hbs2;refine kr b ?_;refine vQ (k:=oL) (OD (i:=n2) (c:=c2)) (jO (vT func151) rfl) b hZ hB hc2 (by rw [Ee];exact hm) fun s' m' w5 hm hbs2 b=>?_;cases hm;refine kr b ?_;exact nR rfl ⟨_,_,_,[],rfl,⟨rfl,rfl⟩,lQ hbs hbs2,lf0 b⟩
theorem Va {R:Rn}{w0 w:World}{Z G:Nat->Prop}{X:List It}{Y:List Da}{m:zN}{s:Lw}{j k:Nat}{l:List jD}{y:jD}{a:OA}{c:Nat}(b:Bx w0 w Z G (Low R m s ++ X) (kK R m s ++ Y))(hj:Y[j]?=some (.l a c l))(hy:l[k]?=some y) :∃ a2 c2,Bx w0 w Z G (Low R m s ++ X) (kK R m s ++ (.l a2 c2 y.a :: .at (oH a) (qo a+k * Rp.sz jD) (cX y a2 c2) :: Y)):=by obtain ⟨cs,hr,e2⟩:=b.nm (10+j) (adL hj) hy;obtain ⟨a2,c2,rfl,hd⟩:=jD.out hr;exact ⟨a2,c2,Gh (Gh e2 |>.ko (d:=.l a2 c2 y.a) hd)⟩
theorem UL {R:Rn}{fv:Nat}:∀ fu,CSt R (vD (jS fv R.src) R.src.c fu)
 | 0=>fun x a=>qw fun w Z G m s q b hZ _ hB hm=>by cases hm
 | fu+1=>fun x a=>by
  have ih:=UL (R:=R) (fv:=fv) fu;refine qw fun w Z G m s q b hZ _ hB hm=>?_;rw [vD] at hm;dsimp only at hm;refine lq func70 rfl ?_;refine uN [(0,Pt R.lb),(1,.agg (cS x a).toArray)] jA fun av=>?_;refine tV (nU ?_);refine FD b (rD rfl) fun w1 b3 b=>?_;refine kr b ?_;refine kV (t_n b 0 [V x.n] rfl p9 rfl rfl) fun w2 b=>?_;have b:Bx w w2 Z G (Low R m { s with stmt:=x.n } ++ [.box b3 115 (cS x a).toArray]) (kK R m { s with stmt:=x.n } ++ dS x a):=b;generalize ({ s with stmt:=x.n }:Lw)=s at b hm;refine kr b ?_;refine tL rfl (fun h5=>?_) (fun h5=>?_)
  · rw [lF h5] at hm;refine kr b ?_;refine jJ (kZ (cS x a) underlying115 jY rfl (b.bk 9 rfl)) ?_;refine vQ (k:=oL) (aag ih) (jO (vT func103) rfl) b hZ hB kE (by rw [Ee];exact hm) (fun s' m' w5 hm hbs b=>?_) yy;cases hm;refine kr b ?_;refine lG ?_;exact nR rfl ⟨_,_,_,[],rfl,⟨rfl,rfl⟩,hbs,lf0 b⟩
  rw [kQ h5] at hm;refine kr b ?_;refine vQ UY (jO (vT func104) rfl) b hZ hB kE hm fun s m w1 hm hbs b=>?_;refine kr b ?_;refine tL rfl (fun h1=>?_) (fun h1=>?_)
  · rw [lF h1] at hm;refine kr b ?_;refine jJ (kZ (cS x a) underlying115 jY rfl (b.bk 9 rfl)) ?_;refine vQ (k:=oL) Uh (jO (vT func105) rfl) b hZ hB kE (by rw [Ee];exact hm) (fun s' m' w5 hm hbs2 b=>?_) yy;cases hm;refine kr b ?_;exact nR rfl ⟨_,_,_,[],rfl,⟨rfl,rfl⟩,lQ hbs hbs2,lf0 b⟩
  rw [kQ h1] at hm;refine kr b ?_;refine tL rfl (fun h2=>?_) (fun h2=>?_)
  · rw [lF h2] at hm;cases hT:x.e with
    | nil=>
      rw [hT] at hm;cases hm;cases hA:x.a with
      | nil=>
        refine EM b [9] fun b=>?_;refine BQ b ?_;refine RH 3 7 (by kernel_rfl) (xq rfl underlying113 rfl rfl (by rw [hT];simp) fun u w' hw _=>?_) (xq rfl underlying113 rfl rfl (by rw [hA];simp) fun u w' hw _=>?_)
        · exact prt b u w' hw
        · exact prt b u w' hw
      | cons e le=>
        have he:x.a[0]?=some e:=by rw [hA];rfl
        obtain ⟨a2,c2,b⟩:=Va (j:=1) b rfl he;refine EM b [9] fun b=>?_;refine BQ b ?_;refine wN 7 rfl ?_;refine dP (kR underlying113 jZ rfl rfl rfl (b.dl 13 rfl) he) (jL kE b) ?_;refine wN 8 rfl ?_;refine dU (fun hu=>lK (cX e a2 c2) underlying166 rfl jZ rfl rfl (hu.dc 11 rfl)) (jL kE b) ?_;refine hO 3 (xq rfl underlying113 rfl rfl (by rw [hT];simp) fun u w' hw _=>?_);exact prt b u w' hw
    | cons t lt=>
      have ht:x.e[0]?=some t:=by rw [hT];rfl
      rw [hT] at hm;obtain ⟨a1,c1,b⟩:=Va (j:=0) b rfl ht;cases hA:x.a with
      | nil=>
        rw [hA] at hm;cases hm;refine EM b [9] fun b=>?_;refine BQ b ?_;refine wN 3 rfl ?_;refine dP (kR underlying113 jZ rfl rfl rfl (b.dl 12 rfl) ht) (jL kE b) ?_;refine wN 4 rfl ?_;refine dU (fun hu=>lK (cX t a1 c1) underlying166 rfl jZ rfl rfl (hu.dc 11 rfl)) (jL kE b) ?_;refine hO 7 (xq rfl underlying113 rfl rfl (by rw [hA];simp) fun u w' hw _=>?_);exact prt b u w' hw
      | cons e le=>
        have he:x.a[0]?=some e:=by rw [hA];rfl
        rw [hA] at hm;obtain ⟨a2,c2,b⟩:=Va (j:=3) b rfl he;refine EM b [9] fun b=>?_;refine BQ b ?_;refine wN 3 rfl ?_;refine dP (kR underlying113 jZ rfl rfl rfl (b.dl 14 rfl) ht) (jL kE b) ?_;refine wN 4 rfl ?_;refine dU (fun hu=>lK (cX t a1 c1) underlying166 rfl jZ rfl rfl (hu.dc 13 rfl)) (jL kE b) ?_;refine wN 7 rfl ?_;refine dP (kR underlying113 jZ rfl rfl rfl (b.dl 15 rfl) he) (jL kE b) ?_;refine wN 8 rfl ?_;refine dU (fun hu=>lK (cX e a2 c2) underlying166 rfl jZ rfl rfl (hu.dc 11 rfl)) (jL kE b) ?_;refine hO 9 (oC (k:=oL) rfl rfl (Wl (fv:=fv) (fu:=fu)) (jO (vT func106) rfl) b hZ hB kE (by rw [Ee];exact hm) (fun _ s' m' v' ds w3 _ h1 hm hbs2 b=>?_) (y2 (.tail _ (.tail _ (.head _))) (.head _)) fun _ _ _ h1 h2=>⟨h1,h2⟩);obtain ⟨rfl,rfl⟩:=h1;cases hm;refine ⟨sy 9 kE,hD ?_⟩;refine kr b ?_;exact nR rfl ⟨_,_,_,[],rfl,⟨rfl,rfl⟩,lQ hbs hbs2,lf0 b⟩
  rw [kQ h2] at hm;refine kr b ?_;refine tL rfl (fun h3=>?_) (fun h3=>?_)
  · rw [lF h3] at hm;refine kr b ?_;refine jJ (kZ (cS x a) underlying115 jY rfl (b.bk 9 rfl)) ?_;refine vQ Vs (jO (vT func107) rfl) b hZ hB kE hm (fun s m w5 hm hbs2 b=>?_) yy;replace hbs:=lQ hbs hbs2;refine kr b ?_;cases hT:x.e with
    | nil=>
      rw [hT] at hm;cases hm;refine jM rfl ?_;refine kr b ?_;exact nR rfl ⟨_,_,_,[],rfl,⟨rfl,rfl⟩,hbs,lf0 b⟩
    | cons t lt=>
      have ht:x.e[0]?=some t:=by rw [hT];rfl
      rw [hT] at hm;obtain ⟨a1,c1,b⟩:=Va (j:=0) b rfl ht;refine jQ ?_ ?_
      · show Value.bool (decide _)=_;rw [sP];simp
      refine kr b ?_;refine jJ (kR underlying113 jZ rfl rfl rfl (b.dl 12 rfl) ht) (jJ (lK (cX t a1 c1) underlying166 rfl jZ rfl rfl (b.dc 11 rfl)) ?_);refine BN (jO (vT func108) rfl) Hl ?_;rintro _ w6 ⟨rfl,hx⟩;replace b:=b.ext hx;refine vQ (k:=oL) Ib (jO SA rfl) b hZ hB kE (by rw [Ee];exact hm) fun s' m' w5 hm hbs2 b=>?_;cases hm;refine kr b ?_;exact nR rfl ⟨_,_,_,[],rfl,⟨rfl,rfl⟩,lQ hbs hbs2,lf0 b⟩
  rw [kQ h3] at hm;refine kr b ?_;refine tL rfl (fun h4=>?_) (fun h4=>?_)
  · rw [lF h4] at hm;refine kr b ?_;refine jJ (kZ (cS x a) underlying115 jY rfl (b.bk 9 rfl)) ?_;refine vQ (k:=oL) (VJ ih) (jO (vT func109) rfl) b hZ hB kE (by rw [Ee];exact hm) (fun s' m' w5 hm hbs2 b=>?_) yy;cases hm;refine kr b ?_;exact nR rfl ⟨_,_,_,[],rfl,⟨rfl,rfl⟩,lQ hbs hbs2,lf0 b⟩
  rw [kQ h4] at hm;refine kr b ?_;refine tL rfl (fun h6=>?_) (fun h6=>?_)
  · rw [lF h6] at hm;refine kr b ?_;refine jJ (Qc rfl rfl) ?_;refine kr b ?_;refine tL rfl (fun hf=>?_) (fun hf=>?_)
    · rw [lF (show x.k≠be from hf)] at hm;refine kr b ?_;refine jJ (kZ (cS x a) underlying115 jY rfl (b.bk 9 rfl)) ?_;refine vQ Vs (jO (vT func107) rfl) b hZ hB kE hm (fun s m w5 hm hbs2 b=>?_) yy;replace hbs:=lQ hbs hbs2;refine kr b ?_;refine vQ (k:=oL) PN (jO (vT func110) rfl) b hZ hB kE (by rw [Ee];exact hm) fun s' m' w5 hm hbs2 b=>?_;cases hm;refine kr b ?_;exact nR rfl ⟨_,_,_,[],rfl,⟨rfl,rfl⟩,lQ hbs hbs2,lf0 b⟩
    · rw [kQ (show ¬ x.k≠be from hf),AX] at hm;refine kr b ?_;refine SV (fun e a c=>D8 e a c) b hZ hB (j:=1) rfl hm rfl rfl (fun _ _ _=>jO JL rfl) fun cv s m A v1 w1 hm hbs2 b=>?_;replace hbs:=lQ hbs hbs2;refine vQ (k:=oL) PN (jO (vT func110) rfl) b hZ hB kE (by rw [Ee];exact hm) fun s' m' w5 hm hbs2 b=>?_;cases hm;refine kr b ?_;exact nR rfl ⟨_,_,_,[],rfl,⟨rfl,rfl⟩,lQ hbs hbs2,lf0 b⟩
  rw [kQ h6] at hm;refine kr b ?_;refine tL rfl (fun h7=>?_) (fun h7=>?_)
  · rw [lF h7,AX] at hm;refine kr b ?_;refine SV (fun e a c=>D8 e a c) b hZ hB (j:=1) rfl hm rfl rfl (fun _ _ _=>jO JL rfl) fun cv s m A v1 w1 hm hbs2 b=>?_;replace hbs:=lQ hbs hbs2;refine vQ (k:=oL) Tj (jO (vT func112) rfl) b hZ hB kE (by rw [Ee];exact hm) fun s' m' w5 hm hbs2 b=>?_;cases hm;refine kr b ?_;exact nR rfl ⟨_,_,_,[],rfl,⟨rfl,rfl⟩,lQ hbs hbs2,lf0 b⟩
  rw [kQ h7] at hm;refine kr b ?_;refine tL rfl (fun h8=>?_) (fun h8=>?_)
  · rw [lF h8] at hm;refine kr b ?_;refine jJ (kZ (cS x a) underlying115 jY rfl (b.bk 9 rfl)) ?_;refine vQ (k:=oL) (ab5 ih) (jO (vT func113) rfl) b hZ hB kE (by rw [Ee];exact hm) (fun s' m' w5 hm hbs2 b=>?_) yy;cases hm;refine kr b ?_;exact nR rfl ⟨_,_,_,[],rfl,⟨rfl,rfl⟩,lQ hbs hbs2,lf0 b⟩
  rw [kQ h8] at hm;refine kr b ?_;refine tL rfl (fun h9=>?_) (fun h9=>?_)
  · rw [lF h9,AX] at hm;refine kr b ?_;refine SV (fun e a c=>D8 e a c) b hZ hB (j:=1) rfl hm rfl rfl (fun _ _ _=>jO JL rfl) fun cv s m A v1 w1 hm hbs2 b=>?_;replace hbs:=lQ hbs hbs2;refine jJ (Ec (v:=.agg (cO ⟨18,0,cv,0,0,0,0,0,tY⟩).toArray) rfl (by kernel_rfl)) ?_;refine lOp (k:=oL) b hZ hB (by rw [Ee];exact hm) rfl (fun _ _=>jO GU rfl) fun s' m' w4 A hm hbs2 b=>?_;cases hm;refine kr b ?_;exact nR rfl ⟨_,_,_,[],rfl,⟨rfl,rfl⟩,lQ hbs hbs2,lf0 b⟩
  rw [kQ h9] at hm;refine kr b ?_;refine tL rfl (fun h10=>?_) (fun h10=>?_)
  · rw [lF h10] at hm;refine kr b ?_;refine Q0 uO (jO FN rfl) b hZ hB kE hm fun z s m w1 hm hbs2 b=>?_;replace hbs:=lQ hbs hbs2;refine vQ (k:=oL) PN (jO (vT func110) rfl) b hZ hB kE (by rw [Ee];exact hm) fun s' m' w5 hm hbs2 b=>?_;cases hm;refine kr b ?_;exact nR rfl ⟨_,_,_,[],rfl,⟨rfl,rfl⟩,lQ hbs hbs2,lf0 b⟩
  rw [kQ h10] at hm;cases hm;refine kr b ?_;exact nR rfl ⟨_,_,_,[],rfl,⟨rfl,rfl⟩,hbs,lf0 b⟩
theorem ahl:TI prog 49 sn 1 24:=nY (by kernel_rfl)
theorem agS:TI prog 50 sn 1 24:=nY (by kernel_rfl)
theorem Ql:TI prog 57 (.agg #[V 0,V 0,V 0]) 3 24:=nY (by kernel_rfl)
abbrev cF (x:kC)(a1:OA)(c1:Nat)(a2:OA)(c2:Nat):List Value:=[T x.c,V x.g,.slice a1 x.a.length c1,.slice a2 x.d.length c2]
section
variable {ρ:Operand->Value}{w:World}{d:Option Nat}{ty:TypeId}{pos:String}{af:Array Edge}{g:Option (Nat × Bool)}{x:Operand}{n1 n2 n3:Int}
theorem afG (h:ρ x=.agg #[V n1,V n2,V n3]):(execOp ρ ⟨d,.buildSlice 49 1 #[(0,x)],ty,pos,af,g⟩).run prog w=.ok (.value (.slice (some ⟨w.heap.size,0,none⟩) 1 1)) (w.alloc (.cells #[V n1,V n2,V n3] 107)):=by
 have e:(Instr.buildSlice 49 1 #[(0,.agg #[V n1,V n2,V n3])]).run prog w=.ok (.slice (some ⟨w.heap.size,0,none⟩) 1 1) (w.alloc (.cells #[V n1,V n2,V n3] 107)):=by kernel_rfl
 simp [execOp,h,e]
theorem afl (h:ρ x=.agg #[V n1,V n2,V n3]):(execOp ρ ⟨d,.buildSlice 50 1 #[(0,x)],ty,pos,af,g⟩).run prog w=.ok (.value (.slice (some ⟨w.heap.size,0,none⟩) 1 1)) (w.alloc (.cells #[V n1,V n2,V n3] 57)):=by
 have e:(Instr.buildSlice 50 1 #[(0,.agg #[V n1,V n2,V n3])]).run prog w=.ok (.slice (some ⟨w.heap.size,0,none⟩) 1 1) (w.alloc (.cells #[V n1,V n2,V n3] 57)):=by kernel_rfl
 simp [execOp,h,e]
end
theorem WY {R:Rn}{fv fu:Nat}:CZ R (fun _=>True) 24 #[Pt R.lb] (Rl (jS fv R.src) R.src fu) VU []:=by
 refine qw fun w Z G m s q b hZ _ hB hm=>?_;unfold Rl at hm;refine lq func24 rfl (uN [(0,Pt R.lb)] jA fun av=>kr b ?_);cases hfn:ix? R.src.a.b s.f with
 | none=>
   rw [hfn] at hm;cases hm;refine EM b [13] fun b=>BQ b ?_;refine RH 10 12 (by kernel_rfl) (xq rfl underlying24 rfl rfl (ru hfn) fun u w' hw _=>?_) (oo rfl rfl (ql b (jN oU)) ?_)
   · exact prt b u w' hw
   rintro _ w4 ⟨b8,rfl,b⟩;exact ⟨jL kE b.tl,hO 10 (xq rfl underlying24 rfl rfl (ru hfn) fun u w' hw _=>prt b u w' hw)⟩
 | some fn=>
 rw [hfn] at hm;dsimp only at hm;obtain ⟨kf,hkf,hfk⟩:=Zi hfn;obtain ⟨cs0,hr0,b⟩:=b.nm 7 rfl hfk;obtain ⟨a1,c1,a2,c2,rfl,hd1,hd2⟩:=kC.out hr0;replace b:=Gh (Gh b |>.ko (d:=.l a2 c2 fn.d) hd2);refine EM b [13] fun b=>BQ b ?_;refine wN 10 rfl (dP (kR underlying24 oU rfl rfl hkf (b.dl 7 rfl) hfk) (jL kE b) (wN 11 rfl (dU (fun hu=>lK (cF fn a1 c1 a2 c2) underlying61 rfl oU rfl rfl (hu.dc 11 rfl)) (jL kE b) (hO 12 (oo rfl rfl (ql b (jN oU)) ?_)))));rintro _ w4 ⟨b4,rfl,b⟩;refine ⟨jL kE b.tl,hO 13 (os rfl rfl (mQ b 0 (cF fn a1 c1 a2 c2) rfl oU rfl rfl) fun w5 b=>⟨sy 13 kE,hD ?_⟩)⟩;have b:Bx w w5 Z G (Low R m s ++ [.box b4 61 (cF fn a1 c1 a2 c2).toArray]) (kK R m s ++ [.l a2 c2 fn.d]):=b.ad [1,2,3,4,5,6,7,8,9,0] [0,1,2,3,4,5,6,7,8,9,10];refine kr b ?_;refine kV (t_n b 0 [V (fn.a.length:Int)] rfl p9 rfl rfl) fun w6 b=>?_;have b:Bx w w6 Z G (Low R m { s with b:=fn.a.length } ++ [.box b4 61 (cF fn a1 c1 a2 c2).toArray]) (kK R m { s with b:=fn.a.length } ++ [.l a2 c2 fn.d]):=b;refine kr b ?_;refine jJ (Ec (v:=.agg #[V (-1),V (-1),V s.f]) rfl (by kernel_rfl)) (o7 (jT b [[V (-1),V (-1),V s.f]] ([⟨-1,-1,s.f⟩]:List Bf) (afG rfl) rfl rfl ⟨rfl,trivial⟩) ?_);rintro _ w7 ⟨b5,rfl,b⟩;replace b:=acY b hZ;refine kr b ?_;refine kV (t_n b 0 [.slice (some ⟨b5,0,none⟩) 1 1] rfl ahl rfl rfl) fun w8 b=>?_;have hQ:Da.ok (.wp (.l m.cA m.cC s.ctxs) (HP m.hp m.bs s.hnd)) _ _:=b.d 5 rfl;have hL:Da.ok (.l (some ⟨b5,0,none⟩) 1 ([⟨-1,-1,s.f⟩]:List Bf)) _ _:=b.d 10 rfl;replace b:=b.KD 5 (d:=.wp (.l (some ⟨b5,0,none⟩) 1 ([⟨-1,-1,s.f⟩]:List Bf)) (HP m.hp m.bs s.hnd)) ⟨hL,hQ.2⟩
 have b:Bx w w8 Z G (Low R { m with cA:=some ⟨b5,0,none⟩,cC:=1 } { s with b:=fn.a.length,ctxs:=[⟨-1,-1,s.f⟩] } ++ [.box b4 61 (cF fn a1 c1 a2 c2).toArray]) (kK R { m with cA:=some ⟨b5,0,none⟩,cC:=1 } { s with b:=fn.a.length,ctxs:=[⟨-1,-1,s.f⟩] } ++ [.l a2 c2 fn.d]):=b.ad [0,1,2,3,4,5,6,7,8,9] [0,1,2,3,4,5,6,7,8,9,11];clear hQ hL;refine kr b ?_;cases hvs:ix? R.src.c s.f with
 | none=>
   rw [hvs] at hm;cases hm;refine EM b [] fun b=>BQ b ?_;exact hO 9 (xq rfl underlying27 rfl rfl (ru hvs) fun u w' hw _=>prt b u w' hw)
 | some vs=>
 rw [hvs] at hm;dsimp only at hm;obtain ⟨kv,hkv,hvk⟩:=Zi hvs;obtain ⟨cs1,hr1,b⟩:=b.nm 8 rfl hvk;obtain ⟨a5,c5,rfl,hv5⟩:=hr1;replace b:=Gh (Gh b |>.ko (d:=.l a5 c5 vs) hv5);refine EM b [] fun b=>BQ b ?_;refine wN 9 rfl (dP (kR underlying27 Gj rfl rfl hkv (b.dl 8 rfl) hvk) (jL kE b) (wN 10 rfl (dU (fun hu=>kH underlying53 rfl rfl ((hu.dc 11 rfl) 0 _ rfl)) (jL kE b) (BQ b ?_))));refine hD ?_;replace b:=lY b [0] [0,2];have hbd:=(b.dl 10 rfl).bd;generalize hK:(fun (_:Unit)=>zG fn.d fun x=>sM (jS fv R.src) R.src.c x.n |>.bind fun e=>wQ e |>.bind fun _=>ou e 0 |>.bind fun _=>rA (vD (jS fv R.src) R.src.c fu) fn.d)=kont at hm;refine kr b ?_
 refine kG (fun aw f w'=>∃ (j:Nat)(m2:zN)(s2:Lw),aw=vs.length - j∧j≤vs.length∧Has f [(0,Pt R.lb),(2,Pt b4),(45,.slice a5 vs.length c5),(46,V (vs.length:Int)),(47,V (j:Int))]∧(∃ t,m2.bs=m.bs ++ t)∧
     Bx w w' Z G (Low R m2 s2 ++ [.box b4 61 (cF fn a1 c1 a2 c2).toArray]) (kK R m2 s2 ++ [.l a5 c5 vs,.l a2 c2 fn.d])/\(Fh (vs.drop j) j |>.bind kont) s2=some q)
   vs.length ⟨0,{ m with cA:=some ⟨b5,0,none⟩,cC:=1 },_,rfl,uL _,jA,Qq,b,hm⟩ ?_
 clear b hm;rintro aw f w6 ⟨j,m2,s2,rfl,hj,hf,hbs,b,hm⟩ J hJ;obtain ⟨av2,rfl⟩:=lg _ _ hf;clear hf;refine kr b ?_;refine tL rfl (fun hlt=>?_) (fun hlt=>?_)
 · obtain ⟨x,hx⟩:=lZ (l:=vs) (k:=j) (by omega);rw [mV hx,Fh] at hm;unfold LM.bind at hm;dsimp only at hm;refine kr b ?_;refine jJ (kR underlying53 vE rfl rfl rfl (b.dl 10 rfl) hx) (jJ (lK (cV x) underlying55 rfl vE rfl rfl (uY (b.dl 10 rfl) hx (fun _ h=>h))) (FD b (jN vE) fun w7 b5 b=>kr b ?_));refine kV (mQ b 10 (cV x) rfl vE rfl rfl) fun w8 b=>?_;have b:Bx w w8 Z G (Low R m2 s2 ++ [.box b4 61 (cF fn a1 c1 a2 c2).toArray,.box b5 55 (cV x).toArray]) (kK R m2 s2 ++ [.l a5 c5 vs,.l a2 c2 fn.d]):=b;refine kr b ?_;refine tL rfl (fun h8=>?_) (fun h8=>?_)
   · rw [lF h8] at hm;cases hm;refine kr b ?_;exact aau rfl fun _=>aaC b
   rw [kQ h8] at hm;refine kr b ?_;refine tL rfl (fun h3=>?_) (fun h3=>?_)
   · rw [lF h3,Option.bind_assoc] at hm;obtain ⟨o2,ho2,hm⟩:=bs hm;refine kr b ?_;refine EM b [11] fun b=>BQ b ?_;refine hO 11 (os rfl rfl (ae4 b 4 (k:=((j:Nat):Int)) (u:=((s2.objs.length:Nat):Int)) rfl underlying86 fkI rfl rfl rfl) fun w9 b=>⟨sy 11 kE,hD ?_⟩);have b:Bx w w9 Z G (Low R m2 { s2 with omap:=yt s2.omap j s2.objs.length } ++ [.box b4 61 (cF fn a1 c1 a2 c2).toArray,.box b5 55 (cV x).toArray]) (kK R m2 { s2 with omap:=yt s2.omap j s2.objs.length } ++ [.l a5 c5 vs,.l a2 c2 fn.d]):=b;refine kr b ?_;refine EM b [11,15] fun b=>BQ b ?_;refine wN 9 rfl (dP (Ec (v:=.agg #[V 0,V (j:Int),V x.a]) rfl (by kernel_rfl)) (jL kE b) (hO 10 (oo rfl rfl (jT b [[V 0,V (j:Int),V x.a]] ([⟨0,j,x.a⟩]:List xQ) (afl rfl) rfl rfl ⟨rfl,trivial⟩) ?_)));rintro _ w10 ⟨b6,rfl,b⟩;refine ⟨jL kE (b.tl.Bl fun d hd=>yO _ hd),hO 11 (oo rfl rfl (kJ (α:=xQ) b 4 3 rfl rfl underlying50 Ql rfl hB rfl rfl (b.Cj 0 0 rfl rfl) ho2) ?_)⟩;rintro _ w11 ⟨A2,k2,cs2,rfl,b⟩;refine ⟨sy 11 kE,wN 12 rfl (dNl rfl (sy 11 kE) (wN 13 rfl (dP (yF rfl rfl rfl rfl) (sy 11 kE) (wN 14 rfl (dP (yF rfl rfl rfl rfl) (sy 11 kE) (hO 15 (os rfl rfl (t_n b 1 [.slice A2 o2.length k2] rfl agS rfl rfl) fun w12 b=>⟨sy 15 kE,hD ?_⟩)))))))⟩;have b:Bx w w12 Z G (Low R { m2 with oA:=A2,oC:=k2,oc:=cs2 } { s2 with omap:=yt s2.omap j s2.objs.length,objs:=o2 } ++ [.box b4 61 (cF fn a1 c1 a2 c2).toArray,.box b5 55 (cV x).toArray]) (kK R { m2 with oA:=A2,oC:=k2,oc:=cs2 } { s2 with omap:=yt s2.omap j s2.objs.length,objs:=o2 } ++ [.l a5 c5 vs,.l a2 c2 fn.d]):=b.ad [1,2,3,4,5,6,7,8,9,10,11] [1,2,3,4,5,6,7,8,9,10,11,12];refine kr b ?_;exact hJ (vs.length - (j+1)) _ _ (by omega) ⟨j+1,{ m2 with oA:=A2,oC:=k2,oc:=cs2 },_,rfl,by omega,⟨rfl,rfl,rfl,rfl,congrArg V (WE (by omega)),trivial⟩,hbs,lY b [0] [0,1],hm⟩
   · rw [kQ h3] at hm;refine kr b ?_;exact hJ (vs.length - (j+1)) _ _ (by omega) ⟨j+1,_,_,rfl,by omega,⟨rfl,rfl,rfl,rfl,congrArg V (WE (by omega)),trivial⟩,hbs,lY b [0] [0,1],hm⟩
 obtain rfl:j=vs.length:=by omega
 rw [mF,Fh] at hm;subst hK;replace hm:(zG fn.d fun x=>sM (jS fv R.src) R.src.c x.n |>.bind fun e=>wQ e |>.bind fun _=>ou e 0 |>.bind fun _=>rA (vD (jS fv R.src) R.src.c fu) fn.d) s2=some q:=hm;rw [AX] at hm;unfold Ud at hm;refine kr b ?_;refine uw (kr b ?_);cases h0:fn.d[0]? with
 | none=>
   rw [h0] at hm;cases hm;have:=List.getElem?_eq_none_iff.1 h0;exact YS underlying59 rfl rfl (by omega) fun u w' hw=>prt b u w' hw
 | some x=>
 rw [h0] at hm;dsimp only at hm;obtain ⟨cs,hr,e2⟩:=b.nm 11 rfl h0;obtain ⟨a6,k6,a7,k7,a8,k8,a9,k9,rfl,_⟩:=jC.out hr;replace b:=Gh e2;refine jJ (kR underlying59 jY rfl rfl rfl (b.dl 12 rfl) h0) (kr b ?_);refine gC rfl ((b.dc 10 rfl) 2 _ rfl) rfl (kr b ?_);refine lCl (Ig (fv:=fv)) (jO Dx rfl) b hZ hB kE hm fun n1 c1 s3 m3 w3 hc1 hm hbs2 b=>?_;replace hbs:=lQ hbs hbs2;refine kr b ?_;refine vQ (Ot (i:=n1) (c:=c1)) (jO (vT func36) rfl) b hZ hB hc1 hm fun s3 m3 w3 hm hbs2 b=>?_;have hc1:=uK hbs2 hc1;replace hbs:=lQ hbs hbs2;refine kr b ?_;refine vQ (wG (i:=n1) (c:=c1)) (jO Fe rfl) b hZ hB hc1 hm fun s3 m3 w3 hm hbs2 b=>?_;replace hbs:=lQ hbs hbs2;refine kr b ?_;refine vQ (k:=oL) (Gd (UL fu)) (jO Oc rfl) b hZ hB kE (by rw [Ee];exact hm) (fun s' m' w5 hm hbs2 b=>?_) (fun d hd=>by rw [List.mem_singleton.1 hd];exact .tail _ (.tail _ (.head _)));cases hm;refine kr b ?_;exact nR rfl ⟨_,_,_,[],rfl,⟨rfl,rfl⟩,lQ hbs hbs2,lf0 b⟩
theorem Sb {P:Program}{w:World}{t:TypeId}{ms:Array (String × TypeId)}(n:Nat)(ht:P.underlying t=some (.interface ms)){v:Value}{b:Bool}(hv:(v=.nilIface/\b=true)\/(∃ t' u,v=.iface t' u/\b=false)):(Op.equalIn (n+1) t v .nilIface).run P w=.ok b w:=by
 obtain ⟨rfl,rfl⟩|⟨t',u,rfl,rfl⟩:=hv
 · simp only [Op.equalIn,Sem.run_bind,run_underlying ht,Result.andThen_ok];rfl
 · simp only [Op.equalIn,Sem.run_bind,run_underlying ht,Result.andThen_ok];rfl
theorem Wp {P:Program}{w:World}{t:TypeId}{ms:Array (String × TypeId)}(ht:P.underlying t=some (.interface ms)){v:Value}{b:Bool}(hv:(v=.nilIface/\b=true)\/(∃ t' u,v=.iface t' u/\b=false)):(Op.equal t v .nilIface).run P w=.ok b w:=
 Sb 9999 ht hv
section
variable {P:Program}{w:World}{ρ:Operand->Value}{d:Option Nat}{ty:TypeId}{pos:String}{af:Array Edge}{g:Option (Nat × Bool)}{t t':TypeId}{x:Operand}
theorem abB {ms:Array (String × TypeId)}{v:Value}{b:Bool}(ht:P.underlying t=some (.interface ms))(hx:ρ x=v)(hc:ρ (.const .nilIface)=.nilIface)(hv:(v=.nilIface/\b=true)\/(∃ t' u,v=.iface t' u/\b=false)) :Yl P ρ (.binOp .neq t x (.const .nilIface) t') d ty pos af g w (.bool !b):=by
 have heq:=Wp (w:=w) ht hv;have hg:(eqGuard .neq t x (.const .nilIface) v .nilIface).run P w=.ok () w:=by rcases hv with ⟨rfl,_⟩|⟨t',u,rfl,_⟩ <;> simp [eqGuard]
 have hbin:(binOp .neq t v .nilIface).run P w=.ok (.bool !b) w:=by
  have:binOp .neq t v .nilIface=(do pure (.bool !(<- Op.equal t v .nilIface)):Sem Value):=by rcases hv with ⟨rfl,_⟩|⟨t',u,rfl,_⟩ <;> rfl
  rw [this];simp only [Sem.run_bind,heq,Result.andThen_ok,Sem.run_pure]
 unfold Yl execOp;simp only [hx,hc,Sem.run_bind,hg,hbin,Result.andThen_ok,Sem.run_pure]
theorem ahe {xt:TypeId}{fs:Array Field}{v:Value}(hu:P.underlying t=some (.struct fs))(hx:ρ x=.iface t v):Yl P ρ (.typeAssert x xt t true) d ty pos af g w (.tuple #[v,.bool true]):=by simp [Yl,execOp,hx,Instr.typeAssert,run_underlying hu]
end
theorem rdC {P : Program} {f : Fr} {w : World} {t b : Nat} {ty te : TypeId} {v : Value} (hf : f t = .pointer (some ⟨b, 0, none⟩)) (hu : ∀ ρ : Operand -> Value, ρ (.tmp 0) = .pointer (some ⟨b, 0, none⟩) -> Yl P ρ (.load ty (.tmp 0)) none 0 "" #[] none w v) {cs : Array Value} (hB : yA w b te cs) : Zr P f w (.cell t ty) v := by
 refine ⟨b,te,cs,hf,hB,?_⟩;have hl:=hu (fun _=>.pointer (some ⟨b,0,none⟩)) rfl;simp only [Yl,execOp,Instr.loadAt,Instr.sureAddr,Sem.run_bind,Sem.run_pure,Result.andThen_ok] at hl;cases hq:(loadVar ty ⟨b,0,none⟩).run P w with
 | ok v w'=>rw [hq] at hl;simp at hl;rw [hl.1,hl.2]
 | halt h w'=>rw [hq] at hl;simp at hl
section
variable {P:Program}{N:Fz}
theorem afe {x y:Code}{Q:Exit->Act->World->Prop}{f:Fr}{w:World}(h:WP P N x ⟨fun f w=>Zu P N y Q f w,fun _ _ _=>False,fun _ _=>False,fun _ _ _=>False⟩ f w):Zu P N (.seq x y) Q f w:=
 ags h fun e a w q=>by
  cases e with
  | normal=>obtain ⟨f,h1,h2⟩:=q;exact h2.elim
  | exit i=>obtain ⟨f,h1,h2⟩:=q;exact h2.elim
  | ret=>obtain ⟨f,h1,h2⟩:=q;exact h2.elim
  | panic c=>obtain ⟨f,h1,h2⟩:=q;exact h2.elim
  | _=>exact q.elim
theorem abH (l:List (Nat × Value)){c:Code}{Q:Exit->Act->World->Prop}{f:Fr}{w:World}(h:Has f l)(k:∀ g,Zu P N c Q (NJ g l) w):Zu P N c Q f w:=by rw [<-Ij h];exact k f
theorem TB {fn:Func}{d:Deferred}{fv:Fn}{cap:Array Value}{g:FuncId}{args:Array Value}{R:Ending->World->Prop}{f:Fr}{a:Act}{w:World}{M:Fz}{v:Value}{l:List PanicEntry}{R1:World->Prop}{V1:List PanicEntry->World->Prop}(hT:d.target=.fn fv cap)(hi:(invoke d.target d.args).run P w=.ok (.enter g args) w)(hl:∀ e ∈ l,e.goexit=false)(hc:CallsD P g args (.panicking (⟨v,false,false⟩ :: l)) w (RD (.panicking (⟨v,true,false⟩ :: l)) R1 V1))(h:∀ w',R1 w'->Reads P fn (fun v w'=>R (.returned v) w') f w')(hv:∀ c w',V1 c w'->R (.panicked (c ++ ⟨v,true,false⟩ :: l)) w')(ha:Nb M f a):Leaves P fn a.tmps R [d] (.panicking (⟨v,false,false⟩ :: l)) w:=by
 refine ⟨by simp,fv,cap,g,args,hT,hi,?_⟩;intro c cs hu;obtain ⟨e,u',w',fr,h1,h2,h3⟩:=hc c cs hu;refine ⟨e,u',w',fr,?_,h2,h3⟩;cases e with
 | returned v1=>
  obtain ⟨rfl,h1⟩:=h1;have hq:=h w' h1;unfold Reads at hq;obtain ⟨v2,hv2,hR⟩:=hq a.tmps ha.get;have hs:settle (.panicking (⟨v,true,false⟩ :: l))=.returning:=by
   have e:l.dropWhile (!·.goexit)=[]:=by
    clear hc hv h2 hu hq h
    induction l with
    | nil=>rfl
    | cons e l ih=>rw [List.dropWhile_cons,hl e (Ca ..)];exact ih (fun e he=>hl e (yO _ he))
   unfold settle;dsimp only;rw [e]
  show Leaves P fn a.tmps R [] (settle _) w';rw [hs];exact ⟨v2,hv2,hR⟩
 | panicked c=>
  obtain ⟨rfl,h1⟩:=h1;exact hv _ _ h1
 | outgrown=>exact h1.elim
end
theorem R5 {P:Program}{fn:Func}{d:Deferred}{fv:Fn}{cap:Array Value}{g:FuncId}{args:Array Value}{R:Ending->World->Prop}{f:Fr}{a:Act}{w:World}{M:Fz}{R1:World->Prop}(hT:d.target=.fn fv cap)(hi:(invoke d.target d.args).run P w=.ok (.enter g args) w)(hc:CallsD P g args .returning w (RD .returning R1 (fun _ _=>False)))(h:∀ w',R1 w'->Reads P fn (fun v w'=>R (.returned v) w') f w')(ha:Nb M f a):Leaves P fn a.tmps R [d] .returning w:=by
 refine ⟨by simp,fv,cap,g,args,hT,hi,?_⟩;intro c cs hu;obtain ⟨e,u',w',fr,h1,h2,h3⟩:=hc c cs hu;refine ⟨e,u',w',fr,?_,h2,h3⟩;cases e with
 | returned v=>
  obtain ⟨rfl,h1⟩:=h1;have h:=h w' h1;unfold Reads at h;obtain ⟨v2,hv,hR⟩:=h a.tmps ha.get;exact ⟨v2,hv,hR⟩
 | panicked c=>exact h1.2.elim
 | outgrown=>exact h1.elim
theorem agY {P:Program}{ρ:Operand->Value}{pos:String}{af:Array Edge}{w:World}{x:Operand}{fn:Fn}{caps:Array Value}(h:ρ x=.func fn #[] caps) :(execOp ρ ⟨none,.defer ⟨.value x,#[],#[]⟩,0,pos,af,none⟩).run P w=.ok (.defer ⟨.fn fn caps,#[]⟩) w:=by simp [execOp,resolve,h,Deferred.ofValue]
theorem aex {P:Program}{w:World}{ρ:Operand->Value}{d:Option Nat}{ty:TypeId}{pos:String}{af:Array Edge}{g:Option (Nat × Bool)}{x:Operand}(v:Value)(h:ρ x=v):Yl P ρ (.assign x) d ty pos af g w v:=by rw [<-h];rfl
theorem Za {P:Program}{w:World}{ρ:Operand->Value}{d:Option Nat}{ty:TypeId}{pos:String}{af:Array Edge}{g:Option (Nat × Bool)}{x:Operand}(v:Value)(h:ρ x=v):Yl P ρ (.move x) d ty pos af g w v:=by rw [<-h];rfl
theorem agN {P:Program}{w:World}{ρ:Operand->Value}{d:Option Nat}{ty:TypeId}{pos:String}{af:Array Edge}{g:Option (Nat × Bool)}{fn:Fn}{caps:List Operand}{vs:List Value}(h:caps.map ρ=vs):Yl P ρ (.makeFunc fn #[] caps.toArray) d ty pos af g w (.func fn #[] vs.toArray):=by subst h;simp [Yl,execOp,Instr.makeFunc]
section
variable {P:Program}
theorem aeG {i:Nat}{o o2:Oper}{Q:Exit->Act->List Frame->World->Prop}{a:Act}{c:Frame}{cs:List Frame}{w:World}{v:Value}(hg:o.guard=none)(he:(execOp a.eval o).run P w=.ok .recover w)(hg2:o2.guard=none)(he2:(execOp (a.put o.dst (HV c.mode).1).eval o2).run P w=.ok (.value v) w)(k:Q .normal ((a.put o.dst (HV c.mode).1).put o2.dst v) ({ c with mode:=(HV c.mode).2 } :: cs) w):(Code.region i #[o,o2] false).wpS P Q a (c :: cs) w:=by
 refine wpS_region ?_;show wpOpsS P #[o,o2] Q [0,1] a (c :: cs) w;have k2:wpOpsS P #[o,o2] Q [1] (a.put o.dst (HV c.mode).1) ({ c with mode:=(HV c.mode).2 } :: cs) w:=by simp only [wpOpsS,List.getElem?_toArray,List.getElem?_cons_succ,EC,Region.wanted,hg2,if_true,he2,Oper.upon];exact k
 have e:∀ m,c.mode=m->({ c with mode:=m }:Frame)=c:=fun m h=>by subst h;rfl
 rw [wpOpsS];simp only [List.getElem?_toArray,EC,Region.wanted,hg,if_true,he];cases hm:c.mode with
 | panicking l=>
  cases l with
  | nil=>simp only [recoverD,hm];rw [hm] at k2;simp only [HV] at k2;rw [e _ hm] at k2;exact k2
  | cons e l=>
   obtain ⟨v,r,g⟩:=e;cases r <;> cases g <;> simp only [recoverD,hm] <;> (rw [hm] at k2;simp only [HV] at k2;first | exact k2 | (rw [e _ hm] at k2;exact k2))
 | _=>simp only [recoverD,hm];rw [hm] at k2;simp only [HV] at k2;rw [e _ hm] at k2;exact k2
theorem Mt {g:FuncId}{fn:Func}{i:Nat}{o o2:Oper}{y:Code}{args:Array Value}{u:FrameMode}{w:World}{R:World->Prop}{V:List PanicEntry->World->Prop}{v:Value}(hf:P.funcs[g]?=some fn)(hb:fn.body=some (.seq (.region i #[o,o2] false) y))(hr:fn.results=#[])(he:(execOp (ev (Ct args)) o).run P w=.ok .recover w)(he2:(execOp (ev (lD (Ct args) o.dst (HV u).1)) o2).run P w=.ok (.value v) w)(h:WP P (fn.ntmps,[]) y ⟨fun _ w=>R w,fun _ _ _=>False,fun _ w=>R w,fun _ c w=>V c w⟩ (lD (lD (Ct args) o.dst (HV u).1) o2.dst v) w)(hg:o.guard=none:=by rfl)(hg2:o2.guard=none:=by rfl)(hs:Nat.ble args.size fn.ntmps=true:=by exact rfl)(hok:Kr (fn.ntmps,[]) (.seq (.region i #[o,o2] false) y)=true:=by kernel_rfl) :CallsD P g args u w (RD (HV u).2 R V):=by
 refine callsD_of_wpS hf hb fun c cs hu=>?_;subst hu;simp only [Kr,Ei] at hok;have ha:=Mc (Nat.le_of_ble_eq_true hs);have hd1:BF (fn.ntmps,[]) o=true/\BF (fn.ntmps,[]) o2=true:=by have:=hok.1;simp at this;exact this
 have hp:=ha.put o.dst (uz hd1.1) (HV c.mode).1;refine wpS_seq (aeG hg (by rw [ha.BR];exact he) hg2 (by rw [hp.BR];exact he2) (wpS_of_wp ?_));unfold WP at h;refine Code.wp_mono (fun e a w q=>?_) (h hok.2 _ (hp.put o2.dst (uz hd1.2) _));cases e with
 | normal=>obtain ⟨f,h1,h2⟩:=q;exact ⟨h1.dfr,_,rfl,_,results_none hr _ P w,rfl,h2⟩
 | ret=>obtain ⟨f,h1,h2⟩:=q;exact ⟨h1.dfr,_,rfl,_,results_none hr _ P w,rfl,h2⟩
 | panic c=>obtain ⟨f,h1,h2⟩:=q;exact ⟨h1.dfr,_,rfl,rfl,h2⟩
 | exit i=>obtain ⟨f,h1,h2⟩:=q;exact h2.elim
 | _=>exact q.elim
end
def lkD {α:Type}[Rp α](R:List Rw)(m:List (List α)):Da:=⟨fun F w=>R.length=m.length/\∀ (k:Nat)(r:Rw)(x:List α),R[k]?=some r->m[k]?=some x->r.cs.length=x.length/\l5 F w r.a r.c x,fun h k=>⟨h.1,fun i r x h1 h2=>⟨(h.2 i r x h1 h2).1,(h.2 i r x h1 h2).2.mv k⟩⟩⟩
theorem ach {α:Type}[Rp α]{w0 w:World}{Z G:Nat->Prop}{L:List It}{D:List Da}{base e:Nat}{R:List Rw}{m:List (List α)}(h:Bx w0 w Z G (.uH base e (Rp.sz α) R none :: L) D)(hZ:∀ b,G b->Z b)(j:Nat)(hj:D[j]?=some (.nA R m)):Bx w0 w Z G L (lkD R m :: D.eraseIdx j):=by have hpw:=Cr.1 h.pw;have h1:Bx w0 w Z G L (D.eraseIdx j):=h.tl.Bl fun d hd=>(List.eraseIdx_sublist D j).subset hd;have hf:=h.it _ (Ca ..);have hE:=h.tl.d2 j hj;refine h1.ko (d:=lkD R m) ⟨hE.len,fun k r x hr hx=>?_⟩;obtain ⟨r',hr',hEx⟩:=hE.get hx;rw [hr] at hr';cases hr';refine ⟨hEx.len,(hf.1.1 k r hr (by simp)).WO hEx fun b hb=>⟨fun hl=>hZ b (hf.2 b ⟨k,r,hr,by simp,hb⟩ hl),fun it hi=>hpw.1 it hi b ⟨k,r,hr,by simp,hb⟩⟩⟩
theorem UZ {F:Nat→Prop}{w:World}:∀ {bl:List lN}{R:List Rw}{T:LV},(lkD R (bl.map (·.c))).ok F w→xC F w T (bl.map (·.b))→xC F w (oI bl R T) bl
 | [],[],[],_,_=>trivial
 | b :: bl,r :: R,t :: T,h1,h2=>by obtain ⟨hc,hl⟩:=h1.2 0 r b.c rfl rfl;refine ⟨?_,UZ (bl:=bl) (R:=R) (T:=T) ⟨by have:=h1.1;simpa using this,fun k r x h3 h4=>h1.2 (k+1) r x (by simpa using h3) (by simpa using h4)⟩ h2.2⟩;obtain ⟨a,a',c,c',e,e',rfl,k1,k2,k3⟩:=uG.out h2.1;refine lN.inn ⟨r.a,r.c,a,a',c,c',e,e',?_,hl,k1,k2,k3⟩;show V b.a :: (r.hdr ++ _)=_;rw [Rw.hdr,hc];rfl
 | [],r :: R,_,h,_=>absurd h.1 (by simp)
 | b :: bl,[],_,h,_=>absurd h.1 (by simp)
 | b :: bl,r :: R,[],_,h=>h.elim
 | [],[],t :: T,_,h=>h.elim
theorem YT:TI prog 83 (.agg #[]) 0 0:=nY (by kernel_rfl)
theorem agM {N:Fz}{ops:Array Oper}{K:KK}{rest:List Oper}{f:Fr}{w:World}{d:Option Nat}{ty:TypeId}{pos:String}{af:Array Edge}{x:Operand}{t xt t2:TypeId}{fs:Array Field}{v z:Value}{s by_:Nat}(hu:prog.underlying t=some (.struct fs))(hz:TI prog t z s by_)(hx:ev f x=.iface t2 v)(hne:t2≠t)(h:pq prog N ops K rest (lD f d (.tuple #[z,.bool false])) w):pq prog N ops K (⟨d,.typeAssert x xt t true,ty,pos,af,none⟩ :: rest) f w:=by obtain ⟨i,hi1,hi2,hi3,hi4⟩:=hz;refine jJ (v:=.tuple #[z,.bool false]) ?_ h;simp [execOp,hx,Instr.typeAssert,run_underlying hu,zeroValue,typeInfo,hi1,hi2,hne]
abbrev cM (A:OA)(n c:Nat):List Value:=[.slice A n c]
def ae2 (x:Value)(e:Int):Prop:=x=.iface 83 (.agg #[])/\e=5\/∃ t v,x=.iface t v/\t≠83/\e=4
theorem aal {A G:Nat->Prop}{D:List Da}{w0 w:World}{b2 b3:Nat}{u:FrameMode}{A1:OA}{n c:Nat}{e:Int}(b:Bx w0 w A G [.box b2 36 (cM A1 n c).toArray,.box b3 37 #[V 0]] D)(hu:ae2 (HV u).1 e) :CallsD prog 23 #[Pt b2,Pt b3] u w (RD (HV u).2 (fun w'=>Bx w0 w' A G [.box b2 36 (cM none 0 0).toArray,.box b3 37 #[V e]] D) (fun _ _=>False)):=by
 have key:∃ t v,(HV u).1=.iface t v/\(t=83/\v=.agg #[]/\e=5\/t≠83/\e=4):=by
   obtain ⟨h,h5⟩|⟨t,v,h,h1,h2⟩:=hu
   · exact ⟨_,_,h,.inl ⟨rfl,rfl,h5⟩⟩
   · exact ⟨t,v,h,.inr ⟨h1,h2⟩⟩
 clear hu;obtain ⟨t,v,hx,hu⟩:=key;refine Mt (v:=.iface t v) func23 rfl rfl rfl (aex _ hx) ?_;rw [hx];refine uN [(0,Pt b2),(1,Pt b3),(2,.iface t v)] jA fun av=>?_;refine tV (nU ?_);refine jJ (Za (.iface t v) rfl) ?_;refine jJ (abB underlying20 rfl rfl (.inr ⟨t,v,rfl,rfl⟩)) ?_;refine kr b ?_;refine jJ (Ec (v:=.agg #[sn]) rfl (by kernel_rfl)) ?_;refine kV (mQ b 0 [sn] rfl NH rfl rfl) fun w1 b=>?_;refine kV (t_n b 1 [V 4] rfl Q5 rfl rfl) fun w2 b=>?_;have b:Bx w0 w2 A G [.box b2 36 (cM none 0 0).toArray,.box b3 37 #[V 4]] D:=b;refine kr b ?_;refine jJ (Za (.iface t v) rfl) ?_;obtain ⟨rfl,rfl,rfl⟩|⟨h83,rfl⟩:=hu
 · refine jJ (ahe underlying83 rfl) ?_;refine jJ (Za (.tuple #[.agg #[],.bool true]) rfl) ?_;refine kr b ?_;refine qZ b (jN YT) fun w3 b5 b=>?_;refine kV (mQ b 0 [] rfl YT rfl rfl) fun w4 b=>?_;refine kr b ?_;refine kV (t_n b 2 [V 5] rfl Q5 rfl rfl) fun w5 b=>?_;refine kr b ?_;exact b.tl
 · refine agM underlying83 YT rfl h83 ?_;refine jJ (Za (.tuple #[.agg #[],.bool false]) rfl) ?_;refine kr b ?_;refine qZ b (jN YT) fun w3 b5 b=>?_;refine kV (mQ b 0 [] rfl YT rfl rfl) fun w4 b=>?_;refine kr b ?_;exact b.tl
theorem ads {R:Rn}{g:FuncId}{args:Array Value}{mm:LM Unit}{w0 w:World}{Z G:Nat->Prop}{X:List It}{Y:List Da}{m:zN}{s:Lw}{p:Lo Unit}(hc:CZ R (fun _=>True) g args mm VU [])(b:Bx w0 w Z G (Low R m s ++ X) (kK R m s ++ Y))(hZ:∀ b,G b->Z b)(hB:R.B<=w0.heap.size)(hp:mm s=some p) :Calls prog g args w (RP (fun v w'=>∃ s' m',v=.tuple #[]/\p=.ok () s'/\Bx w0 w' Z G (Low R m' s' ++ X) (kK R m' s' ++ Y)) (fun ch w'=>Pb p ch/\Bx w0 w' Z G X [])):=by
 have hpre:Pre w (IU w0 Z (Low R m s ++ X)) (Low R m s) ([] ++ kK R m s):=b.pre fun d hd=>b.da d (List.mem_append_left _ (by simpa using hd));refine (hc _ _ _ _ _ hpre kE (sO hB b.uo.size) hp).mono fun e w' he=>?_;cases e with
 | returned v=>
  obtain ⟨a,s',m',ds,rfl,⟨rfl,rfl⟩,hbs,hk⟩:=he;refine ⟨s',m',rfl,rfl,(b.Oy hZ hk).Bl fun d hd=>?_⟩;obtain hd | hd:=qg.1 hd
  · exact List.mem_append_left _ (by simpa using hd)
  · exact List.mem_append_right _ (List.mem_append_right _ hd)
 | panicked ch=>exact ⟨he.1,(b.Oy hZ he.2).Bl fun d hd=>by cases hd⟩
 | outgrown=>exact he.elim
abbrev m0:zN:=⟨none,0,[],[],none,0,none,0,[],none,none,0,[],none,0,[],[],[]⟩
theorem aa3 {w0 w:World}{Z G:Nat->Prop}{R:Rn}{f:Int}{i1 i2 i3 i4:It}{d1:Da}(b:Bx w0 w Z G [.box R.lb 90 (EF R m0 (Po f)).toArray,.map WB Zl R.ob ([]:List (Int × Int)),i1,i2,i3,i4] [d1,.l R.a.a1 R.a.c1 R.src.a.a,.l R.a.a2 R.a.c2 R.src.a.b,.l R.a.a3 R.a.c3 R.src.c,.l R.a.a4 R.a.c4 R.src.b]) :Bx w0 w Z G (Low R m0 (Po f) ++ [i1,i2,i3,i4]) (kK R m0 (Po f) ++ [d1]):=by have b1:=b.push (it:=.own R.B none 0 69 10 []) (Ext.refl w) (Go.Fw.Own.nil w _ 69 10) (fun k hk=>by cases hk);have b2:=b1.push (it:=.uH R.B 73 11 [] none) (Ext.refl w) ⟨fun i r h=>(nomatch h),fun i j r s b h=>(nomatch h)⟩ (fun k ⟨i,r,h,_⟩=>by cases h);have b3:=b2.push (it:=.own R.B none 0 57 3 []) (Ext.refl w) (Go.Fw.Own.nil w _ 57 3) (fun k hk=>by cases hk);have b4:=b3.push (it:=.PX ekP Zl none none) (Ext.refl w) kE (fun k hk=>by cases hk);have b5:=b4.push (it:=.own R.B none 0 3 1 []) (Ext.refl w) (Go.Fw.Own.nil w _ 3 1) (fun k hk=>by cases hk);have b6:=b5.push (it:=.own R.B none 0 111 1 []) (Ext.refl w) (Go.Fw.Own.nil w _ 111 1) (fun k hk=>by cases hk);have b7:=b6.push (it:=.Qr 170 [] []) (Ext.refl w) ⟨kE,List.nodup_nil⟩ (fun k hk=>by cases hk);have e1:=b7.ko (d:=.nA ([]:List Rw) ([]:List (List yB))) kE;have e2:=e1.ko (d:=.els [] ([]:List uG)) kE;have e3:=e2.ko (d:=.els [] ([]:List xQ)) kE;have e4:=e3.ko (d:=.els [] ([]:List Int)) kE;have e5:=e4.ko (d:=.els [] ([]:List (List Pc))) kE;have e6:=e5.ko (d:=.wp (.l none 0 ([]:List Bf)) (HP [] [] [])) ⟨l5.nil,rfl,fun k i h=>by cases h⟩;exact e6.ad [7,6,5,4,8,3,2,1,0,9,10,11,12] [5,4,3,2,1,0,7,8,9,10,6]
theorem aao {w0 w:World}{Z G:Nat->Prop}{R:Rn}{m:zN}{s:Lw}{i1 i2 i3 i4:It}{d1:Da}(b:Bx w0 w Z G (Low R m s ++ [i1,i2,i3,i4]) (kK R m s ++ [d1]))(hZ:∀ b,G b->Z b) :Bx w0 w Z G [.box R.lb 90 (EF R m s).toArray,i1,i2,i3,i4] [.l m.bA m.bC s.blocks,.l m.cA m.cC s.ctxs,.l m.oA m.oC s.objs,d1,.l R.a.a1 R.a.c1 R.src.a.a,.l R.a.a2 R.a.c2 R.src.a.b,.l R.a.a3 R.a.c3 R.src.c,.l R.a.a4 R.a.c4 R.src.b]:=by have b1:=ach (α:=yB) (b.ad [2,0,1,3,9,10,11,12] [0,1,2,3,4,5,6,7,8,9,10]) hZ 0 rfl;have hE:=UZ (bl:=s.blocks) (R:=m.R) (T:=m.tc) (b1.d 0 rfl) (b1.de 1 rfl);have b2:=b1.ko (d:=.els (oI s.blocks m.R m.tc) s.blocks) hE;have b3:=b2.KS (α:=lN) hZ 1 0 rfl rfl;have b4:=b3.KS (α:=xQ) hZ 1 3 rfl rfl;have hc:Da.ok (.wp (.l m.cA m.cC s.ctxs) (HP m.hp m.bs s.hnd)) _ _:=b4.d 6 rfl;have b5:=b4.ko (d:=.l m.cA m.cC s.ctxs) hc.1;exact b5.ad [0,1,2,3,4] [2,0,1,12,8,9,10,11]
noncomputable section
def Li (m:jW->Option (sW × Int)):Prop:=∀ {p x}{o:jW}{a b c d e f h i R},Pre p x [] [.l a b o.a.a,.l c d o.a.b,.l e f o.c,.l h i o.b]->m o=some R-> Calls prog 11 #[.agg #[Z a o.a.a b,Z c o.a.b d,Z e o.c f,Z h o.b i]] p (rV fun v w=>jB R fun t u=>∃ (j:OA)(k:Nat),v=.tuple #[.agg #[Z j t.b k],V u]/\Bx p w x (mD []) [] [.l j k t.b])
end
noncomputable def vH (fu:Nat)(s:jW):Option (sW × Int):=(YM fu (jS fu) s).map fun p=>(⟨p.1⟩,p.2)
abbrev cK (s:Lw)(m:zN):List Value:=[V s.b,.slice m.bA s.blocks.length m.bC,.slice m.cA s.ctxs.length m.cC,.slice m.oA s.objs.length m.oC]
theorem afR {ρ:Operand->Value}{w:World}{d:Option Nat}{ty:TypeId}{pos:String}{af:Array Edge}{g:Option (Nat × Bool)}{x:Operand}{n:Int}{a1 a2 a3:OA}{n1 c1 n2 c2 n3 c3:Nat}(h:ρ x=.agg #[V n,.slice a1 n1 c1,.slice a2 n2 c2,.slice a3 n3 c3]):(execOp ρ ⟨d,.buildSlice 34 1 #[(0,x)],ty,pos,af,g⟩).run prog w=.ok (.value (.slice (some ⟨w.heap.size,0,none⟩) 1 1)) (w.alloc (.cells #[V n,.slice a1 n1 c1,.slice a2 n2 c2,.slice a3 n3 c3] 52)):=by
 have e:(Instr.buildSlice 34 1 #[(0,.agg #[V n,.slice a1 n1 c1,.slice a2 n2 c2,.slice a3 n3 c3])]).run prog w=.ok (.slice (some ⟨w.heap.size,0,none⟩) 1 1) (w.alloc (.cells #[V n,.slice a1 n1 c1,.slice a2 n2 c2,.slice a3 n3 c3] 52)):=by kernel_rfl
 simp [execOp,h,e]
theorem aae {A G:Nat->Prop}{L:List It}{D:List Da}{w0 w:World}{b2 b3:Nat}(b:Bx w0 w A G L D) :CallsD prog 23 #[Pt b2,Pt b3] .returning w (RD .returning (fun w'=>Bx w0 w' A G L D) (fun _ _=>False)):=by refine Mt (u:=.returning) (v:=.nilIface) func23 rfl rfl rfl (aex _ rfl) (uN [(0,Pt b2),(1,Pt b3),(2,.nilIface)] jA fun av=>tV (nU (jJ (Za .nilIface rfl) (jJ (abB underlying20 rfl rfl (.inl ⟨rfl,rfl⟩)) (kr b ?_)))));exact b
theorem VN {w:World}{b o:Nat}{t:TypeId}{cs:Array Value}{l:List Value}(h:yA w b t cs)(hl:∀ j v,l[j]?=some v->cs[o+j]?=some v):Cells w b o l:=fun j v hv=>h.cell (hl j v hv)
theorem FR (fu:Nat):Li (vH fu):=by
 intro w0 Y s a1 c1 a2 c2 a3 c3 a4 c4 R hP hM;have b:=hP.bx;clear hP;have hZ:∀ b,mD [] b->Y b:=fun b ⟨it,h,_⟩=>by cases h
 generalize hG:mD []=G at b hZ ⊢;obtain ⟨q,hM2,rfl⟩:=Option.map_eq_some_iff.1 hM;clear hM;have hM:Gu (jS fu s) s fu s.a.b.length 0 []=some q:=hM2;clear hM2;have hbd:=(b.dl 1 rfl).bd
 have key:Calls prog 11 #[.agg #[.slice a1 s.a.a.length c1,.slice a2 s.a.b.length c2,.slice a3 s.c.length c3,.slice a4 s.b.length c4]] w0
    (RP (fun v w'=>∃ (j:OA)(k:Nat),v=.tuple #[.agg #[.slice j q.1.length k],V q.2]/\Bx w0 w' Y G [] [.l j k q.1]) (fun _ _=>False)):=by
  refine Wi func11 rfl ?_;refine abH [(0,.agg #[.slice a1 s.a.a.length c1,.slice a2 s.a.b.length c2,.slice a3 s.c.length c3,.slice a4 s.b.length c4])] jA fun av=>?_;refine afe (nU ?_);refine qZ b (rD rfl) fun w1 b1 b=>?_;refine qZ b (jN NH) fun w2 b2 b=>?_;refine qZ b (jN Q5) fun w3 b3 b=>?_;refine sN ?_;replace b:=(b.Gf nI 52).ad [3,2,1,0] [0,1,2,3,4];have b:Bx w0 w3 Y G [.box b1 30 #[.slice a1 s.a.a.length c1,.slice a2 s.a.b.length c2,.slice a3 s.c.length c3,.slice a4 s.b.length c4],.box b2 36 (cM none 0 0).toArray,.box b3 37 #[V 0],.own w0.heap.size none 0 52 (Rp.sz nI) []] [.els [] ([]:List nI),.l a1 c1 s.a.a,.l a2 c2 s.a.b,.l a3 c3 s.c,.l a4 c4 s.b]:=b;refine abH [(1,Pt b1),(2,Pt b2),(3,Pt b3)] jA fun av2=>?_;refine adM (agN (vs:=[Pt b2,Pt b3]) rfl) (agY rfl) ?_;refine aes (Q:=⟨fun _ _=>False,fun _ _ _=>False,fun f w'=>(f 2=Pt b2/\f 3=Pt b3)/\∃ A c,q.2=0/\Bx w0 w' Y G [.box b2 36 (cM A q.1.length c).toArray,.box b3 37 #[V 0]] [.l A c q.1],
    fun f ch w'=>(f 2=Pt b2/\f 3=Pt b3)/\(∃ e x l,q=([],e)/\ch=⟨x,false,false⟩ :: l/\(∀ e ∈ l,e.goexit=false)/\ae2 x e)/\∃ A n c,Bx w0 w' Y G [.box b2 36 (cM A n c).toArray,.box b3 37 #[V 0]] []⟩) ?_ ?_
  · refine kr b ?_
    refine kG (fun aw f w'=>∃ (j:Nat)(A:OA)(c:Nat)(cs:LV)(acc:List nI),aw=s.a.b.length - j∧j≤s.a.b.length∧Has f [(1,Pt b1),(2,Pt b2),(3,Pt b3),(10,V (s.a.b.length:Int)),(11,V (j:Int))]∧
        Bx w0 w' Y G [.box b1 30 #[.slice a1 s.a.a.length c1,.slice a2 s.a.b.length c2,.slice a3 s.c.length c3,.slice a4 s.b.length c4],.box b2 36 (cM A acc.length c).toArray,.box b3 37 #[V 0],.own w0.heap.size A c 52 (Rp.sz nI) cs] [.els cs acc,.l a1 c1 s.a.a,.l a2 c2 s.a.b,.l a3 c3 s.c,.l a4 c4 s.b]/\
        Gu (jS fu s) s fu (s.a.b.length - j) j acc=some q)
      s.a.b.length ⟨0,none,0,[],[],rfl,uL _,jA,b,hM⟩ ?_
    clear b hM;rintro aw f w4 ⟨j,A,c,cs,acc,rfl,hj,hf,b,hM⟩ J hJ;obtain ⟨av3,rfl⟩:=lg _ _ hf;clear hf;refine kr b ?_;refine tL rfl (fun hlt=>?_) (fun hlt=>?_)
    · obtain ⟨k,hk⟩:∃ k,s.a.b.length - j=k+1:=⟨s.a.b.length - j - 1,by omega⟩;rw [hk,Gu] at hM;obtain ⟨lo,hlo,hM⟩:=bs hM;refine kr b ?_;refine jJ (kZ [.slice a1 s.a.a.length c1,.slice a2 s.a.b.length c2,.slice a3 s.c.length c3,.slice a4 s.b.length c4] underlying30 zR rfl (b.bk 0 rfl)) ?_;refine kr b ?_;refine o7 (abx b WB Zl underlying86) ?_;rintro _ w5 ⟨ob,rfl,b⟩;refine jJ (Ec (v:=.agg (EF ⟨w0.heap.size,0,ob,⟨a1,c1,a2,c2,a3,c3,a4,c4⟩,s⟩ m0 (Po j)).toArray) rfl (by kernel_rfl)) ?_;refine qZ b (rD rfl) fun w6 lb b=>?_;refine kr b ?_;replace b:=aa3 (R:=⟨w0.heap.size,lb,ob,⟨a1,c1,a2,c2,a3,c3,a4,c4⟩,s⟩) (f:=j) b;have hcall:=ads (R:=⟨w0.heap.size,lb,ob,⟨a1,c1,a2,c2,a3,c3,a4,c4⟩,s⟩) (g:=24) (args:=#[Pt lb]) (mm:=Rl (jS fu s) s fu) (m:=m0) (s:=Po j) WY b hZ (nD _) hlo;refine sCP (jO (vT func24) rfl) hcall (fun ch w' h=>?_) ?_
      · obtain ⟨h1,h2⟩:=h;refine ⟨⟨rfl,rfl⟩,?_,A,acc.length,c,h2.ad [1,2] []⟩;cases lo with
        | ok a s'=>exact h1.elim
        | lim=>
          cases hM;obtain ⟨l,rfl,hl⟩:=h1;exact ⟨5,_,l,rfl,rfl,hl,.inl ⟨rfl,rfl⟩⟩
        | rt=>
          cases hM;obtain ⟨u,l,rfl,hl⟩:=h1;exact ⟨4,_,l,rfl,rfl,hl,.inr ⟨_,_,rfl,by decide,rfl⟩⟩
      rintro _ w7 ⟨s',m',rfl,rfl,b⟩;dsimp only at hM;obtain ⟨acc2,hacc,hM⟩:=bs hM;replace b:=aao b hZ;refine kr b ?_;refine EM b [7,9] fun b=>?_;refine BQ b ?_;refine wN 1 rfl ?_;refine dU (v:=.slice A acc.length c) (fun hu=>yL rfl (hu.bk 2 rfl) rfl rfl rfl) (jL kE b) ?_;refine BQ b ?_;refine wN 5 rfl ?_;refine dU (fun hu=>lK (cK s' m') underlying52 rfl zK rfl rfl (VN (hu.bk 0 rfl) fun j v h=>?_)) (jL kE b) ?_
      · obtain _ | _ | _ | _ | j:=j
        · exact h
        · exact h
        · exact h
        · exact h
        · simp at h
      refine hO 6 (oo rfl rfl (jT b [cK s' m'] ([s'.code]:List nI) (afR rfl) rfl rfl ⟨nI.inn ⟨m'.bA,m'.bC,m'.cA,m'.cC,m'.oA,m'.oC,rfl,b.d 0 rfl,b.d 1 rfl,b.d 2 rfl⟩,trivial⟩) ?_);rintro _ w8 ⟨b6,rfl,b⟩;refine ⟨jL kE (b.tl.Bl fun d hd=>yO _ hd),hO 7 (oo rfl rfl (kJ (α:=nI) b 5 4 rfl rfl underlying34 zK rfl (nD _) rfl rfl (b.Cj 0 0 rfl rfl) hacc) ?_)⟩;rintro _ w9 ⟨A2,k2,cs2,rfl,b⟩;refine ⟨sy 7 kE,?_⟩;refine wN 8 rfl ?_;refine dP (yF rfl rfl rfl rfl) (sy 7 kE) ?_;refine hO 9 (os rfl rfl (t_n b 3 [.slice A2 acc2.length k2] rfl ae7 rfl rfl) fun w10 b=>⟨sy 9 kE,hD ?_⟩);replace b:=b.ad [2,3,4,5] [4,5,6,7,8];refine kr b ?_;exact hJ (s.a.b.length - (j+1)) _ _ (by omega) ⟨j+1,A2,k2,cs2,acc2,rfl,by omega,⟨rfl,rfl,rfl,rfl,congrArg V (WE (by omega)),trivial⟩,b,by rw [show s.a.b.length - (j+1)=k by omega];exact hM⟩
    · obtain rfl:j=s.a.b.length:=by omega
      rw [Nat.sub_self,Gu] at hM;cases hM;refine kr b ?_;refine uw ?_;refine kr b ?_;refine jJ (kZ (cM A acc.length c) underlying36 NH rfl (b.bk 1 rfl)) ?_;refine kV (mQ b 1 (cM A acc.length c) rfl NH rfl rfl) fun w5 b=>?_;refine kV (t_n b 2 [V 0] rfl Q5 rfl rfl) fun w6 b=>?_;refine kr b ?_;refine lG ?_;exact ⟨⟨rfl,rfl⟩,A,c,rfl,(b.KS hZ 3 0 rfl rfl).ad [1,2] [0]⟩
  · have fin:∀ {f:Fr}{w':World}{A:OA}{c:Nat},f 2=Pt b2→f 3=Pt b3→Bx w0 w' Y G [.box b2 36 (cM A q.1.length c).toArray,.box b3 37 #[V q.2]] [.l A c q.1]→
        Reads prog f11 (fun v w'=>∃ (j:OA)(k:Nat),v=.tuple #[.agg #[.slice j q.1.length k],V q.2]/\Bx w0 w' Y G [] [.l j k q.1]) f w':=fun {f w' A c} h2 h3 b=>by
      refine Dp (fn:=f11) rfl (rdC h2 (fun ρ h=>kZ (cM A q.1.length c) underlying36 NH h (b.bk 0 rfl)) (b.bk 0 rfl)) (rdC h3 (fun ρ h=>kH underlying37 rfl h ((b.bk 1 rfl).cell rfl)) (b.bk 1 rfl)) ?_;exact ⟨A,c,rfl,b.ad [] [0]⟩
    intro e a1' w1' q';cases e with
    | normal=>obtain ⟨f,h1,h2⟩:=q';exact h2.elim
    | exit i=>obtain ⟨f,h1,h2⟩:=q';exact h2.elim
    | ret=>
      obtain ⟨f,h1,⟨h12,h13⟩,A,c,he,b⟩:=q';show Leaves prog f11 a1'.tmps _ a1'.defers .returning w1';rw [h1.dfr];exact R5 rfl rfl (aae b) (fun w2 b=>fin h12 h13 (by rw [he];exact b)) h1
    | panic ch=>
      obtain ⟨f,h1,⟨h12,h13⟩,⟨e,x,l,rfl,rfl,hl,hE⟩,A,n,c,b⟩:=q';show Leaves prog f11 a1'.tmps _ a1'.defers (.panicking _) w1';rw [h1.dfr];exact TB rfl rfl hl (aal b hE) (fun w2 b=>fin h12 h13 (b.ko (d:=.l none 0 ([]:List nI)) l5.nil)) (fun c w' h=>h.elim) h1
    | _=>exact q'.elim
 exact key.mono fun e w he=>by
  cases e with
  | returned v=>exact ⟨v,rfl,he⟩
  | panicked c=>exact he.elim
  | outgrown=>exact he.elim
noncomputable section
def O4 (m:Option Bool):Prop:=∀ {a c b},Pre a c [] []->m=some b-> Calls prog 10 #[] a (rV fun v w=>v=.bool b/\Bx a w c (mD []) [] [])
def yw (fu:Nat):Option Bool:=(EI fu (⟨#[102,117,110,99,32,102,40,97,41,32,123,32,114,101,116,117,114,110,32,97,32,43,32,49,59,32,125]⟩:BA)).bind fun b=>(vH fu b).bind fun f=>jB f fun a c=>if c=0 then if (a.b.length:Int)=1 then (ix a.b 0).bind fun e=>if (e.b.length:Int)=1 then (ix e.b 0).bind fun d=>some (decide ((d.c.length:Int)=4)) else some false else some false else some false
theorem Ev (fu:Nat):O4 (yw fu):=by
 intro w0 au r0 hP b;unfold yw at b;have a:=hP.bx;clear hP;generalize hG:mD _=G at a ⊢;refine cf func10 r (uN [] y fun av=>q (g (s (lM r) (n (q (g ?_))))));obtain ⟨ab,h1,b⟩:=bs b;refine sc (ec (vT func22) r) (Ni fu (a.pr [] [] [] r) h1) ?_;rintro _ w1 ⟨E,F,H,I,J,K,L,M,rfl,hK⟩;replace a:=a.cn [] [] hK;obtain ⟨m,ac,h2,b⟩:=mH b;refine sc (ec (vT func11) r) (FR fu (a.pr [] [] [0,1,2,3] r) h2) ?_;rintro _ w2 ⟨c,e,rfl,hK⟩;replace a:=a.cn [] [] hK;refine s wY (s (kL r r) (s (kL r r) (qZ a (jN NH) fun w3 b3 a=>kV (mQ a 0 [Z c m.b e] r NH r r) fun w4 a=>s (xi r) (n (q (g (s (mi r) (s (kI r r) (s (mh r) ?_)))))))));obtain ⟨h5,b⟩|⟨h5,b⟩:=iv b
 ·rw [wu h5];refine kY r (s (Xr r) (kY r (s (l34 r (a.bk 0 r) r) (kY r (s (qG aaW r) (kY r (s (kI r r) (s (mK r r) (s (mh r) ?_)))))))));obtain ⟨h6,b⟩|⟨h6,b⟩:=iv b
  ·rw [wu h6];refine kY r (s (Xr r) (kY r (s (l34 r (a.bk 0 r) r) ?_)));obtain ⟨e7,h,b⟩:=bs b;obtain ⟨k7,N,h⟩:=kU h;obtain ⟨ah,a8,a⟩:=a.nm 0 rfl h;obtain ⟨Q,R,S,U,W,X,rfl,Y,a0,a1⟩:=nI.out a8;replace a:=a.ko (d:=.l Q R e7.b) Y;replace a:=a.ko (d:=.l S U e7.d) a0;replace a:=a.ko (d:=.l W X e7.c) a1;refine kY r (s (kR aaW zK r r N (a.dl 4 r) h) (kY r (s (abz r) (kY r (s (kH aaR r r ((a.dc 3 r) 1 _ r)) (kY r (s (qG aaR r) (kY r (s (kI r r) (s (mK r r) (s (mh r) ?_)))))))))));obtain ⟨h9,b⟩|⟨h9,b⟩:=iv b
   ·rw [wu h9];refine kY r (s (Xr r) (kY r (s (l34 r (a.bk 0 r) r) (kY r (s (kR aaW zK r r N (a.dl 4 r) h) (kY r (s (abz r) (kY r (s (kH aaR r r ((a.dc 3 r) 1 _ r)) ?_)))))))));obtain ⟨j,f,b⟩:=bs b;obtain ⟨ai,a2,f⟩:=kU f;obtain ⟨ae,a3,a⟩:=a.nm 2 rfl f;obtain ⟨o,p,t,u,v,w,x,z,rfl,A,B,C,D⟩:=lN.out a3;replace a:=a.ko (d:=.l o p j.c) A;replace a:=a.ko (d:=.l t u j.b.a) B;replace a:=a.ko (d:=.l v w j.b.d.b.a) C;replace a:=a.ko (d:=.l x z j.b.d.a.a) D;refine kY r (s (kR aaR CS r r a2 (a.dl 7 r) f) (kY r (s (aew r) (kY r (s (kH aeM r r ((a.dc 4 r) 1 _ r)) (kY r (s (qG aeM r) (kY r (s (kI r r) (s (mK r r) (s (lM r) (n (lG ?_)))))))))))));obtain rfl:=sm b;exact jK r (mI r) ⟨r,a.ad [] []⟩
   rw [wZ h9];refine kX r (kX r (kX r (kX r (kX r (kX r (kX r (kX r (kX r (kX r (s (lu r r) (s (lM r) (n (lG ?_)))))))))))));obtain rfl:=sm b;exact jK r (mI r) ⟨r,a.ad [] []⟩
  rw [wZ h6];refine kX r (kX r (kX r (kX r (kX r (kX r (kX r (s (lu r r) (s (mh r) (kX r (kX r (kX r (kX r (kX r (kX r (kX r (kX r (kX r (kX r (s (lu r r) (s (lM r) (n (lG ?_))))))))))))))))))))));obtain rfl:=sm b;exact jK r (mI r) ⟨r,a.ad [] []⟩
 rw [wZ h5];refine kX r (kX r (kX r (kX r (s (lu r r) (s (mh r) (kX r (kX r (kX r (kX r (kX r (kX r (kX r (s (lu r r) (s (mh r) (kX r (kX r (kX r (kX r (kX r (kX r (kX r (kX r (kX r (kX r (s (lu r r) (s (lM r) (n (lG ?_))))))))))))))))))))))))))));obtain rfl:=sm b;exact jK r (mI r) ⟨r,a.ad [] []⟩
end
theorem Xf {ρ:Operand->Value}{w:World}{d:Option Nat}{ty:TypeId}{pos:String}{af:Array Edge}{j:Option (Nat × Bool)}{a b:Int}{c f:Operand}(h:ρ c=Vi a)(i:ρ f=Vi b):Yl prog ρ (.build 57 #[(1,c),(2,f)]) d ty pos af j w (.agg #[Vi 0,Vi a,Vi b]):=by
 have e:(Instr.build 57 #[(1,Vi a),(2,Vi b)]).run prog w=.ok (.agg #[Vi 0,Vi a,Vi b]) w:=by kernel_rfl
 simp [Yl,execOp,h,i,e]
def OP (m:sW->Option Int):Prop:=∀ {c f}{d:sW}{a b e},Pre c f [] [.l a b d.b]->m d=some e-> Calls prog 16 #[.agg #[.slice a d.b.length b]] c (rV fun v w=>v=Vi e/\Bx c w f (mD []) [] [])
def mkO (l:List yB)(i:Int):Nat:=l.countP fun o=>decide (o.b=19/\o.N=i)
def Qp:List lN→Int→Nat
 | [],_=>0
 | b :: l,i=>mkO b.c i+Qp l i
theorem ZU {l l':List yB}{i:Int}:mkO (l ++ l') i=mkO l i+mkO l' i:=List.countP_append
theorem UR {b b':lN}{i:Int}:∀ {l:List lN}{k:Nat},l[k]?=some b→Qp (l.set k b') i+mkO b.c i=Qp l i+mkO b'.c i
 | c :: l,0,h=>by simp only [EC,Dk] at h;subst h;simp only [List.set_cons_zero,Qp];omega
 | c :: l,k+1,h=>by have:=UR (b':=b') (i:=i) (l:=l) (k:=k) (by simpa using h);simp only [List.set_cons_succ,Qp];omega
 | [],_,h=>by simp at h
theorem ix?_at {α:Type}{l:List α}{i:Int}{x:α}(h:ix? l i=some x):l[i.toNat]?=some x:=by
 unfold ix? at h;split at h
 · cases h
 · exact h
theorem CQ {α:Type}{a b c:List α}(h:app a b=some c):c=a ++ b:=by
 unfold app at h;split at h
 · exact (Kj h).symm
 · cases h
def Qt {α:Type}(c:LM α)(P:Lw->Lw->Prop):Prop:=∀ s a s',c s=some (.ok a s')->P s s'
section
variable {α β:Type}{c:LM α}{f:α->LM β}{P P' P'':Lw->Lw->Prop}
theorem Qt.bind (h:Qt c P)(k:∀ a,Qt (f a) P')(t:∀ s s1 s2,P s s1->P' s1 s2->P'' s s2):Qt (c.bind f) P'':=by
 intro s a s' e;unfold LM.bind at e;cases hc:c s with
 | none=>rw [hc] at e;cases e
 | some q=>
  rw [hc] at e;cases q with
  | ok a1 s1=>exact t _ _ _ (h _ _ _ hc) (k a1 _ _ _ e)
  | lim=>cases e
  | rt=>cases e
theorem Qt.mono (h:Qt c P)(t:∀ s s',P s s'->P' s s'):Qt c P':=fun s a s' e=>t _ _ (h _ _ _ e)
end
def Nmk (s s':Lw):Prop:=s'.stmt=s.stmt/\∀ i,Qp s'.blocks i=Qp s.blocks i
theorem Nmk.trans {s s1 s2:Lw}(h:Nmk s s1)(k:Nmk s1 s2):Nmk s s2:=⟨k.1.trans h.1,fun i=>(k.2 i).trans (h.2 i)⟩
theorem Nmk.r {s:Lw}:Nmk s s:=⟨rfl,fun _=>rfl⟩
section
variable {α β:Type}{c:LM α}{f:α->LM β}
end
theorem acR {l:List yB}:Qt (lop l) fun s s'=>s'.stmt=s.stmt/\∀ i,Qp s'.blocks i=Qp s.blocks i+mkO l i:=by
 intro s a s' e;unfold lop at e;split at e
 · cases e
 split at e
 · cases e
 rename_i b hb;obtain ⟨os,hos,e⟩:=bs e;cases e;refine ⟨rfl,fun i=>?_⟩;have:=UR (b':={ b with c:=os }) (i:=i) (ix?_at hb);rw [CQ hos] at this;simp only [ZU] at this;show Qp (s.blocks.set s.blk.toNat { b with c:=os }) i=_;rw [CQ hos];omega
theorem acU:Qt I9 fun s s'=>s'.stmt=s.stmt/\∀ i,Qp s'.blocks i=Qp s.blocks i+if i=s.stmt then 1 else 0:=by
 intro s a s' e;obtain ⟨h1,h2⟩:=acR _ _ _ e;refine ⟨h1,fun i=>?_⟩;rw [h2 i]
 congr 1
 simp only [mkO,List.countP_cons,List.countP_nil,DV,true_and];by_cases h:i=s.stmt
 · simp [h]
 · simp [h,Ne.symm h]
section
variable {vis:Int->Int->Option (List Int)}{vars:List (List iA)}
inductive XO:jD→Prop
 | mk {e:jD} (h:0<=e.e/\e.e < 20) (k:∀ y ∈ e.a,XO y):XO e
theorem XO.op {e:jD}(h:XO e):0<=e.e/\e.e < 20:=by cases h;assumption
theorem XO.args {e:jD}(h:XO e):∀ y ∈ e.a,XO y:=by cases h;assumption
end
def abV (a:List (Pc × Int))(o:yB):List (Pc × Int):=if o.b=21 then yt a (o.f,o.d) o.a.a else a
def G8 (l:List yB):List (Pc × Int):=l.foldl abV []
theorem VX {l:List yB}{o:yB}:G8 (l ++ [o])=abV (G8 l) o:=by simp [G8]
def Dj (l:List (Pc × Int)):Prop:=∀ p q v,pE l p=some v->pE l q=some v->p=q
def BO (ops:List yB):Prop:=∀ (k:Nat) o,ops[k]?=some o->(o.b=21->o.c=0/\o.a.b=2/\o.a.c=0)/\(o.b=19\/o.b=20->Dj (G8 (ops.take k)))
theorem BO.nil:BO []:=fun k o h=>by simp at h
theorem BO.snoc {ops:List yB}{o:yB}(h:BO ops)(h1:o.b=21->o.c=0/\o.a.b=2/\o.a.c=0)(h2:o.b=19\/o.b=20->Dj (G8 ops)):BO (ops ++ [o]):=by
 intro k x hx;by_cases c:k < ops.length
 · rw [zQ c] at hx;rw [List.take_append_of_le_length (by omega)];exact h k x hx
 · have hk:k=ops.length:=by have:=(List.getElem?_eq_some_iff.1 hx).1;simp at this;omega
   subst hk;simp at hx;subst hx;rw [List.take_left];exact ⟨h1,h2⟩
structure Ow0 (s:Lw):Prop where
 o0:0<=s.ops
 o1:s.ops<=6000
 bo:∀ b ∈ s.blocks,BO b.c/\(b.c.length:Int)<=s.ops
 lb:∀ (i:Nat) t,s.labs[i]?=some t->t.1 < (s.blocks.length:Int)/\t.2.length<=1000000000
 inj:∀ (i j:Nat) t u,s.labs[i]?=some t->s.labs[j]?=some u->t.1=u.1->0<=t.1->i=j
 pd:s.pend.length<=1000000000
structure Ow (s:Lw):Prop extends Ow0 s where
 n0:0<=s.next
 n1:s.next<=1000+s.ops
 cu:∃ l b,s.vals=some l/\ix? s.blocks s.blk=some b/\G8 b.c=l/\Dj l/\∀ p v,pE l p=some v->v < s.next
def Fs (s:Lw)(j:Nat):Prop:=∀ t,s.labs[j]?=some t->0<=t.1->(s.vals≠none->t.1≠s.blk)/\∃ b,ix? s.blocks t.1=some b/\b.c=[]
structure WF (F:List Nat)(s:Lw):Prop where
 ow:Ow s
 nd:F.Nodup
 fs:∀ j ∈ F,j < s.labs.length/\Fs s j
theorem WF.tl {i:Nat}{F:List Nat}{s:Lw}(h:WF (i :: F) s):WF F s:=⟨h.ow,(List.nodup_cons.1 h.nd).2,fun j hj=>h.fs j (yO _ hj)⟩
theorem WF.perm {F F':List Nat}{s:Lw}(h:WF F s)(p:F.Perm F'):WF F' s:=⟨h.ow,p.nodup_iff.1 h.nd,fun j hj=>h.fs j (p.mem_iff.2 hj)⟩
def Fv (s:Lw)(v:Int):Prop:=v < s.next/\∀ l,s.vals=some l->∀ q,pE l q≠some v
def Lb (k:Int)(s:Lw):Prop:=k<=s.next/\∀ l,s.vals=some l->∀ q v,pE l q=some v->k<=v
theorem Lb.fv {s:Lw}(h:Lb 1 s):Fv s 0:=⟨by have:=h.1;omega,fun l hl q hq=>by have:=h.2 l hl q 0 hq;omega⟩
def Ho {α:Type}(P:Lw->Prop)(c:LM α)(Q:α->Lw->Prop):Prop:=∀ s a s',c s=some (.ok a s')->P s->Q a s'
section
variable {α β:Type}{c:LM α}{f:α->LM β}{P:Lw->Prop}{Q:α->Lw->Prop}{R:β->Lw->Prop}
theorem hb (h:Ho P c Q)(k:∀ a,Ho (Q a) (f a) R):Ho P (c.bind f) R:=by
 intro s a s' e hp;unfold LM.bind at e;cases hc:c s with
 | none=>rw [hc] at e;cases e
 | some q=>
  rw [hc] at e;cases q with
  | ok a1 s1=>exact k a1 _ _ _ e (h _ _ _ hc hp)
  | lim=>cases e
  | rt=>cases e
theorem Ho.mono {P':Lw->Prop}{Q':α->Lw->Prop}(h:Ho P c Q)(hp:∀ s,P' s->P s)(hq:∀ a s,Q a s->Q' a s):Ho P' c Q':=fun s a s' e hs=>hq _ _ (h _ _ _ e (hp _ hs))
theorem Ho.pre {P':Lw->Prop}(h:Ho P c Q)(hp:∀ s,P' s->P s):Ho P' c Q:=h.mono hp fun _ _=>id
end
theorem WF.same {F:List Nat}{s s':Lw}(h:WF F s)(h1:s'.ops=s.ops)(h2:s'.blocks=s.blocks)(h3:s'.labs=s.labs)(h4:s'.vals=s.vals)(h5:s'.blk=s.blk)(h6:s'.next=s.next)(h7:s'.pend.length<=1000000000):WF F s':=
 ⟨⟨⟨by rw [h1];exact h.ow.o0,by rw [h1];exact h.ow.o1,by rw [h2,h1];exact h.ow.bo,by rw [h3,h2];exact h.ow.lb,by rw [h3];exact h.ow.inj,h7⟩,by rw [h6];exact h.ow.n0,by rw [h6,h1];exact h.ow.n1,by rw [h4,h2,h5,h6];exact h.ow.cu⟩,h.nd,fun j hj=>by unfold Fs;rw [h3,h4,h5,h2];exact h.fs j hj⟩
theorem Kh {n:Int}(h:0<=n)(h2:n<=1000000000000):wr n=n:=by unfold wr;rw [Tp (by omega) (by omega)]
theorem ix?_nat {α:Type}{l:List α}{i:Int}{x:α}(h:ix? l i=some x):0<=i/\i.toNat < l.length/\l[i.toNat]?=some x:=by
 unfold ix? at h;split at h
 · cases h
 · exact ⟨by omega,(List.getElem?_eq_some_iff.1 h).1,h⟩
theorem ix?_set_ne {α:Type}{l:List α}{i j:Int}{x y:α}(h:ix? l i=some x)(hij:i≠j)(hj:0<=j):ix? (l.set j.toNat y) i=some x:=by obtain ⟨h0,h1,h2⟩:=ix?_nat h;unfold ix?;rw [kQ (by omega),zV (by omega)];exact h2
theorem ix?_set_eq {α:Type}{l:List α}{i:Int}{x y:α}(h:ix? l i=some x):ix? (l.set i.toNat y) i=some y:=by obtain ⟨h0,h1,h2⟩:=ix?_nat h;unfold ix?;rw [kQ (by omega),DJ h1]
theorem WF.put {F:List Nat}{s s':Lw}(h:WF F s){b:lN}(hb:ix? s.blocks s.blk=some b){os:List yB}{l:List (Pc × Int)}(hB:BO os)(hl:G8 os=l)(hD:Dj l)(hv:∀ p v,pE l p=some v->v < s'.next)(h2:s'.blocks=s.blocks.set s.blk.toNat { b with c:=os })(h4:s'.vals=some l)(hn:0<=s'.next/\s'.next<=1000+s'.ops)(ho:s.ops<=s'.ops/\s'.ops<=6000)(hL:(os.length:Int)<=s'.ops)(h3:s'.labs=s.labs)(h5:s'.blk=s.blk)(h7:s'.pend=s.pend):WF F s':=by
 obtain ⟨c0,c1,c2⟩:=ix?_nat hb;refine ⟨⟨⟨Int.le_trans h.ow.o0 ho.1,ho.2,fun x hx=>?_,fun i t ht=>?_,by rw [h3];exact h.ow.inj,by rw [h7];exact h.ow.pd⟩,hn.1,hn.2,l,{ b with c:=os },h4,?_,hl,hD,hv⟩,h.nd,fun j hj=>⟨by rw [h3];exact (h.fs j hj).1,fun t ht h0=>?_⟩⟩
 · rw [h2] at hx;obtain hx | rfl:=Jw hx
   · exact ⟨(h.ow.bo x hx).1,Int.le_trans (h.ow.bo x hx).2 ho.1⟩
   · exact ⟨hB,hL⟩
 · rw [h3] at ht;rw [h2,wR];exact h.ow.lb i t ht
 · rw [h2,h5];exact ix?_set_eq hb
 · rw [h3] at ht;obtain ⟨k1,y,hy,k3⟩:=(h.fs j hj).2 t ht h0;obtain ⟨_,_,hvs,_⟩:=h.ow.cu;have hne:=k1 (by rw [hvs];simp);rw [h5,h2];exact ⟨fun _=>hne,y,ix?_set_ne hy hne c0,k3⟩
theorem Z7 {α:Type}{a b c:List α}(h:app a b=some c):c.length<=1000000000:=by
 have:=CQ h;unfold app at h;split at h
 · rw [this,F9];assumption
 · cases h
section
variable {vis:Int->Int->Option (List Int)}{vars:List (List iA)}
end
theorem ix?_app {α:Type}{l r:List α}{i:Int}{x:α}(h:ix? l i=some x):ix? (l ++ r) i=some x:=by obtain ⟨h0,h1,h2⟩:=ix?_nat h;unfold ix?;rw [kQ (by omega),zQ h1];exact h2
theorem ix?_end {α:Type}{l:List α}{x:α}:ix? (l ++ [x]) (l.length:Int)=some x:=by unfold ix?;rw [kQ (by omega),ET];simp
end Go.Proofs.YtdkneekpdecjbaaGreat
namespace Go.Fw
open Go.RowKit
def kP {α:Type}(x:Option α)(P:α->Prop):Prop:=∃ v,x=some v/\P v
def qp {σ ρ:Type}(G:σ→Prop)(O:ρ→Prop):Ld σ ρ→Prop
 | .go s=>G s
 | .out r=>O r
section
variable {α β γ σ ρ:Type}{P:α->Prop}
theorem kP.mk {v:α}(h:P v):kP (some v) P:=⟨v,rfl,h⟩
theorem kP.bd {x:Option β}{f:β->Option α}{Q:β->Prop}(h:kP x Q)(k:∀ v,Q v->kP (f v) P):kP (x.bind f) P:=by obtain ⟨v,rfl,hv⟩:=h;exact k v hv
theorem kP.bp {x:Option (β × γ)}{f:β->γ->Option α}{Q:β->γ->Prop}(h:kP x (fun r=>jB r Q))(k:∀ a b,Q a b->kP (f a b) P):kP (x.bind fun r=>jB r f) P:=by obtain ⟨⟨a,b⟩,rfl,hv⟩:=h;exact k a b hv
theorem kP.pp {r:β × γ}{f:β->γ->Option α}{Q:β->γ->Prop}(h:jB r Q)(k:∀ a b,Q a b->kP (f a b) P):kP (jB r f) P:=by obtain ⟨a,b⟩:=r;exact k a b h
theorem kP.ite {c:Prop}[Decidable c]{a b:Option α}(h1:c->kP a P)(h2:¬ c->kP b P):kP (if c then a else b) P:=by
 by_cases h:c
 · rw [lF h];exact h1 h
 · rw [kQ h];exact h2 h
theorem kP.el {x:Option (Ld σ ρ)}{f:σ->Option α}{g:ρ->Option α}{G:σ->Prop}{O:ρ->Prop}(h:kP x (qp G O))(h1:∀ s,G s->kP (f s) P)(h2:∀ o,O o->kP (g o) P):kP (x.bind fun r=>r.el f g) P:=by
 obtain ⟨v,rfl,hv⟩:=h;cases v with
 | go s=>exact h1 s hv
 | out o=>exact h2 o hv
theorem kP.eo {x:Option (Ld σ α)}{f:σ->Option α}{G:σ->Prop}(h:kP x (qp G P))(h1:∀ s,G s->kP (f s) P):kP (x.bind fun r=>r.el f fun o=>some o) P:=h.el h1 fun o ho=>.mk ho
theorem kP.Gp {τ:Type}{x:Option (Ld σ ρ)}{f:σ->Option (Ld τ ρ)}{G:σ->Prop}{G':τ->Prop}{O:ρ->Prop}(h:kP x (qp G O))(h1:∀ s,G s->kP (f s) (qp G' O)):kP (x.bind fun r=>r.el f fun o=>some (.out o)) (qp G' O):=h.el h1 fun o ho=>.mk ho
theorem kP.imp {x:Option α}{Q:α->Prop}(h:kP x Q)(k:∀ v,Q v->P v):kP x P:=by obtain ⟨v,h1,h2⟩:=h;exact ⟨v,h1,k v h2⟩
theorem kP.go {s:σ}{G:σ->Prop}{O:ρ->Prop}(h:G s):kP (some (Ld.go s)) (qp G O):=⟨_,rfl,h⟩
theorem kP.out {r:ρ}{G:σ->Prop}{O:ρ->Prop}(h:O r):kP (some (Ld.out r)) (qp G O):=⟨_,rfl,h⟩
theorem kP.ix {l:List α}{i:Int}(h0:0<=i)(h1:i < l.length):kP (ix l i) (fun x=>l[i.toNat]?=some x):=by obtain ⟨x,hx⟩:=lZ (l:=l) (k:=i.toNat) (by omega);refine ⟨x,?_,hx⟩;unfold Go.Fw.ix;rw [kQ (by omega),hx]
theorem kP.app {l m:List α}(h:l.length+m.length<=1000000000):kP (app l m) (fun r=>r=l ++ m):=⟨_,lF h,rfl⟩
theorem kP.sl {l:List α}{a b:Int}(h:0<=a/\a<=b/\b<=l.length):kP (sl l a b) (fun r=>r=(l.drop a.toNat).take (b - a).toNat):=⟨_,lF h,rfl⟩
theorem kP.st {l:List α}{i:Int}{x:α}(h:0<=i/\i < l.length):kP (st l i x) (fun r=>r=l.set i.toNat x):=⟨_,lF h,rfl⟩
theorem kP.cat {s t:ByteArray}(h:s.size+t.size<=1000000000):kP (cat s t) (fun r=>r=s ++ t):=⟨_,lF h,rfl⟩
theorem kP.ixs {s:ByteArray}{i:Int}(h0:0<=i)(h1:i < s.size):kP (ixs s i) (fun x=>0<=x/\x<=255):=by
 unfold Go.Fw.ixs;rw [kQ (by omega)];have h:i.toNat < s.size:=by omega
 refine ⟨((s[i.toNat].toNat:Nat):Int),?_,by omega,?_⟩
 · rw [getElem?_pos s i.toNat h];rfl
 · have:=s[i.toNat].toNat_lt;omega
theorem kP.Zp {s:ByteArray}{a b:Int}(h:0<=a/\a<=b/\b<=s.size):kP (Zp s a b) (fun r=>r=s.extract a.toNat b.toNat):=⟨_,lF h,rfl⟩
theorem kP.XT {x:Option β}{f:β->Option α}{Q:β->Prop}(h:kP x Q)(k:∀ v,x=some v->Q v->kP (f v) P):kP (x.bind f) P:=by obtain ⟨v,rfl,hv⟩:=h;exact k v rfl hv
end
theorem l8 {n:Int}(h1:-9000000000000000000<=n)(h2:n<=9000000000000000000):wr n=n:=by unfold wr;exact Tp (by omega) (by omega)
theorem FL (s t:ByteArray):(s ++ t).size=s.size+t.size:=ByteArray.size_append ..
end Go.Fw
