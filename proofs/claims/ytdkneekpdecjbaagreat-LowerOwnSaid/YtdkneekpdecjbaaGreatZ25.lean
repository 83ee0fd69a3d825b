/- The maker of programs answers for any tape: blocks, loops and the program. -/
import Derived.Test.YtdkneekpdecjbaaGreatZ24
import Derived.Test.YtdkneekpdecjbaaGreatLd
import Derived.Test.YtdkneekpdecjbaaGreatZ14
import Derived.Test.YtdkneekpdecjbaaGreatZ15
import Derived.Test.YtdkneekpdecjbaaGreatZ19
import Derived.Test.YtdkneekpdecjbaaGreatZ20
import Derived.Test.YtdkneekpdecjbaaGreatZ8
import Derived.Test.YtdkneekpdecjbaaGreatZ4
import Derived.WalkKit
import Derived.ProofKit
import Derived.OpenShut
import Derived.ChangeOld
import Derived.SizedLaws
import Derived.Lib.SmallJoins
import Derived.Deep.Slices
import Derived.Deep.Fields
set_option linter.unusedVariables false
set_option linter.unusedSimpArgs false
namespace Go.Proofs.YtdkneekpdecjbaaGreat
open Go.RowKit Go.Fw Go.Proofs.Tryz
def Kst (fu:Nat):Prop:=∀ (M:lM)(T:jN)(j most:Nat),MP M->TQ T->j<=3->most<=10->4 * j+28<=fu->kP (lI fu M T (4 - j) most) (SP (2 * most) (j+1) M)
def Kbo (fu:Nat):Prop:=∀ (M:lM)(T:jN)(j most:Nat),MP M->TQ T->j<=3->most<=10->4 * j+29<=fu->kP (mJ fu M T (4 - j) most) (SP (2 * most) (j+1) M)
def Klo (fu:Nat):Prop:=∀ (M:lM)(T:jN)(j:Nat),MP M->0 < M.h->TQ T->j<=2->4 * j+30<=fu->kP (mR fu (yg M) T (4 - (j+1:Nat))) (SP 2 (j+2) M)
theorem Kbo.at' {fu:Nat}(h:Kbo fu){M:lM}{T:jN}{j most:Nat}{x y:Int}(h1:MP M)(h2:TQ T)(h3:j<=3)(h4:most<=10)(h5:4 * j+29<=fu)(hx:x=4 - j)(hy:y=most):kP (mJ fu M T x y) (SP (2 * most) (j+1) M):=by subst hx;subst hy;exact h M T j most h1 h2 h3 h4 h5
theorem ZR {fu:Nat}(ih:Kst fu):Kbo (fu+1):=by
 intro M T j most hM hT hj hm hf;show kP (BN fu (lI fu) (mJ fu) (mR fu) M T _ _) _;unfold BN;refine .bp (ih M T j most hM hT hj hm (by omega)) fun l r hr=>.pp hr fun M' T' hr=>?_;obtain ⟨h1,h2,h3⟩:=hr;obtain ⟨a1,a2,a3,a4,a5,a6,a7,a8,a9,a10,a11⟩:=h2;have b1:=hM.ns.1;have b2:=hM.np.1;have b3:=hM.na.1;have b4:=hM.l;refine .bd (.sl ⟨vG _,by omega,by omega⟩) fun l1 e1=>.bd (.sl ⟨vG _,by omega,by omega⟩) fun l2 e2=>.bd (.sl ⟨vG _,by omega,by omega⟩) fun l3 e3=>?_;have tk:∀ {L l:List ByteArray}{n:Nat},l=(L.drop (0:Int).toNat).take ((n:Int) - 0).toNat->n<=L.length->(∀ x ∈ L,x.size<=4)->l.length=n/\∀ x ∈ l,x.size<=4:=by
  intro L l n e hn hL;have e0:l=L.take n:=by rw [e];simp
  rw [e0];exact ⟨by rw [vT];omega,fun x hx=>hL x (List.mem_of_mem_take hx)⟩
 have t1:=tk e1 a4.1 a9;have t2:=tk e2 a5.1 a10;have t3:=tk e3 a6.1 a11;clear tk;refine .bd (.app (by simp only [zh];omega)) fun r1 k1=>.bd (.app (by simp only [zh];omega)) fun r2 k2=>.bd (.app (by simp only [zh];omega)) fun r3 k3=>.mk ⟨h1,?_,h3⟩;rw [E8] at k1 k2 k3;subst k1 k2 k3;exact ⟨a1,a2,a3,by dsimp only;omega,by dsimp only;omega,by dsimp only;omega,a7,a8,t1.2,t2.2,t3.2⟩
theorem abz {fu:Nat}(ih:Kbo fu):Klo (fu+1):=by
 intro M T j hM hl hT hj hf;show kP (BZ fu (lI fu) (mJ fu) (mR fu) (yg M) T _) _;unfold BZ;obtain ⟨c1,c2,c3,c4,c5,c6,c7⟩:=id hM;refine .bp (Oe (M:=yg M) (by omega) c6.1 (by show M.g<=30;omega)) fun s M1 h1=>?_;obtain ⟨h1,rfl⟩:=h1;have n1:=c3.1;have n2:=c4.1;have n3:=c5.1;refine .bd (.app (by show M.a.length+1<=_;omega)) fun r hr=>.bd (xI h1) fun v hv=>.bp (qA hT (by decide) (by decide)) fun k T1 h2=>?_;rw [mg (n:=1+k) (by omega) (by omega)];refine .bd (EU ⟨by omega,by omega⟩) fun lt hlt=>?_;have hR:Mr M ⟨(yg M).f,(yg M).e,(yg M).b,r,(yg M).d,(yg M).c,(yg M).g+1,(yg M).h⟩:=by subst hr;exact ⟨rfl,rfl,rfl,⟨by dsimp only [yg];rw [kV];omega,by dsimp only [yg];rw [Kq];omega⟩,⟨Nat.le_refl _,by dsimp only [yg];omega⟩,⟨Nat.le_refl _,by dsimp only [yg];omega⟩,⟨by dsimp only [yg];omega,by dsimp only [yg];omega⟩,by dsimp only [yg];omega,oF c3.2 h1,c4.2,c5.2⟩
 refine .bp (ih.at' (j:=j) (most:=4) (hR.mp hM) h2.2 (by omega) (by omega) (by omega) (by rw [mg (by omega) (by omega)];omega) rfl) fun l r hr=>.pp hr fun M' T' hr=>?_;refine .bd (xI h1) fun v2 hv2=>.bd (xI h1) fun v3 hv3=>.bd (EU (by decide)) fun lo hlo=>?_;refine .bd (.app (by have:=hr.1.1;simp only [uX,zh];omega)) fun r2 hr2=>.mk ⟨⟨ng _,?_⟩,hR.trans hr.2.1,hr.2.2⟩;have hr2':r2.length<=9/\∀ y ∈ r2,GS (j+1) y:=by subst hr2;refine ⟨by rw [kV];have:=hr.1.1;omega,oF hr.1.2 ?_⟩;exact GS.mk b0 b0 b0 z9 (len1 (hv2.mono (by decide)) (by decide)) (len1 ((GE.mk2 (uW _) (uW _) hv3 hlo).mono (by decide)) (by decide)) nA nA
 intro y hy;simp only [qg,Cm,or_false] at hy;rcases hy with hy | hy <;> subst hy
 · exact GS.mk h1 b0 b0 z9 nA nA nA nA
 · exact GS.mk b0 b0 b0 z9 nA (len1 ((GE.mk2 (uW _) (uW _) hv hlt).mono (by decide)) (by decide)) hr2' nA
def SL (b k:Nat)(M:lM)(r:Int × List jA × Int × Int × List Int × Int × Int × List Int × Int × List ByteArray × List ByteArray × List ByteArray):Prop:=jy r fun _ r=>jy r fun o r=>jy r fun f r=>jy r fun fn r=>jy r fun pr r=>jy r fun c r=>jy r fun l r=>jy r fun tl r=>jy r fun ta r=>jy r fun s r=>jy r fun p a=>(o.length<=b/\∀ y ∈ o,GS k y)/\Mr M ⟨f,fn,pr,s,p,a,c,l⟩/\TQ ⟨tl,ta⟩
theorem acD {k i:Nat}{out:List jA}{x:jA}(h:out.length<=2 * i/\∀ y ∈ out,GS k y)(hx:GS k x):(out ++ [x]).length<=2 * (i+1)/\∀ y ∈ out ++ [x],GS k y:=⟨by rw [kV];omega,oF h.2 hx⟩
theorem Gf {fu:Nat}(hb:Kbo fu)(hl:Klo fu){j most:Nat}(hj:j≤3)(hm:most≤10)(hf:4 * j+27≤fu){M0:lM}(hM0:MP M0){O:List jA × lM × jN→Prop}:∀ (n i:Nat)(out:List jA)(M:lM)(T:jN),Mr M0 M→TQ T→(out.length≤2 * i∧∀ y ∈ out,GS (j+1) y)→i≤most→most+1≤n+i→
  kP (l8 fu (lI fu) (mJ fu) (mR fu) (4 - j) most n i out M.f M.e M.b M.g M.h T.l T.a M.a M.d M.c) (pV (SL (2 * most) (j+1) M0) O)
 | 0,_,_,_,_,_,_,_,h,h2=>by omega
 | n+1,i,out,M,T,hR,hT,ho,hi,hn=>by
  have hM:=hR.mp hM0;have fin:kP (some (Ld.go (ρ:=List jA × lM × jN) ((i:Int),out,M.f,M.e,M.b,M.g,M.h,T.l,T.a,M.a,M.d,M.c))) (pV (SL (2 * most) (j+1) M0) O):=.go ⟨XU ho (by omega),hR,hT⟩;rw [l8];refine .ite (fun c=>?_) fun _=>fin;refine .ite (fun hleft=>?_) fun _=>fin;refine .bd abK fun b _=>.ite (fun _=>?_) fun _=>fin;clear fin;have hlo:=hM.c;have hl0:=hM.l;have olen:out.length<=20:=by omega
  rw [mg (n:=(i:Int)+1) (by omega) (by omega),mg (n:=M.h - 1) (by omega) (by omega)];have hd:=Mr.dn hM hleft;have hdn:=hd.mp hM;have go:∀ (x:jA)(M':lM)(T':jN),GS (j+1) x->Mr M M'->TQ T'->kP ((app out [x]).bind fun r=>l8 fu (lI fu) (mJ fu) (mR fu) (4 - j) most n ((i:Int)+1) r M'.f M'.e M'.b M'.g M'.h T'.l T'.a M'.a M'.d M'.c) (pV (SL (2 * most) (j+1) M0) O):=fun x M' T' hx k1 k2=>.bd (.app (by simp only [uX,zh];omega)) fun r hr=>by subst hr;exact Gf hb hl hj hm hf hM0 n (i+1) _ M' T' (hR.trans k1) k2 (acD ho hx) (by omega) (by omega)
  refine .bp (qA hT (by decide) (by decide)) fun k T1 h1=>?_;have hJ1:kP (yx fu (lI fu) (mJ fu) (mR fu) M.g k) (pV (fun _=>True) O):=by unfold yx;exact .ite (fun _=>.go kI) fun _=>.go kI
  refine .Fa hJ1 fun b _=>.ite (fun _=>?_) fun _=>?_
  · exact .bp (Uw (by omega) hM hleft h1.2) fun x r hx=>.pp hx fun M' T' hx=>go x M' T' (hx.1.mono (by omega)) hx.2.1 hx.2.2
  have hJ2:kP (yX fu (lI fu) (mJ fu) (mR fu) (4 - j) k) (pV (fun b=>b=true->1<=j) O):=by unfold yX;exact .ite (fun _=>.go fun z=>by have:=Ed z;omega) fun _=>.go fun z=>(by cases z)
  refine .Fa hJ2 fun b hz=>.ite (fun z=>?_) fun _=>?_
  · obtain ⟨j,rfl⟩:∃ j',j=j'+1:=⟨j - 1,by have:=hz z;omega⟩;refine .bp (EJ (M:=yg M) (by omega) hdn h1.2 (by decide) (by decide)) fun x r hx=>.pp hx fun M1 T2 hx=>?_;obtain ⟨hx1,rfl,hx3⟩:=hx;refine .bp (hb.at' (j:=j) (most:=4) hdn hx3 (by omega) (by omega) (by omega) (by rw [mg (by omega) (by omega)];omega) rfl) fun l r hr=>.pp hr fun M2 T3 hr=>?_;obtain ⟨hl1,hr2,hT3⟩:=hr;have hJ3:kP (y9 fu (lI fu) (mJ fu) (mR fu) (4 - (j+1:Nat)) M2 T3) (pV (fun r=>jy r fun o r=>jy r fun f r=>jy r fun fn r=>jy r fun pr r=>jy r fun c r=>jy r fun l r=>jy r fun tl r=>jy r fun ta r=>jy r fun s r=>jy r fun p a=>(o.length<=9/\∀ y ∈ o,GS (j+1) y)/\Mr M ⟨f,fn,pr,s,p,a,c,l⟩/\TQ ⟨tl,ta⟩) O):=by unfold y9;refine .bp (qA hT3 (by decide) (by decide)) fun v T4 h4=>.ite (fun _=>?_) fun _=>.go ⟨nA,hd.trans hr2,h4.2⟩;exact .bp (hb.at' (j:=j) (most:=3) (hr2.mp hdn) h4.2 (by omega) (by omega) (by omega) (by rw [mg (by omega) (by omega)];omega) rfl) fun l r hr=>.pp hr fun M3 T5 hr=>.go ⟨XU hr.1 (by decide),(hd.trans hr2).trans hr.2.1,hr.2.2⟩
    refine .Fa hJ3 fun r hr=>.pp hr fun o r hr=>.pp hr fun b1 r hr=>.pp hr fun b2 r hr=>.pp hr fun b3 r hr=>.pp hr fun b4 r hr=>.pp hr fun b5 r hr=>.pp hr fun b6 r hr=>.pp hr fun b7 r hr=>.pp hr fun b8 r hr=>.pp hr fun b9 b10 hr=>?_;exact go _ ⟨b1,b2,b3,b8,b9,b10,b4,b5⟩ ⟨b6,b7⟩ (GS.mk b0 b0 b0 z9 nA (len1 hx1 (by decide)) (XU hl1 (by decide)) hr.1) hr.2.1 hr.2.2
  have hJ4:kP (yI fu (lI fu) (mJ fu) (mR fu) (4 - j) M.g k) (pV (fun b=>b=true->1<=j) O):=by unfold yI;exact .ite (fun _=>.ite (fun _=>.go fun z=>by omega) fun _=>.go fun z=>(by cases z)) fun _=>.go fun z=>(by cases z)
  refine .Fa hJ4 fun b hz=>.ite (fun z=>?_) fun _=>?_
  · obtain ⟨j,rfl⟩:∃ j',j=j'+1:=⟨j - 1,by have:=hz z;omega⟩;refine .bp (hl M T1 j hM hleft h1.2 (by omega) (by omega)) fun l r hr=>.pp hr fun M2 T3 hr=>?_;refine .bd (.app (by have:=hr.1.1;omega)) fun r hr2=>?_;subst hr2;refine Gf hb hl hj hm hf hM0 n (i+1) _ M2 T3 (hR.trans hr.2.1) hr.2.2 ⟨by have:=hr.1.1;rw [Ic];omega,fun y hy=>?_⟩ (by omega) (by omega);rcases qN.1 hy with hy | hy
    · exact ho.2 y hy
    · exact hr.1.2 y hy
  have hJ5:kP (za fu (lI fu) (mJ fu) (mR fu) (4 - j) M.g k) (pV (fun b=>b=true->1<=j) O):=by unfold za;exact .ite (fun _=>.ite (fun _=>.go fun z=>by omega) fun _=>.go fun z=>(by cases z)) fun _=>.go fun z=>(by cases z)
  refine .Fa hJ5 fun b hz=>.ite (fun z=>?_) fun _=>?_
  · obtain ⟨j,rfl⟩:∃ j',j=j'+1:=⟨j - 1,by have:=hz z;omega⟩;refine .bp (hb.at' (M:=yg M) (j:=j) (most:=4) hdn h1.2 (by omega) (by omega) (by omega) (by rw [mg (by omega) (by omega)];omega) rfl) fun l r hr=>.pp hr fun M2 T3 hr=>?_;obtain ⟨hl1,hr2,hT3⟩:=hr;obtain ⟨a1,a2,a3,a4,a5,a6,a7,a8,a9,a10,a11⟩:=id hr2;dsimp only [yg] at a4 a5 a6 a7;obtain ⟨c1,c2,c3,c4,c5,c6,c7⟩:=id hM;refine .bp (Oe (by omega) (by omega) (by omega)) fun s M3 h3=>?_;obtain ⟨h3,rfl⟩:=h3;dsimp only;refine .bd (.app (by simp only [uX,zh];omega)) fun r hr=>?_;have hR4:Mr M ⟨M2.f,M2.e,M2.b,r,M2.d,M2.c,M2.g+1,M2.h⟩:=by subst hr;exact ⟨a1,a2,a3,⟨by dsimp only;rw [kV];omega,by dsimp only;rw [Kq];omega⟩,by dsimp only;omega,by dsimp only;omega,by dsimp only;omega,a8,oF a9 h3,a10,a11⟩
    refine .bp (hb.at' (j:=j) (most:=3) (hR4.mp hM) hT3 (by omega) (by omega) (by omega) (by rw [mg (by omega) (by omega)];omega) rfl) fun l2 r2 hr5=>.pp hr5 fun M5 T5 hr5=>?_;obtain ⟨hl5,hR5,hT5⟩:=hr5;obtain ⟨e1,e2,e3,e4,e5,e6,e7,e8,e9,e10,e11⟩:=id hR5;dsimp only at e1 e2 e3 e4 e5 e6 e7;have hrl:r.length=M2.a.length+1:=by rw [hr,kV]
    rw [mg (by omega) (by omega)];refine .bd (.sl ⟨vG _,by omega,by omega⟩) fun l3 hl3=>.bd (.app (by
      rw [hl3];simp only [zh,vT,Ck];omega)) fun r3 hr3=>?_
    have hq:r3=M5.a.take (M5.a.length - 1):=by
      rw [hr3,hl3,E8];have:((M5.a.length:Int) - 1 - 0).toNat=M5.a.length - 1:=by omega
      rw [this];simp
    have hq2:r3.length=M5.a.length - 1:=by rw [hq,vT];omega
    exact go _ ⟨M5.f,M5.e,M5.b,r3,M5.d,M5.c,M5.g,M5.h⟩ T5 (GS.mk h3 b0 b0 z9 nA nA (XU hl1 (by decide)) (XU hl5 (by decide))) ⟨e1.trans a1,e2.trans a2,e3.trans a3,by dsimp only;omega,by dsimp only;omega,by dsimp only;omega,by dsimp only;omega,e8,fun x hx=>e9 x (by rw [hq] at hx;exact List.mem_of_mem_take hx),e10,e11⟩ hT5
  refine .ite (fun _=>?_) fun _=>?_
  · refine .bp (EJ (M:=yg M) (by omega) hdn h1.2 (by decide) (by decide)) fun x r hx=>.pp hx fun M1 T2 hx=>?_;obtain ⟨hx1,rfl,hx3⟩:=hx;exact go _ (yg M) T2 (GS.mk b0 b0 b0 z9 nA (len1 hx1 (by decide)) nA nA) hd hx3
  have hJ6:kP (yS fu (lI fu) (mJ fu) (mR fu) k T1) (pV (fun r=>jy r fun _ r=>jy r fun l a=>TQ ⟨l,a⟩) O):=by unfold yS;exact .ite (fun _=>.bp (qA h1.2 (by decide) (by decide)) fun v T2 h2=>.go h2.2) fun _=>.go h1.2
  refine .Fa hJ6 fun r hr=>.pp hr fun b r hr=>.pp hr fun tl ta hT2=>.ite (fun _=>?_) fun _=>?_
  · have hJ8:kP (yM fu (lI fu) (mJ fu) (mR fu) M.f M.e M.b M.g M.h M.a M.d M.c tl ta) (pV (fun r=>jy r fun b r=>jy r fun ar r=>jy r fun kd r=>jy r fun ln r=>jy r fun id r=>jy r fun nm r=>jy r fun ty r=>jy r fun le r=>jy r fun vr r=>jy r fun tg r=>jy r fun fn r=>jy r fun ca r=>jy r fun bo r=>jy r fun el r=>jy r fun tl r=>jy r fun ta r=>jy r fun m1 r=>jy r fun m2 r=>jy r fun m3 r=>jy r fun m4 r=>jy r fun m5 r=>jy r fun m6 r=>jy r fun m7 m8=>GS 1 ⟨kd,ln,id,nm,ty,le,vr,tg,fn,ca,ar,bo,el⟩/\TQ ⟨tl,ta⟩/\(⟨m1,m2,m3,m6,m7,m8,m4,m5⟩:lM)=yg M) O):=by unfold yM;rw [mg (n:=M.h - 1) (by omega) (by omega)];refine .bp (qA hT2 (by decide) (by decide)) fun v T2 h2=>.ite (fun _=>.go ⟨GS.nil,h2.2,rfl⟩) fun _=>?_;exact .bp (g_call (M:=yg M) (by omega) hdn h2.2 GS.nil rfl) fun b r hr=>.pp hr fun M' r hr=>.pp hr fun T2 x hr=>.go ⟨hr.2.2,hr.2.1,hr.1⟩
    have hJ7:kP (yR fu (lI fu) (mJ fu) (mR fu) M.f M.e M.b M.g M.h M.a M.d M.c tl ta) (pV (fun r=>jy r fun ar r=>jy r fun kd r=>jy r fun ln r=>jy r fun id r=>jy r fun nm r=>jy r fun ty r=>jy r fun le r=>jy r fun vr r=>jy r fun tg r=>jy r fun fn r=>jy r fun ca r=>jy r fun bo r=>jy r fun el r=>jy r fun tl r=>jy r fun ta r=>jy r fun m1 r=>jy r fun m2 r=>jy r fun m3 r=>jy r fun m4 r=>jy r fun m5 r=>jy r fun m6 r=>jy r fun m7 m8=>GS 1 ⟨kd,ln,id,nm,ty,le,vr,tg,fn,ca,ar,bo,el⟩/\TQ ⟨tl,ta⟩/\(⟨m1,m2,m3,m6,m7,m8,m4,m5⟩:lM)=yg M) O):=by unfold yR;refine .Fa hJ8 fun r hr=>.pp hr fun b r hr=>.pp hr fun ar r hr=>.pp hr fun kd r hr=>.pp hr fun ln r hr=>.pp hr fun id r hr=>.pp hr fun nm r hr=>.pp hr fun ty r hr=>.pp hr fun le r hr=>.pp hr fun vr r hr=>.pp hr fun tg r hr=>.pp hr fun fn r hr=>.pp hr fun ca r hr=>.pp hr fun bo r hr=>.pp hr fun el r hr=>.pp hr fun tl r hr=>.pp hr fun ta r hr=>.pp hr fun m1 r hr=>.pp hr fun m2 r hr=>.pp hr fun m3 r hr=>.pp hr fun m4 r hr=>.pp hr fun m5 r hr=>.pp hr fun m6 r hr=>.pp hr fun m7 m8 hr=>?_;refine .ite (fun _=>?_) fun _=>.go hr;rw [hr.2.2];exact .bp (EJ (by omega) hdn hr.2.1 (by decide) (by decide)) fun x r hx=>.pp hx fun M1 T2 hx=>.go ⟨GS.mk b0 b0 b0 z9 nA (len1 hx.1 (by decide)) nA nA,hx.2.2,hx.2.1⟩
    refine .Fa hJ7 fun r hr=>.pp hr fun ar r hr=>.pp hr fun kd r hr=>.pp hr fun ln r hr=>.pp hr fun id r hr=>.pp hr fun nm r hr=>.pp hr fun ty r hr=>.pp hr fun le r hr=>.pp hr fun vr r hr=>.pp hr fun tg r hr=>.pp hr fun fn r hr=>.pp hr fun ca r hr=>.pp hr fun bo r hr=>.pp hr fun el r hr=>.pp hr fun tl r hr=>.pp hr fun ta r hr=>.pp hr fun m1 r hr=>.pp hr fun m2 r hr=>.pp hr fun m3 r hr=>.pp hr fun m4 r hr=>.pp hr fun m5 r hr=>.pp hr fun m6 r hr=>.pp hr fun m7 m8 hr=>?_;exact go _ ⟨m1,m2,m3,m6,m7,m8,m4,m5⟩ ⟨tl,ta⟩ (hr.1.mono (by omega)) (by rw [hr.2.2];exact hd) hr.2.1
  have hJ9:kP (y7 fu (lI fu) (mJ fu) (mR fu) k tl ta) (pV (fun r=>jy r fun _ r=>jy r fun l a=>TQ ⟨l,a⟩) O):=by unfold y7;exact .ite (fun _=>.bp (qA hT2 (by decide) (by decide)) fun v T2 h2=>.go h2.2) fun _=>.go hT2
  refine .Fa hJ9 fun r hr=>.pp hr fun b r hr=>.pp hr fun tl ta hT3=>.ite (fun _=>?_) fun _=>?_
  · refine .bp (EJ (M:=yg M) (by omega) hdn hT3 (by decide) (by decide)) fun x r hx=>.pp hx fun M1 T2 hx=>?_;obtain ⟨hx1,rfl,hx3⟩:=hx;exact go _ (yg M) T2 (GS.mk b0 b0 b0 z9 nA (len1 hx1 (by decide)) nA nA) hd hx3
  have hJ10:kP (xk fu (lI fu) (mJ fu) (mR fu) (4 - j) k tl ta) (pV (fun r=>jy r fun b r=>jy r fun l a=>(b=true->1<=j)/\TQ ⟨l,a⟩) O):=by unfold xk;refine .ite (fun _=>.bp (qA hT3 (by decide) (by decide)) fun v T2 h2=>.ite (fun _=>.go ⟨fun z=>by have:=Ed z;omega,h2.2⟩) fun _=>.go ⟨fun z=>(by cases z),h2.2⟩) fun _=>.go ⟨fun z=>(by cases z),hT3⟩
  refine .Fa hJ10 fun r hr=>.pp hr fun b r hr=>.pp hr fun tl ta hr=>.ite (fun z=>?_) fun _=>?_
  · obtain ⟨hz,hT4⟩:=hr;obtain ⟨j,rfl⟩:∃ j',j=j'+1:=⟨j - 1,by have:=hz z;omega⟩;refine .bp (EJ (M:=yg M) (by omega) hdn hT4 (by decide) (by decide)) fun x r hx=>.pp hx fun M1 T2 hx=>?_;obtain ⟨hx1,rfl,hx3⟩:=hx;refine .bp (hb.at' (j:=j) (most:=3) hdn hx3 (by omega) (by omega) (by omega) (by rw [mg (by omega) (by omega)];omega) rfl) fun l r hr=>.pp hr fun M2 T3 hr=>?_;exact go _ M2 T3 (GS.mk b0 b0 b0 z9 nA (len1 hx1 (by decide)) (XU hr.1 (by decide)) nA) (hd.trans hr.2.1) hr.2.2
  · refine .bp (VH (M:=yg M) (by omega) hdn hr.2) fun x r hx=>.pp hx fun M1 T2 hx=>?_;obtain ⟨hx1,rfl,hx3⟩:=hx;exact go x (yg M) T2 (hx1.mono (by omega)) hd hx3
theorem PG:∀ (fu:Nat),Kst fu∧Kbo fu∧Klo fu
 | 0=>⟨fun _ _ _ _ _ _ _ _ h=>by omega,fun _ _ _ _ _ _ _ _ h=>by omega,fun _ _ _ _ _ _ _ h=>by omega⟩
 | fu+1=>by have ih:=PG fu;refine ⟨?_,ZR ih.1,abz ih.2.1⟩;intro M T j most hM hT hj hm hf;show kP (AV fu (lI fu) (mJ fu) (mR fu) M T _ _) _;unfold AV;refine .el (Gf ih.2.1 ih.2.2 hj hm (by omega) hM (O:=fun _=>False) fu 0 [] M T (Mr.rfl' hM) hT nA (by omega) (by omega)) (fun r hr=>?_) fun _ z=>z.elim;exact .pp hr fun b1 r hr=>.pp hr fun b1 r hr=>.pp hr fun b1 r hr=>.pp hr fun b1 r hr=>.pp hr fun b1 r hr=>.pp hr fun b1 r hr=>.pp hr fun b1 r hr=>.pp hr fun b1 r hr=>.pp hr fun b1 r hr=>.pp hr fun b1 r hr=>.pp hr fun b1 b2 hr=>.mk hr
theorem Sm {fu:Nat}(hf:40<=fu){M:lM}{T:jN}(hM:MP M)(hT:TQ T){most:Nat}(hm:most<=10):kP (lI fu M T 1 most) (SP (2 * most) 4 M):=(PG fu).1 M T 3 most hM hT (by decide) hm (by omega)
structure GF (f:kT):Prop where
 name:f.c.size<=4
 b:f.a.length<=4/\∀ x ∈ f.a,x.size<=4
 body:f.d.length<=22/\∀ y ∈ f.d,GS 4 y
structure GPr (p:jT):Prop where
 recs:p.a=[⟨⟨#[80]⟩,[⟨#[120]⟩,⟨#[121]⟩]⟩]
 e:1<=p.b.length/\p.b.length<=4
 el:∀ f ∈ p.b,GF f
theorem Ui:∀ x ∈ ([(⟨#[97]⟩:ByteArray),(⟨#[98]⟩:ByteArray),(⟨#[99]⟩:ByteArray),(⟨#[100]⟩:ByteArray)]:List ByteArray),x.size<=4:=by intro x hx;simp only [qg,Cm,or_false] at hx;rcases hx with rfl | rfl | rfl | rfl <;> decide
theorem Yr {k:Nat}(x:ByteArray)(h:([(⟨#[102]⟩:ByteArray),(⟨#[103]⟩:ByteArray),(⟨#[104]⟩:ByteArray),(⟨#[107]⟩:ByteArray)]:List ByteArray)[k]?=some x):x.size<=4:=M6 x (xu h)
theorem HY {fu:Nat}(hf:40≤fu){a b c d:Int}(ha:0≤a∧a < 4)(hb:0≤b∧b < 3)(hc:0≤c∧c < 4)(hd:0≤d∧d < 5){O:jT→Prop}:∀ (n i:Nat)(out:List kT)(T:jN),TQ T→out.length=i→(i:Int)≤1+a→6≤n+i→(∀ f ∈ out,GF f)→
  kP (ru fu a b c d n i out T.l T.a) (pV (fun r=>jy r fun _ r=>jy r fun o r=>jy r fun _ _=>(1<=o.length/\o.length<=4)/\∀ f ∈ o,GF f) O)
 | 0,i,out,T,hT,h1,h2,h3,h4=>by omega
 | n+1,i,out,T,hT,h1,h2,h3,h4=>by
  rw [ru,mg (n:=1+a) (by omega) (by omega)];refine .ite (fun k=>?_) fun k=>.go ⟨by omega,h4⟩;have hps:([2,b,c,d]:List Int).length=4/\∀ p ∈ ([2,b,c,d]:List Int),0<=p/\p<=4:=⟨rfl,fun p hp=>by
   simp only [qg,Cm,or_false] at hp;omega⟩
  refine .bd (.ix (by omega) (by rw [hps.1];omega)) fun p hp=>?_;have hp4:=hps.2 p (xu hp);refine .bd (.ix (by omega) (by simp only [uX,zh];omega)) fun nm hnm=>?_;refine .bd (.sl ⟨vG _,hp4.1,by simp only [uX,zh];omega⟩) fun l hl=>?_;have hll:l.length<=4/\∀ x ∈ l,x.size<=4:=by subst hl;exact ⟨by rw [vT];omega,fun x hx=>Ui x (List.mem_of_mem_drop (List.mem_of_mem_take hx))⟩
  refine .bd (.app (by simp only [zh];omega)) fun r hr=>?_;rw [E8] at hr;subst hr;have hJ1:kP (wC fu i) (pV (fun s=>s=6\/s=10) O):=by unfold wC;exact .ite (fun _=>.go (.inl rfl)) fun _=>.go (.inr rfl)
  refine .Fa hJ1 fun s hs=>?_;have hM:MP ⟨(i:Int),1+a,[2,b,c,d],r,[],[],0,22⟩:=⟨hps,by dsimp only;omega,⟨by dsimp only;omega,hll.2⟩,⟨(by decide:(0:Int)+22<=40),fun x hx=>(by cases hx)⟩,⟨(by decide:(0:Int)+22<=40),fun x hx=>(by cases hx)⟩,(by decide:(0:Int)<=0/\(0:Int)+22<=22),(by decide:(0:Int)<=22)⟩;have hS:kP (lI fu ⟨(i:Int),1+a,[2,b,c,d],r,[],[],0,22⟩ T 1 s) (SP 20 4 ⟨(i:Int),1+a,[2,b,c,d],r,[],[],0,22⟩):=by
   rcases hs with rfl | rfl
   · exact (Sm hf hM hT (most:=6) (by decide)).imp fun v hv=>⟨XU hv.1 (by decide),hv.2⟩
   · exact Sm hf hM hT (most:=10) (by decide)
  refine .bp hS fun bo q hq=>.pp hq fun M' T' hq=>?_;obtain ⟨hq1,hq2,hq3⟩:=hq;have hM':=hq2.mp hM;have hJ2:kP (vU fu bo M' T') (pV (fun r=>jy r fun o r=>jy r fun l a=>(o.length<=21/\∀ y ∈ o,GS 4 y)/\TQ ⟨l,a⟩) O):=by unfold vU;have k1:=hM'.ns.1;have k2:=hM'.l;refine .ite (fun c=>?_) fun _=>.go ⟨XU hq1 (by decide),hq3⟩;refine .bp (qA hq3 (by decide) (by decide)) fun v T2 h2=>.ite (fun _=>?_) fun _=>.go ⟨XU hq1 (by decide),h2.2⟩;refine EH h2.2 (by omega) (by omega) fun s T3 hs h3=>.bd (xI (hM'.ns.2 s hs)) fun x hx=>?_;refine .bd (.app (by have:=hq1.1;simp only [uX,zh];omega)) fun r hr=>.go ⟨?_,h3⟩;subst hr;exact ⟨by rw [kV];have:=hq1.1;omega,oF hq1.2 (GS.mk b0 b0 b0 z9 nA (len1 (hx.mono (by decide)) (by decide)) nA nA)⟩
  refine .Fa hJ2 fun r2 hr=>.pp hr fun o r2 hr=>.pp hr fun tl ta hr=>?_;refine .bd (.app (by have:=hr.1.1;simp only [uX,zh];omega)) fun r84 hr84=>.bd (.app (by simp only [uX,zh];omega)) fun r90 hr90=>?_;subst hr84 hr90;rw [mg (by omega) (by omega)];refine HY hf ha hb hc hd n (i+1) _ ⟨tl,ta⟩ hr.2 (by rw [kV];omega) (by omega) (by omega) (oF h4 ⟨Yr nm hnm,hll,?_⟩);exact ⟨by dsimp only;rw [kV];have:=hr.1.1;omega,oF hr.1.2 (GS.nil.mono (by decide))⟩
theorem TM {fu:Nat}(hf:40<=fu){l:List Int}(hl:l.length<=1000):kP (xg fu l) GPr:=by unfold xg;refine .bp (qA (T:=⟨l,0⟩) ⟨Int.le_refl _,by dsimp only;omega,hl⟩ (by decide) (by decide)) fun a T1 h1=>.bp (qA h1.2 (by decide) (by decide)) fun b T2 h2=>.bp (qA h2.2 (by decide) (by decide)) fun c T3 h3=>.bp (qA h3.2 (by decide) (by decide)) fun d T4 h4=>?_;refine .el (HY hf h1.1 h2.1 h3.1 h4.1 (O:=fun _=>False) fu 0 [] T4 h4.2 rfl (by omega) (by omega) fun f hf=>(by cases hf)) (fun r hr=>?_) fun _ z=>z.elim;exact .pp hr fun _ r hr=>.pp hr fun o r hr=>.pp hr fun _ _ hr=>.mk ⟨rfl,hr.1,hr.2⟩
theorem YP {fu:Nat}{l:List Int}:kP (AZ fu l) (fun r=>r.length<=200):=by unfold AZ;refine .ite (fun c=>.bd (.sl ⟨by decide,by decide,by omega⟩) fun r hr=>.mk ?_) fun c=>.mk (by omega);rw [hr,vT];omega
end Go.Proofs.YtdkneekpdecjbaaGreat
namespace Go.Fw
open Go.RowKit
theorem kP.cl {α:Type}{P:α->Prop}{s t:ByteArray}{f:ByteArray->Option α}(n:Nat)(h:t.size=n)(hs:s.size+n<=1000000000)(k:∀ r,r.size=s.size+n->kP (f r) P):kP ((Go.Fw.cat s t).bind f) P:=.bd (.cat (by omega)) fun r hr=>k r (by rw [hr,Eo,h])
theorem kP.cv {α:Type}{P:α->Prop}{s t:ByteArray}{f:ByteArray->Option α}(hs:s.size+t.size<=1000000000)(k:∀ r,r.size=s.size+t.size->kP (f r) P):kP ((Go.Fw.cat s t).bind f) P:=.bd (.cat hs) fun r hr=>k r (by rw [hr,Eo])
theorem kP.cr {α:Type}{P:α->Prop}{s t:ByteArray}{f:ByteArray->Option α}(n:Nat)(h:s.size=n)(hs:n+t.size<=1000000000)(k:∀ r,r.size=n+t.size->kP (f r) P):kP ((Go.Fw.cat s t).bind f) P:=.bd (.cat (by omega)) fun r hr=>k r (by rw [hr,Eo,h])
end Go.Fw
namespace Go.Proofs.YtdkneekpdecjbaaGreat
open Go.RowKit Go.Fw Go.Proofs.Tryz
def EB:Nat→Nat
 | 0=>6
 | d+1=>2 * EB d+8
theorem EB.lo:∀ d,6≤EB d∧EB d+8≤14 * 2 ^ d
 | 0=>by decide
 | d+1=>by have h:=EB.lo d;have e:EB (d+1)=2 * EB d+8:=rfl;have:1<=2 ^ d:=Nat.one_le_two_pow;rw [Nat.pow_succ];omega
theorem aaF {fu:Nat}{op:Int}:kP (BP fu op) (fun r=>(1<=r/\r<=6)/\(r=5->4<=op/\op<=5)/\(r < 5->6<=op/\op<=17)):=by
 unfold BP;have hJ0:kP (zP fu op) (pV (fun b=>b=true->14<=op/\op<=17) (fun _=>False)):=by unfold zP;refine .ite (fun _=>.go fun _=>by omega) fun _=>.ite (fun _=>.go fun _=>by omega) fun _=>.ite (fun _=>.go fun _=>by omega) fun _=>.go fun z=>by have:=Ed z;omega
 have hJ1:kP (zX fu op) (pV (fun b=>b=true->11<=op/\op<=13) (fun _=>False)):=by unfold zX;refine .ite (fun _=>.go fun _=>by omega) fun _=>.ite (fun _=>.go fun _=>by omega) fun _=>.go fun z=>by have:=Ed z;omega
 have hJ2:kP (zS fu op) (pV (fun b=>b=true->6<=op/\op<=7) (fun _=>False)):=by unfold zS;refine .ite (fun _=>.go fun _=>by omega) fun _=>.go fun z=>by have:=Ed z;omega
 refine .el hJ0 (fun b hb=>.ite (fun z=>.mk (by have:=hb z;omega)) fun _=>?_) fun _ z=>z.elim;refine .el hJ1 (fun b hb=>.ite (fun z=>.mk (by have:=hb z;omega)) fun _=>?_) fun _ z=>z.elim;refine .el hJ2 (fun b hb=>.ite (fun z=>.mk (by have:=hb z;omega)) fun _=>?_) fun _ z=>z.elim;refine .ite (fun _=>.mk (by omega)) fun _=>.ite (fun _=>.mk (by omega)) fun _=>.ite (fun _=>.mk (by omega)) fun _=>.ite (fun _=>.mk (by omega)) fun _=>.ite (fun _=>.mk (by omega)) fun _=>.mk (by omega)
theorem YE:∀ x ∈ ([(⟨#[43]⟩:ByteArray),(⟨#[45]⟩:ByteArray),(⟨#[42]⟩:ByteArray),(⟨#[47]⟩:ByteArray),(⟨#[37]⟩:ByteArray),(⟨#[38]⟩:ByteArray),(⟨#[124]⟩:ByteArray),(⟨#[94]⟩:ByteArray),(⟨#[60]⟩:ByteArray),(⟨#[60,61]⟩:ByteArray),(⟨#[61,61]⟩:ByteArray),(⟨#[33,61]⟩:ByteArray)]:List ByteArray),x.size<=2:=by intro x hx;simp only [qg,Cm,or_false] at hx;rcases hx with rfl | rfl | rfl | rfl | rfl | rfl | rfl | rfl | rfl | rfl | rfl | rfl <;> decide
theorem Tj:∀ x ∈ ([(⟨#[45]⟩:ByteArray),(⟨#[33]⟩:ByteArray)]:List ByteArray),x.size<=2:=by intro x hx;simp only [qg,Cm,or_false] at hx;rcases hx with rfl | rfl <;> decide
theorem Wm:∀ {d fu:Nat}{x:jB}{l:Int},GE d x→d≤5→d+19≤fu→kP (qd fu x l) (fun s=>s.size≤EB d)
 | 0,_,_,_,h,_,_=>h.elim
 | d+1,0,_,_,_,_,h=>by omega
 | d+1,fu+1,x,l,h,hd,hf=>by
  show kP (BU fu (qd fu) x l) _;obtain ⟨⟨h1,h2,h3,h4⟩,h5,h6⟩:=h;have hE:EB (d+1)=2 * EB d+8:=rfl;have hlo:=EB.lo d;have hp:(2:Nat) ^ d<=2 ^ 5:=Nat.pow_le_pow_right (by decide) (by omega);have h32:(2:Nat) ^ 5=32:=by decide
  unfold BU;refine .bd aaF fun r hr=>?_;have sub:∀ {y:jB}{l:Int},y ∈ x.a->kP (qd fu y l) (fun s=>s.size<=EB d):=fun hy=>Wm (h6 _ hy) (by omega) (by omega);have hJ:kP (zI fu (qd fu) x r) (pV (fun s=>s.size<=2 * EB d+6) (fun _=>False)):=by
   unfold zI;refine .ite (fun _=>.bd (Eu (d:=18) h3 (by omega) (by decide) (by decide) (by omega)) fun s hs=>.go (by omega)) fun _=>?_;refine .ite (fun _=>.cl 1 rfl (by omega) fun g e1=>.cv (by omega) fun g2 e2=>.go (by omega)) fun _=>?_;have hJ1:kP (Ao fu (qd fu) x) (pV (fun b=>b=true->0 < x.a.length) (fun _=>False)):=by unfold Ao;exact .ite (fun _=>.go fun z=>by have:=Ed z;omega) fun _=>.go fun z=>(by cases z)
   refine .Fa hJ1 fun b hb=>.ite (fun z=>?_) fun _=>?_
   · have:=hb z;refine .bd (.ix (by decide) (by omega)) fun y hy=>.cl 1 rfl (by omega) fun g e1=>.bd (sub (xu hy)) fun s hs=>.cv (by omega) fun g2 e2=>.cl 1 rfl (by omega) fun g3 e3=>.go (by omega)
   have hJ2:kP (zW fu (qd fu) x r) (pV (fun b=>b=true->r=5/\0 < x.a.length) (fun _=>False)):=by unfold zW;exact .ite (fun _=>.go fun z=>by have:=Ed z;omega) fun _=>.go fun z=>(by cases z)
   refine .Fa hJ2 fun b hb=>.ite (fun z=>?_) fun _=>?_
   · obtain ⟨q1,q2⟩:=hb z;have q3:=hr.2.1 q1;rw [mg (by omega) (by omega)];exact .bd (.ix (by decide) (by omega)) fun y hy=>.bd (.ix (by omega) (by simp only [uX,zh];omega)) fun n hn=>.bd (sub (xu hy)) fun s hs=>.cv (by have:=Tj n (xu hn);omega) fun g e=>.go (by have:=Tj n (xu hn);omega)
   refine .ite (fun q1=>.ite (fun q2=>?_) fun _=>.go (by omega)) fun _=>.go (by omega);have hJ3:kP (zY fu (qd fu) r) (pV (fun _=>True) (fun _=>False)):=by unfold zY;exact .ite (fun _=>.go kI) fun _=>.go kI
   have q3:=hr.2.2 q1;refine .Fa hJ3 fun lv _=>?_;rw [mg (n:=x.e - 6) (by omega) (by omega)];refine .bd (.ix (by decide) (by omega)) fun y hy=>.bd (.ix (by decide) (by omega)) fun y' hy'=>.bd (.ix (by omega) (by simp only [uX,zh];omega)) fun n hn=>?_;have hn2:=YE n (xu hn);exact .bd (sub (xu hy)) fun s hs=>.cl 1 rfl (by omega) fun g e1=>.cv (by omega) fun g2 e2=>.cl 1 rfl (by omega) fun g3 e3=>.bd (sub (xu hy')) fun s' hs'=>.cv (by omega) fun g4 e4=>.go (by omega)
  refine .el hJ (fun s hs=>?_) fun _ z=>z.elim;exact .ite (fun _=>.cr 1 rfl (by omega) fun g e1=>.cl 1 rfl (by omega) fun g2 e2=>.mk (by omega)) fun _=>.mk (by omega)
theorem SQ {fu:Nat}(hf:30<=fu){x:jB}{l:Int}(h:GE 4 x):kP (qd fu x l) (fun s=>s.size<=216):=Wm h (by decide) (by omega)
theorem MN {fu:Nat}(hf:30≤fu){O:ByteArray→Prop}:∀ (l:List jB)(k:Nat)(s:ByteArray),(∀ y ∈ l,GE 4 y)→s.size+l.length * 218≤1000000→kP (sO fu l k s) (pV (fun r=>r.size≤s.size+l.length * 218) O)
 | [],k,s,h,hs=>.go (by simp only [zh];omega)
 | x :: l,k,s,h,hs=>by
  rw [sO];rw [uX] at hs ⊢;have hJ:kP (zO fu s k) (pV (fun r=>r.size<=s.size+2) O):=by unfold zO;exact .ite (fun _=>.cl 2 rfl (by omega) fun g e=>.go (by omega)) fun _=>.go (by omega)
  refine .Fa hJ fun s2 h2=>.bd (SQ hf (h x (zH ..))) fun t ht=>.cv (by omega) fun g e=>?_;exact (MN hf l (k+1) g (fun y hy=>h y (xQ _ hy)) (by omega)).imp fun v hv=>by
   cases v with
   | go r=>exact rT (show r.size<=_ from hv) (by omega)
   | out o=>exact hv
theorem Wv {fu:Nat}(hf:30<=fu){l:List jB}(h:l.length<=4/\∀ y ∈ l,GE 4 y):kP (zC fu l) (fun r=>r.size<=872):=by unfold zC;have h0:(⟨#[]⟩:ByteArray).size=0:=rfl;exact .el (MN hf l 0 _ h.2 (O:=fun _=>False) (by omega)) (fun s hs=>.mk (by omega)) fun _ z=>z.elim
theorem Ka {fu:Nat}{O:ByteArray→Prop}:∀ (l:List ByteArray)(k:Nat)(s:ByteArray),(∀ y ∈ l,y.size≤4)→s.size+l.length * 6≤1000000→kP (pz fu l k s) (pV (fun r=>r.size≤s.size+l.length * 6) O)
 | [],k,s,h,hs=>.go (by simp only [zh];omega)
 | x :: l,k,s,h,hs=>by
  rw [pz];rw [uX] at hs ⊢;have hx:=h x (zH ..);have go:∀ g:ByteArray,g.size<=s.size+6->kP (pz fu l (k+1) g) (pV (fun r=>r.size<=s.size+(l.length+1) * 6) O):=fun g hg=>(Ka l (k+1) g (fun y hy=>h y (xQ _ hy)) (by omega)).imp fun v hv=>by
   cases v with
   | go r=>exact rT (show r.size<=_ from hv) (by omega)
   | out o=>exact hv
  exact .ite (fun _=>.cl 2 rfl (by omega) fun g e=>.cv (by omega) fun g2 e2=>go g2 (by omega)) fun _=>.cv (by omega) fun g2 e2=>go g2 (by omega)
theorem Tv {fu:Nat}{l:List ByteArray}(h:l.length<=4/\∀ y ∈ l,y.size<=4):kP (xP fu l) (fun r=>r.size<=24):=by unfold xP;have h0:(⟨#[]⟩:ByteArray).size=0:=rfl;exact .el (Ka l 0 _ h.2 (O:=fun _=>False) (by omega)) (fun s hs=>.mk (by omega)) fun _ z=>z.elim
theorem YI {fu:Nat}(hf:30<=fu){k:Nat}{x:jA}(h:GS k x):kP (qy fu x) (fun r=>r.size<=878):=by
 obtain _ | k:=k
 · exact h.elim
 unfold qy;have h1:=h.1.2.2.1;exact .ite (fun _=>.cl 1 rfl (by omega) fun g e=>.bd (Wv hf h.2.2.1) fun s hs=>.cv (by omega) fun g2 e2=>.cl 1 rfl (by omega) fun g3 e3=>.mk (by omega)) fun _=>.bd (Wv hf h.2.2.1) fun s hs=>.mk (by omega)
def CB:Nat→Nat
 | 0=>0
 | k+1=>1200+18 * CB k
theorem Tm:∀ {k fu:Nat}{l:List jA}{tb:ByteArray},k≤4→(∀ y ∈ l,GS k y)→l.length≤22→tb.size+k≤5→k+40≤fu→kP (oI fu l tb) (fun r=>r.size≤l.length * CB k)
 | _,0,_,_,_,_,_,_,h=>by omega
 | 0,fu+1,l,tb,_,h,_,_,_=>by
  cases l with
  | nil=>exact .mk (uW _)
  | cons x l=>exact (h x (zH ..)).elim
 | k+1,fu+1,l,tb,hk,h,hl,ht,hf=>by
  show kP (AP fu (oI fu) l tb) _;unfold AP;have hC:CB (k+1)=1200+18 * CB k:=rfl;have hC3:CB k<=411600:=by
   obtain _ | _ | _ | _ | k:=k
   · simp only [CB];decide
   · simp only [CB];decide
   · simp only [CB];decide
   · simp only [CB];decide
   · omega
  have hB:∀ {m:List jA}{u:ByteArray},(m.length<=9/\∀ y ∈ m,GS k y)->u.size=tb.size+1->kP (oI fu m u) (fun r=>r.size<=9 * CB k):=fun hm hu=>(Tm (by omega) hm.2 (by omega) (by omega) (by omega)).imp fun r hr=>rT hr (Nat.mul_le_mul_right _ hm.1);have hL:∀ (l:List jA)(i:Nat)(s:ByteArray),(∀ y ∈ l,GS (k+1) y)->s.size+l.length * CB (k+1)<=500000000->kP (lK fu (oI fu) tb l i s) (pV (fun r=>r.size<=s.size+l.length * CB (k+1)) (fun _=>False)):=by
   intro l
   induction l with
   | nil=>intro i s _ hs;exact .go (by simp only [zh];omega)
   | cons x l ih=>
     intro i s hy hs;rw [uX,Nat.succ_mul] at hs ⊢;have hx:=hy x (zH ..);have go:∀ g:ByteArray,g.size<=s.size+CB (k+1)->kP (lK fu (oI fu) tb l (i+1) g) (pV (fun r=>r.size<=s.size+(l.length * CB (k+1)+CB (k+1))) (fun _=>False)):=fun g hg=>(ih (i+1) g (fun y hy'=>hy y (xQ _ hy')) (by omega)).imp fun v hv=>by
       cases v with
       | go r=>exact rT (show r.size<=_ from hv) (by omega)
       | out o=>exact hv
     have hv:kP (qy fu x) (fun r=>r.size<=878):=YI (by omega) hx;obtain ⟨⟨a1,a2,a3,a4,a5⟩,hx2,hx3,hx4,hx5⟩:=hx;rw [lK];have hJ1:kP (yV fu (oI fu) x) (pV (fun s=>s.size<=219) (fun _=>False)):=by unfold yV;exact .ite (fun _=>.bd (.ix (by decide) (by omega)) fun y hy=>.bd (SQ (by omega) (hx2.2 y (xu hy))) fun s hs=>.cl 3 rfl (by omega) fun g e=>.go (by omega)) fun _=>.go (uW _)
     refine .Fa hJ1 fun tg htg=>.ite (fun _=>?_) fun _=>?_
     · have hJ2:kP (yu fu (oI fu) x) (pV (fun s=>s.size<=4) (fun _=>False)):=by unfold yu;exact .ite (fun _=>.go (by decide)) fun _=>.go a2
       have hJ3:∀ u:ByteArray,u.size<=4->kP (yt fu (oI fu) x u) (pV (fun s=>s.size<=8) (fun _=>False)):=by intro u hu;unfold yt;exact .ite (fun _=>.bd (Eu (d:=1) a4 (by omega) (by decide) (by decide) (by omega)) fun s hs=>.cr 4 rfl (by omega) fun g e=>.cl 1 rfl (by omega) fun g2 e2=>.go (by omega)) fun _=>.go (by omega)
       refine .Fa hJ2 fun u hu=>.Fa (hJ3 u hu) fun ty hty=>?_;exact .cv (by omega) fun g1 e1=>.cl 4 rfl (by omega) fun g2 e2=>.cv (by omega) fun g3 e3=>.cl 2 rfl (by omega) fun g4 e4=>.cv (by omega) fun g5 e5=>.cl 2 rfl (by omega) fun g6 e6=>go g6 (by omega)
     have hJ4:kP (y5 fu (oI fu) x) (pV (fun _=>True) (fun _=>False)):=by unfold y5;exact .ite (fun _=>.go kI) fun _=>.go kI
     refine .Fa hJ4 fun b _=>.ite (fun _=>?_) fun _=>.ite (fun _=>?_) fun _=>.ite (fun _=>?_) fun _=>.ite (fun _=>?_) fun _=>.ite (fun _=>?_) fun _=>.ite (fun _=>?_) fun _=>.ite (fun _=>?_) fun _=>go s (by omega)
     · exact .cv (by omega) fun g1 e1=>.cv (by omega) fun g2 e2=>.bd hv fun v k1=>.cv (by omega) fun g3 e3=>.cl 2 rfl (by omega) fun g4 e4=>go g4 (by omega)
     · exact .cv (by omega) fun g1 e1=>.cl 7 rfl (by omega) fun g2 e2=>.bd hv fun v k1=>.cv (by omega) fun g3 e3=>.cl 2 rfl (by omega) fun g4 e4=>go g4 (by omega)
     · exact .cv (by omega) fun g1 e1=>.cl 6 rfl (by omega) fun g2 e2=>.bd hv fun v k1=>.cv (by omega) fun g3 e3=>.cl 2 rfl (by omega) fun g4 e4=>go g4 (by omega)
     · exact .cv (by omega) fun g1 e1=>.cl 6 rfl (by omega) fun g2 e2=>.bd hv fun v k1=>.cv (by omega) fun g3 e3=>.cl 2 rfl (by omega) fun g4 e4=>go g4 (by omega)
     · refine .cv (by omega) fun g1 e1=>.cl 3 rfl (by omega) fun g2 e2=>.cl 1 rfl (by omega) fun t1 t2=>.bd hv fun v k1=>.cv (by omega) fun g3 e3=>.cl 3 rfl (by omega) fun g4 e4=>.bd (hB hx4 t2) fun b1 k2=>.cv (by omega) fun g5 e5=>.ite (fun _=>?_) fun _=>?_
       · exact .cv (by omega) fun g6 e6=>.cl 9 rfl (by omega) fun g7 e7=>.cl 1 rfl (by omega) fun t3 t4=>.bd (hB hx5 t4) fun b2 k3=>.cv (by omega) fun g8 e8=>.cv (by omega) fun g9 e9=>.cl 2 rfl (by omega) fun g10 e10=>go g10 (by omega)
       · exact .cv (by omega) fun g6 e6=>.cl 2 rfl (by omega) fun g10 e10=>go g10 (by omega)
     · exact .cv (by omega) fun g1 e1=>.cl 6 rfl (by omega) fun g2 e2=>.cl 1 rfl (by omega) fun t1 t2=>.bd hv fun v k1=>.cv (by omega) fun g3 e3=>.cl 3 rfl (by omega) fun g4 e4=>.bd (hB hx4 t2) fun b1 k2=>.cv (by omega) fun g5 e5=>.cv (by omega) fun g6 e6=>.cl 2 rfl (by omega) fun g10 e10=>go g10 (by omega)
     · exact .cv (by omega) fun g1 e1=>.cl 6 rfl (by omega) fun g2 e2=>.cl 1 rfl (by omega) fun t1 t2=>.cl 1 rfl (by omega) fun t3 t4=>.bd (hB hx4 t2) fun b1 k2=>.cv (by omega) fun g5 e5=>.cv (by omega) fun g6 e6=>.cl 8 rfl (by omega) fun g7 e7=>.cv (by omega) fun g8 e8=>.cl 3 rfl (by omega) fun g9 e9=>.bd (hB hx5 t4) fun b2 k3=>.cv (by omega) fun g10 e10=>.cv (by omega) fun g11 e11=>.cl 2 rfl (by omega) fun g12 e12=>go g12 (by omega)
  have hlen:l.length * CB (k+1)<=22 * CB (k+1):=Nat.mul_le_mul_right _ hl;have h0:(⟨#[]⟩:ByteArray).size=0:=rfl;refine .el (hL l 0 _ h (by omega)) (fun s hs=>.mk (by omega)) fun _ z=>z.elim
theorem JO {fu:Nat}(hf:50≤fu){B:Nat}(hB:B=163100000){O:ByteArray→Prop}:∀ (l:List kT)(k:Nat)(s:ByteArray),(∀ f ∈ l,GF f)→s.size+l.length * B≤700000000→kP (rO fu l k s) (pV (fun r=>r.size≤s.size+l.length * B) O)
 | [],k,s,h,hs=>.go (Nat.le_add_right _ _)
 | x :: l,k,s,h,hs=>by
  rw [rO];rw [uX,Nat.succ_mul] at hs ⊢;obtain ⟨a1,a2,a3⟩:=h x (zH ..);have h9:(⟨#[9]⟩:ByteArray).size=1:=rfl;refine .cl 5 rfl (by omega) fun g1 e1=>.cv (by omega) fun g2 e2=>.cl 1 rfl (by omega) fun g3 e3=>.bd (Tv a2) fun w hw=>.cv (by omega) fun g4 e4=>.cl 4 rfl (by omega) fun g5 e5=>.bd (Tm (k:=4) (by decide) a3.2 a3.1 (by omega) (by omega)) fun b hb=>?_;have hb2:b.size<=22 * CB 4:=rT hb (Nat.mul_le_mul_right _ a3.1);have hc4:CB 4=7410000:=by simp only [CB]
  refine .cv (by omega) fun g6 e6=>.cl 2 rfl (by omega) fun g7 e7=>?_;exact (JO hf hB l (k+1) g7 (fun y hy=>h y (xQ _ hy)) (by omega)).imp fun v hv=>by
   cases v with
   | go r=>exact rT (show r.size<=_ from hv) (by omega)
   | out o=>exact hv
theorem Yu {fu:Nat}(hf:50<=fu){p:jT}(h:GPr p):kP (Ar fu p) (fun s=>s.size<=700000000):=by
 unfold Ar;have h0:(⟨#[]⟩:ByteArray).size=0:=rfl;rw [h.recs];have hR:kP (qC fu [⟨⟨#[80]⟩,[⟨#[120]⟩,⟨#[121]⟩]⟩] 0 ⟨#[]⟩) (pV (fun s=>s.size<=100) (fun _=>False)):=by rw [qC];have h1:(⟨⟨#[80]⟩,[⟨#[120]⟩,⟨#[121]⟩]⟩:kg).c.size=1:=rfl;refine .cl 7 rfl (by omega) fun g1 e1=>.cv (by omega) fun g2 e2=>.cl 3 rfl (by omega) fun g3 e3=>.bd (Tv ⟨by decide,Nt⟩) fun w hw=>.cv (by omega) fun g4 e4=>.cl 3 rfl (by omega) fun g5 e5=>?_;rw [qC];exact .go (by omega)
 have hl:=h.e.2;have hl2:p.b.length * 163100000<=4 * 163100000:=Nat.mul_le_mul_right _ hl;refine .el hR (fun s hs=>?_) fun _ z=>z.elim;exact .el (JO hf rfl p.b 0 s h.el (O:=fun _=>False) (by omega)) (fun s hs=>.mk (by omega)) fun _ z=>z.elim
theorem aaX {fu:Nat}(hf:50<=fu){l:List Int}(hl:l.length<=1000):kP (Cc fu l) (fun s=>s.size<=700000000):=by unfold Cc;exact .bd (TM (by omega) hl) fun p hp=>.bd (Yu hf hp) fun s hs=>.mk hs
structure CI (s:jY):Prop where
 vn:∀ V ∈ s.c,V.length<=24
 fx:∀ f ∈ s.a.b,FX f
set_option maxRecDepth 4000
theorem Xw:∀ (n:Nat)(e:jB),Ca n e→XO e
 | 0,_,h=>h.elim
 | n+1,e,h=>.mk ⟨h.1.2.1,by have:=h.1.2.2.1;omega⟩ fun y hy=>Xw n y (h.2 y hy)
theorem WL:∀ (n:Nat)(e:jB),Ca n e→XD n e
 | 0,_,h=>h.elim
 | n+1,e,h=>fun y hy=>WL n y (h.2 y hy)
theorem VQ:∀ (n:Nat)(x:jA),OU n x→SD 5000 n x
 | 0,_,h=>h.elim
 | n+1,x,h=>⟨fun y hy=>WL _ y (h.1 y hy),⟨h.2.1.1,fun y hy=>WL _ y (h.2.1.2 y hy)⟩,fun y hy=>VQ n y (h.2.2.1 y hy),fun y hy=>VQ n y (h.2.2.2.1 y hy)⟩
structure Gs7 (s:jY):Prop where
 ci:CI s
 sw:aay s
 st:s.b.length<=200
 fs:s.a.b.length<=5000
theorem QZ {fu:Nat}(hf:10100<=fu){l:List Int}:kP (wS fu l) (fun r=>jy r fun s b=>b=true->Gs7 s):=by unfold wS;refine .bd YP fun l2 h2=>.bd (aaX (by omega) (by omega)) fun t _=>?_;refine .bp (XW (by omega)) fun p r hr=>.pp hr fun a e hp=>.ite (fun _=>.mk fun z=>(by cases z)) fun c=>?_;have hp:=hp (by omega);refine .Xh (XL hf hp) fun v ev hv=>?_;obtain ⟨s,ln,e⟩:=v;rw [pl] at hv ⊢;rw [pl] at hv ⊢;refine .mk fun z=>?_;have he:e=0:=Ed z;have q:=hv he;subst he;have hw:=Yg (by omega) hp ev;refine ⟨⟨fun V hV=>(q.1.1.2 V hV).2,q.2⟩,hw,q.1.2,?_⟩;rw [<-hw.1,q.1.1.1];exact hp.e
theorem Gs7.szs {s:jY}(h:Gs7 s):Szs s 5000 10:=⟨by have:=h.fs;omega,fun V hV=>by have:=h.ci.vn V hV;omega,fun fn hfn x hx=>VQ 10 x (h.ci.fx fn hfn x hx)⟩
theorem WA:AQ 10100=some true:=by kernel_rfl
section
variable {fu:Nat}
theorem Xx {out:List pR}{o:pR}{b:Nat}(hl:b≤10000)(h:∀ j,j < b→∃ x,out[j]?=some x∧o.a.a≠x.a.a):∀ (n i:Nat),i≤b→b < n+i→qE fu out o b n i=some (.go (b:Int))
 | 0,i,h1,h2=>by omega
 | n+1,i,h1,h2=>by
  rw [qE];by_cases c:(i:Int) < (b:Int)
  · obtain ⟨x,hx,hne⟩:=h i (by omega);have hix:ix out (i:Int)=some x:=by unfold ix;rw [lW (by omega),Ii];exact hx
    rw [lX c,hix,Option.bind_some,lW hne,I6 (by omega) (by omega)];exact Xx hl h n (i+1) (by omega) (by omega)
  · rw [lW c,show i=b by omega]
theorem Vp {out:List pR}(hf:10000 < fu)(hl:out.length≤10000)(hd:∀ (i j:Nat) (x y:pR),j < i→out[i]?=some x→out[j]?=some y→x.a.a≠y.a.a):∀ (l:List pR)(k:Nat),l=out.drop k→oW fu out l k=some (.go ())
 | [],k,_=>rfl
 | x :: l,k,h=>by
  have hx:out[k]?=some x:=by
   have q:(out.drop k)[0]?=some x:=by rw [<-h];rfl
   rw [List.getElem?_drop] at q;exact q
  have hk:=(List.getElem?_eq_some_iff.1 hx).1;have hl':l=out.drop (k+1):=by rw [l5 hx] at h;exact (List.cons.inj h).2
  have h6:=Xx (fu:=fu) (out:=out) (o:=x) (b:=k) (by omega) (fun j hj=>by
   obtain ⟨y,hy⟩:=mI (l:=out) (k:=j) (by omega);exact ⟨y,hy,hd k j x y hj hx hy⟩) fu 0 (uW _) (by omega)
  rw [oW,show (0:Int)=((0:Nat):Int) from rfl,h6];exact Vp hf hl hd l (k+1) hl'
theorem ZQ {pre out:List pR}(h:Ya pre out)(hD:Dj (FV pre)):∀ (i j:Nat)(x y:pR),j < i->out[i]?=some x->out[j]?=some y->x.a.a≠y.a.a:=fun i j x y hj hx hy c=>by obtain ⟨hi,rfl⟩:=List.getElem?_eq_some_iff.1 hx;obtain ⟨hj2,rfl⟩:=List.getElem?_eq_some_iff.1 hy;have hk:=List.pairwise_iff_getElem.1 h.so j i hj2 hi hj;have h1:=(h.el _ (List.getElem_mem hi)).2;have h2:=(h.el _ (List.getElem_mem hj2)).2;rw [c] at h1;exact Ry hk (hD _ _ _ h2 h1)
theorem WH (hf:10000 < fu){b:nk}(hB:BO b.c)(hl:b.c.length≤6000):∀ (l:List pR)(k:Nat),l=b.c.drop k→og fu b l k=some (.go ())
 | [],k,_=>rfl
 | o :: l,k,h=>by
  have hx:b.c[k]?=some o:=by
    have q:(b.c.drop k)[0]?=some o:=by rw [<-h];rfl
    rw [List.getElem?_drop] at q;exact q
  have hk:=(List.getElem?_eq_some_iff.1 hx).1;have hl':l=b.c.drop (k+1):=by rw [l5 hx] at h;exact (List.cons.inj h).2
  have ih:=WH hf hB hl l (k+1) hl';obtain ⟨b1,b2⟩:=hB k o hx;have h3:uT fu o=some (.go ()):=by
    unfold uT;by_cases c:o.b=21
    · rw [lX c,lW (by rw [(b1 c).2.1];simp),lW (by rw [(b1 c).2.2];simp)]
    · rw [lW c]
  rw [og,h3,Option.bind_some,Ld.el];unfold yP;by_cases c:o.b=19\/o.b=20
  · have he:(if o.b≠19 then some (Ld.go (decide (o.b≠20))) else some (Ld.go false):Option (Ld Bool Bool))=some (.go false):=by
      by_cases d:o.b=19
      · rw [lW (by simp [d])]
      · rw [lX d,Ga (by simp;omega)]
    rw [he,Option.bind_some,Ld.el,lW (by simp),Tt (by omega),Option.bind_some];obtain ⟨r,hr,hI⟩:=aaD (fu:=fu) (ops:=b.c.take k) (fun o ho hk=>by
      obtain ⟨i,hi⟩:=QV ho;rw [List.getElem?_take] at hi;split at hi
      · exact ((hB i o hi).1 hk).1
      · cases hi) (by simp;omega) hf
    have hrl:=hI.ln;rw [hr,Option.bind_some,Vp hf (by simp at hrl;omega) (ZQ hI (b2 c)) r 0 rfl];exact ih
  · have he:(if o.b≠19 then some (Ld.go (decide (o.b≠20))) else some (Ld.go false):Option (Ld Bool Bool))=some (.go true):=by rw [lX (fun d=>c (.inl d)),Gd (show o.b≠20 from fun d=>c (.inr d))]
    rw [he,Option.bind_some,Ld.el,lX rfl];exact ih
theorem Ww (hf:10000 < fu):∀ (l:List nk)(k:Nat),(∀ b ∈ l,BO b.c∧b.c.length≤6000)→o7 fu l k=some (.go ())
 | [],k,_=>rfl
 | b :: l,k,h=>by have hb:=h b (zH ..);rw [o7,WH hf hb.1 hb.2 b.c 0 rfl];exact Ww hf l (k+1) fun x hx=>h x (xQ _ hx)
theorem Vz (hf:10000 < fu):∀ (l:List qF)(k:Nat),(∀ c ∈ l,∀ b ∈ c.b,BO b.c∧b.c.length≤6000)→o8 fu l k=some (.go ())
 | [],k,_=>rfl
 | c :: l,k,h=>by rw [o8,Ww hf _ 0 (h c (zH ..))];exact Vz hf l (k+1) fun x hx=>h x (xQ _ hx)
end
theorem Wo:∀ (n:Nat)(x:jA),OU n x→XS x
 | 0,_,h=>h.elim
 | n+1,x,h=>.mk (fun y hy=>Xw _ y (h.2.1.2 y hy)) (fun y hy=>Xw _ y (h.1 y hy)) (fun y hy=>Wo n y (h.2.2.1 y hy)) fun y hy=>Wo n y (h.2.2.2.1 y hy)
theorem Xu (l:List Int):yh 10100 l=some true:=by
 unfold yh;obtain ⟨⟨s,b⟩,hc,hg⟩:=QZ (fu:=10100) (ng _) (l:=l);rw [hc,Option.bind_some,pl];rw [pl] at hg;cases b with
 | false=>
  rw [WA];rfl
 | true=>
  have hg:=hg rfl;show (uG 10100 s).bind _=_;obtain ⟨⟨m,e⟩,hl⟩:=YQ (fu:=10100) hg.szs (by omega) (by omega) (by omega);rw [hl,Option.bind_some,pl];obtain ⟨q,hq,he⟩:=Option.map_eq_some_iff.1 hl;obtain ⟨res,e'⟩:=q;cases he;rw [Vz (fu:=10100) (by omega) _ 0 (Pd (fun fn hfn x hx=>Wo 10 x (hg.ci.fx fn hfn x hx)) _ _ _ (by simp) hq),WA];rfl
end Go.Proofs.YtdkneekpdecjbaaGreat
namespace Go.Proofs.YtdkneekpdecjbaaGreat
open Go.ChangeShapes Go.WideShapes Go.ChangeAt Go.RowKit Go.Fw Go.Joins Go.Proofs.Tryz
theorem own:ownKnob prog.godebug=none:=by kernel_rfl
theorem laidOut:laidOutB prog=true:=by kernel_rfl
theorem Vy {w:World}{a:Addr}{v:Value}(h:w.cell? a=some v):∃ b o,a=⟨b,o,none⟩/\b < w.heap.size:=by have h1:=World.cell?_spot h;obtain ⟨b,o,s⟩:=a;simp only at h1;subst h1;exact ⟨b,o,rfl,World.block_lt_of_cell? w _ h⟩
theorem open_list {H:Type}{enc:TypeId × Value->H}{w:World}{base:Nat}{spare:Nat->Bool}{held:Bool}{fuel:Nat}{cs:List Value}{x:DataW H × List MemPlace}(h:DataW.trod enc prog w base spare held fuel 22 cs=some x) :∃ A c zs,cs=[.slice A zs.length c]/\kr (α:=Int) (fun _=>True) w A c zs:=by
 rcases open_ints underlying22 underlying3 (by kernel_rfl) h with ⟨rfl,hx⟩|⟨a,len,cap,zs,rfl,hb,hl,hm,hz,hx,hcell,hwz⟩
 · exact ⟨none,0,[],rfl,kr.nil⟩
 · have hlz:len<=zs.length:=by rw [hz];split <;> omega
   have hlt:(zs.take len).length=len:=by rw [vT];omega
   refine ⟨some a,cap,zs.take len,by rw [hlt],by omega,hm,fun h0=>?_⟩;have h1:=hcell 0 (by omega);rw [Addr.add_zero'] at h1;obtain ⟨b,o,rfl,hbb⟩:=Vy h1;refine ⟨rfl,trivial,hbb,fun i z hi=>⟨[.int .i64 z],?_,rfl⟩⟩;rw [List.getElem?_take] at hi;split at hi
   · rename_i hj;have h2:=hcell i (by omega);rw [Addr.add_lit] at h2;intro k v hk;obtain _ | k:=k
     · obtain rfl:Value.int .i64 z=v:=JY hk;have hd:zs.getD i 0=z:=by rw [aea,hi];rfl
       rw [hd] at h2;exact (by simpa [Rp.sz,mX,nW] using h2)
     · cases hk
   · cases hi
theorem U8 {w:World}{A:Option Addr}{c:Nat}{l:List Int}(h:kr (fun _=>True) w A c l):Pre w (fun _=>True) [] [.l A c l]:=⟨fun it hi=>(by cases hi),fun it hi=>(by cases hi),List.Pairwise.nil,fun d hd=>by
 simp only [qg,Cm,or_false] at hd;subst hd;exact h⟩
theorem LU (w:World){A0:Option Addr}{c0:Nat}{x0:List Int}(h0:kr (fun _=>True) w A0 c0 x0):Calls prog 6 #[.slice A0 x0.length c0] w (tN fun v w'=>v=.bool true/\Ext w w'):=
 (Jk 10100 (U8 h0) (Xu x0)).mono fun e w' he=>by obtain ⟨v,rfl,hv,hb⟩:=he;exact ⟨v,rfl,hv,hb.ex⟩
set_option maxRecDepth 100000 in
theorem Jt (os:Os)(started:os.Started)(H:Type)(enc:TypeId × Value->H) :ReturnsInHanded {} checked os 6 .any (Rows.lowerOwnSpec.pre6 enc prog f6 Rows.lowerOwnRow.domain false) (Rows.lowerOwnSpec.post enc prog f6 false true false false):=by
 refine returnsInHanded_of_change (C:=checked) own started (by kernel_rfl) func6
  (ChangeSpec.witness6 (enc:=enc) (C:=checked) false ⟨#[],#[.slice none 0 0],[]⟩ 8 (by kernel_rfl) (by kernel_rfl) (by kernel_rfl) (by kernel_rfl)) ?_
 intro W base args ds gs before hval0 hW hcnd _;have hval:∀ (j:Nat) t v,f6.params[j]?=some t->args[j]?=some v->Value.okWide prog W .any base t v:=hval0;have hW':=hW;obtain ⟨p,q,hA0,hV,rfl,hfz,hnd⟩:=hW;have hA:DataW.TrodAll enc prog W 0 (fun _=>true) true f6.params.toList args.toList ds p:=hA0;rw [params6] at hA hval;obtain ⟨v0,vs0,d0,ds0,p0,q0,hargs,rfl,rfl,h0,r0⟩:=trodAll_cons hA;obtain ⟨rfl,rfl,rfl⟩:=trodAll_nil r0;obtain rfl:args=#[v0]:=by cases args;simp_all
 obtain ⟨rfl,rfl⟩:=trodVars_none hV;have k0:=h0;have lt0:∀ x ∈ p0,x.block < W.heap.size:=by obtain ⟨m,hm⟩:=k0;exact DataW.trod_lt m _ _ _ hm
 obtain ⟨a0,n0,c0,rfl⟩:=okWide_slice underlying22 (hval 0 22 v0 rfl rfl);obtain ⟨f0,hf0⟩:=h0;obtain ⟨A0,e0,l0,hcs0,hl0⟩:=open_list hf0;simp [Value.cells] at hcs0;obtain ⟨rfl,rfl,rfl⟩:=hcs0;clear hA0 hval0;refine (LU W hl0).mono fun e W' he=>?_;obtain ⟨v,rfl,rfl,bel⟩:=he;exact ⟨_,rfl,_,_,_,[],_,[],hW',trodAll_mk1 (shut_bool underlying4 _),trodAll_cons_mk (Below.trod laidOut (by kernel_rfl) (Ed (by kernel_rfl)) k0 bel lt0) trodAll_mk0,rfl,Below.frame bel _,fun h=>by cases h⟩
theorem lowerOwn_holds:Rows.LowerOwnSaid:=
 OpenClaim.holds_of_wide 6 f6 rfl rfl rfl rfl rfl rfl rfl ⟨rfl,rfl,rfl,rfl,rfl⟩ rfl rfl rfl rfl rfl (by kernel_rfl) func6 (by kernel_rfl)
  (Ed (by kernel_rfl)) (by unfold Func.isWrapper;first | (rw [lX (by decide +kernel)];kernel_rfl)|(rw [lW (by decide +kernel)];exact ⟨rfl,rfl⟩))
  (fun os started H enc _=>Jt os started H enc)
end Go.Proofs.YtdkneekpdecjbaaGreat
