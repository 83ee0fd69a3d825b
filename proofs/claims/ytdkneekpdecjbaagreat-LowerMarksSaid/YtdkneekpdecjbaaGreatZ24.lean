/- The maker of programs answers for any tape: blocks, loops and the program. -/
import Derived.Test.YtdkneekpdecjbaaGreatZ23
import Derived.Test.YtdkneekpdecjbaaGreatLd
import Derived.Test.YtdkneekpdecjbaaGreatZ13
import Derived.Test.YtdkneekpdecjbaaGreatZ14
import Derived.Test.YtdkneekpdecjbaaGreatZ18
import Derived.Test.YtdkneekpdecjbaaGreatZ19
import Derived.Test.YtdkneekpdecjbaaGreatZ4
import Derived.WalkKit
import Derived.ProofKit
import Derived.OpenShut
import Derived.ChangeOld
import Derived.SizedLaws
import Derived.Lib.SmallJoins
import Derived.Deep.Slices
import Derived.Deep.Fields
set_option linter.unusedVariables false
set_option linter.unusedSimpArgs false
namespace Go.Proofs.YtdkneekpdecjbaaGreat
open Go.RowKit Go.Fw Go.Proofs.Tryz
def Kst (fu:Nat):Prop:=∀ (M:lM)(T:jL)(j most:Nat),MP M->TQ T->j<=3->most<=10->4 * j+28<=fu->kS (lG fu M T (4 - j) most) (SP (2 * most) (j+1) M)
def Kbo (fu:Nat):Prop:=∀ (M:lM)(T:jL)(j most:Nat),MP M->TQ T->j<=3->most<=10->4 * j+29<=fu->kS (mD fu M T (4 - j) most) (SP (2 * most) (j+1) M)
def Klo (fu:Nat):Prop:=∀ (M:lM)(T:jL)(j:Nat),MP M->0 < M.h->TQ T->j<=2->4 * j+30<=fu->kS (mK fu (xS M) T (4 - (j+1:Nat))) (SP 2 (j+2) M)
theorem Kbo.at' {fu:Nat}(h:Kbo fu){M:lM}{T:jL}{j most:Nat}{x y:Int}(h1:MP M)(h2:TQ T)(h3:j<=3)(h4:most<=10)(h5:4 * j+29<=fu)(hx:x=4 - j)(hy:y=most):kS (mD fu M T x y) (SP (2 * most) (j+1) M):=by subst hx;subst hy;exact h M T j most h1 h2 h3 h4 h5
theorem Z7 {fu:Nat}(ih:Kst fu):Kbo (fu+1):=by
 intro M T j most hM hT hj hm hf;show kS (Bz fu (lG fu) (mD fu) (mK fu) M T _ _) _;unfold Bz;refine .bp (ih M T j most hM hT hj hm (by omega)) fun l r hr=>.pp hr fun M' T' hr=>?_;obtain ⟨h1,h2,h3⟩:=hr;obtain ⟨a1,a2,a3,a4,a5,a6,a7,a8,a9,a10,a11⟩:=h2;have b1:=hM.ns.1;have b2:=hM.np.1;have b3:=hM.na.1;have b4:=hM.l;refine .bd (.sl ⟨wC _,by omega,by omega⟩) fun l1 e1=>.bd (.sl ⟨wC _,by omega,by omega⟩) fun l2 e2=>.bd (.sl ⟨wC _,by omega,by omega⟩) fun l3 e3=>?_;have tk:∀ {L l:List ByteArray}{n:Nat},l=(L.drop (0:Int).toNat).take ((n:Int) - 0).toNat->n<=L.length->(∀ x ∈ L,x.size<=4)->l.length=n/\∀ x ∈ l,x.size<=4:=by
  intro L l n e hn hL;have e0:l=L.take n:=by rw [e];simp
  rw [e0];exact ⟨by rw [yS];omega,fun x hx=>hL x (List.mem_of_mem_take hx)⟩
 have t1:=tk e1 a4.1 a9;have t2:=tk e2 a5.1 a10;have t3:=tk e3 a6.1 a11;clear tk;refine .bd (.app (by simp only [yQ];omega)) fun r1 k1=>.bd (.app (by simp only [yQ];omega)) fun r2 k2=>.bd (.app (by simp only [yQ];omega)) fun r3 k3=>.mk ⟨h1,?_,h3⟩;rw [FC] at k1 k2 k3;subst k1 k2 k3;exact ⟨a1,a2,a3,by dsimp only;omega,by dsimp only;omega,by dsimp only;omega,a7,a8,t1.2,t2.2,t3.2⟩
theorem YR {fu:Nat}(ih:Kbo fu):Klo (fu+1):=by
 intro M T j hM hl hT hj hf;show kS (Bf fu (lG fu) (mD fu) (mK fu) (xS M) T _) _;unfold Bf;obtain ⟨c1,c2,c3,c4,c5,c6,c7⟩:=id hM;refine .bp (NK (M:=xS M) (by omega) c6.1 (by show M.g<=30;omega)) fun s M1 h1=>?_;obtain ⟨h1,rfl⟩:=h1;have n1:=c3.1;have n2:=c4.1;have n3:=c5.1;refine .bd (.app (by show M.c.length+1<=_;omega)) fun r hr=>.bd (wW h1) fun v hv=>.bp (pY hT (by decide) (by decide)) fun k T1 h2=>?_;rw [lZ (n:=1+k) (by omega) (by omega)];refine .bd (Ev ⟨by omega,by omega⟩) fun lt hlt=>?_;have hR:Mr M ⟨(xS M).f,(xS M).e,(xS M).a,r,(xS M).d,(xS M).b,(xS M).g+1,(xS M).h⟩:=by subst hr;exact ⟨rfl,rfl,rfl,⟨by dsimp only [xS];rw [kY];omega,by dsimp only [xS];rw [I7];omega⟩,⟨Nat.le_refl _,by dsimp only [xS];omega⟩,⟨Nat.le_refl _,by dsimp only [xS];omega⟩,⟨by dsimp only [xS];omega,by dsimp only [xS];omega⟩,by dsimp only [xS];omega,ow c3.2 h1,c4.2,c5.2⟩
 refine .bp (ih.at' (j:=j) (most:=4) (hR.mp hM) h2.2 (by omega) (by omega) (by omega) (by rw [lZ (by omega) (by omega)];omega) rfl) fun l r hr=>.pp hr fun M' T' hr=>?_;refine .bd (wW h1) fun v2 hv2=>.bd (wW h1) fun v3 hv3=>.bd (Ev (by decide)) fun lo hlo=>?_;refine .bd (.app (by have:=hr.1.1;simp only [uN,yQ];omega)) fun r2 hr2=>.mk ⟨⟨nJ _,?_⟩,hR.trans hr.2.1,hr.2.2⟩;have hr2':r2.length<=9/\∀ y ∈ r2,GS (j+1) y:=by subst hr2;refine ⟨by rw [kY];have:=hr.1.1;omega,ow hr.1.2 ?_⟩;exact GS.mk b0 b0 b0 z9 (len1 (hv2.mono (by decide)) (by decide)) (len1 ((GE.mk2 (uS _) (uS _) hv3 hlo).mono (by decide)) (by decide)) mY mY
 intro y hy;simp only [qz,BP,or_false] at hy;rcases hy with hy | hy <;> subst hy
 · exact GS.mk h1 b0 b0 z9 mY mY mY mY
 · exact GS.mk b0 b0 b0 z9 mY (len1 ((GE.mk2 (uS _) (uS _) hv hlt).mono (by decide)) (by decide)) hr2' mY
def SL (b k:Nat)(M:lM)(r:Int × List jB × Int × Int × List Int × Int × Int × List Int × Int × List ByteArray × List ByteArray × List ByteArray):Prop:=jy r fun _ r=>jy r fun o r=>jy r fun f r=>jy r fun fn r=>jy r fun pr r=>jy r fun c r=>jy r fun l r=>jy r fun tl r=>jy r fun ta r=>jy r fun s r=>jy r fun p a=>(o.length<=b/\∀ y ∈ o,GS k y)/\Mr M ⟨f,fn,pr,s,p,a,c,l⟩/\TQ ⟨tl,ta⟩
theorem abC {k i:Nat}{out:List jB}{x:jB}(h:out.length<=2 * i/\∀ y ∈ out,GS k y)(hx:GS k x):(out ++ [x]).length<=2 * (i+1)/\∀ y ∈ out ++ [x],GS k y:=⟨by rw [kY];omega,ow h.2 hx⟩
theorem E8 {fu:Nat}(hb:Kbo fu)(hl:Klo fu){j most:Nat}(hj:j≤3)(hm:most≤10)(hf:4 * j+27≤fu){M0:lM}(hM0:MP M0){O:List jB × lM × jL→Prop}:∀ (n i:Nat)(out:List jB)(M:lM)(T:jL),Mr M0 M→TQ T→(out.length≤2 * i∧∀ y ∈ out,GS (j+1) y)→i≤most→most+1≤n+i→
  kS (lW fu (lG fu) (mD fu) (mK fu) (4 - j) most n i out M.f M.e M.a M.g M.h T.l T.a M.c M.d M.b) (pG (SL (2 * most) (j+1) M0) O)
 | 0,_,_,_,_,_,_,_,h,h2=>by omega
 | n+1,i,out,M,T,hR,hT,ho,hi,hn=>by
  have hM:=hR.mp hM0;have fin:kS (some (Ld.go (ρ:=List jB × lM × jL) ((i:Int),out,M.f,M.e,M.a,M.g,M.h,T.l,T.a,M.c,M.d,M.b))) (pG (SL (2 * most) (j+1) M0) O):=.go ⟨Xq ho (by omega),hR,hT⟩;rw [lW];refine .ite (fun c=>?_) fun _=>fin;refine .ite (fun hleft=>?_) fun _=>fin;refine .bd ZA fun b _=>.ite (fun _=>?_) fun _=>fin;clear fin;have hlo:=hM.c;have hl0:=hM.l;have olen:out.length<=20:=by omega
  rw [lZ (n:=(i:Int)+1) (by omega) (by omega),lZ (n:=M.h - 1) (by omega) (by omega)];have hd:=Mr.dn hM hleft;have hdn:=hd.mp hM;have go:∀ (x:jB)(M':lM)(T':jL),GS (j+1) x->Mr M M'->TQ T'->kS ((app out [x]).bind fun r=>lW fu (lG fu) (mD fu) (mK fu) (4 - j) most n ((i:Int)+1) r M'.f M'.e M'.a M'.g M'.h T'.l T'.a M'.c M'.d M'.b) (pG (SL (2 * most) (j+1) M0) O):=fun x M' T' hx k1 k2=>.bd (.app (by simp only [uN,yQ];omega)) fun r hr=>by subst hr;exact E8 hb hl hj hm hf hM0 n (i+1) _ M' T' (hR.trans k1) k2 (abC ho hx) (by omega) (by omega)
  refine .bp (pY hT (by decide) (by decide)) fun k T1 h1=>?_;have hJ1:kS (xK fu (lG fu) (mD fu) (mK fu) M.g k) (pG (fun _=>True) O):=by unfold xK;exact .ite (fun _=>.go kJ) fun _=>.go kJ
  refine .EF hJ1 fun b _=>.ite (fun _=>?_) fun _=>?_
  · exact .bp (TF (by omega) hM hleft h1.2) fun x r hx=>.pp hx fun M' T' hx=>go x M' T' (hx.1.mono (by omega)) hx.2.1 hx.2.2
  have hJ2:kS (yP fu (lG fu) (mD fu) (mK fu) (4 - j) k) (pG (fun b=>b=true->1<=j) O):=by unfold yP;exact .ite (fun _=>.go fun z=>by have:=Dy z;omega) fun _=>.go fun z=>(by cases z)
  refine .EF hJ2 fun b hz=>.ite (fun z=>?_) fun _=>?_
  · obtain ⟨j,rfl⟩:∃ j',j=j'+1:=⟨j - 1,by have:=hz z;omega⟩;refine .bp (Er (M:=xS M) (by omega) hdn h1.2 (by decide) (by decide)) fun x r hx=>.pp hx fun M1 T2 hx=>?_;obtain ⟨hx1,rfl,hx3⟩:=hx;refine .bp (hb.at' (j:=j) (most:=4) hdn hx3 (by omega) (by omega) (by omega) (by rw [lZ (by omega) (by omega)];omega) rfl) fun l r hr=>.pp hr fun M2 T3 hr=>?_;obtain ⟨hl1,hr2,hT3⟩:=hr;have hJ3:kS (yc fu (lG fu) (mD fu) (mK fu) (4 - (j+1:Nat)) M2 T3) (pG (fun r=>jy r fun o r=>jy r fun f r=>jy r fun fn r=>jy r fun pr r=>jy r fun c r=>jy r fun l r=>jy r fun tl r=>jy r fun ta r=>jy r fun s r=>jy r fun p a=>(o.length<=9/\∀ y ∈ o,GS (j+1) y)/\Mr M ⟨f,fn,pr,s,p,a,c,l⟩/\TQ ⟨tl,ta⟩) O):=by unfold yc;refine .bp (pY hT3 (by decide) (by decide)) fun v T4 h4=>.ite (fun _=>?_) fun _=>.go ⟨mY,hd.trans hr2,h4.2⟩;exact .bp (hb.at' (j:=j) (most:=3) (hr2.mp hdn) h4.2 (by omega) (by omega) (by omega) (by rw [lZ (by omega) (by omega)];omega) rfl) fun l r hr=>.pp hr fun M3 T5 hr=>.go ⟨Xq hr.1 (by decide),(hd.trans hr2).trans hr.2.1,hr.2.2⟩
    refine .EF hJ3 fun r hr=>.pp hr fun o r hr=>.pp hr fun b1 r hr=>.pp hr fun b2 r hr=>.pp hr fun b3 r hr=>.pp hr fun b4 r hr=>.pp hr fun b5 r hr=>.pp hr fun b6 r hr=>.pp hr fun b7 r hr=>.pp hr fun b8 r hr=>.pp hr fun b9 b10 hr=>?_;exact go _ ⟨b1,b2,b3,b8,b9,b10,b4,b5⟩ ⟨b6,b7⟩ (GS.mk b0 b0 b0 z9 mY (len1 hx1 (by decide)) (Xq hl1 (by decide)) hr.1) hr.2.1 hr.2.2
  have hJ4:kS (yu fu (lG fu) (mD fu) (mK fu) (4 - j) M.g k) (pG (fun b=>b=true->1<=j) O):=by unfold yu;exact .ite (fun _=>.ite (fun _=>.go fun z=>by omega) fun _=>.go fun z=>(by cases z)) fun _=>.go fun z=>(by cases z)
  refine .EF hJ4 fun b hz=>.ite (fun z=>?_) fun _=>?_
  · obtain ⟨j,rfl⟩:∃ j',j=j'+1:=⟨j - 1,by have:=hz z;omega⟩;refine .bp (hl M T1 j hM hleft h1.2 (by omega) (by omega)) fun l r hr=>.pp hr fun M2 T3 hr=>?_;refine .bd (.app (by have:=hr.1.1;omega)) fun r hr2=>?_;subst hr2;refine E8 hb hl hj hm hf hM0 n (i+1) _ M2 T3 (hR.trans hr.2.1) hr.2.2 ⟨by have:=hr.1.1;rw [Hf];omega,fun y hy=>?_⟩ (by omega) (by omega);rcases rX.1 hy with hy | hy
    · exact ho.2 y hy
    · exact hr.1.2 y hy
  have hJ5:kS (xH fu (lG fu) (mD fu) (mK fu) (4 - j) M.g k) (pG (fun b=>b=true->1<=j) O):=by unfold xH;exact .ite (fun _=>.ite (fun _=>.go fun z=>by omega) fun _=>.go fun z=>(by cases z)) fun _=>.go fun z=>(by cases z)
  refine .EF hJ5 fun b hz=>.ite (fun z=>?_) fun _=>?_
  · obtain ⟨j,rfl⟩:∃ j',j=j'+1:=⟨j - 1,by have:=hz z;omega⟩;refine .bp (hb.at' (M:=xS M) (j:=j) (most:=4) hdn h1.2 (by omega) (by omega) (by omega) (by rw [lZ (by omega) (by omega)];omega) rfl) fun l r hr=>.pp hr fun M2 T3 hr=>?_;obtain ⟨hl1,hr2,hT3⟩:=hr;obtain ⟨a1,a2,a3,a4,a5,a6,a7,a8,a9,a10,a11⟩:=id hr2;dsimp only [xS] at a4 a5 a6 a7;obtain ⟨c1,c2,c3,c4,c5,c6,c7⟩:=id hM;refine .bp (NK (by omega) (by omega) (by omega)) fun s M3 h3=>?_;obtain ⟨h3,rfl⟩:=h3;dsimp only;refine .bd (.app (by simp only [uN,yQ];omega)) fun r hr=>?_;have hR4:Mr M ⟨M2.f,M2.e,M2.a,r,M2.d,M2.b,M2.g+1,M2.h⟩:=by subst hr;exact ⟨a1,a2,a3,⟨by dsimp only;rw [kY];omega,by dsimp only;rw [I7];omega⟩,by dsimp only;omega,by dsimp only;omega,by dsimp only;omega,a8,ow a9 h3,a10,a11⟩
    refine .bp (hb.at' (j:=j) (most:=3) (hR4.mp hM) hT3 (by omega) (by omega) (by omega) (by rw [lZ (by omega) (by omega)];omega) rfl) fun l2 r2 hr5=>.pp hr5 fun M5 T5 hr5=>?_;obtain ⟨hl5,hR5,hT5⟩:=hr5;obtain ⟨e1,e2,e3,e4,e5,e6,e7,e8,e9,e10,e11⟩:=id hR5;dsimp only at e1 e2 e3 e4 e5 e6 e7;have hrl:r.length=M2.c.length+1:=by rw [hr,kY]
    rw [lZ (by omega) (by omega)];refine .bd (.sl ⟨wC _,by omega,by omega⟩) fun l3 hl3=>.bd (.app (by
      rw [hl3];simp only [yQ,yS,FR];omega)) fun r3 hr3=>?_
    have hq:r3=M5.c.take (M5.c.length - 1):=by
      rw [hr3,hl3,FC];have:((M5.c.length:Int) - 1 - 0).toNat=M5.c.length - 1:=by omega
      rw [this];simp
    have hq2:r3.length=M5.c.length - 1:=by rw [hq,yS];omega
    exact go _ ⟨M5.f,M5.e,M5.a,r3,M5.d,M5.b,M5.g,M5.h⟩ T5 (GS.mk h3 b0 b0 z9 mY mY (Xq hl1 (by decide)) (Xq hl5 (by decide))) ⟨e1.trans a1,e2.trans a2,e3.trans a3,by dsimp only;omega,by dsimp only;omega,by dsimp only;omega,by dsimp only;omega,e8,fun x hx=>e9 x (by rw [hq] at hx;exact List.mem_of_mem_take hx),e10,e11⟩ hT5
  refine .ite (fun _=>?_) fun _=>?_
  · refine .bp (Er (M:=xS M) (by omega) hdn h1.2 (by decide) (by decide)) fun x r hx=>.pp hx fun M1 T2 hx=>?_;obtain ⟨hx1,rfl,hx3⟩:=hx;exact go _ (xS M) T2 (GS.mk b0 b0 b0 z9 mY (len1 hx1 (by decide)) mY mY) hd hx3
  have hJ6:kS (xM fu (lG fu) (mD fu) (mK fu) k T1) (pG (fun r=>jy r fun _ r=>jy r fun l a=>TQ ⟨l,a⟩) O):=by unfold xM;exact .ite (fun _=>.bp (pY h1.2 (by decide) (by decide)) fun v T2 h2=>.go h2.2) fun _=>.go h1.2
  refine .EF hJ6 fun r hr=>.pp hr fun b r hr=>.pp hr fun tl ta hT2=>.ite (fun _=>?_) fun _=>?_
  · have hJ8:kS (yB fu (lG fu) (mD fu) (mK fu) M.f M.e M.a M.g M.h M.c M.d M.b tl ta) (pG (fun r=>jy r fun b r=>jy r fun ar r=>jy r fun kd r=>jy r fun ln r=>jy r fun id r=>jy r fun nm r=>jy r fun ty r=>jy r fun le r=>jy r fun vr r=>jy r fun tg r=>jy r fun fn r=>jy r fun ca r=>jy r fun bo r=>jy r fun el r=>jy r fun tl r=>jy r fun ta r=>jy r fun m1 r=>jy r fun m2 r=>jy r fun m3 r=>jy r fun m4 r=>jy r fun m5 r=>jy r fun m6 r=>jy r fun m7 m8=>GS 1 ⟨kd,ln,id,nm,ty,le,vr,tg,fn,ca,ar,bo,el⟩/\TQ ⟨tl,ta⟩/\(⟨m1,m2,m3,m6,m7,m8,m4,m5⟩:lM)=xS M) O):=by unfold yB;rw [lZ (n:=M.h - 1) (by omega) (by omega)];refine .bp (pY hT2 (by decide) (by decide)) fun v T2 h2=>.ite (fun _=>.go ⟨GS.nil,h2.2,rfl⟩) fun _=>?_;exact .bp (g_call (M:=xS M) (by omega) hdn h2.2 GS.nil rfl) fun b r hr=>.pp hr fun M' r hr=>.pp hr fun T2 x hr=>.go ⟨hr.2.2,hr.2.1,hr.1⟩
    have hJ7:kS (xO fu (lG fu) (mD fu) (mK fu) M.f M.e M.a M.g M.h M.c M.d M.b tl ta) (pG (fun r=>jy r fun ar r=>jy r fun kd r=>jy r fun ln r=>jy r fun id r=>jy r fun nm r=>jy r fun ty r=>jy r fun le r=>jy r fun vr r=>jy r fun tg r=>jy r fun fn r=>jy r fun ca r=>jy r fun bo r=>jy r fun el r=>jy r fun tl r=>jy r fun ta r=>jy r fun m1 r=>jy r fun m2 r=>jy r fun m3 r=>jy r fun m4 r=>jy r fun m5 r=>jy r fun m6 r=>jy r fun m7 m8=>GS 1 ⟨kd,ln,id,nm,ty,le,vr,tg,fn,ca,ar,bo,el⟩/\TQ ⟨tl,ta⟩/\(⟨m1,m2,m3,m6,m7,m8,m4,m5⟩:lM)=xS M) O):=by unfold xO;refine .EF hJ8 fun r hr=>.pp hr fun b r hr=>.pp hr fun ar r hr=>.pp hr fun kd r hr=>.pp hr fun ln r hr=>.pp hr fun id r hr=>.pp hr fun nm r hr=>.pp hr fun ty r hr=>.pp hr fun le r hr=>.pp hr fun vr r hr=>.pp hr fun tg r hr=>.pp hr fun fn r hr=>.pp hr fun ca r hr=>.pp hr fun bo r hr=>.pp hr fun el r hr=>.pp hr fun tl r hr=>.pp hr fun ta r hr=>.pp hr fun m1 r hr=>.pp hr fun m2 r hr=>.pp hr fun m3 r hr=>.pp hr fun m4 r hr=>.pp hr fun m5 r hr=>.pp hr fun m6 r hr=>.pp hr fun m7 m8 hr=>?_;refine .ite (fun _=>?_) fun _=>.go hr;rw [hr.2.2];exact .bp (Er (by omega) hdn hr.2.1 (by decide) (by decide)) fun x r hx=>.pp hx fun M1 T2 hx=>.go ⟨GS.mk b0 b0 b0 z9 mY (len1 hx.1 (by decide)) mY mY,hx.2.2,hx.2.1⟩
    refine .EF hJ7 fun r hr=>.pp hr fun ar r hr=>.pp hr fun kd r hr=>.pp hr fun ln r hr=>.pp hr fun id r hr=>.pp hr fun nm r hr=>.pp hr fun ty r hr=>.pp hr fun le r hr=>.pp hr fun vr r hr=>.pp hr fun tg r hr=>.pp hr fun fn r hr=>.pp hr fun ca r hr=>.pp hr fun bo r hr=>.pp hr fun el r hr=>.pp hr fun tl r hr=>.pp hr fun ta r hr=>.pp hr fun m1 r hr=>.pp hr fun m2 r hr=>.pp hr fun m3 r hr=>.pp hr fun m4 r hr=>.pp hr fun m5 r hr=>.pp hr fun m6 r hr=>.pp hr fun m7 m8 hr=>?_;exact go _ ⟨m1,m2,m3,m6,m7,m8,m4,m5⟩ ⟨tl,ta⟩ (hr.1.mono (by omega)) (by rw [hr.2.2];exact hd) hr.2.1
  have hJ9:kS (yt fu (lG fu) (mD fu) (mK fu) k tl ta) (pG (fun r=>jy r fun _ r=>jy r fun l a=>TQ ⟨l,a⟩) O):=by unfold yt;exact .ite (fun _=>.bp (pY hT2 (by decide) (by decide)) fun v T2 h2=>.go h2.2) fun _=>.go hT2
  refine .EF hJ9 fun r hr=>.pp hr fun b r hr=>.pp hr fun tl ta hT3=>.ite (fun _=>?_) fun _=>?_
  · refine .bp (Er (M:=xS M) (by omega) hdn hT3 (by decide) (by decide)) fun x r hx=>.pp hx fun M1 T2 hx=>?_;obtain ⟨hx1,rfl,hx3⟩:=hx;exact go _ (xS M) T2 (GS.mk b0 b0 b0 z9 mY (len1 hx1 (by decide)) mY mY) hd hx3
  have hJ10:kS (wP fu (lG fu) (mD fu) (mK fu) (4 - j) k tl ta) (pG (fun r=>jy r fun b r=>jy r fun l a=>(b=true->1<=j)/\TQ ⟨l,a⟩) O):=by unfold wP;refine .ite (fun _=>.bp (pY hT3 (by decide) (by decide)) fun v T2 h2=>.ite (fun _=>.go ⟨fun z=>by have:=Dy z;omega,h2.2⟩) fun _=>.go ⟨fun z=>(by cases z),h2.2⟩) fun _=>.go ⟨fun z=>(by cases z),hT3⟩
  refine .EF hJ10 fun r hr=>.pp hr fun b r hr=>.pp hr fun tl ta hr=>.ite (fun z=>?_) fun _=>?_
  · obtain ⟨hz,hT4⟩:=hr;obtain ⟨j,rfl⟩:∃ j',j=j'+1:=⟨j - 1,by have:=hz z;omega⟩;refine .bp (Er (M:=xS M) (by omega) hdn hT4 (by decide) (by decide)) fun x r hx=>.pp hx fun M1 T2 hx=>?_;obtain ⟨hx1,rfl,hx3⟩:=hx;refine .bp (hb.at' (j:=j) (most:=3) hdn hx3 (by omega) (by omega) (by omega) (by rw [lZ (by omega) (by omega)];omega) rfl) fun l r hr=>.pp hr fun M2 T3 hr=>?_;exact go _ M2 T3 (GS.mk b0 b0 b0 z9 mY (len1 hx1 (by decide)) (Xq hr.1 (by decide)) mY) (hd.trans hr.2.1) hr.2.2
  · refine .bp (Vd (M:=xS M) (by omega) hdn hr.2) fun x r hx=>.pp hx fun M1 T2 hx=>?_;obtain ⟨hx1,rfl,hx3⟩:=hx;exact go x (xS M) T2 (hx1.mono (by omega)) hd hx3
theorem OI:∀ (fu:Nat),Kst fu∧Kbo fu∧Klo fu
 | 0=>⟨fun _ _ _ _ _ _ _ _ h=>by omega,fun _ _ _ _ _ _ _ _ h=>by omega,fun _ _ _ _ _ _ _ h=>by omega⟩
 | fu+1=>by have ih:=OI fu;refine ⟨?_,Z7 ih.1,YR ih.2.1⟩;intro M T j most hM hT hj hm hf;show kS (zO fu (lG fu) (mD fu) (mK fu) M T _ _) _;unfold zO;refine .el (E8 ih.2.1 ih.2.2 hj hm (by omega) hM (O:=fun _=>False) fu 0 [] M T (Mr.rfl' hM) hT mY (by omega) (by omega)) (fun r hr=>?_) fun _ z=>z.elim;exact .pp hr fun b1 r hr=>.pp hr fun b1 r hr=>.pp hr fun b1 r hr=>.pp hr fun b1 r hr=>.pp hr fun b1 r hr=>.pp hr fun b1 r hr=>.pp hr fun b1 r hr=>.pp hr fun b1 r hr=>.pp hr fun b1 r hr=>.pp hr fun b1 r hr=>.pp hr fun b1 b2 hr=>.mk hr
theorem RB {fu:Nat}(hf:40<=fu){M:lM}{T:jL}(hM:MP M)(hT:TQ T){most:Nat}(hm:most<=10):kS (lG fu M T 1 most) (SP (2 * most) 4 M):=(OI fu).1 M T 3 most hM hT (by decide) hm (by omega)
structure GF (f:kV):Prop where
 name:f.b.size<=4
 a:f.a.length<=4/\∀ x ∈ f.a,x.size<=4
 body:f.e.length<=22/\∀ y ∈ f.e,GS 4 y
structure GPr (p:jV):Prop where
 recs:p.a=[⟨⟨#[80]⟩,[⟨#[120]⟩,⟨#[121]⟩]⟩]
 e:1<=p.b.length/\p.b.length<=4
 el:∀ f ∈ p.b,GF f
theorem TA:∀ x ∈ ([(⟨#[97]⟩:ByteArray),(⟨#[98]⟩:ByteArray),(⟨#[99]⟩:ByteArray),(⟨#[100]⟩:ByteArray)]:List ByteArray),x.size<=4:=by intro x hx;simp only [qz,BP,or_false] at hx;rcases hx with rfl | rfl | rfl | rfl <;> decide
theorem Xz {k:Nat}(x:ByteArray)(h:([(⟨#[102]⟩:ByteArray),(⟨#[103]⟩:ByteArray),(⟨#[104]⟩:ByteArray),(⟨#[107]⟩:ByteArray)]:List ByteArray)[k]?=some x):x.size<=4:=LP x (zn h)
theorem GZ {fu:Nat}(hf:40≤fu){a b c d:Int}(ha:0≤a∧a < 4)(hb:0≤b∧b < 3)(hc:0≤c∧c < 4)(hd:0≤d∧d < 5){O:jV→Prop}:∀ (n i:Nat)(out:List kV)(T:jL),TQ T→out.length=i→(i:Int)≤1+a→6≤n+i→(∀ f ∈ out,GF f)→
  kS (qP fu a b c d n i out T.l T.a) (pG (fun r=>jy r fun _ r=>jy r fun o r=>jy r fun _ _=>(1<=o.length/\o.length<=4)/\∀ f ∈ o,GF f) O)
 | 0,i,out,T,hT,h1,h2,h3,h4=>by omega
 | n+1,i,out,T,hT,h1,h2,h3,h4=>by
  rw [qP,lZ (n:=1+a) (by omega) (by omega)];refine .ite (fun k=>?_) fun k=>.go ⟨by omega,h4⟩;have hps:([2,b,c,d]:List Int).length=4/\∀ p ∈ ([2,b,c,d]:List Int),0<=p/\p<=4:=⟨rfl,fun p hp=>by
   simp only [qz,BP,or_false] at hp;omega⟩
  refine .bd (.ix (by omega) (by rw [hps.1];omega)) fun p hp=>?_;have hp4:=hps.2 p (zn hp);refine .bd (.ix (by omega) (by simp only [uN,yQ];omega)) fun nm hnm=>?_;refine .bd (.sl ⟨wC _,hp4.1,by simp only [uN,yQ];omega⟩) fun l hl=>?_;have hll:l.length<=4/\∀ x ∈ l,x.size<=4:=by subst hl;exact ⟨by rw [yS];omega,fun x hx=>TA x (List.mem_of_mem_drop (List.mem_of_mem_take hx))⟩
  refine .bd (.app (by simp only [yQ];omega)) fun r hr=>?_;rw [FC] at hr;subst hr;have hJ1:kS (vN fu i) (pG (fun s=>s=6\/s=10) O):=by unfold vN;exact .ite (fun _=>.go (.inl rfl)) fun _=>.go (.inr rfl)
  refine .EF hJ1 fun s hs=>?_;have hM:MP ⟨(i:Int),1+a,[2,b,c,d],r,[],[],0,22⟩:=⟨hps,by dsimp only;omega,⟨by dsimp only;omega,hll.2⟩,⟨(by decide:(0:Int)+22<=40),fun x hx=>(by cases hx)⟩,⟨(by decide:(0:Int)+22<=40),fun x hx=>(by cases hx)⟩,(by decide:(0:Int)<=0/\(0:Int)+22<=22),(by decide:(0:Int)<=22)⟩;have hS:kS (lG fu ⟨(i:Int),1+a,[2,b,c,d],r,[],[],0,22⟩ T 1 s) (SP 20 4 ⟨(i:Int),1+a,[2,b,c,d],r,[],[],0,22⟩):=by
   rcases hs with rfl | rfl
   · exact (RB hf hM hT (most:=6) (by decide)).imp fun v hv=>⟨Xq hv.1 (by decide),hv.2⟩
   · exact RB hf hM hT (most:=10) (by decide)
  refine .bp hS fun bo q hq=>.pp hq fun M' T' hq=>?_;obtain ⟨hq1,hq2,hq3⟩:=hq;have hM':=hq2.mp hM;have hJ2:kS (vO fu bo M' T') (pG (fun r=>jy r fun o r=>jy r fun l a=>(o.length<=21/\∀ y ∈ o,GS 4 y)/\TQ ⟨l,a⟩) O):=by unfold vO;have k1:=hM'.ns.1;have k2:=hM'.l;refine .ite (fun c=>?_) fun _=>.go ⟨Xq hq1 (by decide),hq3⟩;refine .bp (pY hq3 (by decide) (by decide)) fun v T2 h2=>.ite (fun _=>?_) fun _=>.go ⟨Xq hq1 (by decide),h2.2⟩;refine DL h2.2 (by omega) (by omega) fun s T3 hs h3=>.bd (wW (hM'.ns.2 s hs)) fun x hx=>?_;refine .bd (.app (by have:=hq1.1;simp only [uN,yQ];omega)) fun r hr=>.go ⟨?_,h3⟩;subst hr;exact ⟨by rw [kY];have:=hq1.1;omega,ow hq1.2 (GS.mk b0 b0 b0 z9 mY (len1 (hx.mono (by decide)) (by decide)) mY mY)⟩
  refine .EF hJ2 fun r2 hr=>.pp hr fun o r2 hr=>.pp hr fun tl ta hr=>?_;refine .bd (.app (by have:=hr.1.1;simp only [uN,yQ];omega)) fun r84 hr84=>.bd (.app (by simp only [uN,yQ];omega)) fun r90 hr90=>?_;subst hr84 hr90;rw [lZ (by omega) (by omega)];refine GZ hf ha hb hc hd n (i+1) _ ⟨tl,ta⟩ hr.2 (by rw [kY];omega) (by omega) (by omega) (ow h4 ⟨Xz nm hnm,hll,?_⟩);exact ⟨by dsimp only;rw [kY];have:=hr.1.1;omega,ow hr.1.2 (GS.nil.mono (by decide))⟩
theorem SK {fu:Nat}(hf:40<=fu){l:List Int}(hl:l.length<=1000):kS (wH fu l) GPr:=by unfold wH;refine .bp (pY (T:=⟨l,0⟩) ⟨Int.le_refl _,by dsimp only;omega,hl⟩ (by decide) (by decide)) fun a T1 h1=>.bp (pY h1.2 (by decide) (by decide)) fun b T2 h2=>.bp (pY h2.2 (by decide) (by decide)) fun c T3 h3=>.bp (pY h3.2 (by decide) (by decide)) fun d T4 h4=>?_;refine .el (GZ hf h1.1 h2.1 h3.1 h4.1 (O:=fun _=>False) fu 0 [] T4 h4.2 rfl (by omega) (by omega) fun f hf=>(by cases hf)) (fun r hr=>?_) fun _ z=>z.elim;exact .pp hr fun _ r hr=>.pp hr fun o r hr=>.pp hr fun _ _ hr=>.mk ⟨rfl,hr.1,hr.2⟩
theorem Xp {fu:Nat}{l:List Int}:kS (zN fu l) (fun r=>r.length<=200):=by unfold zN;refine .ite (fun c=>.bd (.sl ⟨by decide,by decide,by omega⟩) fun r hr=>.mk ?_) fun c=>.mk (by omega);rw [hr,yS];omega
end Go.Proofs.YtdkneekpdecjbaaGreat
namespace Go.Fw
open Go.RowKit
theorem kS.cl {α:Type}{P:α->Prop}{s t:ByteArray}{f:ByteArray->Option α}(n:Nat)(h:t.size=n)(hs:s.size+n<=1000000000)(k:∀ r,r.size=s.size+n->kS (f r) P):kS ((Go.Fw.cat s t).bind f) P:=.bd (.cat (by omega)) fun r hr=>k r (by rw [hr,Ei,h])
theorem kS.cv {α:Type}{P:α->Prop}{s t:ByteArray}{f:ByteArray->Option α}(hs:s.size+t.size<=1000000000)(k:∀ r,r.size=s.size+t.size->kS (f r) P):kS ((Go.Fw.cat s t).bind f) P:=.bd (.cat hs) fun r hr=>k r (by rw [hr,Ei])
theorem kS.cr {α:Type}{P:α->Prop}{s t:ByteArray}{f:ByteArray->Option α}(n:Nat)(h:s.size=n)(hs:n+t.size<=1000000000)(k:∀ r,r.size=n+t.size->kS (f r) P):kS ((Go.Fw.cat s t).bind f) P:=.bd (.cat (by omega)) fun r hr=>k r (by rw [hr,Ei,h])
end Go.Fw
namespace Go.Proofs.YtdkneekpdecjbaaGreat
open Go.RowKit Go.Fw Go.Proofs.Tryz
def EB:Nat→Nat
 | 0=>6
 | d+1=>2 * EB d+8
theorem EB.lo:∀ d,6≤EB d∧EB d+8≤14 * 2 ^ d
 | 0=>by decide
 | d+1=>by have h:=EB.lo d;have e:EB (d+1)=2 * EB d+8:=rfl;have:1<=2 ^ d:=Nat.one_le_two_pow;rw [Nat.pow_succ];omega
theorem aam {fu:Nat}{op:Int}:kS (Bp fu op) (fun r=>(1<=r/\r<=6)/\(r=5->4<=op/\op<=5)/\(r < 5->6<=op/\op<=17)):=by
 unfold Bp;have hJ0:kS (zA fu op) (pG (fun b=>b=true->14<=op/\op<=17) (fun _=>False)):=by unfold zA;refine .ite (fun _=>.go fun _=>by omega) fun _=>.ite (fun _=>.go fun _=>by omega) fun _=>.ite (fun _=>.go fun _=>by omega) fun _=>.go fun z=>by have:=Dy z;omega
 have hJ1:kS (zu fu op) (pG (fun b=>b=true->11<=op/\op<=13) (fun _=>False)):=by unfold zu;refine .ite (fun _=>.go fun _=>by omega) fun _=>.ite (fun _=>.go fun _=>by omega) fun _=>.go fun z=>by have:=Dy z;omega
 have hJ2:kS (zl fu op) (pG (fun b=>b=true->6<=op/\op<=7) (fun _=>False)):=by unfold zl;refine .ite (fun _=>.go fun _=>by omega) fun _=>.go fun z=>by have:=Dy z;omega
 refine .el hJ0 (fun b hb=>.ite (fun z=>.mk (by have:=hb z;omega)) fun _=>?_) fun _ z=>z.elim;refine .el hJ1 (fun b hb=>.ite (fun z=>.mk (by have:=hb z;omega)) fun _=>?_) fun _ z=>z.elim;refine .el hJ2 (fun b hb=>.ite (fun z=>.mk (by have:=hb z;omega)) fun _=>?_) fun _ z=>z.elim;refine .ite (fun _=>.mk (by omega)) fun _=>.ite (fun _=>.mk (by omega)) fun _=>.ite (fun _=>.mk (by omega)) fun _=>.ite (fun _=>.mk (by omega)) fun _=>.ite (fun _=>.mk (by omega)) fun _=>.mk (by omega)
theorem WX:∀ x ∈ ([(⟨#[43]⟩:ByteArray),(⟨#[45]⟩:ByteArray),(⟨#[42]⟩:ByteArray),(⟨#[47]⟩:ByteArray),(⟨#[37]⟩:ByteArray),(⟨#[38]⟩:ByteArray),(⟨#[124]⟩:ByteArray),(⟨#[94]⟩:ByteArray),(⟨#[60]⟩:ByteArray),(⟨#[60,61]⟩:ByteArray),(⟨#[61,61]⟩:ByteArray),(⟨#[33,61]⟩:ByteArray)]:List ByteArray),x.size<=2:=by intro x hx;simp only [qz,BP,or_false] at hx;rcases hx with rfl | rfl | rfl | rfl | rfl | rfl | rfl | rfl | rfl | rfl | rfl | rfl <;> decide
theorem Ru:∀ x ∈ ([(⟨#[45]⟩:ByteArray),(⟨#[33]⟩:ByteArray)]:List ByteArray),x.size<=2:=by intro x hx;simp only [qz,BP,or_false] at hx;rcases hx with rfl | rfl <;> decide
theorem U4:∀ {d fu:Nat}{x:jA}{l:Int},GE d x→d≤5→d+19≤fu→kS (pQ fu x l) (fun s=>s.size≤EB d)
 | 0,_,_,_,h,_,_=>h.elim
 | d+1,0,_,_,_,_,h=>by omega
 | d+1,fu+1,x,l,h,hd,hf=>by
  show kS (Bv fu (pQ fu) x l) _;obtain ⟨⟨h1,h2,h3,h4⟩,h5,h6⟩:=h;have hE:EB (d+1)=2 * EB d+8:=rfl;have hlo:=EB.lo d;have hp:(2:Nat) ^ d<=2 ^ 5:=Nat.pow_le_pow_right (by decide) (by omega);have h32:(2:Nat) ^ 5=32:=by decide
  unfold Bv;refine .bd aam fun r hr=>?_;have sub:∀ {y:jA}{l:Int},y ∈ x.a->kS (pQ fu y l) (fun s=>s.size<=EB d):=fun hy=>U4 (h6 _ hy) (by omega) (by omega);have hJ:kS (zJ fu (pQ fu) x r) (pG (fun s=>s.size<=2 * EB d+6) (fun _=>False)):=by
   unfold zJ;refine .ite (fun _=>.bd (DY (d:=18) h3 (by omega) (by decide) (by decide) (by omega)) fun s hs=>.go (by omega)) fun _=>?_;refine .ite (fun _=>.cl 1 rfl (by omega) fun g e1=>.cv (by omega) fun g2 e2=>.go (by omega)) fun _=>?_;have hJ1:kS (zw fu (pQ fu) x) (pG (fun b=>b=true->0 < x.a.length) (fun _=>False)):=by unfold zw;exact .ite (fun _=>.go fun z=>by have:=Dy z;omega) fun _=>.go fun z=>(by cases z)
   refine .EF hJ1 fun b hb=>.ite (fun z=>?_) fun _=>?_
   · have:=hb z;refine .bd (.ix (by decide) (by omega)) fun y hy=>.cl 1 rfl (by omega) fun g e1=>.bd (sub (zn hy)) fun s hs=>.cv (by omega) fun g2 e2=>.cl 1 rfl (by omega) fun g3 e3=>.go (by omega)
   have hJ2:kS (zq fu (pQ fu) x r) (pG (fun b=>b=true->r=5/\0 < x.a.length) (fun _=>False)):=by unfold zq;exact .ite (fun _=>.go fun z=>by have:=Dy z;omega) fun _=>.go fun z=>(by cases z)
   refine .EF hJ2 fun b hb=>.ite (fun z=>?_) fun _=>?_
   · obtain ⟨q1,q2⟩:=hb z;have q3:=hr.2.1 q1;rw [lZ (by omega) (by omega)];exact .bd (.ix (by decide) (by omega)) fun y hy=>.bd (.ix (by omega) (by simp only [uN,yQ];omega)) fun n hn=>.bd (sub (zn hy)) fun s hs=>.cv (by have:=Ru n (zn hn);omega) fun g e=>.go (by have:=Ru n (zn hn);omega)
   refine .ite (fun q1=>.ite (fun q2=>?_) fun _=>.go (by omega)) fun _=>.go (by omega);have hJ3:kS (zm fu (pQ fu) r) (pG (fun _=>True) (fun _=>False)):=by unfold zm;exact .ite (fun _=>.go kJ) fun _=>.go kJ
   have q3:=hr.2.2 q1;refine .EF hJ3 fun lv _=>?_;rw [lZ (n:=x.e - 6) (by omega) (by omega)];refine .bd (.ix (by decide) (by omega)) fun y hy=>.bd (.ix (by decide) (by omega)) fun y' hy'=>.bd (.ix (by omega) (by simp only [uN,yQ];omega)) fun n hn=>?_;have hn2:=WX n (zn hn);exact .bd (sub (zn hy)) fun s hs=>.cl 1 rfl (by omega) fun g e1=>.cv (by omega) fun g2 e2=>.cl 1 rfl (by omega) fun g3 e3=>.bd (sub (zn hy')) fun s' hs'=>.cv (by omega) fun g4 e4=>.go (by omega)
  refine .el hJ (fun s hs=>?_) fun _ z=>z.elim;exact .ite (fun _=>.cr 1 rfl (by omega) fun g e1=>.cl 1 rfl (by omega) fun g2 e2=>.mk (by omega)) fun _=>.mk (by omega)
theorem Rq {fu:Nat}(hf:30<=fu){x:jA}{l:Int}(h:GE 4 x):kS (pQ fu x l) (fun s=>s.size<=216):=U4 h (by decide) (by omega)
theorem LA {fu:Nat}(hf:30≤fu){O:ByteArray→Prop}:∀ (l:List jA)(k:Nat)(s:ByteArray),(∀ y ∈ l,GE 4 y)→s.size+l.length * 218≤1000000→kS (rW fu l k s) (pG (fun r=>r.size≤s.size+l.length * 218) O)
 | [],k,s,h,hs=>.go (by simp only [yQ];omega)
 | x :: l,k,s,h,hs=>by
  rw [rW];rw [uN] at hs ⊢;have hJ:kS (zI fu s k) (pG (fun r=>r.size<=s.size+2) O):=by unfold zI;exact .ite (fun _=>.cl 2 rfl (by omega) fun g e=>.go (by omega)) fun _=>.go (by omega)
  refine .EF hJ fun s2 h2=>.bd (Rq hf (h x (Az ..))) fun t ht=>.cv (by omega) fun g e=>?_;exact (LA hf l (k+1) g (fun y hy=>h y (yT _ hy)) (by omega)).imp fun v hv=>by
   cases v with
   | go r=>exact rA (show r.size<=_ from hv) (by omega)
   | out o=>exact hv
theorem Vb {fu:Nat}(hf:30<=fu){l:List jA}(h:l.length<=4/\∀ y ∈ l,GE 4 y):kS (y5 fu l) (fun r=>r.size<=872):=by unfold y5;have h0:(⟨#[]⟩:ByteArray).size=0:=rfl;exact .el (LA hf l 0 _ h.2 (O:=fun _=>False) (by omega)) (fun s hs=>.mk (by omega)) fun _ z=>z.elim
theorem JM {fu:Nat}{O:ByteArray→Prop}:∀ (l:List ByteArray)(k:Nat)(s:ByteArray),(∀ y ∈ l,y.size≤4)→s.size+l.length * 6≤1000000→kS (oJ fu l k s) (pG (fun r=>r.size≤s.size+l.length * 6) O)
 | [],k,s,h,hs=>.go (by simp only [yQ];omega)
 | x :: l,k,s,h,hs=>by
  rw [oJ];rw [uN] at hs ⊢;have hx:=h x (Az ..);have go:∀ g:ByteArray,g.size<=s.size+6->kS (oJ fu l (k+1) g) (pG (fun r=>r.size<=s.size+(l.length+1) * 6) O):=fun g hg=>(JM l (k+1) g (fun y hy=>h y (yT _ hy)) (by omega)).imp fun v hv=>by
   cases v with
   | go r=>exact rA (show r.size<=_ from hv) (by omega)
   | out o=>exact hv
  exact .ite (fun _=>.cl 2 rfl (by omega) fun g e=>.cv (by omega) fun g2 e2=>go g2 (by omega)) fun _=>.cv (by omega) fun g2 e2=>go g2 (by omega)
theorem R7 {fu:Nat}{l:List ByteArray}(h:l.length<=4/\∀ y ∈ l,y.size<=4):kS (xw fu l) (fun r=>r.size<=24):=by unfold xw;have h0:(⟨#[]⟩:ByteArray).size=0:=rfl;exact .el (JM l 0 _ h.2 (O:=fun _=>False) (by omega)) (fun s hs=>.mk (by omega)) fun _ z=>z.elim
theorem XG {fu:Nat}(hf:30<=fu){k:Nat}{x:jB}(h:GS k x):kS (qd fu x) (fun r=>r.size<=878):=by
 obtain _ | k:=k
 · exact h.elim
 unfold qd;have h1:=h.1.2.2.1;exact .ite (fun _=>.cl 1 rfl (by omega) fun g e=>.bd (Vb hf h.2.2.1) fun s hs=>.cv (by omega) fun g2 e2=>.cl 1 rfl (by omega) fun g3 e3=>.mk (by omega)) fun _=>.bd (Vb hf h.2.2.1) fun s hs=>.mk (by omega)
def CB:Nat→Nat
 | 0=>0
 | k+1=>1200+18 * CB k
theorem RS:∀ {k fu:Nat}{l:List jB}{tb:ByteArray},k≤4→(∀ y ∈ l,GS k y)→l.length≤22→tb.size+k≤5→k+40≤fu→kS (ou fu l tb) (fun r=>r.size≤l.length * CB k)
 | _,0,_,_,_,_,_,_,h=>by omega
 | 0,fu+1,l,tb,_,h,_,_,_=>by
  cases l with
  | nil=>exact .mk (uS _)
  | cons x l=>exact (h x (Az ..)).elim
 | k+1,fu+1,l,tb,hk,h,hl,ht,hf=>by
  show kS (zX fu (ou fu) l tb) _;unfold zX;have hC:CB (k+1)=1200+18 * CB k:=rfl;have hC3:CB k<=411600:=by
   obtain _ | _ | _ | _ | k:=k
   · simp only [CB];decide
   · simp only [CB];decide
   · simp only [CB];decide
   · simp only [CB];decide
   · omega
  have hB:∀ {m:List jB}{u:ByteArray},(m.length<=9/\∀ y ∈ m,GS k y)->u.size=tb.size+1->kS (ou fu m u) (fun r=>r.size<=9 * CB k):=fun hm hu=>(RS (by omega) hm.2 (by omega) (by omega) (by omega)).imp fun r hr=>rA hr (Nat.mul_le_mul_right _ hm.1);have hL:∀ (l:List jB)(i:Nat)(s:ByteArray),(∀ y ∈ l,GS (k+1) y)->s.size+l.length * CB (k+1)<=500000000->kS (lK fu (ou fu) tb l i s) (pG (fun r=>r.size<=s.size+l.length * CB (k+1)) (fun _=>False)):=by
   intro l
   induction l with
   | nil=>intro i s _ hs;exact .go (by simp only [yQ];omega)
   | cons x l ih=>
     intro i s hy hs;rw [uN,Nat.succ_mul] at hs ⊢;have hx:=hy x (Az ..);have go:∀ g:ByteArray,g.size<=s.size+CB (k+1)->kS (lK fu (ou fu) tb l (i+1) g) (pG (fun r=>r.size<=s.size+(l.length * CB (k+1)+CB (k+1))) (fun _=>False)):=fun g hg=>(ih (i+1) g (fun y hy'=>hy y (yT _ hy')) (by omega)).imp fun v hv=>by
       cases v with
       | go r=>exact rA (show r.size<=_ from hv) (by omega)
       | out o=>exact hv
     have hv:kS (qd fu x) (fun r=>r.size<=878):=XG (by omega) hx;obtain ⟨⟨a1,a2,a3,a4,a5⟩,hx2,hx3,hx4,hx5⟩:=hx;rw [lK];have hJ1:kS (xP fu (ou fu) x) (pG (fun s=>s.size<=219) (fun _=>False)):=by unfold xP;exact .ite (fun _=>.bd (.ix (by decide) (by omega)) fun y hy=>.bd (Rq (by omega) (hx2.2 y (zn hy))) fun s hs=>.cl 3 rfl (by omega) fun g e=>.go (by omega)) fun _=>.go (uS _)
     refine .EF hJ1 fun tg htg=>.ite (fun _=>?_) fun _=>?_
     · have hJ2:kS (x9 fu (ou fu) x) (pG (fun s=>s.size<=4) (fun _=>False)):=by unfold x9;exact .ite (fun _=>.go (by decide)) fun _=>.go a2
       have hJ3:∀ u:ByteArray,u.size<=4->kS (yM fu (ou fu) x u) (pG (fun s=>s.size<=8) (fun _=>False)):=by intro u hu;unfold yM;exact .ite (fun _=>.bd (DY (d:=1) a4 (by omega) (by decide) (by decide) (by omega)) fun s hs=>.cr 4 rfl (by omega) fun g e=>.cl 1 rfl (by omega) fun g2 e2=>.go (by omega)) fun _=>.go (by omega)
       refine .EF hJ2 fun u hu=>.EF (hJ3 u hu) fun ty hty=>?_;exact .cv (by omega) fun g1 e1=>.cl 4 rfl (by omega) fun g2 e2=>.cv (by omega) fun g3 e3=>.cl 2 rfl (by omega) fun g4 e4=>.cv (by omega) fun g5 e5=>.cl 2 rfl (by omega) fun g6 e6=>go g6 (by omega)
     have hJ4:kS (yI fu (ou fu) x) (pG (fun _=>True) (fun _=>False)):=by unfold yI;exact .ite (fun _=>.go kJ) fun _=>.go kJ
     refine .EF hJ4 fun b _=>.ite (fun _=>?_) fun _=>.ite (fun _=>?_) fun _=>.ite (fun _=>?_) fun _=>.ite (fun _=>?_) fun _=>.ite (fun _=>?_) fun _=>.ite (fun _=>?_) fun _=>.ite (fun _=>?_) fun _=>go s (by omega)
     · exact .cv (by omega) fun g1 e1=>.cv (by omega) fun g2 e2=>.bd hv fun v k1=>.cv (by omega) fun g3 e3=>.cl 2 rfl (by omega) fun g4 e4=>go g4 (by omega)
     · exact .cv (by omega) fun g1 e1=>.cl 7 rfl (by omega) fun g2 e2=>.bd hv fun v k1=>.cv (by omega) fun g3 e3=>.cl 2 rfl (by omega) fun g4 e4=>go g4 (by omega)
     · exact .cv (by omega) fun g1 e1=>.cl 6 rfl (by omega) fun g2 e2=>.bd hv fun v k1=>.cv (by omega) fun g3 e3=>.cl 2 rfl (by omega) fun g4 e4=>go g4 (by omega)
     · exact .cv (by omega) fun g1 e1=>.cl 6 rfl (by omega) fun g2 e2=>.bd hv fun v k1=>.cv (by omega) fun g3 e3=>.cl 2 rfl (by omega) fun g4 e4=>go g4 (by omega)
     · refine .cv (by omega) fun g1 e1=>.cl 3 rfl (by omega) fun g2 e2=>.cl 1 rfl (by omega) fun t1 t2=>.bd hv fun v k1=>.cv (by omega) fun g3 e3=>.cl 3 rfl (by omega) fun g4 e4=>.bd (hB hx4 t2) fun b1 k2=>.cv (by omega) fun g5 e5=>.ite (fun _=>?_) fun _=>?_
       · exact .cv (by omega) fun g6 e6=>.cl 9 rfl (by omega) fun g7 e7=>.cl 1 rfl (by omega) fun t3 t4=>.bd (hB hx5 t4) fun b2 k3=>.cv (by omega) fun g8 e8=>.cv (by omega) fun g9 e9=>.cl 2 rfl (by omega) fun g10 e10=>go g10 (by omega)
       · exact .cv (by omega) fun g6 e6=>.cl 2 rfl (by omega) fun g10 e10=>go g10 (by omega)
     · exact .cv (by omega) fun g1 e1=>.cl 6 rfl (by omega) fun g2 e2=>.cl 1 rfl (by omega) fun t1 t2=>.bd hv fun v k1=>.cv (by omega) fun g3 e3=>.cl 3 rfl (by omega) fun g4 e4=>.bd (hB hx4 t2) fun b1 k2=>.cv (by omega) fun g5 e5=>.cv (by omega) fun g6 e6=>.cl 2 rfl (by omega) fun g10 e10=>go g10 (by omega)
     · exact .cv (by omega) fun g1 e1=>.cl 6 rfl (by omega) fun g2 e2=>.cl 1 rfl (by omega) fun t1 t2=>.cl 1 rfl (by omega) fun t3 t4=>.bd (hB hx4 t2) fun b1 k2=>.cv (by omega) fun g5 e5=>.cv (by omega) fun g6 e6=>.cl 8 rfl (by omega) fun g7 e7=>.cv (by omega) fun g8 e8=>.cl 3 rfl (by omega) fun g9 e9=>.bd (hB hx5 t4) fun b2 k3=>.cv (by omega) fun g10 e10=>.cv (by omega) fun g11 e11=>.cl 2 rfl (by omega) fun g12 e12=>go g12 (by omega)
  have hlen:l.length * CB (k+1)<=22 * CB (k+1):=Nat.mul_le_mul_right _ hl;have h0:(⟨#[]⟩:ByteArray).size=0:=rfl;refine .el (hL l 0 _ h (by omega)) (fun s hs=>.mk (by omega)) fun _ z=>z.elim
theorem JD {fu:Nat}(hf:50≤fu){B:Nat}(hB:B=163100000){O:ByteArray→Prop}:∀ (l:List kV)(k:Nat)(s:ByteArray),(∀ f ∈ l,GF f)→s.size+l.length * B≤700000000→kS (qY fu l k s) (pG (fun r=>r.size≤s.size+l.length * B) O)
 | [],k,s,h,hs=>.go (Nat.le_add_right _ _)
 | x :: l,k,s,h,hs=>by
  rw [qY];rw [uN,Nat.succ_mul] at hs ⊢;obtain ⟨a1,a2,a3⟩:=h x (Az ..);have h9:(⟨#[9]⟩:ByteArray).size=1:=rfl;refine .cl 5 rfl (by omega) fun g1 e1=>.cv (by omega) fun g2 e2=>.cl 1 rfl (by omega) fun g3 e3=>.bd (R7 a2) fun w hw=>.cv (by omega) fun g4 e4=>.cl 4 rfl (by omega) fun g5 e5=>.bd (RS (k:=4) (by decide) a3.2 a3.1 (by omega) (by omega)) fun b hb=>?_;have hb2:b.size<=22 * CB 4:=rA hb (Nat.mul_le_mul_right _ a3.1);have hc4:CB 4=7410000:=by simp only [CB]
  refine .cv (by omega) fun g6 e6=>.cl 2 rfl (by omega) fun g7 e7=>?_;exact (JD hf hB l (k+1) g7 (fun y hy=>h y (yT _ hy)) (by omega)).imp fun v hv=>by
   cases v with
   | go r=>exact rA (show r.size<=_ from hv) (by omega)
   | out o=>exact hv
theorem Xj {fu:Nat}(hf:50<=fu){p:jV}(h:GPr p):kS (zM fu p) (fun s=>s.size<=700000000):=by
 unfold zM;have h0:(⟨#[]⟩:ByteArray).size=0:=rfl;rw [h.recs];have hR:kS (ql fu [⟨⟨#[80]⟩,[⟨#[120]⟩,⟨#[121]⟩]⟩] 0 ⟨#[]⟩) (pG (fun s=>s.size<=100) (fun _=>False)):=by rw [ql];have h1:(⟨⟨#[80]⟩,[⟨#[120]⟩,⟨#[121]⟩]⟩:kr).b.size=1:=rfl;refine .cl 7 rfl (by omega) fun g1 e1=>.cv (by omega) fun g2 e2=>.cl 3 rfl (by omega) fun g3 e3=>.bd (R7 ⟨by decide,Nc⟩) fun w hw=>.cv (by omega) fun g4 e4=>.cl 3 rfl (by omega) fun g5 e5=>?_;rw [ql];exact .go (by omega)
 have hl:=h.e.2;have hl2:p.b.length * 163100000<=4 * 163100000:=Nat.mul_le_mul_right _ hl;refine .el hR (fun s hs=>?_) fun _ z=>z.elim;exact .el (JD hf rfl p.b 0 s h.el (O:=fun _=>False) (by omega)) (fun s hs=>.mk (by omega)) fun _ z=>z.elim
theorem ZV {fu:Nat}(hf:50<=fu){l:List Int}(hl:l.length<=1000):kS (Bt fu l) (fun s=>s.size<=700000000):=by unfold Bt;exact .bd (SK (by omega) hl) fun p hp=>.bd (Xj hf hp) fun s hs=>.mk hs
structure CI (s:jW):Prop where
 vn:∀ V ∈ s.c,V.length<=24
 fx:∀ f ∈ s.a.b,FX f
set_option maxRecDepth 4000
theorem U2:∀ (n:Nat)(e:jA),Bh n e→XO e
 | 0,_,h=>h.elim
 | n+1,e,h=>.mk ⟨h.1.2.1,by have:=h.1.2.2.1;omega⟩ fun y hy=>U2 n y (h.2 y hy)
theorem Vz:∀ (n:Nat)(e:jA),Bh n e→XD n e
 | 0,_,h=>h.elim
 | n+1,e,h=>fun y hy=>Vz n y (h.2 y hy)
theorem Vf:∀ (n:Nat)(x:jB),Ow n x→SD 5000 n x
 | 0,_,h=>h.elim
 | n+1,x,h=>⟨fun y hy=>Vz _ y (h.1 y hy),⟨h.2.1.1,fun y hy=>Vz _ y (h.2.1.2 y hy)⟩,fun y hy=>Vf n y (h.2.2.1 y hy),fun y hy=>Vf n y (h.2.2.2.1 y hy)⟩
theorem ZE {K:List jU}{V:List iA}{Ps:List Nat}{f:Int}{l:List jB}{a b:Nat}(h:SW K V Ps f l a b):(∀ x ∈ l,∃ n,Ow n x)->Ids l a b:=by
 induction h with
 | nil=>exact fun _=>.nil _
 | @cons x l a c d b id kd tg ar de tr ca ct bo el nx i1 i2 i3=>
  intro hx;obtain ⟨n,hn⟩:=hx x (Az ..);cases n with
  | zero=>exact hn.elim
  | succ n=>exact .cons id (fun y hy=>U2 _ y (hn.2.1.2 y hy)) (fun y hy=>U2 _ y (hn.1 y hy)) (i1 fun y hy=>⟨n,hn.2.2.1 y hy⟩) (i2 fun y hy=>⟨n,hn.2.2.2.1 y hy⟩) (i3 fun y hy=>hx y (yT _ hy))
theorem acQ {K:List jU}{V:List iA}{Ps:List Nat}{f:Int}{l:List jB}{a b:Nat}(h:SW K V Ps f l a b):∀ i,a<=i->i < b->∃ x,K[i]?=some x/\x.k=f:=by
 induction h with
 | nil=>exact fun i h1 h2=>by omega
 | @cons x l a c d b id kd tg ar de tr ca ct bo el nx i1 i2 i3=>
  intro i h1 h2;by_cases c1:i=a
  · subst c1;exact ⟨_,kd,rfl⟩
  by_cases c2:i < c
  · exact i1 i (by omega) c2
  by_cases c3:i < d
  · exact i2 i (by omega) c3
  · exact i3 i (by omega) h2
structure Gs7 (s:jW):Prop where
 ci:CI s
 sw:ZL s
 st:s.b.length<=200
 fs:s.a.b.length<=5000
theorem Qq {fu:Nat}(hf:10100<=fu){l:List Int}:kS (wD fu l) (fun r=>jy r fun s b=>b=true->Gs7 s):=by unfold wD;refine .bd Xp fun l2 h2=>.bd (ZV (by omega) (by omega)) fun t _=>?_;refine .bp (Xi (by omega)) fun p r hr=>.pp hr fun a e hp=>.ite (fun _=>.mk fun z=>(by cases z)) fun c=>?_;have hp:=hp (by omega);refine .U3 (Xo hf hp) fun v ev hv=>?_;obtain ⟨s,ln,e⟩:=v;rw [pl] at hv ⊢;rw [pl] at hv ⊢;refine .mk fun z=>?_;have he:e=0:=Dy z;have q:=hv he;subst he;have hw:=WK (by omega) hp ev;refine ⟨⟨fun V hV=>(q.1.1.2 V hV).2,q.2⟩,hw,q.1.2,?_⟩;rw [<-hw.1,q.1.1.1];exact hp.e
theorem Gs7.szs {s:jW}(h:Gs7 s):Szs s 5000 10:=⟨by have:=h.fs;omega,fun V hV=>by have:=h.ci.vn V hV;omega,fun fn hfn x hx=>Vf 10 x (h.ci.fx fn hfn x hx)⟩
theorem Gs7.nums {s:jW}(h:Gs7 s):∃ B,V8 s B:=by
 obtain ⟨B,h0,h1,h2⟩:=h.sw.2.1;refine ⟨B,h0,h1,by have:=h.st;omega,fun j fn hfn=>?_,fun j i hj h3 h4=>?_⟩
 · obtain ⟨V,_,hw⟩:=h2 j fn hfn;exact ZE hw.2.1 fun x hx=>⟨10,h.ci.fx fn (zn hfn) x hx⟩
 · obtain ⟨fn,hfn⟩:=mU (l:=s.a.b) (k:=j) hj;obtain ⟨V,_,hw⟩:=h2 j fn hfn;exact acQ hw.2.1 i h3 h4
theorem Qn:xD 10100=some true:=by kernel_rfl
theorem QN (l:List Int):vU 10100 l=some true:=by
 unfold vU;obtain ⟨⟨s,b⟩,hc,hg⟩:=Qq (fu:=10100) (nJ _) (l:=l);rw [hc,Option.bind_some,pl];rw [pl] at hg;cases b with
 | false=>
  rw [Qn];rfl
 | true=>
  have hg:=hg rfl;show (rV 10100 s).bind _=_;obtain ⟨⟨m,e⟩,hl⟩:=XR (fu:=10100) hg.szs (by omega) (by omega) (by omega);rw [hl,Option.bind_some,pl];by_cases he:e=0
  · subst he;obtain ⟨B,hN⟩:=hg.nums;rw [mO (by simp),VZ hN hl,Qn];rfl
  · rw [mF he,Qn];rfl
end Go.Proofs.YtdkneekpdecjbaaGreat
namespace Go.Proofs.YtdkneekpdecjbaaGreat
open Go.ChangeShapes Go.WideShapes Go.ChangeAt Go.RowKit Go.Fw Go.Joins Go.Proofs.Tryz
theorem own:ownKnob prog.godebug=none:=by kernel_rfl
theorem laidOut:laidOutB prog=true:=by kernel_rfl
theorem Wm {w:World}{a:Addr}{v:Value}(h:w.cell? a=some v):∃ b o,a=⟨b,o,none⟩/\b < w.heap.size:=by have h1:=World.cell?_spot h;obtain ⟨b,o,s⟩:=a;simp only at h1;subst h1;exact ⟨b,o,rfl,World.block_lt_of_cell? w _ h⟩
theorem open_list {H:Type}{enc:TypeId × Value->H}{w:World}{base:Nat}{spare:Nat->Bool}{held:Bool}{fuel:Nat}{cs:List Value}{x:DataW H × List MemPlace}(h:DataW.trod enc prog w base spare held fuel 22 cs=some x) :∃ A c zs,cs=[.slice A zs.length c]/\ku (α:=Int) (fun _=>True) w A c zs:=by
 rcases open_ints underlying22 underlying3 (by kernel_rfl) h with ⟨rfl,hx⟩|⟨a,len,cap,zs,rfl,hb,hl,hm,hz,hx,hcell,hwz⟩
 · exact ⟨none,0,[],rfl,ku.nil⟩
 · have hlz:len<=zs.length:=by rw [hz];split <;> omega
   have hlt:(zs.take len).length=len:=by rw [yS];omega
   refine ⟨some a,cap,zs.take len,by rw [hlt],by omega,hm,fun h0=>?_⟩;have h1:=hcell 0 (by omega);rw [Addr.add_zero'] at h1;obtain ⟨b,o,rfl,hbb⟩:=Wm h1;refine ⟨rfl,trivial,hbb,fun i z hi=>⟨[.int .i64 z],?_,rfl⟩⟩;rw [List.getElem?_take] at hi;split at hi
   · rename_i hj;have h2:=hcell i (by omega);rw [Addr.add_lit] at h2;intro k v hk;obtain _ | k:=k
     · obtain rfl:Value.int .i64 z=v:=Od hk;have hd:zs.getD i 0=z:=by rw [adq,hi];rfl
       rw [hd] at h2;exact (by simpa [Rp.sz,nk,nX] using h2)
     · cases hk
   · cases hi
theorem Us {w:World}{A:Option Addr}{c:Nat}{l:List Int}(h:ku (fun _=>True) w A c l):Pre w (fun _=>True) [] [.l A c l]:=⟨fun it hi=>(by cases hi),fun it hi=>(by cases hi),List.Pairwise.nil,fun d hd=>by
 simp only [qz,BP,or_false] at hd;subst hd;exact h⟩
theorem IL (w:World){A0:Option Addr}{c0:Nat}{x0:List Int}(h0:ku (fun _=>True) w A0 c0 x0):Calls prog 8 #[.slice A0 x0.length c0] w (sW fun v w'=>v=.bool true/\Ext w w'):=
 (GK 10100 (Us h0) (QN x0)).mono fun e w' he=>by obtain ⟨v,rfl,hv,hb⟩:=he;exact ⟨v,rfl,hv,hb.ex⟩
set_option maxRecDepth 100000 in
theorem GQ (os:Os)(started:os.Started)(H:Type)(enc:TypeId × Value->H) :ReturnsInHanded {} checked os 8 .any (Rows.lowerMarksSpec.pre6 enc prog f8 Rows.lowerMarksRow.domain false) (Rows.lowerMarksSpec.post enc prog f8 false true false false):=by
 refine returnsInHanded_of_change (C:=checked) own started (by kernel_rfl) func8
  (ChangeSpec.witness6 (enc:=enc) (C:=checked) false ⟨#[],#[.slice none 0 0],[]⟩ 8 (by kernel_rfl) (by kernel_rfl) (by kernel_rfl) (by kernel_rfl)) ?_
 intro W base args ds gs before hval0 hW hcnd _;have hval:∀ (j:Nat) t v,f8.params[j]?=some t->args[j]?=some v->Value.okWide prog W .any base t v:=hval0;have hW':=hW;obtain ⟨p,q,hA0,hV,rfl,hfz,hnd⟩:=hW;have hA:DataW.TrodAll enc prog W 0 (fun _=>true) true f8.params.toList args.toList ds p:=hA0;rw [params8] at hA hval;obtain ⟨v0,vs0,d0,ds0,p0,q0,hargs,rfl,rfl,h0,r0⟩:=trodAll_cons hA;obtain ⟨rfl,rfl,rfl⟩:=trodAll_nil r0;obtain rfl:args=#[v0]:=by cases args;simp_all
 obtain ⟨rfl,rfl⟩:=trodVars_none hV;have k0:=h0;have lt0:∀ x ∈ p0,x.block < W.heap.size:=by obtain ⟨m,hm⟩:=k0;exact DataW.trod_lt m _ _ _ hm
 obtain ⟨a0,n0,c0,rfl⟩:=okWide_slice underlying22 (hval 0 22 v0 rfl rfl);obtain ⟨f0,hf0⟩:=h0;obtain ⟨A0,e0,l0,hcs0,hl0⟩:=open_list hf0;simp [Value.cells] at hcs0;obtain ⟨rfl,rfl,rfl⟩:=hcs0;clear hA0 hval0;refine (IL W hl0).mono fun e W' he=>?_;obtain ⟨v,rfl,rfl,bel⟩:=he;exact ⟨_,rfl,_,_,_,[],_,[],hW',trodAll_mk1 (shut_bool underlying4 _),trodAll_cons_mk (Below.trod laidOut (by kernel_rfl) (Dy (by kernel_rfl)) k0 bel lt0) trodAll_mk0,rfl,Below.frame bel _,fun h=>by cases h⟩
theorem lowerMarks_holds:Rows.LowerMarksSaid:=
 OpenClaim.holds_of_wide 8 f8 rfl rfl rfl rfl rfl rfl rfl ⟨rfl,rfl,rfl,rfl,rfl⟩ rfl rfl rfl rfl rfl (by kernel_rfl) func8 (by kernel_rfl)
  (Dy (by kernel_rfl)) (by unfold Func.isWrapper;first | (rw [mF (by decide +kernel)];kernel_rfl)|(rw [mO (by decide +kernel)];exact ⟨rfl,rfl⟩))
  (fun os started H enc _=>GQ os started H enc)
end Go.Proofs.YtdkneekpdecjbaaGreat
