/- The maker of programs answers for any tape: expressions. -/
import Derived.Test.YtdkneekpdecjbaaGreatPf
import Derived.Test.YtdkneekpdecjbaaGreatLc
set_option linter.unusedVariables false
set_option linter.unusedSimpArgs false
namespace Go.Proofs.YtdkneekpdecjbaaGreat
open Go.RowKit Go.Fw Go.Proofs.Tryz
structure TQ (T:jP):Prop where
 lo:0<=T.a
 hi:T.a<=T.l.length
 len:T.l.length<=1000
def GE:Nat→jB→Prop
 | 0,_=>False
 | d+1,x=>(x.c.size<=4/\x.b.size<=4/\0<=x.d/\x.d<=999999999999999999)/\x.a.length<=2/\∀ y ∈ x.a,GE d y
theorem GE.mono:∀ {n m:Nat}{x:jB},GE n x→n≤m→GE m x
 | 0,_,_,h,_=>h.elim
 | n+1,0,_,h,k=>by omega
 | n+1,m+1,x,h,k=>⟨h.1,h.2.1,fun y hy=>GE.mono (h.2.2 y hy) (by omega)⟩
structure MP (M:lU):Prop where
 b:M.b.length=4/\∀ p ∈ M.b,0<=p/\p<=4
 f:0<=M.f/\M.f < M.e/\M.e<=4
 ns:(M.a.length:Int)+M.h<=40/\∀ n ∈ M.a,n.size<=4
 np:(M.d.length:Int)+M.h<=40/\∀ n ∈ M.d,n.size<=4
 na:(M.c.length:Int)+M.h<=40/\∀ n ∈ M.c,n.size<=4
 c:0<=M.g/\M.g+M.h<=22
 l:0<=M.h
theorem adg {fu:Nat}{n k:Int}(h1:1<=k)(h2:k<=1000000000):kS (DC fu n k) (fun v=>0<=v/\v < k):=by
 unfold DC;have e1:n.tmod k < k:=Int.tmod_lt_of_pos n (by omega);have e2:-k < n.tmod k:=by have h:=Int.natAbs_tmod n k;have h3:n.natAbs % k.natAbs < k.natAbs:=Nat.mod_lt _ (by omega);omega
 rw [lD (by omega)];refine .ite (fun c=>.mk ?_) fun c=>.mk ⟨by omega,e1⟩;rw [mo (by omega) (by omega)];omega
theorem qF {fu:Nat}{T:jP}{k:Int}(h:TQ T)(h1:1<=k)(h2:k<=1000):kS (kF fu T k) (fun r=>jy r fun v T'=>(0<=v/\v < k)/\TQ T'):=by have h3:=h.lo;have h4:=h.hi;have h5:=h.len;unfold kF;refine .ite (fun c=>.mk ⟨⟨vk _,by omega⟩,h⟩) fun c=>?_;rw [mo (n:=T.a+1) (by omega) (by omega),mo (n:=T.a+1 - 1) (by omega) (by omega)];refine .bd (.ix (by omega) (by omega)) fun e _=>.bd (adg h1 (by omega)) fun v hv=>.mk ⟨hv,⟨by dsimp only;omega,by dsimp only;omega,h5⟩⟩
theorem ab2 {fu:Nat}{T:jP}:kS (D8 fu T) (fun _=>True):=.mk kL
theorem EC {α:Type}{fu:Nat}{T:jP}{l:List α}{β:Type}{f:α->jP->Option β}{P:β->Prop}(h:TQ T)(h1:1<=l.length)(h2:l.length<=1000)(k:∀ x T',x ∈ l->TQ T'->kS (f x T') P):kS ((kF fu T ((l.length:Nat):Int)).bind fun r=>jy r fun v T'=>(ix l v).bind fun x=>f x T') P:=
 .bp (qF h (by omega) (by omega)) fun v T' hv=>.bd (.ix hv.1.1 hv.1.2) fun x hx=>k x T' (vM hx) hv.2
theorem Wz {fu:Nat}{T:jP}(h:TQ T):kS (y9 fu T) (fun r=>jy r fun v T'=>(0<=v/\v<=999999999999999999)/\TQ T'):=by unfold y9;refine EC h (by decide) (by decide) fun x T' hx hT=>.mk ⟨?_,hT⟩;revert x;decide
theorem Fx {fu:Nat}{n:Int}(h:0<=n/\n<=999999999999999999):kS (tL fu n) (fun x=>GE 1 x):=.mk ⟨⟨uN _,uN _,h.1,h.2⟩,uN _,fun y hy=>(by cases hy)⟩
theorem xQ {fu:Nat}{n:ByteArray}(h:n.size<=4):kS (oK fu n) (fun x=>GE 1 x):=.mk ⟨⟨h,uN _,(by decide:(0:Int)<=0),(by decide:(0:Int)<=999999999999999999)⟩,uN _,fun y hy=>(by cases hy)⟩
theorem LY:∀ (l:List Int)(r:ByteArray),(l.foldl (fun r n=>r.push (UInt8.ofNat n.toNat)) r).size=r.size+l.length
 | [],r=>rfl
 | x :: l,r=>by rw [List.foldl_cons,LY l,ByteArray.size_push,uK];omega
theorem Xq {l:List Iz}:(bst l).size=l.length:=by unfold bst Go.Fw.strOf;rw [LY,Dy];exact DV _
theorem EL:∀ {d fu:Nat}{n:Int},0≤n→n < 10 ^ d→1≤d→d≤18→d≤fu→kS (sQ fu n) (fun s=>s.size≤d)
 | 0,_,_,_,_,h,_,_=>by omega
 | d+1,0,_,_,_,_,_,h=>by omega
 | d+1,fu+1,n,h0,h1,_,h3,h4=>by
  show kS (yA fu (sQ fu) n) _;unfold yA;rw [lD (by omega)];refine .ite (fun c=>.mk (by rw [Xq];exact Nat.succ_le_succ (uN _))) fun c=>?_;have hd:1<=d:=by
   rcases d with _ | d
   · omega
   · omega
  have e1:n.tdiv 10=n / 10:=Int.tdiv_eq_ediv_of_nonneg h0;have e2:n.tmod 10=n % 10:=Int.tmod_eq_emod_of_nonneg h0;have e3:n / 10 < 10 ^ d:=by rw [Int.pow_succ] at h1;omega
  have e4:(10:Int) ^ d<=10 ^ 17:=by
   have h5:(10:Nat) ^ d<=10 ^ 17:=Nat.pow_le_pow_right (by decide) (by omega)
   exact_mod_cast h5
  rw [e1,e2,mo (by omega) (by omega)];refine .bd (EL (d:=d) (by omega) e3 hd (by omega) (by omega)) fun s hs=>?_;refine .bd (EL (d:=1) (by omega) (by omega) (by omega) (by omega) (by omega)) fun t ht=>?_;refine .bd (.cat (by omega)) fun r hr=>.mk ?_;rw [hr,EH];omega
theorem O3 {fu:Nat}{M:lU}{T:jP}(hf:3<=fu)(h0:0<=M.g)(h1:M.g<=30):kS (vZ fu M T) (fun r=>jy r fun s M'=>s.size<=4/\M'=⟨M.f,M.e,M.b,M.a,M.d,M.c,M.g+1,M.h⟩):=by unfold vZ;rw [mo (by omega) (by omega)];refine .bd (EL (d:=2) (by omega) (by omega) (by omega) (by omega) (by omega)) fun s hs=>?_;refine .bd (.cat (by have:(⟨#[118]⟩:ByteArray).size=1:=rfl;omega)) fun r hr=>.mk ⟨?_,rfl⟩;have:(⟨#[118]⟩:ByteArray).size=1:=rfl;rw [hr,EH];omega
def XP (d:Nat)(M:lU)(r:jB × lU × jP):Prop:=jy r fun x r=>jy r fun M' T'=>GE d x/\M'=M/\TQ T'
theorem GE.mk1 {d:Nat}{op:Int}{n f:ByteArray}{y:jB}(h1:n.size<=4)(h2:f.size<=4)(h:GE d y):GE (d+1) ⟨op,0,0,n,f,[y]⟩:=⟨⟨h1,h2,(by decide:(0:Int)<=0),(by decide:(0:Int)<=999999999999999999)⟩,(by decide:1<=2),fun z hz=>by
 simp only [oM,CF,or_false] at hz;subst hz;exact h⟩
theorem GE.mk2 {d:Nat}{op:Int}{n f:ByteArray}{y y':jB}(h1:n.size<=4)(h2:f.size<=4)(h:GE d y)(h':GE d y'):GE (d+1) ⟨op,0,0,n,f,[y,y']⟩:=⟨⟨h1,h2,(by decide:(0:Int)<=0),(by decide:(0:Int)<=999999999999999999)⟩,(by decide:2<=2),fun z hz=>by
 simp only [oM,CF,or_false] at hz;rcases hz with hz | hz <;> subst hz
 · exact h
 · exact h'⟩
theorem GE.mk0 {d:Nat}{op:Int}{n f:ByteArray}(h1:n.size<=4)(h2:f.size<=4):GE (d+1) ⟨op,0,0,n,f,[]⟩:=⟨⟨h1,h2,(by decide:(0:Int)<=0),(by decide:(0:Int)<=999999999999999999)⟩,(by decide:0<=2),fun z hz=>by cases hz⟩
theorem Oh:∀ x ∈ ([(⟨#[120]⟩:ByteArray),(⟨#[121]⟩:ByteArray)]:List ByteArray),x.size<=4:=by intro x hx;simp only [oM,CF,or_false] at hx;rcases hx with rfl | rfl <;> decide
def aaB (fu:Nat):Prop:=∀ (M:lU)(T:jP)(e:Nat),MP M->TQ T->e<=3->2 * e+3<=fu->kS (mK fu M T (3 - e)) (XP (e+1) M)
def afa (fu:Nat):Prop:=∀ (M:lU)(T:jP)(e:Nat),MP M->TQ T->e<=2->2 * e+4<=fu->0 < M.c.length->kS (nJ fu M T (3 - e)) (XP (e+2) M)
theorem aaB.dn {fu:Nat}(h:aaB fu){M:lU}{T:jP}{e:Nat}{x:Int}(h1:MP M)(h2:TQ T)(h3:e<=3)(h4:2 * e+3<=fu)(hx:x=3 - e):kS (mK fu M T x) (XP (e+1) M):=by subst hx;exact h M T e h1 h2 h3 h4
theorem Tj:∀ (fu:Nat),aaB fu∧afa fu
 | 0=>⟨fun _ _ _ _ _ _ h=>by omega,fun _ _ _ _ _ _ h=>by omega⟩
 | fu+1=>by
  have ih:=Tj fu;constructor
  · intro M T e hM hT he hf;show kS (Cq fu (mK fu) (nJ fu) M T _) _;unfold Cq;have n1:=hM.ns;have n2:=hM.np;have n3:=hM.na;have hl:=hM.l;refine .bp (qF hT (by decide) (by decide)) fun k T1 h1=>?_;have hJ0:kS (zT fu (mK fu) (nJ fu) (3 - e) k) (qg (fun b=>b=false->1<=e) (fun _=>False)):=by unfold zT;exact .ite (fun c=>.go fun z=>(by cases z)) fun c=>.go fun _=>by omega
    refine .el hJ0 (fun b hb=>?_) fun _ z=>z.elim;refine .ite (fun _=>?_) fun hb0=>?_
    · exact .bp (Wz h1.2) fun v T2 h2=>.bd (Fx h2.1) fun x hx=>.mk ⟨hx.mono (by omega),rfl,h2.2⟩
    have he1:1<=e:=hb (by simpa using hb0);have hJ1:kS (zY fu (mK fu) (nJ fu) M k) (qg (fun b=>b=true->0 < M.a.length) (fun _=>False)):=by unfold zY;exact .ite (fun c=>.go fun z=>by have:=Ey z;omega) fun c=>.go fun z=>(by cases z)
    refine .el hJ1 (fun b hb=>?_) fun _ z=>z.elim;refine .ite (fun hb0=>?_) fun hb0=>?_
    · have:=hb hb0;exact EC h1.2 (by omega) (by omega) fun s T2 hs h2=>.bd (xQ (n1.2 s hs)) fun x hx=>.mk ⟨hx.mono (by omega),rfl,h2⟩
    have hJ2:kS (zP fu (mK fu) (nJ fu) M k) (qg (fun b=>b=true->0 < M.d.length) (fun _=>False)):=by unfold zP;exact .ite (fun c=>.go fun z=>by have:=Ey z;omega) fun c=>.go fun z=>(by cases z)
    refine .el hJ2 (fun b hb=>?_) fun _ z=>z.elim;refine .ite (fun hb0=>?_) fun hb0=>?_
    · have:=hb hb0;exact EC h1.2 (by omega) (by omega) fun s T2 hs h2=>.bp (qF h2 (by decide) (by decide)) fun v T3 h3=>.bd (.ix h3.1.1 h3.1.2) fun f hf=>.mk ⟨GE.mk0 (n2.2 s hs) (Oh f (vM hf)),rfl,h3.2⟩
    have hJ3:kS (zZ fu (mK fu) (nJ fu) M k) (qg (fun b=>b=true->0 < M.c.length) (fun _=>False)):=by unfold zZ;exact .ite (fun c=>.go fun z=>by have:=Ey z;omega) fun c=>.go fun z=>(by cases z)
    refine .el hJ3 (fun b hb3=>?_) fun _ z=>z.elim;obtain ⟨e,rfl⟩:∃ e',e=e'+1:=⟨e - 1,by omega⟩;have hw:wr ((3:Int) - ((e+1:Nat):Int)+1)=3 - (e:Int):=by rw [mo (by omega) (by omega)];omega
    rw [hw];refine .ite (fun hb0=>?_) fun hb0=>?_
    · refine .bp (ih.2 M T1 e hM h1.2 (by omega) (by omega) (hb3 hb0)) fun x r hx=>.pp hx fun M' T' hx=>.mk ?_;exact hx
    refine .ite (fun _=>?_) fun _=>?_
    · refine .bp (qF h1.2 (by decide) (by decide)) fun v T2 h2=>.bp (ih.1 M T2 e hM h2.2 (by omega) (by omega)) fun x r hx=>.pp hx fun M' T' hx=>.mk ⟨?_,hx.2⟩;exact GE.mk1 (uN _) (uN _) hx.1
    · refine .bp (qF h1.2 (by decide) (by decide)) fun v T2 h2=>.bp (ih.1 M T2 e hM h2.2 (by omega) (by omega)) fun x r hx=>.pp hx fun M' T' hx=>?_;obtain ⟨hx1,rfl,hx3⟩:=hx;refine .bp (ih.1 M' T' e hM hx3 (by omega) (by omega)) fun y r hy=>.pp hy fun M2 T3 hy=>.mk ⟨?_,hy.2⟩;exact GE.mk2 (uN _) (uN _) hx1 hy.1
  · intro M T e hM hT he hf ha;show kS (xu fu (mK fu) (nJ fu) M T _) _;unfold xu;have n3:=hM.na;have hl:=hM.l;refine EC hT (by omega) (by omega) fun s T1 hs h1=>.bp (qF h1 (by decide) (by decide)) fun v T2 h2=>?_;refine .ite (fun _=>?_) fun _=>?_
    · exact .bp (qF h2.2 (by decide) (by decide)) fun v3 T3 h3=>.bd (Fx ⟨h3.1.1,by have:=h3.1.2;omega⟩) fun x hx=>.mk ⟨GE.mk1 (n3.2 s hs) (uN _) (hx.mono (by omega)),rfl,h3.2⟩
    · exact .bp (ih.1 M T2 e hM h2.2 (by omega) (by omega)) fun x r hx=>.pp hx fun M' T' hx=>.mk ⟨GE.mk1 (n3.2 s hs) (uN _) hx.1,hx.2⟩
theorem Fe {fu:Nat}(hf:9<=fu){M:lU}{T:jP}(hM:MP M)(hT:TQ T){d:Int}(h0:0<=d)(h3:d<=3):kS (mK fu M T d) (XP 4 M):=by have h:=(Tj fu).1 M T (3 - d.toNat) hM hT (by omega) (by omega);rw [show (3:Int) - ((3 - d.toNat:Nat):Int)=d from by omega] at h;exact h.imp fun v hv=>⟨hv.1.mono (by omega),hv.2⟩
theorem UJ {fu:Nat}(hf:8<=fu){M:lU}{T:jP}(hM:MP M)(hT:TQ T)(ha:0 < M.c.length):kS (nJ fu M T 1) (XP 4 M):=(Tj fu).2 M T 2 hM hT (by decide) (by omega) ha
def GS:Nat→jA→Prop
 | 0,_=>False
 | k+1,x=>(x.c.size<=4/\x.j.size<=4/\x.k.size<=4/\0<=x.m/\x.m<=9)/\(x.e.length<=1/\∀ y ∈ x.e,GE 4 y)/\(x.a.length<=4/\∀ y ∈ x.a,GE 4 y)/\(x.d.length<=9/\∀ y ∈ x.d,GS k y)/\(x.h.length<=9/\∀ y ∈ x.h,GS k y)
theorem GS.mono:∀ {n m:Nat}{x:jA},GS n x→n≤m→GS m x
 | 0,_,_,h,_=>h.elim
 | n+1,0,_,h,k=>by omega
 | n+1,m+1,x,h,k=>⟨h.1,h.2.1,h.2.2.1,⟨h.2.2.2.1.1,fun y hy=>GS.mono (h.2.2.2.1.2 y hy) (by omega)⟩,⟨h.2.2.2.2.1,fun y hy=>GS.mono (h.2.2.2.2.2 y hy) (by omega)⟩⟩
theorem GS.mk {j:Nat}{kd ln id len vr ca:Int}{nm ty fn:ByteArray}{tg ar:List jB}{bo el:List jA}(h1:nm.size<=4)(h2:ty.size<=4)(h3:fn.size<=4)(h4:0<=len/\len<=9)(h5:tg.length<=1/\∀ y ∈ tg,GE 4 y)(h6:ar.length<=4/\∀ y ∈ ar,GE 4 y)(h7:bo.length<=9/\∀ y ∈ bo,GS j y)(h8:el.length<=9/\∀ y ∈ el,GS j y):GS (j+1) ⟨kd,ln,id,nm,ty,len,vr,tg,fn,ca,ar,bo,el⟩:=⟨⟨h1,h2,h3,h4.1,h4.2⟩,h5,h6,h7,h8⟩
theorem z9:(0:Int)<=0/\(0:Int)<=9:=by decide
theorem b0:be.size<=4:=uN _
theorem Zb {α:Type}{p:α->Prop}{l:List α}{a b:Nat}(h:l.length<=a/\∀ y ∈ l,p y)(k:a<=b):l.length<=b/\∀ y ∈ l,p y:=⟨rE h.1 k,h.2⟩
structure Mr (M M':lU):Prop where
 f:M'.f=M.f
 fn:M'.e=M.e
 pr:M'.b=M.b
 s:M.a.length<=M'.a.length/\(M'.a.length:Int)+M'.h<=M.a.length+M.h
 p:M.d.length<=M'.d.length/\(M'.d.length:Int)+M'.h<=M.d.length+M.h
 a:M.c.length<=M'.c.length/\(M'.c.length:Int)+M'.h<=M.c.length+M.h
 c:M.g<=M'.g/\M'.g+M'.h<=M.g+M.h
 l:0<=M'.h
 n1:∀ n ∈ M'.a,n.size<=4
 n2:∀ n ∈ M'.d,n.size<=4
 n3:∀ n ∈ M'.c,n.size<=4
theorem Mr.mp {M M':lU}(k:Mr M M')(h:MP M):MP M':=by obtain ⟨a1,a2,a3,a4,a5,a6,a7,a8,a9,a10,a11⟩:=k;obtain ⟨c1,c2,c3,c4,c5,c6,c7⟩:=h;exact ⟨by rw [a3];exact c1,by rw [a1,a2];exact c2,⟨by omega,a9⟩,⟨by omega,a10⟩,⟨by omega,a11⟩,by omega,a8⟩
theorem Mr.rfl' {M:lU}(h:MP M):Mr M M:=⟨rfl,rfl,rfl,⟨mO _,vk _⟩,⟨mO _,vk _⟩,⟨mO _,vk _⟩,⟨vk _,vk _⟩,h.l,h.ns.2,h.np.2,h.na.2⟩
theorem Mr.trans {M M' M2:lU}(k:Mr M M')(j:Mr M' M2):Mr M M2:=by obtain ⟨a1,a2,a3,a4,a5,a6,a7,a8,a9,a10,a11⟩:=k;obtain ⟨c1,c2,c3,c4,c5,c6,c7,c8,c9,c10,c11⟩:=j;exact ⟨c1.trans a1,c2.trans a2,c3.trans a3,by omega,by omega,by omega,by omega,c8,c9,c10,c11⟩
def yT (M:lU):lU:=⟨M.f,M.e,M.b,M.a,M.d,M.c,M.g,M.h - 1⟩
theorem Mr.dn {M:lU}(h:MP M)(h1:0 < M.h):Mr M (yT M):=⟨rfl,rfl,rfl,⟨Nat.le_refl _,by dsimp only [yT];omega⟩,⟨Nat.le_refl _,by dsimp only [yT];omega⟩,⟨Nat.le_refl _,by dsimp only [yT];omega⟩,⟨Int.le_refl _,by dsimp only [yT];omega⟩,by dsimp only [yT];omega,h.ns.2,h.np.2,h.na.2⟩
def SP (b k:Nat)(M:lU)(r:List jA × lU × jP):Prop:=jy r fun l r=>jy r fun M' T'=>(l.length<=b/\∀ y ∈ l,GS k y)/\Mr M M'/\TQ T'
def SX (M:lU)(r:jA × lU × jP):Prop:=jy r fun x r=>jy r fun M' T'=>GS 1 x/\M'=M/\TQ T'
theorem Nj:∀ x ∈ ([(⟨#[102]⟩:ByteArray),(⟨#[103]⟩:ByteArray),(⟨#[104]⟩:ByteArray),(⟨#[107]⟩:ByteArray)]:List ByteArray),x.size<=4:=by intro x hx;simp only [oM,CF,or_false] at hx;rcases hx with rfl | rfl | rfl | rfl <;> decide
theorem M9 {fu:Nat}(hf:9≤fu){M:lU}(hM:MP M){k p:Int}(hk:0≤k)(hp:M.b[k.toNat]?=some p)(hp4:p≤4){O:Bool × lU × jP × jA→Prop}:∀ (n i:Nat)(T:jP)(out:List jB),TQ T→p+1≤n+i→(i:Int)≤4→(out.length=i∧∀ y ∈ out,GE 4 y)→1≤n→
  kS (uW fu k n i M.f M.e M.b M.g M.h T.l T.a M.a M.d M.c out) (qg (fun r=>jy r fun _ r=>jy r fun f r=>jy r fun fn r=>jy r fun pr r=>jy r fun c r=>jy r fun l r=>jy r fun tl r=>jy r fun ta r=>jy r fun s r=>jy r fun p r=>jy r fun a o=>(⟨f,fn,pr,s,p,a,c,l⟩:lU)=M/\TQ ⟨tl,ta⟩/\o.length<=4/\∀ y ∈ o,GE 4 y) O)
 | 0,_,_,_,_,_,_,_,h=>by omega
 | n+1,i,T,out,hT,hn,hi,ho,_=>by
  rw [uW];have hlt:=ko hp;refine .XM (.ix hk (by omega)) fun e _ he=>?_;rw [hp] at he;cases he;refine .ite (fun c=>?_) fun _=>.go ⟨rfl,hT,by omega,ho.2⟩;refine .bp (Fe hf hM hT (by decide) (by decide)) fun x r hx=>.pp hx fun M' T' hx=>?_;obtain ⟨hx1,rfl,hx3⟩:=hx;refine .XM (.app (by simp only [uK,xX];omega)) fun r _ hr=>?_;subst hr;refine .bd (.ix (by omega) (by rw [kr];omega)) fun _ _=>.bd (.st ⟨by omega,by rw [kr];omega⟩) fun r hr=>?_;rw [mo (by omega) (by omega)];refine M9 hf hM hk hp hp4 n (i+1) T' r hx3 (by omega) (by omega) ⟨by rw [hr,wU,kr,ho.1],fun y hy=>?_⟩ (by omega);rw [hr] at hy;rcases Ie hy with hy | hy
  · exact oQ ho.2 (GE.mk0 (uN _) (uN _)) y hy
  · rw [hy];exact hx1
theorem g_call {fu:Nat}(hf:9<=fu){M:lU}{T:jP}(hM:MP M)(hT:TQ T){x:jA}(hx:GS 1 x)(ha:x.a=[]):kS (zI fu M T x) (fun r=>jy r fun b r=>jy r fun M' r=>jy r fun T' x'=>M'=M/\TQ T'/\GS 1 x'):=by
 unfold zI;obtain ⟨f1,f2,f3⟩:=hM.f;have hJ:kS (zS fu M T x) (qg (fun r=>jy r fun k r=>jy r fun l a=>(0<=k/\k < 4)/\TQ ⟨l,a⟩) (fun r=>jy r fun b r=>jy r fun M' r=>jy r fun T' x'=>M'=M/\TQ T'/\GS 1 x')):=by
  unfold zS;rw [mo (n:=M.f+1) (by omega) (by omega)];refine .ite (fun c=>?_) fun c=>?_
  · rw [mo (by omega) (by omega)];refine .bp (qF hT (by omega) (by omega)) fun v T1 h1=>.go ⟨?_,h1.2⟩;rw [mo (by omega) (by omega)];omega
  · refine .bp (qF hT (by decide) (by decide)) fun v T1 h1=>.ite (fun _=>.out ⟨rfl,h1.2,hx⟩) fun _=>?_;exact .bp (qF h1.2 (by omega) (by omega)) fun v T2 h2=>.go ⟨by omega,h2.2⟩
 refine .el hJ (fun r hr=>.pp hr fun k r hr=>.pp hr fun tl ta hr=>?_) fun o ho=>.mk ho;refine .bd (.ix hr.1.1 hr.1.2) fun fn hfn=>?_;obtain ⟨p,hp⟩:=mF (l:=M.b) (k:=k.toNat) (by rw [hM.b.1];omega);have hp4:=hM.b.2 p (vM hp);rw [ha];refine .el (M9 hf hM hr.1.1 hp hp4.2 (O:=fun _=>False) fu 0 ⟨tl,ta⟩ [] hr.2 (by omega) (by omega) ⟨rfl,fun y hy=>(by cases hy)⟩ (by omega)) (fun r hr=>?_) fun _ z=>z.elim;refine .pp hr fun a1 r hr=>.pp hr fun a1 r hr=>.pp hr fun a1 r hr=>.pp hr fun a1 r hr=>.pp hr fun a1 r hr=>.pp hr fun a1 r hr=>.pp hr fun a1 r hr=>.pp hr fun a1 r hr=>.pp hr fun a1 r hr=>.pp hr fun a1 r hr=>.pp hr fun a1 a2 hr=>.mk ⟨hr.1,hr.2.1,?_⟩;exact GS.mk hx.1.1 hx.1.2.1 (Nj fn (vM hfn)) ⟨hx.1.2.2.2.1,hx.1.2.2.2.2⟩ hx.2.1 hr.2.2 hx.2.2.2.1 hx.2.2.2.2
theorem LJ {l:List ByteArray}{x:ByteArray}:((l ++ [x]).length:Int)=l.length+1:=by rw [kr];omega
theorem Vh {fu:Nat}(hf:9<=fu){M:lU}{T:jP}(hM:MP M)(hl:0 < M.h)(hT:TQ T):kS (xA fu (yT M) T) (fun r=>jy r fun x r=>jy r fun M' T'=>GS 1 x/\Mr M M'/\TQ T'):=by
 unfold xA;obtain ⟨c1,c2,c3,c4,c5,c6,c7⟩:=hM;refine .bp (O3 (M:=yT M) (by omega) c6.1 (by show M.g<=30;omega)) fun s M1 h1=>.bp (qF hT (by decide) (by decide)) fun v T1 h2=>?_;obtain ⟨h1,rfl⟩:=h1;have n1:=c3.1;have n2:=c4.1;have n3:=c5.1;refine .ite (fun _=>?_) fun _=>.ite (fun _=>?_) fun _=>?_
 · refine .bd (.app (by show M.d.length+1<=_;omega)) fun r hr=>.mk ⟨GS.mk h1 (by decide) b0 z9 nE nE nE nE,?_,h2.2⟩;subst hr;exact ⟨rfl,rfl,rfl,⟨Nat.le_refl _,by show _+(M.h - 1)<=_;exact (by dsimp only [yT];omega)⟩,⟨by dsimp only [yT];rw [kr];omega,by dsimp only [yT];rw [LJ];omega⟩,⟨Nat.le_refl _,by dsimp only [yT];omega⟩,⟨by dsimp only [yT];omega,by dsimp only [yT];omega⟩,by dsimp only [yT];omega,c3.2,oQ c4.2 h1,c5.2⟩
 · refine .bd (.app (by show M.c.length+1<=_;omega)) fun r hr=>.mk ⟨GS.mk h1 b0 b0 (by decide) nE nE nE nE,?_,h2.2⟩;subst hr;exact ⟨rfl,rfl,rfl,⟨Nat.le_refl _,by dsimp only [yT];omega⟩,⟨Nat.le_refl _,by dsimp only [yT];omega⟩,⟨by dsimp only [yT];rw [kr];omega,by dsimp only [yT];rw [LJ];omega⟩,⟨by dsimp only [yT];omega,by dsimp only [yT];omega⟩,by dsimp only [yT];omega,c3.2,c4.2,oQ c5.2 h1⟩
 · refine .bd (.app (by show M.a.length+1<=_;omega)) fun r hr=>.mk ⟨GS.mk h1 b0 b0 z9 nE nE nE nE,?_,h2.2⟩;subst hr;exact ⟨rfl,rfl,rfl,⟨by dsimp only [yT];rw [kr];omega,by dsimp only [yT];rw [LJ];omega⟩,⟨Nat.le_refl _,by dsimp only [yT];omega⟩,⟨Nat.le_refl _,by dsimp only [yT];omega⟩,⟨by dsimp only [yT];omega,by dsimp only [yT];omega⟩,by dsimp only [yT];omega,oQ c3.2 h1,c4.2,c5.2⟩
theorem GS.nil {kd:Int}:GS 1 ⟨kd,0,0,be,be,0,0,[],be,0,[],[],[]⟩:=GS.mk b0 b0 b0 z9 nE nE nE nE
theorem Xt {fu:Nat}(hf:9<=fu){M:lU}{T:jP}(hM:MP M)(hT:TQ T):kS (yV fu M T) (SX M):=by
 unfold yV;obtain ⟨n1,m1⟩:=hM.ns;obtain ⟨n2,m2⟩:=hM.np;obtain ⟨n3,m3⟩:=hM.na;have hl:=hM.l;refine .bp (qF hT (by decide) (by decide)) fun k T1 h1=>?_;have hJ0:kS (xL fu M k T1) (qg (fun r=>jy r fun _ r=>jy r fun tl r=>jy r fun ta r=>jy r fun _ r=>jy r fun _ r=>jy r fun _ r=>jy r fun _ r=>jy r fun _ r=>jy r fun _ r=>jy r fun _ r=>jy r fun _ r=>jy r fun _ r=>jy r fun _ r=>jy r fun _ r=>jy r fun _ r=>jy r fun f r=>jy r fun fn r=>jy r fun pr r=>jy r fun c r=>jy r fun l r=>jy r fun s r=>jy r fun p a=>(⟨f,fn,pr,s,p,a,c,l⟩:lU)=M/\TQ ⟨tl,ta⟩) (SX M)):=by unfold xL;refine .ite (fun c=>?_) fun c=>.go ⟨rfl,h1.2⟩;refine .bp (g_call hf hM h1.2 GS.nil rfl) fun b r hr=>.pp hr fun M' r hr=>.pp hr fun T2 x hr=>?_;obtain ⟨rfl,h2,hx⟩:=hr;refine .ite (fun _=>?_) fun _=>.go ⟨rfl,h2⟩;refine .ite (fun c=>?_) fun _=>.out ⟨hx,rfl,h2⟩;refine .bp (qF h2 (by decide) (by decide)) fun v T3 h3=>.ite (fun _=>?_) fun _=>.out ⟨hx,rfl,h3.2⟩;refine EC h3.2 (by omega) (by omega) fun s T4 hs h4=>.bd (xQ (m1 s hs)) fun y hy=>.out ⟨?_,rfl,h4⟩;exact GS.mk hx.1.1 hx.1.2.1 hx.1.2.2.1 ⟨hx.1.2.2.2.1,hx.1.2.2.2.2⟩ (len1 (hy.mono (by decide)) (by decide)) hx.2.2.1 hx.2.2.2.1 hx.2.2.2.2
 refine .el hJ0 (fun r hr=>?_) fun o ho=>.mk ho;refine .pp hr fun a1 r hr=>.pp hr fun tl r hr=>.pp hr fun ta r hr=>.pp hr fun a1 r hr=>.pp hr fun a1 r hr=>.pp hr fun a1 r hr=>.pp hr fun a1 r hr=>.pp hr fun a1 r hr=>.pp hr fun a1 r hr=>.pp hr fun a1 r hr=>.pp hr fun a1 r hr=>.pp hr fun a1 r hr=>.pp hr fun a1 r hr=>.pp hr fun a1 r hr=>.pp hr fun a1 r hr=>.pp hr fun a1 r hr=>.pp hr fun a2 r hr=>.pp hr fun a3 r hr=>.pp hr fun a4 r hr=>.pp hr fun a5 r hr=>.pp hr fun a6 r hr=>.pp hr fun a7 a8 hr=>?_;obtain ⟨rfl,hT2⟩:=hr;dsimp only at n1 m1 n2 m2 n3 m3 hl;have hJ1:kS (xM fu k tl ta a1 a2 a3 a4 a5 a6 a7 a8) (qg (fun r=>jy r fun tg r=>jy r fun tl r=>jy r fun ta r=>jy r fun f r=>jy r fun fn r=>jy r fun pr r=>jy r fun c r=>jy r fun l r=>jy r fun s r=>jy r fun p a=>(⟨f,fn,pr,s,p,a,c,l⟩:lU)=⟨a1,a2,a3,a6,a7,a8,a4,a5⟩/\TQ ⟨tl,ta⟩/\tg.length<=1/\∀ y ∈ tg,GE 4 y) (SX ⟨a1,a2,a3,a6,a7,a8,a4,a5⟩)):=by
  unfold xM;have hJ2:kS (xO fu k a7) (qg (fun b=>b=true->0 < a7.length) (SX ⟨a1,a2,a3,a6,a7,a8,a4,a5⟩)):=by unfold xO;exact .ite (fun c=>.go fun z=>by have:=Ey z;omega) fun c=>.go fun z=>(by cases z)
  refine .FL hJ2 fun b hb=>.ite (fun z=>?_) fun _=>?_
  · have:=hb z;exact EC hT2 (by omega) (by omega) fun s T3 hs h3=>.bp (qF h3 (by decide) (by decide)) fun v T4 h4=>.bd (.ix h4.1.1 h4.1.2) fun e he=>.go ⟨rfl,h4.2,len1 (GE.mk0 (m2 s hs) (Oh e (vM he))) (by decide)⟩
  have hJ3:kS (xJ fu k a8) (qg (fun b=>b=true->0 < a8.length) (SX ⟨a1,a2,a3,a6,a7,a8,a4,a5⟩)):=by unfold xJ;exact .ite (fun c=>.go fun z=>by have:=Ey z;omega) fun c=>.go fun z=>(by cases z)
  refine .FL hJ3 fun b hb=>.ite (fun z=>?_) fun _=>.ite (fun c=>?_) fun _=>?_
  · refine .bp (UJ (by omega) hM hT2 (hb z)) fun x r hx=>.pp hx fun M' T' hx=>.go ⟨?_,hx.2.2,len1 hx.1 (by decide)⟩;exact hx.2.1
  · exact EC hT2 (by omega) (by omega) fun s T3 hs h3=>.bd (xQ (m1 s hs)) fun y hy=>.go ⟨rfl,h3,len1 (hy.mono (by decide)) (by decide)⟩
  · exact .bp (Fe hf hM hT2 (by decide) (by decide)) fun x r hx=>.pp hx fun M' T' hx=>.out ⟨GS.mk b0 b0 b0 z9 nE (len1 hx.1 (by decide)) nE nE,hx.2⟩
 refine .el hJ1 (fun r hr=>?_) fun o ho=>.mk ho;refine .pp hr fun tg r hr=>.pp hr fun tl r hr=>.pp hr fun ta r hr=>.pp hr fun b1 r hr=>.pp hr fun b2 r hr=>.pp hr fun b3 r hr=>.pp hr fun b4 r hr=>.pp hr fun b5 r hr=>.pp hr fun b6 r hr=>.pp hr fun b7 b8 hr=>?_;obtain ⟨h1,h2,h3⟩:=hr;rw [h1];exact .bp (Fe hf hM h2 (by decide) (by decide)) fun x r hx=>.pp hx fun M' T' hx=>.mk ⟨GS.mk b0 b0 b0 z9 h3 (len1 hx.1 (by decide)) nE nE,hx.2⟩
def Kst (fu:Nat):Prop:=∀ (M:lU)(T:jP)(j most:Nat),MP M->TQ T->j<=3->most<=10->4 * j+28<=fu->kS (lQ fu M T (4 - j) most) (SP (2 * most) (j+1) M)
def Kbo (fu:Nat):Prop:=∀ (M:lU)(T:jP)(j most:Nat),MP M->TQ T->j<=3->most<=10->4 * j+29<=fu->kS (mM fu M T (4 - j) most) (SP (2 * most) (j+1) M)
def Klo (fu:Nat):Prop:=∀ (M:lU)(T:jP)(j:Nat),MP M->0 < M.h->TQ T->j<=2->4 * j+30<=fu->kS (mY fu (yT M) T (4 - (j+1:Nat))) (SP 2 (j+2) M)
theorem Kbo.at' {fu:Nat}(h:Kbo fu){M:lU}{T:jP}{j most:Nat}{x y:Int}(h1:MP M)(h2:TQ T)(h3:j<=3)(h4:most<=10)(h5:4 * j+29<=fu)(hx:x=4 - j)(hy:y=most):kS (mM fu M T x y) (SP (2 * most) (j+1) M):=by subst hx;subst hy;exact h M T j most h1 h2 h3 h4 h5
theorem acs {fu:Nat}(ih:Kst fu):Kbo (fu+1):=by
 intro M T j most hM hT hj hm hf;show kS (Ci fu (lQ fu) (mM fu) (mY fu) M T _ _) _;unfold Ci;refine .bp (ih M T j most hM hT hj hm (by omega)) fun l r hr=>.pp hr fun M' T' hr=>?_;obtain ⟨h1,h2,h3⟩:=hr;obtain ⟨a1,a2,a3,a4,a5,a6,a7,a8,a9,a10,a11⟩:=h2;have b1:=hM.ns.1;have b2:=hM.np.1;have b3:=hM.na.1;have b4:=hM.l;refine .bd (.sl ⟨vk _,by omega,by omega⟩) fun l1 e1=>.bd (.sl ⟨vk _,by omega,by omega⟩) fun l2 e2=>.bd (.sl ⟨vk _,by omega,by omega⟩) fun l3 e3=>?_;have tk:∀ {L l:List ByteArray}{n:Nat},l=(L.drop (0:Int).toNat).take ((n:Int) - 0).toNat->n<=L.length->(∀ x ∈ L,x.size<=4)->l.length=n/\∀ x ∈ l,x.size<=4:=by
  intro L l n e hn hL;have e0:l=L.take n:=by rw [e];simp
  rw [e0];exact ⟨by rw [wI];omega,fun x hx=>hL x (List.mem_of_mem_take hx)⟩
 have t1:=tk e1 a4.1 a9;have t2:=tk e2 a5.1 a10;have t3:=tk e3 a6.1 a11;clear tk;refine .bd (.app (by simp only [xX];omega)) fun r1 k1=>.bd (.app (by simp only [xX];omega)) fun r2 k2=>.bd (.app (by simp only [xX];omega)) fun r3 k3=>.mk ⟨h1,?_,h3⟩;rw [DI] at k1 k2 k3;subst k1 k2 k3;exact ⟨a1,a2,a3,by dsimp only;omega,by dsimp only;omega,by dsimp only;omega,a7,a8,t1.2,t2.2,t3.2⟩
theorem abK {fu:Nat}(ih:Kbo fu):Klo (fu+1):=by
 intro M T j hM hl hT hj hf;show kS (Cc fu (lQ fu) (mM fu) (mY fu) (yT M) T _) _;unfold Cc;obtain ⟨c1,c2,c3,c4,c5,c6,c7⟩:=id hM;refine .bp (O3 (M:=yT M) (by omega) c6.1 (by show M.g<=30;omega)) fun s M1 h1=>?_;obtain ⟨h1,rfl⟩:=h1;have n1:=c3.1;have n2:=c4.1;have n3:=c5.1;refine .bd (.app (by show M.a.length+1<=_;omega)) fun r hr=>.bd (xQ h1) fun v hv=>.bp (qF hT (by decide) (by decide)) fun k T1 h2=>?_;rw [mo (n:=1+k) (by omega) (by omega)];refine .bd (Fx ⟨by omega,by omega⟩) fun lt hlt=>?_;have hR:Mr M ⟨(yT M).f,(yT M).e,(yT M).b,r,(yT M).d,(yT M).c,(yT M).g+1,(yT M).h⟩:=by subst hr;exact ⟨rfl,rfl,rfl,⟨by dsimp only [yT];rw [kr];omega,by dsimp only [yT];rw [LJ];omega⟩,⟨Nat.le_refl _,by dsimp only [yT];omega⟩,⟨Nat.le_refl _,by dsimp only [yT];omega⟩,⟨by dsimp only [yT];omega,by dsimp only [yT];omega⟩,by dsimp only [yT];omega,oQ c3.2 h1,c4.2,c5.2⟩
 refine .bp (ih.at' (j:=j) (most:=4) (hR.mp hM) h2.2 (by omega) (by omega) (by omega) (by rw [mo (by omega) (by omega)];omega) rfl) fun l r hr=>.pp hr fun M' T' hr=>?_;refine .bd (xQ h1) fun v2 hv2=>.bd (xQ h1) fun v3 hv3=>.bd (Fx (by decide)) fun lo hlo=>?_;refine .bd (.app (by have:=hr.1.1;simp only [uK,xX];omega)) fun r2 hr2=>.mk ⟨⟨mO _,?_⟩,hR.trans hr.2.1,hr.2.2⟩;have hr2':r2.length<=9/\∀ y ∈ r2,GS (j+1) y:=by subst hr2;refine ⟨by rw [kr];have:=hr.1.1;omega,oQ hr.1.2 ?_⟩;exact GS.mk b0 b0 b0 z9 (len1 (hv2.mono (by decide)) (by decide)) (len1 ((GE.mk2 (uN _) (uN _) hv3 hlo).mono (by decide)) (by decide)) nE nE
 intro y hy;simp only [oM,CF,or_false] at hy;rcases hy with hy | hy <;> subst hy
 · exact GS.mk h1 b0 b0 z9 nE nE nE nE
 · exact GS.mk b0 b0 b0 z9 nE (len1 ((GE.mk2 (uN _) (uN _) hv hlt).mono (by decide)) (by decide)) hr2' nE
def SL (b k:Nat)(M:lU)(r:Int × List jA × Int × Int × List Int × Int × Int × List Int × Int × List ByteArray × List ByteArray × List ByteArray):Prop:=jy r fun _ r=>jy r fun o r=>jy r fun f r=>jy r fun fn r=>jy r fun pr r=>jy r fun c r=>jy r fun l r=>jy r fun tl r=>jy r fun ta r=>jy r fun s r=>jy r fun p a=>(o.length<=b/\∀ y ∈ o,GS k y)/\Mr M ⟨f,fn,pr,s,p,a,c,l⟩/\TQ ⟨tl,ta⟩
theorem ad5 {k i:Nat}{out:List jA}{x:jA}(h:out.length<=2 * i/\∀ y ∈ out,GS k y)(hx:GS k x):(out ++ [x]).length<=2 * (i+1)/\∀ y ∈ out ++ [x],GS k y:=⟨by rw [kr];omega,oQ h.2 hx⟩
theorem Gg {fu:Nat}(hb:Kbo fu)(hl:Klo fu){j most:Nat}(hj:j≤3)(hm:most≤10)(hf:4 * j+27≤fu){M0:lU}(hM0:MP M0){O:List jA × lU × jP→Prop}:∀ (n i:Nat)(out:List jA)(M:lU)(T:jP),Mr M0 M→TQ T→(out.length≤2 * i∧∀ y ∈ out,GS (j+1) y)→i≤most→most+1≤n+i→
  kS (mE fu (lQ fu) (mM fu) (mY fu) (4 - j) most n i out M.f M.e M.b M.g M.h T.l T.a M.a M.d M.c) (qg (SL (2 * most) (j+1) M0) O)
 | 0,_,_,_,_,_,_,_,h,h2=>by omega
 | n+1,i,out,M,T,hR,hT,ho,hi,hn=>by
  have hM:=hR.mp hM0;have fin:kS (some (Ld.go (ρ:=List jA × lU × jP) ((i:Int),out,M.f,M.e,M.b,M.g,M.h,T.l,T.a,M.a,M.d,M.c))) (qg (SL (2 * most) (j+1) M0) O):=.go ⟨Zb ho (by omega),hR,hT⟩;rw [mE];refine .ite (fun c=>?_) fun _=>fin;refine .ite (fun hleft=>?_) fun _=>fin;refine .bd ab2 fun b _=>.ite (fun _=>?_) fun _=>fin;clear fin;have hlo:=hM.c;have hl0:=hM.l;have olen:out.length<=20:=by omega
  rw [mo (n:=(i:Int)+1) (by omega) (by omega),mo (n:=M.h - 1) (by omega) (by omega)];have hd:=Mr.dn hM hleft;have hdn:=hd.mp hM;have go:∀ (x:jA)(M':lU)(T':jP),GS (j+1) x->Mr M M'->TQ T'->kS ((app out [x]).bind fun r=>mE fu (lQ fu) (mM fu) (mY fu) (4 - j) most n ((i:Int)+1) r M'.f M'.e M'.b M'.g M'.h T'.l T'.a M'.a M'.d M'.c) (qg (SL (2 * most) (j+1) M0) O):=fun x M' T' hx k1 k2=>.bd (.app (by simp only [uK,xX];omega)) fun r hr=>by subst hr;exact Gg hb hl hj hm hf hM0 n (i+1) _ M' T' (hR.trans k1) k2 (ad5 ho hx) (by omega) (by omega)
  refine .bp (qF hT (by decide) (by decide)) fun k T1 h1=>?_;have hJ1:kS (yQ fu (lQ fu) (mM fu) (mY fu) M.g k) (qg (fun _=>True) O):=by unfold yQ;exact .ite (fun _=>.go kL) fun _=>.go kL
  refine .FL hJ1 fun b _=>.ite (fun _=>?_) fun _=>?_
  · exact .bp (Vh (by omega) hM hleft h1.2) fun x r hx=>.pp hx fun M' T' hx=>go x M' T' (hx.1.mono (by omega)) hx.2.1 hx.2.2
  have hJ2:kS (yZ fu (lQ fu) (mM fu) (mY fu) (4 - j) k) (qg (fun b=>b=true->1<=j) O):=by unfold yZ;exact .ite (fun _=>.go fun z=>by have:=Ey z;omega) fun _=>.go fun z=>(by cases z)
  refine .FL hJ2 fun b hz=>.ite (fun z=>?_) fun _=>?_
  · obtain ⟨j,rfl⟩:∃ j',j=j'+1:=⟨j - 1,by have:=hz z;omega⟩;refine .bp (Fe (M:=yT M) (by omega) hdn h1.2 (by decide) (by decide)) fun x r hx=>.pp hx fun M1 T2 hx=>?_;obtain ⟨hx1,rfl,hx3⟩:=hx;refine .bp (hb.at' (j:=j) (most:=4) hdn hx3 (by omega) (by omega) (by omega) (by rw [mo (by omega) (by omega)];omega) rfl) fun l r hr=>.pp hr fun M2 T3 hr=>?_;obtain ⟨hl1,hr2,hT3⟩:=hr;have hJ3:kS (yH fu (lQ fu) (mM fu) (mY fu) (4 - (j+1:Nat)) M2 T3) (qg (fun r=>jy r fun o r=>jy r fun f r=>jy r fun fn r=>jy r fun pr r=>jy r fun c r=>jy r fun l r=>jy r fun tl r=>jy r fun ta r=>jy r fun s r=>jy r fun p a=>(o.length<=9/\∀ y ∈ o,GS (j+1) y)/\Mr M ⟨f,fn,pr,s,p,a,c,l⟩/\TQ ⟨tl,ta⟩) O):=by unfold yH;refine .bp (qF hT3 (by decide) (by decide)) fun v T4 h4=>.ite (fun _=>?_) fun _=>.go ⟨nE,hd.trans hr2,h4.2⟩;exact .bp (hb.at' (j:=j) (most:=3) (hr2.mp hdn) h4.2 (by omega) (by omega) (by omega) (by rw [mo (by omega) (by omega)];omega) rfl) fun l r hr=>.pp hr fun M3 T5 hr=>.go ⟨Zb hr.1 (by decide),(hd.trans hr2).trans hr.2.1,hr.2.2⟩
    refine .FL hJ3 fun r hr=>.pp hr fun o r hr=>.pp hr fun b1 r hr=>.pp hr fun b2 r hr=>.pp hr fun b3 r hr=>.pp hr fun b4 r hr=>.pp hr fun b5 r hr=>.pp hr fun b6 r hr=>.pp hr fun b7 r hr=>.pp hr fun b8 r hr=>.pp hr fun b9 b10 hr=>?_;exact go _ ⟨b1,b2,b3,b8,b9,b10,b4,b5⟩ ⟨b6,b7⟩ (GS.mk b0 b0 b0 z9 nE (len1 hx1 (by decide)) (Zb hl1 (by decide)) hr.1) hr.2.1 hr.2.2
  have hJ4:kS (y8 fu (lQ fu) (mM fu) (mY fu) (4 - j) M.g k) (qg (fun b=>b=true->1<=j) O):=by unfold y8;exact .ite (fun _=>.ite (fun _=>.go fun z=>by omega) fun _=>.go fun z=>(by cases z)) fun _=>.go fun z=>(by cases z)
  refine .FL hJ4 fun b hz=>.ite (fun z=>?_) fun _=>?_
  · obtain ⟨j,rfl⟩:∃ j',j=j'+1:=⟨j - 1,by have:=hz z;omega⟩;refine .bp (hl M T1 j hM hleft h1.2 (by omega) (by omega)) fun l r hr=>.pp hr fun M2 T3 hr=>?_;refine .bd (.app (by have:=hr.1.1;omega)) fun r hr2=>?_;subst hr2;refine Gg hb hl hj hm hf hM0 n (i+1) _ M2 T3 (hR.trans hr.2.1) hr.2.2 ⟨by have:=hr.1.1;rw [Ij];omega,fun y hy=>?_⟩ (by omega) (by omega);rcases pX.1 hy with hy | hy
    · exact ho.2 y hy
    · exact hr.1.2 y hy
  have hJ5:kS (yR fu (lQ fu) (mM fu) (mY fu) (4 - j) M.g k) (qg (fun b=>b=true->1<=j) O):=by unfold yR;exact .ite (fun _=>.ite (fun _=>.go fun z=>by omega) fun _=>.go fun z=>(by cases z)) fun _=>.go fun z=>(by cases z)
  refine .FL hJ5 fun b hz=>.ite (fun z=>?_) fun _=>?_
  · obtain ⟨j,rfl⟩:∃ j',j=j'+1:=⟨j - 1,by have:=hz z;omega⟩;refine .bp (hb.at' (M:=yT M) (j:=j) (most:=4) hdn h1.2 (by omega) (by omega) (by omega) (by rw [mo (by omega) (by omega)];omega) rfl) fun l r hr=>.pp hr fun M2 T3 hr=>?_;obtain ⟨hl1,hr2,hT3⟩:=hr;obtain ⟨a1,a2,a3,a4,a5,a6,a7,a8,a9,a10,a11⟩:=id hr2;dsimp only [yT] at a4 a5 a6 a7;obtain ⟨c1,c2,c3,c4,c5,c6,c7⟩:=id hM;refine .bp (O3 (by omega) (by omega) (by omega)) fun s M3 h3=>?_;obtain ⟨h3,rfl⟩:=h3;dsimp only;refine .bd (.app (by simp only [uK,xX];omega)) fun r hr=>?_;have hR4:Mr M ⟨M2.f,M2.e,M2.b,r,M2.d,M2.c,M2.g+1,M2.h⟩:=by subst hr;exact ⟨a1,a2,a3,⟨by dsimp only;rw [kr];omega,by dsimp only;rw [LJ];omega⟩,by dsimp only;omega,by dsimp only;omega,by dsimp only;omega,a8,oQ a9 h3,a10,a11⟩
    refine .bp (hb.at' (j:=j) (most:=3) (hR4.mp hM) hT3 (by omega) (by omega) (by omega) (by rw [mo (by omega) (by omega)];omega) rfl) fun l2 r2 hr5=>.pp hr5 fun M5 T5 hr5=>?_;obtain ⟨hl5,hR5,hT5⟩:=hr5;obtain ⟨e1,e2,e3,e4,e5,e6,e7,e8,e9,e10,e11⟩:=id hR5;dsimp only at e1 e2 e3 e4 e5 e6 e7;have hrl:r.length=M2.a.length+1:=by rw [hr,kr]
    rw [mo (by omega) (by omega)];refine .bd (.sl ⟨vk _,by omega,by omega⟩) fun l3 hl3=>.bd (.app (by
      rw [hl3];simp only [xX,wI,Cy];omega)) fun r3 hr3=>?_
    have hq:r3=M5.a.take (M5.a.length - 1):=by
      rw [hr3,hl3,DI];have:((M5.a.length:Int) - 1 - 0).toNat=M5.a.length - 1:=by omega
      rw [this];simp
    have hq2:r3.length=M5.a.length - 1:=by rw [hq,wI];omega
    exact go _ ⟨M5.f,M5.e,M5.b,r3,M5.d,M5.c,M5.g,M5.h⟩ T5 (GS.mk h3 b0 b0 z9 nE nE (Zb hl1 (by decide)) (Zb hl5 (by decide))) ⟨e1.trans a1,e2.trans a2,e3.trans a3,by dsimp only;omega,by dsimp only;omega,by dsimp only;omega,by dsimp only;omega,e8,fun x hx=>e9 x (by rw [hq] at hx;exact List.mem_of_mem_take hx),e10,e11⟩ hT5
  refine .ite (fun _=>?_) fun _=>?_
  · refine .bp (Fe (M:=yT M) (by omega) hdn h1.2 (by decide) (by decide)) fun x r hx=>.pp hx fun M1 T2 hx=>?_;obtain ⟨hx1,rfl,hx3⟩:=hx;exact go _ (yT M) T2 (GS.mk b0 b0 b0 z9 nE (len1 hx1 (by decide)) nE nE) hd hx3
  have hJ6:kS (yY fu (lQ fu) (mM fu) (mY fu) k T1) (qg (fun r=>jy r fun _ r=>jy r fun l a=>TQ ⟨l,a⟩) O):=by unfold yY;exact .ite (fun _=>.bp (qF h1.2 (by decide) (by decide)) fun v T2 h2=>.go h2.2) fun _=>.go h1.2
  refine .FL hJ6 fun r hr=>.pp hr fun b r hr=>.pp hr fun tl ta hT2=>.ite (fun _=>?_) fun _=>?_
  · have hJ8:kS (y7 fu (lQ fu) (mM fu) (mY fu) M.f M.e M.b M.g M.h M.a M.d M.c tl ta) (qg (fun r=>jy r fun b r=>jy r fun ar r=>jy r fun kd r=>jy r fun ln r=>jy r fun id r=>jy r fun nm r=>jy r fun ty r=>jy r fun le r=>jy r fun vr r=>jy r fun tg r=>jy r fun fn r=>jy r fun ca r=>jy r fun bo r=>jy r fun el r=>jy r fun tl r=>jy r fun ta r=>jy r fun m1 r=>jy r fun m2 r=>jy r fun m3 r=>jy r fun m4 r=>jy r fun m5 r=>jy r fun m6 r=>jy r fun m7 m8=>GS 1 ⟨kd,ln,id,nm,ty,le,vr,tg,fn,ca,ar,bo,el⟩/\TQ ⟨tl,ta⟩/\(⟨m1,m2,m3,m6,m7,m8,m4,m5⟩:lU)=yT M) O):=by unfold y7;rw [mo (n:=M.h - 1) (by omega) (by omega)];refine .bp (qF hT2 (by decide) (by decide)) fun v T2 h2=>.ite (fun _=>.go ⟨GS.nil,h2.2,rfl⟩) fun _=>?_;exact .bp (g_call (M:=yT M) (by omega) hdn h2.2 GS.nil rfl) fun b r hr=>.pp hr fun M' r hr=>.pp hr fun T2 x hr=>.go ⟨hr.2.2,hr.2.1,hr.1⟩
    have hJ7:kS (yJ fu (lQ fu) (mM fu) (mY fu) M.f M.e M.b M.g M.h M.a M.d M.c tl ta) (qg (fun r=>jy r fun ar r=>jy r fun kd r=>jy r fun ln r=>jy r fun id r=>jy r fun nm r=>jy r fun ty r=>jy r fun le r=>jy r fun vr r=>jy r fun tg r=>jy r fun fn r=>jy r fun ca r=>jy r fun bo r=>jy r fun el r=>jy r fun tl r=>jy r fun ta r=>jy r fun m1 r=>jy r fun m2 r=>jy r fun m3 r=>jy r fun m4 r=>jy r fun m5 r=>jy r fun m6 r=>jy r fun m7 m8=>GS 1 ⟨kd,ln,id,nm,ty,le,vr,tg,fn,ca,ar,bo,el⟩/\TQ ⟨tl,ta⟩/\(⟨m1,m2,m3,m6,m7,m8,m4,m5⟩:lU)=yT M) O):=by unfold yJ;refine .FL hJ8 fun r hr=>.pp hr fun b r hr=>.pp hr fun ar r hr=>.pp hr fun kd r hr=>.pp hr fun ln r hr=>.pp hr fun id r hr=>.pp hr fun nm r hr=>.pp hr fun ty r hr=>.pp hr fun le r hr=>.pp hr fun vr r hr=>.pp hr fun tg r hr=>.pp hr fun fn r hr=>.pp hr fun ca r hr=>.pp hr fun bo r hr=>.pp hr fun el r hr=>.pp hr fun tl r hr=>.pp hr fun ta r hr=>.pp hr fun m1 r hr=>.pp hr fun m2 r hr=>.pp hr fun m3 r hr=>.pp hr fun m4 r hr=>.pp hr fun m5 r hr=>.pp hr fun m6 r hr=>.pp hr fun m7 m8 hr=>?_;refine .ite (fun _=>?_) fun _=>.go hr;rw [hr.2.2];exact .bp (Fe (by omega) hdn hr.2.1 (by decide) (by decide)) fun x r hx=>.pp hx fun M1 T2 hx=>.go ⟨GS.mk b0 b0 b0 z9 nE (len1 hx.1 (by decide)) nE nE,hx.2.2,hx.2.1⟩
    refine .FL hJ7 fun r hr=>.pp hr fun ar r hr=>.pp hr fun kd r hr=>.pp hr fun ln r hr=>.pp hr fun id r hr=>.pp hr fun nm r hr=>.pp hr fun ty r hr=>.pp hr fun le r hr=>.pp hr fun vr r hr=>.pp hr fun tg r hr=>.pp hr fun fn r hr=>.pp hr fun ca r hr=>.pp hr fun bo r hr=>.pp hr fun el r hr=>.pp hr fun tl r hr=>.pp hr fun ta r hr=>.pp hr fun m1 r hr=>.pp hr fun m2 r hr=>.pp hr fun m3 r hr=>.pp hr fun m4 r hr=>.pp hr fun m5 r hr=>.pp hr fun m6 r hr=>.pp hr fun m7 m8 hr=>?_;exact go _ ⟨m1,m2,m3,m6,m7,m8,m4,m5⟩ ⟨tl,ta⟩ (hr.1.mono (by omega)) (by rw [hr.2.2];exact hd) hr.2.1
  have hJ9:kS (zm fu (lQ fu) (mM fu) (mY fu) k tl ta) (qg (fun r=>jy r fun _ r=>jy r fun l a=>TQ ⟨l,a⟩) O):=by unfold zm;exact .ite (fun _=>.bp (qF hT2 (by decide) (by decide)) fun v T2 h2=>.go h2.2) fun _=>.go hT2
  refine .FL hJ9 fun r hr=>.pp hr fun b r hr=>.pp hr fun tl ta hT3=>.ite (fun _=>?_) fun _=>?_
  · refine .bp (Fe (M:=yT M) (by omega) hdn hT3 (by decide) (by decide)) fun x r hx=>.pp hx fun M1 T2 hx=>?_;obtain ⟨hx1,rfl,hx3⟩:=hx;exact go _ (yT M) T2 (GS.mk b0 b0 b0 z9 nE (len1 hx1 (by decide)) nE nE) hd hx3
  have hJ10:kS (xI fu (lQ fu) (mM fu) (mY fu) (4 - j) k tl ta) (qg (fun r=>jy r fun b r=>jy r fun l a=>(b=true->1<=j)/\TQ ⟨l,a⟩) O):=by unfold xI;refine .ite (fun _=>.bp (qF hT3 (by decide) (by decide)) fun v T2 h2=>.ite (fun _=>.go ⟨fun z=>by have:=Ey z;omega,h2.2⟩) fun _=>.go ⟨fun z=>(by cases z),h2.2⟩) fun _=>.go ⟨fun z=>(by cases z),hT3⟩
  refine .FL hJ10 fun r hr=>.pp hr fun b r hr=>.pp hr fun tl ta hr=>.ite (fun z=>?_) fun _=>?_
  · obtain ⟨hz,hT4⟩:=hr;obtain ⟨j,rfl⟩:∃ j',j=j'+1:=⟨j - 1,by have:=hz z;omega⟩;refine .bp (Fe (M:=yT M) (by omega) hdn hT4 (by decide) (by decide)) fun x r hx=>.pp hx fun M1 T2 hx=>?_;obtain ⟨hx1,rfl,hx3⟩:=hx;refine .bp (hb.at' (j:=j) (most:=3) hdn hx3 (by omega) (by omega) (by omega) (by rw [mo (by omega) (by omega)];omega) rfl) fun l r hr=>.pp hr fun M2 T3 hr=>?_;exact go _ M2 T3 (GS.mk b0 b0 b0 z9 nE (len1 hx1 (by decide)) (Zb hr.1 (by decide)) nE) (hd.trans hr.2.1) hr.2.2
  · refine .bp (Xt (M:=yT M) (by omega) hdn hr.2) fun x r hx=>.pp hx fun M1 T2 hx=>?_;obtain ⟨hx1,rfl,hx3⟩:=hx;exact go x (yT M) T2 (hx1.mono (by omega)) hd hx3
theorem P8:∀ (fu:Nat),Kst fu∧Kbo fu∧Klo fu
 | 0=>⟨fun _ _ _ _ _ _ _ _ h=>by omega,fun _ _ _ _ _ _ _ _ h=>by omega,fun _ _ _ _ _ _ _ h=>by omega⟩
 | fu+1=>by have ih:=P8 fu;refine ⟨?_,acs ih.1,abK ih.2.1⟩;intro M T j most hM hT hj hm hf;show kS (Bj fu (lQ fu) (mM fu) (mY fu) M T _ _) _;unfold Bj;refine .el (Gg ih.2.1 ih.2.2 hj hm (by omega) hM (O:=fun _=>False) fu 0 [] M T (Mr.rfl' hM) hT nE (by omega) (by omega)) (fun r hr=>?_) fun _ z=>z.elim;exact .pp hr fun b1 r hr=>.pp hr fun b1 r hr=>.pp hr fun b1 r hr=>.pp hr fun b1 r hr=>.pp hr fun b1 r hr=>.pp hr fun b1 r hr=>.pp hr fun b1 r hr=>.pp hr fun b1 r hr=>.pp hr fun b1 r hr=>.pp hr fun b1 r hr=>.pp hr fun b1 b2 hr=>.mk hr
theorem TA {fu:Nat}(hf:40<=fu){M:lU}{T:jP}(hM:MP M)(hT:TQ T){most:Nat}(hm:most<=10):kS (lQ fu M T 1 most) (SP (2 * most) 4 M):=(P8 fu).1 M T 3 most hM hT (by decide) hm (by omega)
structure GF (f:kN):Prop where
 name:f.c.size<=4
 b:f.a.length<=4/\∀ x ∈ f.a,x.size<=4
 body:f.d.length<=22/\∀ y ∈ f.d,GS 4 y
structure GPr (p:jV):Prop where
 recs:p.a=[⟨⟨#[80]⟩,[⟨#[120]⟩,⟨#[121]⟩]⟩]
 e:1<=p.b.length/\p.b.length<=4
 el:∀ f ∈ p.b,GF f
theorem UE:∀ x ∈ ([(⟨#[97]⟩:ByteArray),(⟨#[98]⟩:ByteArray),(⟨#[99]⟩:ByteArray),(⟨#[100]⟩:ByteArray)]:List ByteArray),x.size<=4:=by intro x hx;simp only [oM,CF,or_false] at hx;rcases hx with rfl | rfl | rfl | rfl <;> decide
theorem Zu {k:Nat}(x:ByteArray)(h:([(⟨#[102]⟩:ByteArray),(⟨#[103]⟩:ByteArray),(⟨#[104]⟩:ByteArray),(⟨#[107]⟩:ByteArray)]:List ByteArray)[k]?=some x):x.size<=4:=Nj x (vM h)
theorem Il {fu:Nat}(hf:40≤fu){a b c d:Int}(ha:0≤a∧a < 4)(hb:0≤b∧b < 3)(hc:0≤c∧c < 4)(hd:0≤d∧d < 5){O:jV→Prop}:∀ (n i:Nat)(out:List kN)(T:jP),TQ T→out.length=i→(i:Int)≤1+a→6≤n+i→(∀ f ∈ out,GF f)→
  kS (rD fu a b c d n i out T.l T.a) (qg (fun r=>jy r fun _ r=>jy r fun o r=>jy r fun _ _=>(1<=o.length/\o.length<=4)/\∀ f ∈ o,GF f) O)
 | 0,i,out,T,hT,h1,h2,h3,h4=>by omega
 | n+1,i,out,T,hT,h1,h2,h3,h4=>by
  rw [rD,mo (n:=1+a) (by omega) (by omega)];refine .ite (fun k=>?_) fun k=>.go ⟨by omega,h4⟩;have hps:([2,b,c,d]:List Int).length=4/\∀ p ∈ ([2,b,c,d]:List Int),0<=p/\p<=4:=⟨rfl,fun p hp=>by
   simp only [oM,CF,or_false] at hp;omega⟩
  refine .bd (.ix (by omega) (by rw [hps.1];omega)) fun p hp=>?_;have hp4:=hps.2 p (vM hp);refine .bd (.ix (by omega) (by simp only [uK,xX];omega)) fun nm hnm=>?_;refine .bd (.sl ⟨vk _,hp4.1,by simp only [uK,xX];omega⟩) fun l hl=>?_;have hll:l.length<=4/\∀ x ∈ l,x.size<=4:=by subst hl;exact ⟨by rw [wI];omega,fun x hx=>UE x (List.mem_of_mem_drop (List.mem_of_mem_take hx))⟩
  refine .bd (.app (by simp only [xX];omega)) fun r hr=>?_;rw [DI] at hr;subst hr;have hJ1:kS (wM fu i) (qg (fun s=>s=6\/s=10) O):=by unfold wM;exact .ite (fun _=>.go (.inl rfl)) fun _=>.go (.inr rfl)
  refine .FL hJ1 fun s hs=>?_;have hM:MP ⟨(i:Int),1+a,[2,b,c,d],r,[],[],0,22⟩:=⟨hps,by dsimp only;omega,⟨by dsimp only;omega,hll.2⟩,⟨(by decide:(0:Int)+22<=40),fun x hx=>(by cases hx)⟩,⟨(by decide:(0:Int)+22<=40),fun x hx=>(by cases hx)⟩,(by decide:(0:Int)<=0/\(0:Int)+22<=22),(by decide:(0:Int)<=22)⟩;have hS:kS (lQ fu ⟨(i:Int),1+a,[2,b,c,d],r,[],[],0,22⟩ T 1 s) (SP 20 4 ⟨(i:Int),1+a,[2,b,c,d],r,[],[],0,22⟩):=by
   rcases hs with rfl | rfl
   · exact (TA hf hM hT (most:=6) (by decide)).imp fun v hv=>⟨Zb hv.1 (by decide),hv.2⟩
   · exact TA hf hM hT (most:=10) (by decide)
  refine .bp hS fun bo q hq=>.pp hq fun M' T' hq=>?_;obtain ⟨hq1,hq2,hq3⟩:=hq;have hM':=hq2.mp hM;have hJ2:kS (wC fu bo M' T') (qg (fun r=>jy r fun o r=>jy r fun l a=>(o.length<=21/\∀ y ∈ o,GS 4 y)/\TQ ⟨l,a⟩) O):=by unfold wC;have k1:=hM'.ns.1;have k2:=hM'.l;refine .ite (fun c=>?_) fun _=>.go ⟨Zb hq1 (by decide),hq3⟩;refine .bp (qF hq3 (by decide) (by decide)) fun v T2 h2=>.ite (fun _=>?_) fun _=>.go ⟨Zb hq1 (by decide),h2.2⟩;refine EC h2.2 (by omega) (by omega) fun s T3 hs h3=>.bd (xQ (hM'.ns.2 s hs)) fun x hx=>?_;refine .bd (.app (by have:=hq1.1;simp only [uK,xX];omega)) fun r hr=>.go ⟨?_,h3⟩;subst hr;exact ⟨by rw [kr];have:=hq1.1;omega,oQ hq1.2 (GS.mk b0 b0 b0 z9 nE (len1 (hx.mono (by decide)) (by decide)) nE nE)⟩
  refine .FL hJ2 fun r2 hr=>.pp hr fun o r2 hr=>.pp hr fun tl ta hr=>?_;refine .bd (.app (by have:=hr.1.1;simp only [uK,xX];omega)) fun r84 hr84=>.bd (.app (by simp only [uK,xX];omega)) fun r90 hr90=>?_;subst hr84 hr90;rw [mo (by omega) (by omega)];refine Il hf ha hb hc hd n (i+1) _ ⟨tl,ta⟩ hr.2 (by rw [kr];omega) (by omega) (by omega) (oQ h4 ⟨Zu nm hnm,hll,?_⟩);exact ⟨by dsimp only;rw [kr];have:=hr.1.1;omega,oQ hr.1.2 (GS.nil.mono (by decide))⟩
theorem Uy {fu:Nat}(hf:40<=fu){l:List Int}(hl:l.length<=1000):kS (xE fu l) GPr:=by unfold xE;refine .bp (qF (T:=⟨l,0⟩) ⟨Int.le_refl _,by dsimp only;omega,hl⟩ (by decide) (by decide)) fun a T1 h1=>.bp (qF h1.2 (by decide) (by decide)) fun b T2 h2=>.bp (qF h2.2 (by decide) (by decide)) fun c T3 h3=>.bp (qF h3.2 (by decide) (by decide)) fun d T4 h4=>?_;refine .el (Il hf h1.1 h2.1 h3.1 h4.1 (O:=fun _=>False) fu 0 [] T4 h4.2 rfl (by omega) (by omega) fun f hf=>(by cases hf)) (fun r hr=>?_) fun _ z=>z.elim;exact .pp hr fun _ r hr=>.pp hr fun o r hr=>.pp hr fun _ _ hr=>.mk ⟨rfl,hr.1,hr.2⟩
theorem Yp {fu:Nat}{l:List Int}:kS (AX fu l) (fun r=>r.length<=200):=by unfold AX;refine .ite (fun c=>.bd (.sl ⟨by decide,by decide,by omega⟩) fun r hr=>.mk ?_) fun c=>.mk (by omega);rw [hr,wI];omega
end Go.Proofs.YtdkneekpdecjbaaGreat
