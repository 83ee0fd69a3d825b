/- What is parsed of a made program has a function; the law of runs. -/
import Derived.Test.YtfglbdkfnphjgaaGreatZ16
import Derived.Test.YtfglbdkfnphjgaaGreatZ27
import Derived.Test.YtfglbdkfnphjgaaGreatZ4
import Derived.WalkKit
import Derived.ProofKit
import Derived.OpenShut
import Derived.ChangeOld
import Derived.SizedLaws
import Derived.Lib.SmallJoins
import Derived.Deep.Slices
import Derived.Deep.Fields
set_option linter.unusedVariables false
set_option linter.unusedSimpArgs false
namespace Go.Proofs.YtfglbdkfnphjgaaGreat
open Go.RowKit Go.Fw Go.Proofs.Tryz
section
variable {fu:Nat}{l:List kE}{a ln:Int}{t:kE}
theorem R9 (h0:0<=a)(h1:a<=1000)(ht:l[a.toNat]?=some t){w:ByteArray}{b:Bool}(hb:(if t.c=3 then some (decide (t.a=w)) else if t.c=4 then some (decide (t.a=w)) else some false)=some b):mO fu ⟨l,a,ln,0⟩ 0 w=some b:=by
 have hl:=jU ht;unfold mO;dsimp only;rw [lM (by omega) (by omega),jR (by omega),Int.add_zero];have e:ix l a=some t:=by unfold Go.Fw.ix;rw [jR (by omega),ht]
 rw [e];exact hb
theorem PY (h0:0<=a)(h1:a<=1000)(ht:l[a.toNat]?=some t){w:ByteArray}(hb:(if t.c=3 then some (decide (t.a=w)) else if t.c=4 then some (decide (t.a=w)) else some false)=some true):lN fu ⟨l,a,ln,0⟩ w=some ⟨l,a+1,ln,0⟩:=by unfold lN;rw [jR (by simp),R9 h0 h1 ht hb];rw [ob,jR (by decide)];dsimp only;rw [lM (by omega) (by omega)]
theorem Qr (h0:0<=a)(h1:a<=1000)(ht:l[a.toNat]?=some t)(hk:t.c=1):oG fu ⟨l,a,ln,0⟩=some (t.a,⟨l,a+1,ln,0⟩):=by
 have hl:=jU ht;have e:ix l a=some t:=by unfold Go.Fw.ix;rw [jR (by omega),ht]
 unfold oG;rw [jR (by simp)];have e2:oQ fu ⟨l,a,ln,0⟩ 0 1=some true:=by unfold oQ;dsimp only;rw [lM (by omega) (by omega),Int.add_zero,kg (by omega),e];show some (decide (t.c=1))=_;rw [hk];rfl
 rw [e2];rw [ob,jR (by decide)];dsimp only;rw [lM (n:=a+1) (by omega) (by omega),lM (by omega) (by omega),Int.add_sub_cancel,e,ob]
end
theorem adD {l:List kE}(h:∃ t,l=tk7 ++ [tk8] ++ t):nM 10100 10100 [] l 0 0 0=some (.go ([⟨⟨#[80]⟩,[⟨#[120]⟩,⟨#[121]⟩]⟩],l,7,0,0)):=by
 have hk:∀ i:Nat,i < 8->l[i]?=(tk7 ++ [tk8])[i]?:=by obtain ⟨t,rfl⟩:=h;intro i hi;exact GI (by simpa [tk7] using hi)
 have n2:nL 10100 10099 [⟨#[120]⟩,⟨#[121]⟩] l 6 0 0=some (.go ([⟨#[120]⟩,⟨#[121]⟩],l,6,0,0)):=by rw [nL,kg rfl,R9 (b:=false) (by decide) (by decide) (hk 6 (by decide)) (by kernel_rfl),ob,jR (by decide)]
 have n1:nL 10100 10100 [⟨#[120]⟩] l 4 0 0=some (.go ([⟨#[120]⟩,⟨#[121]⟩],l,6,0,0)):=by rw [nL,kg rfl,R9 (b:=true) (by decide) (by decide) (hk 4 (by decide)) (by kernel_rfl),ob,kg rfl,PY (by decide) (by decide) (hk 4 (by decide)) (by kernel_rfl),ob,Qr (by decide) (by decide) (hk 5 (by decide)) rfl,ob,pl];exact n2
 have hn:sI 10100 ⟨l,3,0,0⟩=some ([⟨#[120]⟩,⟨#[121]⟩],⟨l,6,0,0⟩):=by unfold sI;rw [Qr (by decide) (by decide) (hk 3 (by decide)) rfl,ob,pl];have n1':nL 10100 10100 [(⟨#[120]⟩:ByteArray)] l (3+1) 0 0=some (.go ([⟨#[120]⟩,⟨#[121]⟩],l,6,0,0)):=n1;exact (congrArg (fun z=>Option.bind z _) n1').trans rfl
 have p2:nM 10100 10099 [⟨⟨#[80]⟩,[⟨#[120]⟩,⟨#[121]⟩]⟩] l 7 0 0=some (.go ([⟨⟨#[80]⟩,[⟨#[120]⟩,⟨#[121]⟩]⟩],l,7,0,0)):=by rw [nM,kg rfl,R9 (b:=false) (by decide) (by decide) (hk 7 (by decide)) (by kernel_rfl),ob,jR (by decide)]
 rw [nM,kg rfl,R9 (b:=true) (by decide) (by decide) (hk 0 (by decide)) (by kernel_rfl),ob,kg rfl,lM (by decide) (by decide),Qr (by decide) (by decide) (hk 1 (by decide)) rfl,ob,pl,PY (by decide) (by decide) (hk 2 (by decide)) (by kernel_rfl),ob];have hn':sI 10100 ⟨l,0+1+1+1,0,0⟩=some ([⟨#[120]⟩,⟨#[121]⟩],⟨l,6,0,0⟩):=hn;rw [hn',ob,pl,PY (by decide) (by decide) (hk 6 (by decide)) (by kernel_rfl),ob];exact p2
theorem q_len {fu:Nat}:∀ (n:Nat)(out:List kW)(l:List kE)(a b e:Int)(o:List kW)(l':List kE)(a' b' e':Int),mH fu n out l a b e=some (.go (o,l',a',b',e'))→out.length≤o.length
 | 0,_,_,_,_,_,_,_,_,_,_,h=>by cases h
 | n+1,out,l,a,b,e,o,l',a',b',e',h=>by
  have fin:∀ {c d:Int}{m:List kE}{x:Int},some (Ld.go (ρ:=jS × gP) (out,m,c,d,x))=some (.go (o,l',a',b',e'))->out.length<=o.length:=fun h=>by have h:=sm h;injection h with h;injection h with h _;rw [h];exact oH _
  rw [mH] at h;rcases jB h with ⟨_,h⟩|⟨_,h⟩
  · obtain ⟨v,_,h⟩:=bs h;rcases jB h with ⟨_,h⟩|⟨_,h⟩
    · obtain ⟨v,_,h⟩:=bs h;obtain ⟨⟨v1,v2⟩,_,h⟩:=bs h;replace h:=pi h;obtain ⟨v,_,h⟩:=bs h;obtain ⟨r,_,h⟩:=bs h;cases r with
      | out o=>cases h
      | go x=>
       obtain ⟨x1,x2,x3,x4,x5⟩:=x;replace h:=gi h;replace h:=pi (pi (pi (pi h)));obtain ⟨v,_,h⟩:=bs h;obtain ⟨⟨v1,v2,v3⟩,_,h⟩:=bs h;replace h:=pi (pi h);obtain ⟨v,_,h⟩:=bs h;obtain ⟨r,hr,h⟩:=bs h;have:=q_len n _ _ _ _ _ _ _ _ _ _ h;rw [<-(qG hr).2,kM] at this;omega
    · exact fin h
  · exact fin h
theorem XB {fu:Nat}:∀ (n:Nat)(out:List kW)(l:List kE)(a b e:Int)(o:jS × gP),mH fu n out l a b e=some (.out o)→False
 | 0,_,_,_,_,_,_,h=>by cases h
 | n+1,out,l,a,b,e,o,h=>by
  rw [mH] at h;rcases jB h with ⟨_,h⟩|⟨_,h⟩
  · obtain ⟨v,_,h⟩:=bs h;rcases jB h with ⟨_,h⟩|⟨_,h⟩
    · obtain ⟨v,_,h⟩:=bs h;obtain ⟨⟨v1,v2⟩,_,h⟩:=bs h;replace h:=pi h;obtain ⟨v,_,h⟩:=bs h;obtain ⟨r,hr,h⟩:=bs h;cases r with
      | out o=>
       unfold ug at hr;rcases jB hr with ⟨_,hr⟩|⟨_,hr⟩
       · obtain ⟨v,_,hr⟩:=bs hr;rcases jB hr with ⟨_,hr⟩|⟨_,hr⟩
         · obtain ⟨⟨v1,v2⟩,_,hr⟩:=bs hr;cases pi hr
         · cases hr
       · cases hr
      | go x=>
       obtain ⟨x1,x2,x3,x4,x5⟩:=x;replace h:=gi h;replace h:=pi (pi (pi (pi h)));obtain ⟨v,_,h⟩:=bs h;obtain ⟨⟨v1,v2,v3⟩,_,h⟩:=bs h;replace h:=pi (pi h);obtain ⟨v,_,h⟩:=bs h;obtain ⟨r,hr,h⟩:=bs h;exact XB n _ _ _ _ _ _ h
    · cases h
  · cases h
theorem adf {l:List kE}(h:∃ t,l=tk7 ++ [tk8] ++ t){o:List kW}{l':List kE}{a' b' e':Int}(k:mH 10100 10100 [] l 7 0 0=some (.go (o,l',a',b',e'))):1<=o.length:=by
 have hk:l[7]?=some tk8:=by obtain ⟨t,rfl⟩:=h;rfl
 rw [mH,kg rfl,R9 (b:=true) (by decide) (by decide) hk (by kernel_rfl)] at k;replace k:=sb k;rw [kg rfl] at k;obtain ⟨v,_,k⟩:=bs k;obtain ⟨⟨v1,v2⟩,_,k⟩:=bs k;replace k:=pi k;obtain ⟨v,_,k⟩:=bs k;obtain ⟨r,_,k⟩:=bs k;cases r with
 | out o=>cases k
 | go x=>
  obtain ⟨x1,x2,x3,x4,x5⟩:=x;replace k:=gi k;replace k:=pi (pi (pi (pi k)));obtain ⟨v,_,k⟩:=bs k;obtain ⟨⟨v1,v2,v3⟩,_,k⟩:=bs k;replace k:=pi (pi k);obtain ⟨v,_,k⟩:=bs k;obtain ⟨r,hr,k⟩:=bs k;have:=q_len _ _ _ _ _ _ _ _ _ _ _ k;rw [<-(qG hr).2,kM] at this;omega
theorem Xk {s:ByteArray}(H:FV Dp s){p:jS}{ln:Int}(h:uG 10100 s=some (p,ln,0)):1<=p.b.length:=by
 unfold uG at h;obtain ⟨⟨l,x1,x2⟩,h1,h⟩:=bs h;replace h:=pi (pi h);rcases jB h with ⟨hx,h⟩|⟨hx,h⟩
 · have h:=sm h;injection h with _ h;injection h with _ h;exact absurd h hx
 obtain rfl:x2=0:=by simpa using hx
 have hl:=Zt H h1;obtain ⟨⟨p',S⟩,h2,h⟩:=bs h;replace h:=pi h;rcases jB h with ⟨hx,h⟩|⟨_,h⟩
 · have h:=sm h;injection h with _ h;injection h with _ h;exact absurd h hx
 have h:=sm h;injection h with h _;subst h;unfold vB at h2;rw [adD hl] at h2;replace h2:=sb h2;replace h2:=gi h2;replace h2:=pi (pi (pi (pi h2)));obtain ⟨r,h3,h2⟩:=bs h2;cases r with
 | out o=>
   exfalso;exact XB _ _ _ _ _ _ _ h3
 | go x=>
   obtain ⟨x1,x2,x3,x4,x5⟩:=x;have h4:=adf hl h3;replace h2:=gi h2;replace h2:=pi (pi (pi (pi h2)));rcases jB h2 with ⟨_,h2⟩|⟨_,h2⟩
   · obtain ⟨v,_,h2⟩:=bs h2;rcases jB h2 with ⟨_,h2⟩|⟨_,h2⟩
     · obtain ⟨v,_,h2⟩:=bs h2;have h2:=sm h2;injection h2 with h2 _;rw [<-h2];exact h4
     · have h2:=sm h2;injection h2 with h2 _;rw [<-h2];exact h4
   · have h2:=sm h2;injection h2 with h2 _;rw [<-h2];exact h4
theorem WW {l:List Int}(hl:l.length<=1000):kS (Bv 10100 l) (fun s=>FV Dp s):=by unfold Bv;exact .bd (Sb (by decide) hl) fun p hp=>.Sq (WU (by decide) hp) fun s e hs=>.mk (Xi hp e)
theorem Qb {l:List Int}:kS (wR 10100 l) (fun r=>iA r fun s b=>b=true->(CI s/\CW s)/\1<=s.a.b.length/\s.a.b.length<=5000):=by
 unfold wR;refine .bd VT fun l2 h2=>.bd (WW (by omega)) fun t ht=>?_;refine .Sq (WV (by decide)) fun v ev hr=>?_;obtain ⟨p,a,e⟩:=v;refine .ite (fun _=>.mk fun z=>(by cases z)) fun c=>?_;obtain rfl:e=0:=by simpa using c
 have hn:=Xk ht ev;have hp:=hr rfl;refine .Sq (Xc (oH _) hp) fun v ev hv=>?_;obtain ⟨s,ln,e⟩:=v;rw [pl] at hv ⊢;rw [pl] at hv ⊢;refine .mk fun z=>?_;have he:e=0:=Bw z;have q:=hv he;subst he;have hw:=RQ (by omega) hp ev;have h5:=hp.e;have h6:=q.1.1.1;have h7:=hw.1;exact ⟨⟨⟨fun V hV=>(q.1.1.2 V hV).2,q.2⟩,hw,VA (by omega) hp ev,q.2⟩,by omega,by omega⟩
theorem CW.b {s:jL}(h:CW s)(hi:CI s){k:Nat}{fn:kW}(hk:s.a.b[k]?=some fn):fn.a.length<=24:=by
 obtain ⟨V,h1,h2⟩:=h.sw.2.1 k fn hk;have h3:=hi.vn V (wC h1);by_cases c:fn.a.length<=24
 · exact c
 · obtain ⟨v,h4,_⟩:=h2.2.2.1 24 (by omega);have:=jU h4;omega
theorem NQ {fu:Nat}{l:List Int}{m:Nat}(hm:m≤24):∀ (n i:Nat)(out:List Int),m+1≤n+i→i≤m→out.length≤i→kS (vg fu l (m:Int) n (i:Int) out) (qh (fun _=>True) (fun _=>False))
 | 0,_,_,h,h2,_=>by omega
 | n+1,i,out,h,h2,h3=>by
  rw [vg];refine .ite (fun c=>?_) fun _=>.go lF;have hJ:kS (zK fu l (i:Int)) (qh (fun _=>True) (fun _=>False)):=by unfold zK;exact .ite (fun c=>.bd (.ix (by omega) (by omega)) fun _ _=>.go lF) fun _=>.go lF
  refine .el hJ (fun v _=>.bd (.app (by simp only [tT,uR];omega)) fun r hr=>?_) fun _ z=>z.elim;have e:wr ((i:Int)+1)=((i+1:Nat):Int):=by rw [lM (by omega) (by omega)];omega
  rw [e];exact NQ hm n (i+1) r (by omega) (by omega) (by rw [hr,Dk];simp only [tT,uR];omega)
theorem Ym {fu:Nat}{l:List Int}{m:Nat}(hm:m<=24)(hf:25<=fu):kS (Bz fu l (m:Int)) (fun _=>True):=by unfold Bz;exact .el (NQ hm fu 0 [] (by omega) (uy _) (oH _)) (fun _ _=>.mk lF) fun _ z=>z.elim
theorem SY (l a:List Int)(d x z y:Int):tZ 10100 l a d x z y=some true:=by
 have h:kS (tZ 10100 l a d x z y) (fun b=>b=true):=by unfold tZ;rw [TY];refine .bp Qb fun s b hs=>.ite (fun _=>.mk rfl) fun c=>?_;obtain ⟨⟨h1,h2⟩,h3,h4⟩:=hs (by simpa using c);refine .bd (NZ (by omega) (by omega)) fun i hi=>?_;refine .bd (.ix hi.1 (by omega)) fun fn hfn=>?_;refine .bd (Ym (CW.b h2 h1 hfn) (by decide)) fun args _=>?_;obtain ⟨n,hn,_,_⟩:=Vy (fu:=10100) (n:=x);obtain ⟨q,hq,_⟩:=NZ (fu:=10100) (n:=z) (k:=100) (by decide) (by decide);obtain ⟨r,hr,_⟩:=NZ (fu:=10100) (n:=y) (k:=20) (by decide) (by decide);obtain ⟨h,o,e1,e2,e3⟩:=QC h1 (f:=i) (args:=args) (n:=n) (fr:=q) (mo:=r);rw [hn,hq,hr,ob,ob,ob,e1,ob,pl,ob,ob,ob,Wp h2,e1,ob,pl,e2,ob,kg rfl,e3,ob,kg rfl];exact .mk rfl
 obtain ⟨b,h1,rfl⟩:=h;exact h1
end Go.Proofs.YtfglbdkfnphjgaaGreat
namespace Go.Proofs.YtfglbdkfnphjgaaGreat
open Go.ChangeShapes Go.WideShapes Go.ChangeAt Go.RowKit Go.Fw Go.Joins Go.Proofs.Tryz
theorem own:ownKnob prog.godebug=none:=by kernel_rfl
theorem laidOut:laidOutB prog=true:=by kernel_rfl
theorem TA {w:World}{a:Addr}{v:Value}(h:w.cell? a=some v):∃ b o,a=⟨b,o,none⟩/\b < w.heap.size:=by have h1:=World.cell?_spot h;obtain ⟨b,o,s⟩:=a;simp only at h1;subst h1;exact ⟨b,o,rfl,World.block_lt_of_cell? w _ h⟩
theorem open_list {H:Type}{enc:TypeId × Value->H}{w:World}{base:Nat}{spare:Nat->Bool}{held:Bool}{fuel:Nat}{cs:List Value}{x:DataW H × List MemPlace}(h:DataW.trod enc prog w base spare held fuel 22 cs=some x) :∃ A c zs,cs=[.slice A zs.length c]/\kX (α:=Int) (fun _=>True) w A c zs:=by
 rcases open_ints underlying22 underlying3 (by kernel_rfl) h with ⟨rfl,hx⟩|⟨a,len,cap,zs,rfl,hb,hl,hm,hz,hx,hcell,hwz⟩
 · exact ⟨none,0,[],rfl,kX.nil⟩
 · have hlz:len<=zs.length:=by rw [hz];split <;> omega
   have hlt:(zs.take len).length=len:=by rw [yM];omega
   refine ⟨some a,cap,zs.take len,by rw [hlt],by omega,hm,fun h0=>?_⟩;have h1:=hcell 0 (by omega);rw [Addr.add_zero'] at h1;obtain ⟨b,o,rfl,hbb⟩:=TA h1;refine ⟨rfl,trivial,hbb,fun i z hi=>⟨[.int .i64 z],?_,rfl⟩⟩;rw [List.getElem?_take] at hi;split at hi
   · rename_i hj;have h2:=hcell i (by omega);rw [Addr.add_lit] at h2;intro k v hk;obtain _ | k:=k
     · obtain rfl:Value.int .i64 z=v:=vK hk;have hd:zs.getD i 0=z:=by rw [Gb,hi];rfl
       rw [hd] at h2;exact (by simpa [Rp.sz,nE,ow] using h2)
     · cases hk
   · cases hi
theorem R6 {w:World}{A B:Option Addr}{c d:Nat}{l m:List Int}(h:kX (fun _=>True) w A c l)(k:kX (fun _=>True) w B d m):Pre w (fun _=>True) [] [.l A c l,.l B d m]:=⟨fun it hi=>(by cases hi),fun it hi=>(by cases hi),List.Pairwise.nil,fun q hd=>by
 simp only [qK,BS,or_false] at hd;rcases hd with rfl | rfl
 · exact h
 · exact k⟩
theorem Ic (w:World){A0:Option Addr}{c0:Nat}{x0:List Int}(h0:kX (fun _=>True) w A0 c0 x0){A1:Option Addr}{c1:Nat}{x1:List Int}(h1:kX (fun _=>True) w A1 c1 x1){x2 x3 x4 x5:Int}:Calls prog 3 #[.slice A0 x0.length c0,.slice A1 x1.length c1,Vi x2,Vi x3,Vi x4,Vi x5] w (pU fun v w'=>v=.bool true/\Ext w w'):=
 (F5 10100 (R6 h0 h1) (SY x0 x1 x2 x3 x4 x5)).mono fun e w' he=>by obtain ⟨v,rfl,hv,hb⟩:=he;exact ⟨v,rfl,hv,hb.ex⟩
set_option maxRecDepth 100000 in
theorem Gj (os:Os)(started:os.Started)(H:Type)(enc:TypeId × Value->H) :ReturnsInHanded {} checked os 3 .any (Rows.interpRunsSpec.pre6 enc prog f3 Rows.interpRunsRow.domain false) (Rows.interpRunsSpec.post enc prog f3 false true false false):=by
 refine returnsInHanded_of_change (C:=checked) own started (by kernel_rfl) func3
  (ChangeSpec.witness6 (enc:=enc) (C:=checked) false ⟨#[],#[.slice none 0 0,.slice none 0 0,.int .i64 0,.int .i64 0,.int .i64 0,.int .i64 0],[]⟩ 8 (by kernel_rfl) (by kernel_rfl) (by kernel_rfl) (by kernel_rfl)) ?_
 intro W base args ds gs before hval0 hW hcnd _;have hval:∀ (j:Nat) t v,f3.params[j]?=some t->args[j]?=some v->Value.okWide prog W .any base t v:=hval0;have hW':=hW;obtain ⟨p,q,hA0,hV,rfl,hfz,hnd⟩:=hW;have hA:DataW.TrodAll enc prog W 0 (fun _=>true) true f3.params.toList args.toList ds p:=hA0;rw [params3] at hA hval;obtain ⟨v0,vs0,d0,ds0,p0,q0,hargs,rfl,rfl,h0,r0⟩:=trodAll_cons hA;obtain ⟨v1,vs1,d1,ds1,p1,q1,rfl,rfl,rfl,h1,r1⟩:=trodAll_cons r0;obtain ⟨v2,vs2,d2,ds2,p2,q2,rfl,rfl,rfl,h2,r2⟩:=trodAll_cons r1;obtain ⟨v3,vs3,d3,ds3,p3,q3,rfl,rfl,rfl,h3,r3⟩:=trodAll_cons r2;obtain ⟨v4,vs4,d4,ds4,p4,q4,rfl,rfl,rfl,h4,r4⟩:=trodAll_cons r3;obtain ⟨v5,vs5,d5,ds5,p5,q5,rfl,rfl,rfl,h5,r5⟩:=trodAll_cons r4;obtain ⟨rfl,rfl,rfl⟩:=trodAll_nil r5;obtain rfl:args=#[v0,v1,v2,v3,v4,v5]:=by cases args;simp_all
 obtain ⟨rfl,rfl⟩:=trodVars_none hV;have k0:=h0;have lt0:∀ x ∈ p0,x.block < W.heap.size:=by obtain ⟨m,hm⟩:=k0;exact DataW.trod_lt m _ _ _ hm
 have k1:=h1;have lt1:∀ x ∈ p1,x.block < W.heap.size:=by obtain ⟨m,hm⟩:=k1;exact DataW.trod_lt m _ _ _ hm
 have k2:=h2;have lt2:∀ x ∈ p2,x.block < W.heap.size:=by obtain ⟨m,hm⟩:=k2;exact DataW.trod_lt m _ _ _ hm
 have k3:=h3;have lt3:∀ x ∈ p3,x.block < W.heap.size:=by obtain ⟨m,hm⟩:=k3;exact DataW.trod_lt m _ _ _ hm
 have k4:=h4;have lt4:∀ x ∈ p4,x.block < W.heap.size:=by obtain ⟨m,hm⟩:=k4;exact DataW.trod_lt m _ _ _ hm
 have k5:=h5;have lt5:∀ x ∈ p5,x.block < W.heap.size:=by obtain ⟨m,hm⟩:=k5;exact DataW.trod_lt m _ _ _ hm
 obtain ⟨a0,n0,c0,rfl⟩:=okWide_slice underlying22 (hval 0 22 v0 rfl rfl);obtain ⟨f0,hf0⟩:=h0;obtain ⟨A0,e0,l0,hcs0,hl0⟩:=open_list hf0;simp [Value.cells] at hcs0;obtain ⟨rfl,rfl,rfl⟩:=hcs0;obtain ⟨a1,n1,c1,rfl⟩:=okWide_slice underlying22 (hval 1 22 v1 rfl rfl);obtain ⟨f1,hf1⟩:=h1;obtain ⟨A1,e1,l1,hcs1,hl1⟩:=open_list hf1;simp [Value.cells] at hcs1;obtain ⟨rfl,rfl,rfl⟩:=hcs1;obtain ⟨x2,rfl⟩:=okWide_int underlying3 (hval 2 3 v2 rfl rfl);obtain ⟨x3,rfl⟩:=okWide_int underlying3 (hval 3 3 v3 rfl rfl);obtain ⟨x4,rfl⟩:=okWide_int underlying3 (hval 4 3 v4 rfl rfl);obtain ⟨x5,rfl⟩:=okWide_int underlying3 (hval 5 3 v5 rfl rfl);clear hA0 hval0;refine (Ic W hl0 hl1).mono fun e W' he=>?_;obtain ⟨v,rfl,rfl,bel⟩:=he;exact ⟨_,rfl,_,_,_,[],_,[],hW',trodAll_mk1 (shut_bool underlying4 _),trodAll_cons_mk (Below.trod laidOut (by kernel_rfl) (Bw (by kernel_rfl)) k0 bel lt0) (trodAll_cons_mk (Below.trod laidOut (by kernel_rfl) (Bw (by kernel_rfl)) k1 bel lt1) (trodAll_cons_mk (Below.trod laidOut (by kernel_rfl) (Bw (by kernel_rfl)) k2 bel lt2) (trodAll_cons_mk (Below.trod laidOut (by kernel_rfl) (Bw (by kernel_rfl)) k3 bel lt3) (trodAll_cons_mk (Below.trod laidOut (by kernel_rfl) (Bw (by kernel_rfl)) k4 bel lt4) (trodAll_cons_mk (Below.trod laidOut (by kernel_rfl) (Bw (by kernel_rfl)) k5 bel lt5) trodAll_mk0))))),rfl,Below.frame bel _,fun h=>by cases h⟩
theorem interpRuns_holds:Rows.InterpRunsSaid:=
 OpenClaim.holds_of_wide 3 f3 rfl rfl rfl rfl rfl rfl rfl ⟨rfl,rfl,rfl,rfl,rfl⟩ rfl rfl rfl rfl rfl (by kernel_rfl) func3 (by kernel_rfl)
  (Bw (by kernel_rfl)) (by unfold Func.isWrapper;first | (rw [kg (by decide +kernel)];kernel_rfl)|(rw [jR (by decide +kernel)];exact ⟨rfl,rfl⟩))
  (fun os started H enc _=>Gj os started H enc)
end Go.Proofs.YtfglbdkfnphjgaaGreat
