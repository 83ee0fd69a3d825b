/- The checker of the specification answers for any program; variables in scope together have different names. -/
import Derived.Test.YtdkneekpdecjbaaGreatPu
import Derived.Test.YtdkneekpdecjbaaGreatLg
set_option linter.unusedVariables false
set_option linter.unusedSimpArgs false
namespace Go.Proofs.YtdkneekpdecjbaaGreat
open Go.RowKit Go.Fw Go.Proofs.Tryz
structure SI (S:fV)(V:List gP):Prop where
 f0:0<=S.f
 vl:(S.a.c.length:Int)=S.f+1
 v:S.a.c[S.f.toNat]?=some V
 vn:V.length<=24
 op:∀ v ∈ S.b,0<=v/\v < V.length
 ol:S.b.length<=V.length
 st:S.a.b.length<=200
 rk:∀ x ∈ V,x.b=2->0<=x.f/\x.f < S.a.a.a.length
structure NI (S:fV)(V:List gP):Prop where
 cl:∀ (i:Nat)(x:gP),V[i]?=some x->(i:Int) ∉ S.b->x.d < S.a.b.length
 pr:∀ (i j:Nat)(x y:gP),i < j->V[i]?=some x->V[j]?=some y->x.c≠y.c\/((i:Int) ∉ S.b/\x.d < y.e)
structure Stp (S:fV)(V:List gP)(S':fV)(V':List gP):Prop where
 si:SI S' V'
 f:S'.f=S.f
 pg:S'.a.a=S.a.a
 vs:∀ k:Nat,(k:Int)≠S.f->S'.a.c[k]?=S.a.c[k]?
 st:S.a.b.length<=S'.a.b.length
 e:S'.e=0->S.e=0
 vle:V.length<=V'.length
 ni:S'.e=0->NI S V->NI S' V'
theorem Stp.rfl' {S:fV}{V:List gP}(h:SI S V):Stp S V S V:=⟨h,rfl,rfl,fun _ _=>rfl,mO _,id,mO _,fun _ k=>k⟩
theorem Stp.trans {S S1 S2:fV}{V V1 V2:List gP}(h:Stp S V S1 V1)(k:Stp S1 V1 S2 V2):Stp S V S2 V2:=
 ⟨k.si,k.f.trans h.f,k.pg.trans h.pg,fun x hx=>(k.vs x (by rw [h.f];exact hx)).trans (h.vs x hx),rE h.st k.st,fun z=>h.e (k.e z),rE h.vle k.vle,fun z n=>k.ni z (h.ni (k.e z) n)⟩
structure Ew (S S':fV):Prop where
 out:S'.a=S.a
 f:S'.f=S.f
 op:S'.b=S.b
 e:S'.e=0->S.e=0
theorem Ew.rfl' {S:fV}:Ew S S:=⟨rfl,rfl,rfl,id⟩
theorem Ew.trans {S S1 S2:fV}(h:Ew S S1)(k:Ew S1 S2):Ew S S2:=⟨k.out.trans h.out,k.f.trans h.f,k.op.trans h.op,fun z=>h.e (k.e z)⟩
theorem Ew.si {S S':fV}{V:List gP}(k:Ew S S')(h:SI S V):SI S' V:=
 ⟨by rw [k.f];exact h.f0,by rw [k.out,k.f];exact h.vl,by rw [k.out,k.f];exact h.v,h.vn,by rw [k.op];exact h.op,by rw [k.op];exact h.ol,by rw [k.out];exact h.st,by rw [k.out];exact h.rk⟩
theorem Ew.stp {S S':fV}{V:List gP}(k:Ew S S')(h:SI S V):Stp S V S' V:=
 ⟨k.si h,k.f,by rw [k.out],fun x _=>by rw [k.out],by rw [k.out];exact mO _,k.e,mO _,fun _ n=>⟨fun i x hi ho=>by rw [k.out];rw [k.op] at ho;exact n.cl i x hi ho,fun i j x y hij hi hj=>by rw [k.op];exact n.pr i j x y hij hi hj⟩⟩
theorem wW {fu:Nat}{S:fV}{ln e:Int}(he:e≠0):kS (mH fu S ln e) (fun S'=>Ew S S'/\S'.e≠0):=by unfold mH;exact .ite (fun c=>.mk ⟨⟨rfl,rfl,rfl,fun z=>absurd z he⟩,he⟩) fun c=>.mk ⟨.rfl',c⟩
theorem Jw {fu:Nat}{n:ByteArray}:∀ (l:List kg)(k:Nat),kS (qR fu n l k) (qg (fun _=>True) (fun r=>jy r fun v b=>(k:Int)≤v∧v < k+l.length))
 | [],_=>.go kL
 | u :: r,k=>by
  rw [qR,uK];refine .ite (fun _=>.out ⟨vk _,by omega⟩) fun _=>(Jw r (k+1)).imp fun v hv=>?_;obtain v | v:=v
  · trivial
  · obtain ⟨a,b⟩:=v;exact ⟨by have:=hv.1;omega,by have:=hv.2;omega⟩
theorem X3 {fu:Nat}{S:fV}{n:ByteArray}:kS (yP fu S n) (fun r=>jy r fun v b=>b=true->0<=v/\v < S.a.a.a.length):=by unfold yP;refine .el (Jw _ 0) (fun _ _=>.mk fun z=>(by cases z)) fun o ho=>.mk ?_;obtain ⟨a,b⟩:=o;exact fun _=>⟨by have:=ho.1;omega,by have:=ho.2;omega⟩
theorem Nt {fu:Nat}{n:ByteArray}:∀ (l:List kN)(k:Nat),kS (tN fu n l k) (qg (fun _=>True) (fun r=>jy r fun v b=>(k:Int)≤v∧v < k+l.length))
 | [],_=>.go kL
 | u :: r,k=>by
  rw [tN,uK];refine .ite (fun _=>.out ⟨vk _,by omega⟩) fun _=>(Nt r (k+1)).imp fun v hv=>?_;obtain v | v:=v
  · trivial
  · obtain ⟨a,b⟩:=v;exact ⟨by have:=hv.1;omega,by have:=hv.2;omega⟩
theorem abR {fu:Nat}{s:jR}{n:ByteArray}:kS (Cg fu s n) (fun r=>jy r fun v b=>b=true->0<=v/\v < s.a.b.length):=by unfold Cg;refine .el (Nt _ 0) (fun _ _=>.mk fun z=>(by cases z)) fun o ho=>.mk ?_;obtain ⟨a,b⟩:=o;exact fun _=>⟨by have:=ho.1;omega,by have:=ho.2;omega⟩
theorem SI.ix {S:fV}{V:List gP}(h:SI S V):kS (ix S.a.c S.f) (fun r=>r=V):=by have h1:=h.vl;have h2:=h.f0;refine (kS.ix h2 (by omega)).imp fun v hv=>?_;rw [h.v] at hv;exact (JD hv).symm
theorem Jj {fu:Nat}{S:fV}{V:List gP}(h:SI S V){n:ByteArray}:∀ (l:List Int)(k:Nat),(∀ v ∈ l,v ∈ S.b)→kS (qP fu S n l k) (qg (fun _=>∀ v ∈ l,∀ x,V[v.toNat]?=some x→x.c≠n) (fun r=>jy r fun v b=>b=true∧v ∈ S.b∧∃ x,V[v.toNat]?=some x∧x.c=n))
 | [],_,_=>.go fun v hv=>(by cases hv)
 | u :: r,k,hl=>by
  rw [qP];have hu:=h.op u (hl u (.head _));refine .bd h.ix fun e he=>?_;subst he;refine .bd (.ix hu.1 hu.2) fun x hx=>.ite (fun c=>.out ⟨rfl,hl u (.head _),x,hx,c⟩) fun c=>(Jj h r (k+1) fun v hv=>hl v (.tail _ hv)).imp fun v hv=>?_;obtain v | v:=v
  · intro w hw y hy;rcases oM.1 hw with rfl | hw
    · rw [hx] at hy;obtain rfl:=JD hy;exact c
    · exact hv w hw y hy
  · exact hv
theorem Qz {fu:Nat}{S:fV}{V:List gP}(h:SI S V){n:ByteArray}:kS (wH fu S n) (fun r=>jy r fun v b=>(b=true->v ∈ S.b/\∃ x,V[v.toNat]?=some x/\x.c=n)/\(b=false->∀ v ∈ S.b,∀ x,V[v.toNat]?=some x->x.c≠n)):=by unfold wH;refine .el (Jj h S.b 0 fun v hv=>hv) (fun _ hs=>.mk ⟨fun z=>(by cases z),fun _=>hs⟩) fun o ho=>.mk ?_;obtain ⟨a,b⟩:=o;obtain ⟨rfl,h1,h2⟩:=ho;exact ⟨fun _=>⟨h1,h2⟩,fun z=>(by cases z)⟩
theorem Jb {fu:Nat}{S:fV}{V:List gP}(h:SI S V){ln:Int}{x:gP}(hx:x.b=2->0<=x.f/\x.f < S.a.a.a.length)(hf:S.a.b.length<=x.e) :kS (nK fu S ln x) (fun r=>jy r fun v S'=>∃ V',Stp S V S' V'/\(∃ ext,S'.b=S.b ++ ext)/\(S'.e=0->V'=V ++ [x]/\v=V.length/\S'.b=S.b ++ [(V.length:Int)])):=by
 unfold nK;refine .bp (Qz h) fun v b hv=>.bd h.ix fun e he=>?_;subst he;have same:∀ S',Ew S S'->S'.e≠0->∃ V',Stp S e S' V'/\(∃ ext,S'.b=S.b ++ ext)/\(S'.e=0->V'=e ++ [x]/\(0:Int)=e.length/\S'.b=S.b ++ [(e.length:Int)]):=fun S' k z=>⟨e,k.stp h,⟨[],by rw [k.op,ER]⟩,fun y=>absurd y z⟩;refine .ite (fun c=>.mk (same S .rfl' c)) fun c=>?_;have c:S.e=0:=by omega
 refine .ite (fun d=>.bd (wW (by decide)) fun S' k=>.mk (same S' k.1 k.2)) fun d=>?_;refine .ite (fun d2=>.bd (wW (by decide)) fun S' k=>.mk (same S' k.1 k.2)) fun d2=>?_;have a1:=h.vn;have a2:=h.ol;have a3:=h.f0;have a4:=h.vl;refine .bd (.app (by simp only [uK,xX];omega)) fun r hr=>?_;refine .bd (.app (by simp only [uK,xX];omega)) fun o ho=>?_;refine .bd (.st (by omega)) fun vs hvs=>.mk ?_;subst hr ho hvs;have hb:b=false:=by cases b <;> simp_all
 refine ⟨e ++ [x],⟨⟨h.f0,by simp only [wU];exact h.vl,?_,by rw [kr];omega,?_,by rw [kr,kr];omega,h.st,oQ h.rk hx⟩,rfl,rfl,fun k hk=>?_,mO _,fun _=>c,by rw [kr];omega,fun _ n=>⟨fun i y hi ho=>?_,fun i j y z hij hi hj=>?_⟩⟩,⟨[_],rfl⟩,fun _=>⟨rfl,rfl,rfl⟩⟩
 · show (S.a.c.set S.f.toNat (e ++ [x]))[S.f.toNat]?=_;rw [Bz (by omega)]
 · refine oQ (fun v hv=>?_) ?_
   · have:=h.op v hv;rw [kr];omega
   · rw [kr];omega
 · show (S.a.c.set S.f.toNat (e ++ [x]))[k]?=_;rw [zu (by omega)]
 · dsimp only at ho ⊢;rw [pX,not_or] at ho;have hi2:i < e.length:=by have:=ko hi;rw [kr] at this;have h3:i≠e.length:=fun z=>ho.2 (by rw [z];exact .head _);omega
   rw [AL hi2] at hi;exact n.cl i y hi ho.1
 · dsimp only;have hi2:i < e.length:=by have:=ko hj;rw [kr] at this;omega
   rw [AL hi2] at hi;have hne:(i:Int) ∉ S.b->(i:Int) ∉ S.b ++ [(e.length:Int)]:=fun z y=>by
     rcases pX.1 y with y | y
     · exact z y
     · simp only [oM,CF,or_false] at y;omega
   by_cases hj2:j < e.length
   · rw [AL hj2] at hj;rcases n.pr i j y z hij hi hj with k | k
     · exact .inl k
     · exact .inr ⟨hne k.1,k.2⟩
   · have:j=e.length:=by have:=ko hj;rw [kr] at this;omega
     subst this;rw [Du (mO _),Nat.sub_self] at hj;obtain rfl:=JD hj;by_cases ho:(i:Int) ∈ S.b
     · exact .inl (hv.2 hb _ ho y hi)
     · exact .inr ⟨hne ho,by have:=n.cl i y hi ho;omega⟩
def Yo (f:fV->jB->Int->Option (jB × fV))(fu:Nat):Prop:=∀ S V x ln n,SI S V->Cr n x->2 * n<=fu->kS (f S x ln) (fun r=>jy r fun _ S'=>Ew S S')
def Ya (f:fV->List jB->Int->Option (List jB × fV))(fu:Nat):Prop:=∀ S V l ln n,SI S V->(∀ y ∈ l,Cr n y)->l.length<=5000->2 * n+1<=fu->kS (f S l ln) (fun r=>jy r fun l' S'=>Ew S S'/\l'.length=l.length)
section
variable {fu:Nat}{f:fV->jB->Int->Option (jB × fV)}{g:fV->List jB->Int->Option (List jB × fV)}
theorem Jh {x:jB}{O:jB × fV→Prop}:∀ (l:List ByteArray)(k:Nat)(n:Int),kS (nZ fu g f x l k n) (qg (fun _=>True) O)
 | [],_,_=>.go kL
 | u :: r,k,n=>by rw [nZ];exact .ite (fun _=>Jh r (k+1) _) fun _=>Jh r (k+1) n
theorem aaJ (hg:Ya g fu):Yo (uD fu g f) (fu+1):=by
 intro S V x ln n h hx hn;cases n with
 | zero=>exact hx.elim
 | succ n=>
 unfold uD;refine .ite (fun c=>.mk .rfl') fun c=>?_;have hJ:kS (o9 fu g f S x ln) (qg (fun r=>jy r fun _ r=>jy r fun _ r=>jy r fun a r=>jy r fun b r=>jy r fun c r=>jy r fun d r=>jy r fun e r=>jy r fun f r=>jy r fun g h=>Ew S ⟨⟨⟨a,e⟩,f,g⟩,b,h,c,d⟩) (fun r=>jy r fun _ S'=>Ew S S')):=by
  unfold o9;have hJ1:kS (tK fu g f x) (qg (fun b=>b=true->x.e=1\/x.e=2\/x.e=3) (fun _=>False)):=by unfold tK;refine .ite (fun c=>.go fun _=>.inl c) fun _=>.ite (fun c=>.go fun _=>.inr (.inl c)) fun _=>.go fun z=>.inr (.inr (Ey z))
  refine .el hJ1 (fun b hb=>?_) fun _ z=>z.elim;refine .ite (fun c=>?_) fun c=>.go .rfl';refine .bp (Qz h) fun v is hv=>.ite (fun d=>?_) fun d=>?_
  · exact .bd (wW (by decide)) fun S' k=>.out k.1
  have hv:=hv.1 (by simpa using d);refine .bd h.ix fun e he=>?_;subst he;have ho:=h.op v hv.1;refine .bd (.ix ho.1 ho.2) fun y hy=>.ite (fun _=>?_) fun d2=>?_
  · exact .bd (wW (by decide)) fun S' k=>.out k.1
  refine .ite (fun c2=>?_) fun _=>.go .rfl';have hk:y.b=2:=by rw [c2,show wr ((1:Int)+2)=3 from mo (by omega) (by omega),show wr ((3:Int) - 1)=2 from mo (by omega) (by omega)] at d2;omega
  have hr:=h.rk y (vM hy) hk;refine .bd (.ix hr.1 hr.2) fun rc _=>.FL (Jh _ 0 _) fun m _=>?_;exact .ite (fun _=>.bd (wW (by decide)) fun S' k=>.go k.1) fun _=>.go .rfl'
 refine .eo hJ fun s hs=>?_;refine .pp hs fun a1 r hs=>.pp hs fun a2 r hs=>.pp hs fun a3 r hs=>.pp hs fun a4 r hs=>.pp hs fun a5 r hs=>.pp hs fun a6 r hs=>.pp hs fun a7 r hs=>.pp hs fun a8 r hs=>.pp hs fun a9 a10 hs=>?_;exact .bp (hg _ V _ ln n (hs.si h) hx.2 hx.1.1 (by omega)) fun l' S' k=>.mk (hs.trans k.1)
theorem JY (hf:Yo f fu){V:List gP}{ln:Int}{n:Nat}(hn:2 * n≤fu){S0:fV}(h:SI S0 V){O:List jB × fV→Prop}:∀ (l:List jB)(k:Nat)(out:List jB)(S:fV),Ew S0 S→(∀ y ∈ l,Cr n y)→out.length+l.length≤5000→
  kS (nY fu g f ln l k out S.a.a.a S.f S.c S.e S.a.a.b S.a.c S.a.b S.b) (qg (fun r=>jy r fun o r=>jy r fun a r=>jy r fun b r=>jy r fun c r=>jy r fun d r=>jy r fun e r=>jy r fun f r=>jy r fun g h=>Ew S0 ⟨⟨⟨a,e⟩,f,g⟩,b,h,c,d⟩/\o.length=out.length+l.length) O)
 | [],_,out,S,hS,_,_=>.go ⟨hS,rfl⟩
 | u :: r,k,out,S,hS,hl,hlen=>by
  rw [nY];rw [uK] at hlen;refine .bp (hf _ V u ln n (hS.si h) (hl u (.head _)) hn) fun x S1 k1=>?_;refine .bd (.app (by simp only [uK,xX];omega)) fun o ho=>?_;subst ho;refine (JY hf hn h (O:=O) r (k+1) _ S1 (hS.trans k1) (fun y hy=>hl y (.tail _ hy)) (by rw [kr];omega)).imp fun v hv=>?_;obtain v | v:=v
  · obtain ⟨a1,a2,a3,a4,a5,a6,a7,a8,a9⟩:=v;exact ⟨hv.1,by rw [hv.2,kr,uK];omega⟩
  · exact hv
theorem YL (hf:Yo f fu):Ya (sJ fu g f) (fu+1):=by intro S V l ln n h hl hlen hn;unfold sJ;refine .el (JY (O:=fun _=>False) hf (by omega) h l 0 [] S .rfl' hl (by simp only [xX];omega)) (fun s hs=>?_) fun _ z=>z.elim;refine .pp hs fun a1 r hs=>.pp hs fun a2 r hs=>.pp hs fun a3 r hs=>.pp hs fun a4 r hs=>.pp hs fun a5 r hs=>.pp hs fun a6 r hs=>.pp hs fun a7 r hs=>.pp hs fun a8 a9 hs=>.mk ⟨hs.1,?_⟩;rw [hs.2,xX,DV]
end
theorem Pk:∀ fu:Nat,Yo (zC fu) fu∧Ya (sK fu) fu
 | 0=>by
  refine ⟨fun S V x ln n h hx hn=>?_,fun S V l ln n h hl hlen hn=>by omega⟩;obtain rfl:n=0:=by omega
  exact hx.elim
 | fu+1=>⟨aaJ (Pk fu).2,YL (Pk fu).1⟩
theorem XT {fu:Nat}{S:fV}{x:jA}:kS (qW fu S x) (fun r=>jy r fun S' x'=>Ew S S'/\∃ c,x'=⟨x.b,x.g,x.n,x.c,x.j,x.m,x.f,x.e,x.k,c,x.a,x.d,x.h⟩):=by
 unfold qW;have hx:x=⟨x.b,x.g,x.n,x.c,x.j,x.m,x.f,x.e,x.k,x.i,x.a,x.d,x.h⟩:=by cases x;rfl
 refine .ite (fun _=>.mk ⟨.rfl',_,hx⟩) fun _=>?_;refine .bp abR fun v b hv=>.ite (fun _=>?_) fun d=>?_
 · exact .bd (wW (by decide)) fun S' k=>.mk ⟨k.1,_,rfl⟩
 have hv:=hv (by simpa using d);refine .bd (.ix hv.1 hv.2) fun fn _=>.ite (fun _=>?_) fun _=>.mk ⟨.rfl',_,rfl⟩;exact .bd (wW (by decide)) fun S' k=>.mk ⟨k.1,_,rfl⟩
structure L9 (N:Int)(C:Nat->Prop)(V V':List gP):Prop where
 len:V'.length=V.length
 el:∀ (i:Nat)(x':gP),V'[i]?=some x'->∃ x,V[i]?=some x/\x'.c=x.c/\x'.b=x.b/\x'.f=x.f/\x'.e=x.e/\(x'.d=N\/x'.d=x.d)/\(C i->x'.d=N)/\(¬ C i->x'.d=x.d)
theorem L9.rfl' {N:Int}{V:List gP}:L9 N (fun _=>False) V V:=⟨rfl,fun i x h=>⟨x,h,rfl,rfl,rfl,rfl,.inr rfl,fun z=>z.elim,fun _=>rfl⟩⟩
theorem L9.trans {N:Int}{C C2:Nat->Prop}{V V1 V2:List gP}(h:L9 N C V V1)(k:L9 N C2 V1 V2):L9 N (fun i=>C i\/C2 i) V V2:=⟨k.len.trans h.len,fun i x hx=>by
 obtain ⟨y,hy,a1,a2,a3,a4,a5,a6,a7⟩:=k.el i x hx;obtain ⟨z,hz,b1,b2,b3,b4,b5,b6,b7⟩:=h.el i y hy;refine ⟨z,hz,a1.trans b1,a2.trans b2,a3.trans b3,a4.trans b4,?_,fun c=>?_,fun c=>?_⟩
 · rcases a5 with a5 | a5
   · exact .inl a5
   · rw [a5];exact b5
 · rcases c with c | c
   · rcases a5 with a5 | a5
     · exact a5
     · rw [a5];exact b6 c
   · exact a6 c
 · rw [a7 fun y=>c (.inr y)];exact b7 fun y=>c (.inl y)⟩
theorem L9.one {N:Int}{V:List gP}{i:Nat}{x:gP}(hx:V[i]?=some x):L9 N (·=i) V (V.set i ⟨x.c,x.b,x.f,x.a,x.g,x.e,N⟩):=⟨wU,fun j y hy=>by
 by_cases c:j=i
 · subst c;rw [Bz (ko hx)] at hy;obtain rfl:=JD hy;exact ⟨x,hx,rfl,rfl,rfl,rfl,.inl rfl,fun _=>rfl,fun z=>absurd rfl z⟩
 · rw [zu (Ne.symm c)] at hy;exact ⟨y,hy,rfl,rfl,rfl,rfl,.inr rfl,fun z=>absurd z c,fun _=>rfl⟩⟩
theorem Lp {α:Type}{l:List α}{x:α}{k:Nat}(h:l[k]?=some x):l.set k x=l:=by obtain ⟨hk,rfl⟩:=List.getElem?_eq_some_iff.1 h;exact List.set_getElem_self hk
theorem Uw {α:Type}{l:List α}{x:α}(h:x ∈ l):∃ i:Nat,l[i]?=some x:=by obtain ⟨i,hi,rfl⟩:=List.getElem_of_mem h;exact ⟨i,List.getElem?_eq_getElem hi⟩
theorem L9.stp {S:fV}{V V':List gP}{C:Nat->Prop}{op:List Int}{vs:List (List gP)}(h:SI S V)(k:L9 ((S.a.b.length:Int) - 1) C V V')(hvs:vs=S.a.c.set S.f.toNat V')(ho:∀ v ∈ op,v ∈ S.b)(hl:op.length<=S.b.length)(hC:∀ i:Nat,C i->(i:Int) ∈ S.b)(hD:S.e=0->∀ i:Nat,(i:Int) ∈ S.b->(i:Int) ∉ op->C i):Stp S V ⟨⟨S.a.a,vs,S.a.b⟩,S.f,op,S.c,S.e⟩ V':=by
 have a3:=h.f0;have a4:=h.vl;subst hvs;refine ⟨⟨h.f0,by simp only [wU];exact h.vl,?_,by rw [k.len];exact h.vn,fun v hv=>by rw [k.len];exact h.op v (ho v hv),by rw [k.len];exact rE hl h.ol,h.st,fun x hx hk=>?_⟩,rfl,rfl,fun q hq=>?_,mO _,id,by rw [k.len];exact mO _,fun he n=>⟨fun i x hi ho2=>?_,fun i j x y hij hi hj=>?_⟩⟩
 · show (S.a.c.set S.f.toNat V')[S.f.toNat]?=_;rw [Bz (by omega)]
 · obtain ⟨i,hi⟩:=Uw hx;obtain ⟨y,hy,_,b1,b2,_⟩:=k.el i x hi;rw [b2];exact h.rk y (vM hy) (b1 ▸ hk)
 · show (S.a.c.set S.f.toNat V')[q]?=_;rw [zu (by omega)]
 · obtain ⟨y,hy,_,_,_,_,b5,b6,b7⟩:=k.el i x hi;dsimp only at ho2 ⊢;by_cases c:(i:Int) ∈ S.b
   · rw [b6 (hD he i c ho2)];omega
   · rw [b7 fun z=>c (hC i z)];exact n.cl i y hy c
 · obtain ⟨x0,hx0,b1,_,_,_,_,b6,b7⟩:=k.el i x hi;obtain ⟨y0,hy0,c1,_,_,c4,_⟩:=k.el j y hj;rw [b1,c1,c4];rcases n.pr i j x0 y0 hij hx0 hy0 with m | m
   · exact .inl m
   · exact .inr ⟨fun z=>m.1 (ho _ z),by rw [b7 fun z=>m.1 (hC i z)];exact m.2⟩
def Zr (f:fV->List jA->Option (List jA × fV))(fu:Nat):Prop:=∀ S V l n,SI S V->(∀ y ∈ l,DL 5000 n y)->l.length<=5001->2 * n+10002<=fu->kS (f S l) (fun r=>jy r fun _ S'=>∃ V',Stp S V S' V'/\S'.b=S.b)
def Zp (f:fV->jA->Option (jA × fV))(fu:Nat):Prop:=∀ S V x n,SI S V->DL 5000 n x->2 * n+10001<=fu->kS (f S x) (fun r=>jy r fun _ S'=>∃ V',Stp S V S' V'/\∃ ext,S'.b=S.b ++ ext)
section
variable {fu:Nat}{f:fV->List jA->Option (List jA × fV)}{g:fV->jA->Option (jA × fV)}
theorem Kw (hg:Zp g fu){n:Nat}(hn:2 * n+10001≤fu){S0:fV}{V0:List gP}(h0:SI S0 V0){O:List jA × fV→Prop}:∀ (l:List jA)(k:Nat)(out:List jA)(S:fV)(V:List gP),Stp S0 V0 S V→(∃ ext,S.b=S0.b ++ ext)→(∀ y ∈ l,DL 5000 n y)→out.length+l.length≤5001→
  kS (lF fu f g l k out S.a.a.a S.f S.c S.e S.a.a.b S.a.c S.a.b S.b) (qg (fun r=>jy r fun o r=>jy r fun a r=>jy r fun b r=>jy r fun c r=>jy r fun d r=>jy r fun e r=>jy r fun f r=>jy r fun g h=>∃ V',Stp S0 V0 ⟨⟨⟨a,e⟩,f,g⟩,b,h,c,d⟩ V'/\∃ ext,h=S0.b ++ ext) O)
 | [],_,out,S,V,hS,he,_,_=>.go ⟨V,hS,he⟩
 | u :: r,k,out,S,V,hS,he,hl,hlen=>by rw [lF];rw [uK] at hlen;refine .ite (fun c=>.go ⟨V,hS,he⟩) fun c=>?_;refine .bp (hg _ V u n hS.si (hl u (.head _)) hn) fun x S1 ⟨V1,k1,ext,k2⟩=>?_;refine .bd (.app (by simp only [uK,xX];omega)) fun o ho=>?_;subst ho;obtain ⟨e0,he⟩:=he;exact Kw hg hn h0 r (k+1) _ S1 V1 (hS.trans k1) ⟨e0 ++ ext,by rw [k2];dsimp only;rw [he,List.append_assoc]⟩ (fun y hy=>hl y (.tail _ hy)) (by rw [kr];omega)
theorem KG {S:fV}{V:List gP}(h:SI S V){O:List jA × fV→Prop}:∀ (l:List Int)(k:Nat)(vs:List (List gP))(V1:List gP)(C:Nat→Prop),(∀ v ∈ l,v ∈ S.b)→vs.length=S.a.c.length→vs=S.a.c.set S.f.toNat V1→L9 ((S.a.b.length:Int) - 1) C V V1→(∀ i,C i→(i:Int) ∈ S.b)→
  kS (mX fu f g S.f S.a.b l k vs) (qg (fun vs'=>∃ V',vs'=S.a.c.set S.f.toNat V'/\∃ C',L9 ((S.a.b.length:Int) - 1) C' V V'/\(∀ i,C' i->(i:Int) ∈ S.b)/\(∀ i,C i->C' i)/\∀ v ∈ l,C' v.toNat) O)
 | [],_,vs,V1,C,_,_,h1,h2,h3=>.go ⟨V1,h1,C,h2,h3,fun _ z=>z,fun v hv=>(by cases hv)⟩
 | u :: r,k,vs,V1,C,hl,hlen,h1,h2,h3=>by
  have a3:=h.f0;have a4:=h.vl;have a5:=h.st;have hu:=hl u (.head _);have hu2:=h.op u hu;rw [mX];have hg:vs[S.f.toNat]?=some V1:=by rw [h1,Bz (by omega)]
  refine .bd (.ix (by omega) (by omega)) fun e he=>?_;rw [hg] at he;obtain rfl:=JD he;refine .bd (.ix hu2.1 (by rw [h2.len];exact hu2.2)) fun x hx=>?_;refine .bd (.st (by rw [h2.len];exact hu2)) fun w hw=>?_;refine .bd (.st (by omega)) fun w2 hw2=>?_;rw [mo (by omega) (by omega)] at hw;have k1:=L9.one (N:=(S.a.b.length:Int) - 1) hx;rw [<-hw] at k1;refine (KG h (O:=O) r (k+1) w2 w _ (fun v hv=>hl v (.tail _ hv)) (by rw [hw2,wU];exact hlen) (by rw [hw2,h1,List.set_set]) (h2.trans k1) (fun i hi=>?_)).imp fun v hv=>?_
  · rcases hi with hi | rfl
    · exact h3 i hi
    · rw [show ((u.toNat:Nat):Int)=u by omega];exact hu
  · obtain v | v:=v
    · obtain ⟨V',b1,C',b2,b3,b4,b5⟩:=hv;refine ⟨V',b1,C',b2,b3,fun i hi=>b4 i (.inl hi),fun q hq=>?_⟩;rcases oM.1 hq with rfl | hq
      · exact b4 _ (.inr rfl)
      · exact b5 q hq
    · exact hv
theorem YM (hg:Zp g fu):Zr (nX fu f g) (fu+1):=by
 intro S V l n h hl hlen hn;unfold nX;refine .el (Kw (O:=fun _=>False) hg (by omega) h l 0 [] S V (.rfl' h) ⟨[],(ER _).symm⟩ hl (by simp only [xX];omega)) (fun s hs=>?_) fun _ z=>z.elim;refine .pp hs fun o r hs=>.pp hs fun a1 r hs=>.pp hs fun a2 r hs=>.pp hs fun a3 r hs=>.pp hs fun a4 r hs=>.pp hs fun a5 r hs=>.pp hs fun a6 r hs=>.pp hs fun a7 a8 hs=>?_;obtain ⟨V1,h1,ext,rfl⟩:=hs;have b1:=h1.si.ol;have b2:=h1.si.vn;dsimp only at b1;rw [Ij] at b1;refine .bd (.sl (by rw [Ij];omega)) fun l1 hl1=>?_;have e1:l1=ext:=by rw [hl1,Ij];simp only [FJ,List.drop_left];rw [List.take_of_length_le (by omega)]
 subst e1;clear hl1;refine .el (KG h1.si (O:=fun _=>False) l1 0 a6 V1 (fun _=>False) (fun v hv=>pX.2 (.inr hv)) rfl (Lp h1.si.v).symm .rfl' (fun _ z=>z.elim)) (fun vs hvs=>?_) fun _ z=>z.elim;obtain ⟨V2,c1,C,c2,c3,_,c5⟩:=hvs;refine .bd (.sl (by rw [Ij];omega)) fun l2 hl2=>?_;have e2:l2=S.b:=by rw [hl2];simp only [Int.toNat_zero,List.drop_zero,Int.sub_zero,FJ,List.take_left]
 subst e2;refine .bd (.app (by simp only [xX];omega)) fun r hr=>.mk ?_;rw [DI] at hr;subst hr;refine ⟨V2,h1.trans (L9.stp h1.si c2 c1 (fun v hv=>List.mem_append.2 (.inl hv)) (by dsimp only;rw [List.length_append];omega) c3 fun _ i hi ho=>?_),rfl⟩;dsimp only at hi;rcases pX.1 hi with hi | hi
 · exact absurd hi ho
 · have:=c5 _ hi
   rwa [FJ] at this
end
def UP (S:fV)(V:List gP)(S':fV):Prop:=∃ V',Stp S V S' V'/\∃ ext,S'.b=S.b ++ ext
theorem UP.trans {S S1 S2:fV}{V V1:List gP}(h:Stp S V S1 V1)(ho:S1.b=S.b)(k:UP S1 V1 S2):UP S V S2:=by obtain ⟨V2,k1,ext,k2⟩:=k;exact ⟨V2,h.trans k1,ext,by rw [k2,ho]⟩
section
variable {fu:Nat}{f:fV->List jA->Option (List jA × fV)}{g:fV->jA->Option (jA × fV)}
theorem U3 {S:fV}{V:List gP}{x:jA}{r8:List jT}(h:SI ⟨⟨S.a.a,S.a.c,r8⟩,S.f,S.b,S.c,S.e⟩ V):kS (qZ fu f g S x r8) (qg (fun r=>jy r fun k r=>jy r fun c _=>k=2->0<=c/\c < S.a.a.a.length) (fun r=>jy r fun _ S'=>UP ⟨⟨S.a.a,S.a.c,r8⟩,S.f,S.b,S.c,S.e⟩ V S')):=by
 unfold qZ;refine .ite (fun _=>.go fun z=>(by cases z)) fun _=>.ite (fun _=>?_) fun _=>.go fun z=>(by cases z);refine .bp X3 fun v b hv=>.ite (fun _=>?_) fun d=>?_
 · exact .bd (wW (by decide)) fun S' k=>.out ⟨V,k.1.stp h,[],by rw [k.1.op,ER]⟩
 have hv:=hv (by simpa using d);exact .bd (.ix hv.1 hv.2) fun rc _=>.go fun _=>hv
theorem Ve {S:fV}{V:List gP}{x:jA}{r8:List jT}(h:SI ⟨⟨S.a.a,S.a.c,r8⟩,S.f,S.b,S.c,S.e⟩ V)(hr:r8.length=S.a.b.length+1):kS (oh fu f g S x r8) (qg (fun r=>jy r fun a r=>jy r fun b r=>jy r fun c r=>jy r fun d r=>jy r fun e r=>jy r fun f r=>jy r fun g h=>Ew ⟨⟨S.a.a,S.a.c,r8⟩,S.f,S.b,S.c,S.e⟩ ⟨⟨⟨a,e⟩,f,g⟩,b,h,c,d⟩) (fun r=>jy r fun _ S'=>UP ⟨⟨S.a.a,S.a.c,r8⟩,S.f,S.b,S.c,S.e⟩ V S')):=by
 unfold oh;refine .ite (fun _=>?_) fun _=>.ite (fun _=>.ite (fun c=>?_) fun _=>.go .rfl') fun _=>.go .rfl'
 · refine .el (U3 h) (fun s hs=>?_) fun o ho=>.out ho;refine .pp hs fun k r hs=>.pp hs fun c w hs=>?_;have h1:=h.st;dsimp only at h1;refine .bp (Jb h hs ?_) fun v S' k=>.out ?_
   · dsimp only;rw [mo (by omega) (by omega)];omega
   · obtain ⟨V',k1,k2,_⟩:=k;exact ⟨V',k1,k2⟩
 · refine .bd (.ix (vk _) c) fun e he=>.ite (fun _=>?_) fun _=>.go .rfl';exact .bd (wW (by decide)) fun S' k=>.go k.1
theorem U2 {S:fV}{V:List gP}{v:Int}(h:SI S V)(hv:S.e=0->0<=v/\v < V.length){O:jA × fV->Prop}:kS (oZ fu f g v S) (qg (fun vs=>∃ V',vs=S.a.c.set S.f.toNat V'/\∃ C,L9 ((S.a.b.length:Int) - 1) C V V'/\(S.e=0->∀ i,C i ↔ i=v.toNat)/\(S.e≠0->∀ i,¬ C i)) O):=by unfold oZ;refine .ite (fun c=>?_) fun c=>.go ⟨V,(Lp h.v).symm,_,.rfl',fun z=>absurd z c,fun _ _ z=>z⟩;have hv:=hv c;have a3:=h.f0;have a4:=h.vl;have a5:=h.st;refine .bd h.ix fun e he=>?_;subst he;refine .bd (.ix hv.1 hv.2) fun x hx=>.bd (.st hv) fun w hw=>.bd (.st (by omega)) fun w2 hw2=>.go ?_;rw [mo (by omega) (by omega)] at hw;subst hw hw2;exact ⟨_,rfl,_,L9.one hx,fun _ i=>Iff.rfl,fun z=>absurd c z⟩
theorem UC (hf:Zr f fu){n:Nat}(hn:2 * n+10002<=fu){S:fV}{V:List gP}{l:List jA}(h:SI S V)(hl:(∀ y ∈ l,DL 5000 n y)/\l.length<=5001){a1 a2 a3:Int}{a4 a5:ByteArray}{a6:Int}{a7:List jB}{a8:ByteArray}{a9:Int}{a10:List jB}{a11:List jA} :kS (og fu f g a1 a2 a3 a4 a5 a6 a7 a8 a9 l a10 a11 S) (qg (fun _=>True) (fun r=>jy r fun _ S'=>UP S V S')):=by
 unfold og;refine .ite (fun _=>.ite (fun c=>?_) fun _=>.go kL) fun _=>.go kL;have b1:=h.ol;have b2:=h.vn;refine .bd (.app (by simp only [xX];omega)) fun r hr=>?_;rw [DI] at hr;subst hr;refine .bp (Jb h (fun z=>(by cases z)) (vk _)) fun v S1 k1=>?_;obtain ⟨V1,k1,⟨ext,k2⟩,k3⟩:=k1;refine .bp (hf S1 V1 l n k1.si hl.1 hl.2 hn) fun l2 S2 k4=>?_;obtain ⟨V2,k4,k5⟩:=k4;have hv:S2.e=0->0<=v/\v < V2.length:=fun z=>by have q:=k3 (k4.e z);have q1:=k4.vle;rw [q.1,kr] at q1;omega
 refine .el (U2 (O:=fun _=>False) k4.si hv) (fun vs hvs=>?_) fun _ z=>z.elim;obtain ⟨V3,c1,C,c2,c3,c4⟩:=hvs;have hop:S2.b=S.b ++ ext:=by rw [k5,k2]
 refine .out ⟨V3,(k1.trans k4).trans (L9.stp k4.si c2 c1 (fun v hv=>by rw [hop];exact pX.2 (.inl hv)) (by rw [hop,Ij];omega) (fun i hi=>?_) fun z i hi ho=>?_),[],by rw [ER]⟩
 · by_cases z:S2.e=0
   · have q:=k3 (k4.e z);rw [(c3 z i).1 hi,k5,q.2.2,q.2.1,FJ];exact pX.2 (.inr (.head _))
   · exact absurd hi (c4 z i)
 · have q:=k3 (k4.e z);rw [k5,q.2.2] at hi;rcases pX.1 hi with hi | hi
   · exact absurd hi ho
   · simp only [oM,CF,or_false] at hi;refine (c3 z i).2 ?_;rw [q.2.1];omega
theorem UZ {S:fV}{x:jA}{a:List jB}{S1:fV}{O:jA × fV->Prop}:kS (ru fu f g S x a S1) (qg (fun r=>jy r fun a r=>jy r fun b r=>jy r fun c r=>jy r fun d r=>jy r fun e r=>jy r fun f r=>jy r fun g r=>jy r fun h r=>jy r fun _ r=>jy r fun _ r=>jy r fun _ r=>jy r fun _ r=>jy r fun _ r=>jy r fun _ r=>jy r fun _ r=>jy r fun _ r=>jy r fun _ r=>jy r fun _ r=>jy r fun i r=>jy r fun j k=>Ew S1 ⟨⟨⟨a,e⟩,f,g⟩,b,h,c,d⟩/\i=x.a/\j=x.d/\k=x.h) O):=by unfold ru;refine .ite (fun _=>.bp XT fun S' x' k=>.go ?_) fun _=>.go ⟨.rfl',rfl,rfl,rfl⟩;obtain ⟨k1,c,rfl⟩:=k;exact ⟨k1,rfl,rfl,rfl⟩
theorem abP (hf:Zr f fu):Zp (rP fu f g) (fu+1):=by
 intro S V x n h hx hn;cases n with
 | zero=>exact hx.elim
 | succ n=>
 obtain ⟨x1,x2,x3,x4,x5⟩:=hx;unfold rP;refine .ite (fun c=>.bd (wW (by decide)) fun S' k=>.mk ⟨V,k.1.stp h,[],by rw [k.1.op,ER]⟩) fun c=>?_;have a3:=h.st;refine .bd (.app (by simp only [uK,xX];omega)) fun r8 hr8=>?_;have hlen:r8.length=S.a.b.length+1:=by rw [hr8,kr]
 have h1:SI ⟨⟨S.a.a,S.a.c,r8⟩,S.f,S.b,S.c,S.e⟩ V:=⟨h.f0,h.vl,h.v,h.vn,h.op,h.ol,by dsimp only;omega,h.rk⟩;have s1:Stp S V ⟨⟨S.a.a,S.a.c,r8⟩,S.f,S.b,S.c,S.e⟩ V:=⟨h1,rfl,rfl,fun _ _=>rfl,by dsimp only;omega,id,Nat.le_refl _,fun _ m=>⟨fun i y hi ho=>by have:=m.cl i y hi ho;dsimp only;omega,m.pr⟩⟩;refine .el (Ve h1 hlen) (fun s hs=>?_) fun o ho=>.mk ?_;rotate_left
 · obtain ⟨y,S'⟩:=o;exact UP.trans s1 rfl ho
 refine .pp hs fun b1 r hs=>.pp hs fun b2 r hs=>.pp hs fun b3 r hs=>.pp hs fun b4 r hs=>.pp hs fun b5 r hs=>.pp hs fun b6 r hs=>.pp hs fun b7 b8 hs=>?_;refine .bp ((Pk fu).2 _ V _ _ 5000 (hs.si h1) x1.2 (by have:=x1.1;omega) (by omega)) fun tg S2 k2=>?_;have q2:=hs.trans k2.1;refine .el (UZ (O:=fun _=>False)) (fun s hs=>?_) fun _ z=>z.elim;refine .pp hs fun c1 r hs=>.pp hs fun c2 r hs=>.pp hs fun c3 r hs=>.pp hs fun c4 r hs=>.pp hs fun c5 r hs=>.pp hs fun c6 r hs=>.pp hs fun c7 r hs=>.pp hs fun c8 r hs=>.pp hs fun c9 r hs=>.pp hs fun c10 r hs=>.pp hs fun c11 r hs=>.pp hs fun c12 r hs=>.pp hs fun c13 r hs=>.pp hs fun c14 r hs=>.pp hs fun c15 r hs=>.pp hs fun c16 r hs=>.pp hs fun c17 r hs=>.pp hs fun c18 r hs=>.pp hs fun c19 r hs=>.pp hs fun c20 c21 hs=>?_;obtain ⟨k3,rfl,rfl,rfl⟩:=hs;have q3:=q2.trans k3;refine .bp ((Pk fu).2 _ V _ _ 5000 (q3.si h1) x2.2 x2.1 (by omega)) fun ar S4 k4=>?_;have q4:=q3.trans k4.1;have s4:=s1.trans (q4.stp h1);refine .bp (hf S4 V x.d n s4.si x3.2 (by have:=x3.1;omega) (by omega)) fun bd S5 k5=>?_;obtain ⟨V5,k5,o5⟩:=k5;have s5:=s4.trans k5;have ho5:S5.b=S.b:=by rw [o5,q4.op]
 refine .el (UC hf (by omega) s5.si ⟨x4.2,by have:=x4.1;omega⟩) (fun _ _=>?_) fun o ho=>.mk ?_
 · refine .bp (hf S5 V5 x.h n s5.si x4.2 (by have:=x4.1;omega) (by omega)) fun el S6 k6=>.mk ?_;obtain ⟨V6,k6,o6⟩:=k6;exact ⟨V6,s5.trans k6,[],by rw [o6,ho5,ER]⟩
 · obtain ⟨y,S'⟩:=o;exact UP.trans s5 ho5 ho
end
theorem JW:∀ fu:Nat,Zr (p9 fu) fu∧Zp (vW fu) fu
 | 0=>⟨fun S V l n h hl hlen hn=>by omega,fun S V x n h hx hn=>by omega⟩
 | fu+1=>⟨YM (JW fu).2,abP (JW fu).1⟩
theorem pl {α β γ:Type}{a:α}{b:β}{f:α->β->γ}:jy (a,b) f=f a b:=rfl
def Sy (k:Int)(f:ByteArray)(t a:Nat):Prop:=(k=3->f≠be)/\(f=be->k≠1->k≠8->k≠10->a≠0)/\(k=2->t≠0)/\(f≠be->k=3\/k=6)
def Rq:Nat→jA→Prop
 | 0,_=>False
 | n+1,x=>(∀ y ∈ x.e,Cr 5000 y)/\(x.a.length<=5000/\∀ y ∈ x.a,Cr 5000 y)/\(∀ y ∈ x.d,Rq n y)/\(∀ y ∈ x.h,Rq n y)/\Sy x.b x.k x.e.length x.a.length
def FX (f:kN):Prop:=∀ y ∈ f.d,Rq 10 y
theorem DL.x:∀ {n:Nat}{x:jA},DL 5000 n x→Rq n x
 | 0,_,h=>h.elim
 | n+1,x,h=>⟨h.1.2,h.2.1,fun y hy=>DL.x (h.2.2.1.2 y hy),fun y hy=>DL.x (h.2.2.2.1.2 y hy),fun z=>(h.2.2.2.2.call z).1,fun z a b c e=>h.2.2.2.2.args z a b c (List.eq_nil_of_length_eq_zero e),fun z e=>h.2.2.2.2.targ z (List.eq_nil_of_length_eq_zero e),fun z=>(h.2.2.2.2.func z).1⟩
theorem YJ.x {f:kN}(h:YJ 5000 f):FX f:=fun y hy=>(h.el y hy).x
section
variable {fu:Nat}{f:fV->jB->Int->Option (jB × fV)}{g:fV->List jB->Int->Option (List jB × fV)}
def De (f:fV->jB->Int->Option (jB × fV)):Prop:=∀ S x ln x' S' n,f S x ln=some (x',S')->Cr n x->Cr n x'
def Des (g:fV->List jB->Int->Option (List jB × fV)):Prop:=∀ S l ln l' S' n,g S l ln=some (l',S')->(∀ y ∈ l,Cr n y)->(∀ y ∈ l',Cr n y)/\l'.length=l.length
theorem Yn {x:jB}:∀ (l:List ByteArray)(k:Nat)(a:Int)(o:jB × fV),nZ fu g f x l k a=some (.out o)→False
 | [],_,_,_,h=>by cases h
 | u :: r,k,a,o,h=>by
  rw [nZ] at h;rcases jH h with ⟨_,h⟩|⟨_,h⟩
  · exact Yn r _ _ o h
  · exact Yn r _ _ o h
theorem afr {S:fV}{x:jB}{ln:Int}{x':jB}{S':fV}(h:o9 fu g f S x ln=some (.out (x',S'))):x'=x:=by
 unfold o9 at h;obtain ⟨v,hv,h⟩:=bs h;cases v with
 | out o=>
  unfold tK at hv;rcases jH hv with ⟨_,hv⟩|⟨_,hv⟩
  · cases hv
  · rcases jH hv with ⟨_,hv⟩|⟨_,hv⟩ <;> cases hv
 | go b=>
  replace h:=gi h;rcases jH h with ⟨_,h⟩|⟨_,h⟩
  · obtain ⟨⟨c,i⟩,_,h⟩:=bs h;replace h:=pi h;rcases jH h with ⟨_,h⟩|⟨_,h⟩
    · obtain ⟨j,_,h⟩:=bs h;cases h;rfl
    · obtain ⟨t,_,h⟩:=bs h;obtain ⟨m,_,h⟩:=bs h;rcases jH h with ⟨_,h⟩|⟨_,h⟩
      · obtain ⟨k,_,h⟩:=bs h;cases h;rfl
      · rcases jH h with ⟨_,h⟩|⟨_,h⟩
        · obtain ⟨u,_,h⟩:=bs h;obtain ⟨v,hv,h⟩:=bs h;cases v with
          | out o=>exact (Yn _ _ _ _ hv).elim
          | go d=>
           replace h:=gi h;rcases jH h with ⟨_,h⟩|⟨_,h⟩
           · obtain ⟨a,_,h⟩:=bs h;cases h
           · cases h
        · cases h
  · cases h
theorem abo (hg:Des g):De (uD fu g f):=by
 intro S x ln x' S' n h hx;unfold uD at h;rcases jH h with ⟨_,h⟩|⟨_,h⟩
 · cases h;exact hx
 · obtain ⟨v,hv,h⟩:=bs h;cases v with
   | out o=>cases h;rw [afr hv];exact hx
   | go s=>
    obtain ⟨a1,a2,a3,a4,a5,a6,a7,a8,a9,a10⟩:=s;replace h:=gi h;simp only [pl] at h;obtain ⟨⟨l',S1⟩,h1,h⟩:=bs h;rw [pl] at h;cases h;cases n with
    | zero=>exact hx.elim
    | succ n=>
     have k:=hg _ _ _ _ _ n h1 hx.2;exact ⟨⟨by rw [show (jB.a _)=l' from rfl,k.2];exact hx.1.1,hx.1.2.1,hx.1.2.2.1,by rw [show (jB.a _)=l' from rfl,k.2];exact hx.1.2.2.2⟩,k.1⟩
theorem LC (hf:De f){ln:Int}{n:Nat}:∀ (l:List jB)(k:Nat)(out:List jB)(a1:List kg)(a2 a3 a4:Int)(a5:List kN)(a6:List (List gP))(a7:List jT)(a8:List Int)(v:Ld (List jB × List kg × Int × Int × Int × List kN × List (List gP) × List jT × List Int) (List jB × fV)),
  nY fu g f ln l k out a1 a2 a3 a4 a5 a6 a7 a8=some v->(∀ y ∈ l,Cr n y)->(∀ y ∈ out,Cr n y)->∃ o r,v=.go (o,r)/\(∀ y ∈ o,Cr n y)/\o.length=out.length+l.length
 | [],_,out,_,_,_,_,_,_,_,_,v,h,_,ho=>by cases h;exact ⟨_,_,rfl,ho,rfl⟩
 | u :: r,k,out,_,_,_,_,_,_,_,_,v,h,hl,ho=>by rw [nY] at h;obtain ⟨⟨x,S1⟩,h1,h⟩:=bs h;rw [pl] at h;obtain ⟨w,hw,h⟩:=bs h;obtain ⟨_,rfl⟩:=qy hw;obtain ⟨o,q,rfl,h2,h3⟩:=LC hf r _ _ _ _ _ _ _ _ _ _ v h (fun y hy=>hl y (.tail _ hy)) (oQ ho (hf _ _ _ _ _ n h1 (hl u (.head _))));exact ⟨o,q,rfl,h2,by rw [h3,kr,uK];omega⟩
theorem YU (hf:De f):Des (sJ fu g f):=by intro S l ln l' S' n h hl;unfold sJ at h;obtain ⟨v,hv,h⟩:=bs h;obtain ⟨o,r,rfl,h1,h2⟩:=LC hf l _ _ _ _ _ _ _ _ _ _ v hv hl (fun y hy=>by cases hy);obtain ⟨a2,a3,a4,a5,a6,a7,a8,a9⟩:=r;replace h:=gi h;simp only [pl] at h;cases h;exact ⟨h1,by rw [h2];exact DV _⟩
end
theorem O9:∀ fu:Nat,De (zC fu)∧Des (sK fu)
 | 0=>⟨fun _ _ _ _ _ _ h=>(by cases h),fun _ _ _ _ _ _ h=>(by cases h)⟩
 | fu+1=>⟨abo (O9 fu).2,YU (O9 fu).1⟩
theorem XK {fu:Nat}{S:fV}{x:jA}{S':fV}{x':jA}(h:qW fu S x=some (S',x')):∃ c,x'=⟨x.b,x.g,x.n,x.c,x.j,x.m,x.f,x.e,x.k,c,x.a,x.d,x.h⟩:=by
 unfold qW at h;rcases jH h with ⟨_,h⟩|⟨_,h⟩
 · cases h;exact ⟨x.i,by cases x;rfl⟩
 · obtain ⟨⟨b,d⟩,_,h⟩:=bs h;rw [pl] at h;rcases jH h with ⟨_,h⟩|⟨_,h⟩
   · obtain ⟨_,_,h⟩:=bs h;cases h;exact ⟨_,rfl⟩
   · obtain ⟨_,_,h⟩:=bs h;rcases jH h with ⟨_,h⟩|⟨_,h⟩
     · obtain ⟨_,_,h⟩:=bs h;cases h;exact ⟨_,rfl⟩
     · cases h;exact ⟨_,rfl⟩
section
variable {fu:Nat}{f:fV->List jA->Option (List jA × fV)}{g:fV->jA->Option (jA × fV)}
def Db (f:fV->List jA->Option (List jA × fV)):Prop:=∀ S l l' S' n,f S l=some (l',S')->(∀ y ∈ l,Rq n y)->∀ y ∈ l',Rq n y
def Ds (g:fV->jA->Option (jA × fV)):Prop:=∀ S x x' S' n,g S x=some (x',S')->Rq n x->Rq n x'/\x'.b=x.b
theorem afW {S:fV}{x:jA}{r8:List jT}{x':jA}{S':fV}(h:qZ fu f g S x r8=some (.out (x',S'))):∃ i,x'=⟨x.b,x.g,i,x.c,x.j,x.m,x.f,x.e,x.k,x.i,x.a,x.d,x.h⟩:=by
 unfold qZ at h;rcases jH h with ⟨_,h⟩|⟨_,h⟩
 · cases h
 · rcases jH h with ⟨_,h⟩|⟨_,h⟩
   · obtain ⟨⟨c,d⟩,_,h⟩:=bs h;rw [pl] at h;rcases jH h with ⟨_,h⟩|⟨_,h⟩
     · obtain ⟨_,_,h⟩:=bs h;cases h;exact ⟨_,rfl⟩
     · obtain ⟨_,_,h⟩:=bs h;cases h
   · cases h
theorem ads {S:fV}{x:jA}{r8:List jT}{x':jA}{S':fV}(h:oh fu f g S x r8=some (.out (x',S'))):∃ i v,x'=⟨x.b,x.g,i,x.c,x.j,x.m,v,x.e,x.k,x.i,x.a,x.d,x.h⟩:=by
 unfold oh at h;rcases jH h with ⟨_,h⟩|⟨_,h⟩
 · obtain ⟨v,hv,h⟩:=bs h;cases v with
   | out o=>
     cases h;obtain ⟨i,e⟩:=afW hv;exact ⟨i,x.f,e⟩
   | go s=>
     obtain ⟨a,b,c⟩:=s;replace h:=gi h;simp only [pl] at h;obtain ⟨⟨j,k⟩,_,h⟩:=bs h;rw [pl] at h;cases h;exact ⟨_,_,rfl⟩
 · rcases jH h with ⟨_,h⟩|⟨_,h⟩
   · rcases jH h with ⟨_,h⟩|⟨_,h⟩
     · obtain ⟨_,_,h⟩:=bs h;rcases jH h with ⟨_,h⟩|⟨_,h⟩
       · obtain ⟨_,_,h⟩:=bs h;cases h
       · cases h
     · cases h
   · cases h
theorem aaZ {v:Int}{S:fV}{o:jA × fV}(h:oZ fu f g v S=some (.out o)):False:=by
 unfold oZ at h;rcases jH h with ⟨_,h⟩|⟨_,h⟩
 · obtain ⟨_,_,h⟩:=bs h;obtain ⟨_,_,h⟩:=bs h;obtain ⟨_,_,h⟩:=bs h;obtain ⟨_,_,h⟩:=bs h;cases h
 · cases h
theorem afQ (hf:Db f){h' c j:Int}{d k:ByteArray}{l:Int}{m:List jB}{p:ByteArray}{t:Int}{u:List jA}{v:List jB}{w:List jA}{S:fV}{x':jA}{S':fV}(h:og fu f g h' c j d k l m p t u v w S=some (.out (x',S'))) :∃ i z,x'=⟨h',c,j,d,k,l,i,m,p,t,v,w,z⟩/\∀ n,(∀ y ∈ u,Rq n y)->∀ y ∈ z,Rq n y:=by
 unfold og at h;rcases jH h with ⟨_,h⟩|⟨_,h⟩
 · rcases jH h with ⟨_,h⟩|⟨_,h⟩
   · obtain ⟨_,_,h⟩:=bs h;obtain ⟨⟨i,x⟩,_,h⟩:=bs h;rw [pl] at h;obtain ⟨⟨z,a⟩,hz,h⟩:=bs h;rw [pl] at h;obtain ⟨q,hq,h⟩:=bs h;cases q with
     | out o=>exact (aaZ hq).elim
     | go A=>
      replace h:=gi h;cases h;exact ⟨_,_,rfl,fun n hn=>hf _ _ _ _ n hz hn⟩
   · cases h
 · cases h
theorem afL {z:fV}{x:jA}{T:List jB}{S:fV}{v:Ld (List kg × Int × Int × Int × List kN × List (List gP) × List jT × List Int × Int × Int × Int × ByteArray × ByteArray × Int × Int × List jB × ByteArray × Int × List jB × List jA × List jA) (jA × fV)}(h:ru fu f g z x T S=some v) :∃ a1 a2 a3 a4 a5 a6 a7 a8 c2 c3 c4 c5 c6 c7 c9,v=.go (a1,a2,a3,a4,a5,a6,a7,a8,x.b,c2,c3,c4,c5,c6,c7,T,x.k,c9,x.a,x.d,x.h):=by
 unfold ru at h;rcases jH h with ⟨_,h⟩|⟨_,h⟩
 · obtain ⟨⟨c,a⟩,ha,h⟩:=bs h;rw [pl] at h;obtain ⟨cc,rfl⟩:=XK ha;cases h;exact ⟨_,_,_,_,_,_,_,_,_,_,_,_,_,_,_,rfl⟩
 · cases h;exact ⟨_,_,_,_,_,_,_,_,_,_,_,_,_,_,_,rfl⟩
theorem aaI (hf:Db f):Ds (rP fu f g):=by
 intro S x x' S' n h hx;cases n with
 | zero=>exact hx.elim
 | succ n=>
 obtain ⟨h1,h2,h3,h4,h5⟩:=hx;unfold rP at h;rcases jH h with ⟨_,h⟩|⟨_,h⟩
 · obtain ⟨_,_,h⟩:=bs h;cases h;exact ⟨⟨h1,h2,h3,h4,h5⟩,rfl⟩
 obtain ⟨r8,_,h⟩:=bs h;obtain ⟨v,hv,h⟩:=bs h;cases v with
 | out o=>
   cases h;obtain ⟨i,v,rfl⟩:=ads hv;exact ⟨⟨h1,h2,h3,h4,h5⟩,rfl⟩
 | go s=>
   obtain ⟨a1,a2,a3,a4,a5,a6,a7,a8⟩:=s;replace h:=gi h;simp only [pl] at h;obtain ⟨⟨T,S1⟩,hT,h⟩:=bs h;have k1:=(O9 fu).2 _ _ _ _ _ 5000 hT h1;rw [pl] at h;obtain ⟨v,hv,h⟩:=bs h;obtain ⟨_,_,_,_,_,_,_,_,_,_,_,_,_,_,_,rfl⟩:=afL hv;replace h:=gi h;simp only [pl] at h;obtain ⟨⟨A,S2⟩,hA,h⟩:=bs h;have k2:=(O9 fu).2 _ _ _ _ _ 5000 hA h2.2;rw [pl] at h;obtain ⟨⟨B,S3⟩,hB,h⟩:=bs h;have k3:=hf _ _ _ _ n hB h3;rw [pl] at h;obtain ⟨v,hv,h⟩:=bs h;cases v with
   | out o=>
    cases h;obtain ⟨i,z,rfl,hz⟩:=afQ hf hv;exact ⟨⟨k1.1,⟨by rw [k2.2];exact h2.1,k2.1⟩,k3,hz n h4,by dsimp only;rw [k1.2,k2.2];exact h5⟩,rfl⟩
   | go s=>
    replace h:=gi h;obtain ⟨⟨E,S4⟩,hE,h⟩:=bs h;have k4:=hf _ _ _ _ n hE h4;rw [pl] at h;cases h;exact ⟨⟨k1.1,⟨by rw [k2.2];exact h2.1,k2.1⟩,k3,k4,by dsimp only;rw [k1.2,k2.2];exact h5⟩,rfl⟩
theorem GA (hg:Ds g){n:Nat}:∀ (l:List jA)(k:Nat)(out:List jA)(a1:List kg)(a2 a3 a4:Int)(a5:List kN)(a6:List (List gP))(a7:List jT)(a8:List Int)(v:Ld (List jA × List kg × Int × Int × Int × List kN × List (List gP) × List jT × List Int) (List jA × fV)),
  lF fu f g l k out a1 a2 a3 a4 a5 a6 a7 a8=some v->(∀ y ∈ l,Rq n y)->(∀ y ∈ out,Rq n y)->∃ o r,v=.go (o,r)/\∀ y ∈ o,Rq n y
 | [],_,out,_,_,_,_,_,_,_,_,v,h,_,ho=>by cases h;exact ⟨_,_,rfl,ho⟩
 | u :: r,k,out,_,_,_,_,_,_,_,_,v,h,hl,ho=>by
  rw [lF] at h;rcases jH h with ⟨_,h⟩|⟨_,h⟩
  · cases h;exact ⟨_,_,rfl,ho⟩
  obtain ⟨⟨x,S1⟩,h1,h⟩:=bs h;rw [pl] at h;obtain ⟨w,hw,h⟩:=bs h;obtain ⟨_,rfl⟩:=qy hw;exact GA hg r _ _ _ _ _ _ _ _ _ _ v h (fun y hy=>hl y (.tail _ hy)) (oQ ho (hg _ _ _ _ n h1 (hl u (.head _))).1)
theorem zH {c:Int}{d:List jT}:∀ (l:List Int)(k:Nat)(a:List (List gP))(o:List jA × fV),mX fu f g c d l k a=some (.out o)→False
 | [],_,_,_,h=>by cases h
 | e :: r,k,a,o,h=>by rw [mX] at h;obtain ⟨_,_,h⟩:=bs h;obtain ⟨_,_,h⟩:=bs h;obtain ⟨_,_,h⟩:=bs h;obtain ⟨_,_,h⟩:=bs h;exact zH r _ _ o h
theorem Zn (hg:Ds g):Db (nX fu f g):=by
 intro S l l' S' n h hl;unfold nX at h;obtain ⟨v,hv,h⟩:=bs h;obtain ⟨o,r,rfl,ho⟩:=GA hg l _ _ _ _ _ _ _ _ _ _ v hv hl (fun y hy=>by cases hy);obtain ⟨a2,a3,a4,a5,a6,a7,a8,a9⟩:=r;replace h:=gi h;simp only [pl] at h;obtain ⟨_,_,h⟩:=bs h;obtain ⟨v,hv,h⟩:=bs h;cases v with
 | out q=>exact (zH _ _ _ _ hv).elim
 | go q=>
  replace h:=gi h;obtain ⟨_,_,h⟩:=bs h;obtain ⟨_,_,h⟩:=bs h;cases h;exact ho
end
theorem ED:∀ fu:Nat,Db (p9 fu)∧Ds (vW fu)
 | 0=>⟨fun _ _ _ _ _ h=>(by cases h),fun _ _ _ _ _ h=>(by cases h)⟩
 | fu+1=>⟨Zn (ED fu).2,aaI (ED fu).1⟩
theorem Ki {fu:Nat}{f:fV->List jA->Option (List jA × fV)}{g:fV->jA->Option (jA × fV)}(hg:Ds g){n:Nat}:∀ (l:List jA)(k:Nat)(out:List jA)(a1:List kg)(a2 a3 a4:Int)(a5:List kN)(a6:List (List gP))(a7:List jT)(a8:List Int)(o:List jA)(r:List kg × Int × Int × Int × List kN × List (List gP) × List jT × List Int),
  lF fu f g l k out a1 a2 a3 a4 a5 a6 a7 a8=some (.go (o,r))->(∀ y ∈ l,Rq n y)->r.2.2.2.1=0->o.map jA.b=out.map jA.b ++ l.map jA.b
 | [],_,out,_,_,_,_,_,_,_,_,o,r,h,_,_=>by cases h;simp
 | u :: l,k,out,_,_,_,_,_,_,_,_,o,r,h,hl,e=>by
  rw [lF] at h;rcases jH h with ⟨c,h⟩|⟨_,h⟩
  · cases h;exact absurd e c
  obtain ⟨⟨x,S1⟩,h1,h⟩:=bs h;rw [pl] at h;obtain ⟨w,hw,h⟩:=bs h;obtain ⟨_,rfl⟩:=qy hw;rw [Ki hg l _ _ _ _ _ _ _ _ _ _ o r h (fun y hy=>hl y (.tail _ hy)) e,List.map_append,Fh,List.map_cons,List.map_cons,List.map_nil,(hg _ _ _ _ n h1 (hl u (.head _))).2];rfl
theorem YG {fu:Nat}{S:fV}{l l':List jA}{S':fV}{n:Nat}(h:p9 fu S l=some (l',S'))(hl:∀ y ∈ l,Rq n y)(e:S'.e=0):l'.map jA.b=l.map jA.b:=by
 cases fu with
 | zero=>cases h
 | succ fu=>
 replace h:nX fu (p9 fu) (vW fu) S l=some (l',S'):=h;unfold nX at h;obtain ⟨v,hv,h⟩:=bs h;cases v with
 | out q=>obtain ⟨o,r,hz,_⟩:=GA (ED fu).2 l _ _ _ _ _ _ _ _ _ _ _ hv hl (fun y hy=>by cases hy);cases hz
 | go q=>
 obtain ⟨o,r⟩:=q;have k:=Ki (ED fu).2 l _ _ _ _ _ _ _ _ _ _ o r hv hl;obtain ⟨a2,a3,a4,a5,a6,a7,a8,a9⟩:=r;replace h:=gi h;simp only [pl] at h;obtain ⟨_,_,h⟩:=bs h;obtain ⟨v,hv,h⟩:=bs h;cases v with
 | out q=>exact (zH _ _ _ _ hv).elim
 | go q=>
  replace h:=gi h;obtain ⟨_,_,h⟩:=bs h;obtain ⟨_,_,h⟩:=bs h;cases h;exact k e
theorem Xi {α β:Type}{f:α->β}{l l':List α}{x:α}(h:l'.map f=(l ++ [x]).map f):∃ m y,l'=m ++ [y]/\f y=f x:=by
 rw [List.map_append] at h;obtain ⟨m,n,rfl,_,h2⟩:=List.map_eq_append_iff.1 h;cases n with
 | nil=>cases h2
 | cons y n=>
  cases n with
  | nil=>exact ⟨m,y,rfl,by simpa using h2⟩
  | cons=>simp at h2
theorem Hy {fu:Nat}{m:kN}:∀ (l:List ByteArray)(k:Nat)(a1:List Int)(a2:List kg)(a3 a4 a5:Int)(a6:List kN)(a7:List (List gP))(a8:List jT)(o:kN × fV),kV fu m l k a1 a2 a3 a4 a5 a6 a7 a8=some (.out o)→False
 | [],_,_,_,_,_,_,_,_,_,_,h=>by cases h
 | e :: r,_,_,_,_,_,_,_,_,_,o,h=>by rw [kV] at h;obtain ⟨⟨_,a⟩,_,h⟩:=bs h;rw [pl] at h;exact Hy r _ _ _ _ _ _ _ _ _ o h
theorem Ir {fu:Nat}{S:fV}:∀ (l:List ByteArray)(k:Nat)(a:List (List gP))(o:kN × fV),lW fu S l k a=some (.out o)→False
 | [],_,_,_,h=>by cases h
 | e :: r,_,_,o,h=>by rw [lW] at h;obtain ⟨_,_,h⟩:=bs h;obtain ⟨_,_,h⟩:=bs h;obtain ⟨_,_,h⟩:=bs h;obtain ⟨_,_,h⟩:=bs h;exact Ir r _ _ o h
theorem Sr {fu:Nat}{S:fV}{x x':kN}{S':fV}(h:nU fu S x=some (x',S'))(hx:FX x):FX x':=by
 unfold nU at h;rcases jH h with ⟨_,h⟩|⟨_,h⟩
 · obtain ⟨_,_,h⟩:=bs h;cases h;exact hx
 obtain ⟨v,hv,h⟩:=bs h;cases v with
 | out o=>exact (Hy _ _ _ _ _ _ _ _ _ _ _ hv).elim
 | go s=>
   obtain ⟨a1,a2,a3,a4,a5,a6,a7,a8⟩:=s;replace h:=gi h;simp only [pl] at h;rcases jH h with ⟨_,h⟩|⟨_,h⟩
   · obtain ⟨⟨t,a⟩,ht,h⟩:=bs h;rw [pl] at h;obtain ⟨v,hv,h⟩:=bs h;cases v with
     | out o=>exact (Ir _ _ _ _ hv).elim
     | go u=>
      replace h:=gi h;cases h;exact (ED fu).1 _ _ _ _ 10 ht hx
   · cases h;exact hx
end Go.Proofs.YtdkneekpdecjbaaGreat
