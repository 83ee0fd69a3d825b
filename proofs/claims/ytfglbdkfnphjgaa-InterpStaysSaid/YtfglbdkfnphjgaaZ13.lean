/- The checker of the specification answers for any program; variables in scope together have different names. -/
import Derived.Test.YtfglbdkfnphjgaaPu
import Derived.Test.YtfglbdkfnphjgaaLg
set_option linter.unusedVariables false
set_option linter.unusedSimpArgs false
namespace Go.Proofs.Ytfglbdkfnphjgaa
open Go.RowKit Go.Fw
structure SI (S:fV) (V:List jA):Prop where
 f0:0≤S.f
 vl:(S.a.c.length:Int)=S.f+1
 v:S.a.c[S.f.toNat]?=some V
 vn:V.length≤24
 op:∀ v ∈ S.b,0≤v∧v < V.length
 ol:S.b.length≤V.length
 st:S.a.b.length≤200
 rk:∀ x ∈ V,x.c=2→0≤x.d∧x.d < S.a.a.a.length
structure NI (S:fV) (V:List jA):Prop where
 cl:∀ (i:Nat) (x:jA),V[i]?=some x→(i:Int) ∉ S.b→x.g < S.a.b.length
 pr:∀ (i j:Nat) (x y:jA),i < j→V[i]?=some x→V[j]?=some y→x.b≠y.b ∨ ((i:Int) ∉ S.b∧x.g < y.e)
structure Stp (S:fV) (V:List jA) (S':fV) (V':List jA):Prop where
 si:SI S' V'
 f:S'.f=S.f
 pg:S'.a.a=S.a.a
 vs:∀ k:Nat,(k:Int)≠S.f→S'.a.c[k]?=S.a.c[k]?
 st:S.a.b.length≤S'.a.b.length
 e:S'.e=0→S.e=0
 vle:V.length≤V'.length
 ni:S'.e=0→NI S V→NI S' V'
theorem Stp.rfl' {S:fV} {V:List jA} (h:SI S V):Stp S V S V:=⟨h,rfl,rfl,fun _ _=>rfl,Nat.le_refl _,id,Nat.le_refl _,fun _ k=>k⟩
theorem Stp.trans {S S1 S2:fV} {V V1 V2:List jA} (h:Stp S V S1 V1) (k:Stp S1 V1 S2 V2):Stp S V S2 V2:=
 ⟨k.si,k.f.trans h.f,k.pg.trans h.pg,fun x hx=>(k.vs x (by rw [h.f];exact hx)).trans (h.vs x hx),Nat.le_trans h.st k.st,fun z=>h.e (k.e z),Nat.le_trans h.vle k.vle,fun z n=>k.ni z (h.ni (k.e z) n)⟩
structure Ba (S S':fV):Prop where
 out:S'.a=S.a
 f:S'.f=S.f
 op:S'.b=S.b
 e:S'.e=0→S.e=0
theorem Ba.rfl' {S:fV}:Ba S S:=⟨rfl,rfl,rfl,id⟩
theorem Ba.trans {S S1 S2:fV} (h:Ba S S1) (k:Ba S1 S2):Ba S S2:=⟨k.out.trans h.out,k.f.trans h.f,k.op.trans h.op,fun z=>h.e (k.e z)⟩
theorem Ba.si {S S':fV} {V:List jA} (k:Ba S S') (h:SI S V):SI S' V:=
 ⟨by rw [k.f];exact h.f0,by rw [k.out,k.f];exact h.vl,by rw [k.out,k.f];exact h.v,h.vn,by rw [k.op];exact h.op,by rw [k.op];exact h.ol,by rw [k.out];exact h.st,by rw [k.out];exact h.rk⟩
theorem Ba.TH {S S':fV} {V:List jA} (k:Ba S S') (h:SI S V):Stp S V S' V:=
 ⟨k.si h,k.f,by rw [k.out],fun x _=>by rw [k.out],by rw [k.out];exact Nat.le_refl _,k.e,Nat.le_refl _,fun _ n=>⟨fun i x hi ho=>by rw [k.out];rw [k.op] at ho;exact n.cl i x hi ho,fun i j x y hij hi hj=>by rw [k.op];exact n.pr i j x y hij hi hj⟩⟩
theorem uV {fu:Nat} {S:fV} {ln e:Int} (he:e≠0):kG (lY fu S ln e) (fun S'=>Ba S S'∧S'.e≠0):=by
 unfold lY
 exact .ite (fun c=>.mk ⟨⟨rfl,rfl,rfl,fun z=>absurd z he⟩,he⟩) fun c=>.mk ⟨.rfl',c⟩
theorem Ec {fu:Nat} {n:ByteArray}:∀ (l:List kV) (k:Nat),kG (qg fu n l k) (oJ (fun _=>True) (fun r=>jy r fun v b=>(k:Int)≤v∧v < k+l.length))
 | [],_=>.go trivial
 | u :: r,k=>by
  rw [qg,List.length_cons]
  refine .ite (fun _=>.out ⟨Int.le_refl _,by omega⟩) fun _=>(Ec r (k+1)).imp fun v hv=>?_
  obtain v | v:=v
  · trivial
  · obtain ⟨a,b⟩:=v
    exact ⟨by have:=hv.1;omega,by have:=hv.2;omega⟩
theorem O6 {fu:Nat} {S:fV} {n:ByteArray}:kG (xB fu S n) (fun r=>jy r fun v b=>b=true→0≤v∧v < S.a.a.a.length):=by
 unfold xB
 refine .el (Ec _ 0) (fun _ _=>.mk fun z=>(by cases z)) fun o ho=>.mk ?_
 obtain ⟨a,b⟩:=o
 exact fun _=>⟨by have:=ho.1;omega,by have:=ho.2;omega⟩
theorem H7 {fu:Nat} {n:ByteArray}:∀ (l:List lI) (k:Nat),kG (rO fu n l k) (oJ (fun _=>True) (fun r=>jy r fun v b=>(k:Int)≤v∧v < k+l.length))
 | [],_=>.go trivial
 | u :: r,k=>by
  rw [rO,List.length_cons]
  refine .ite (fun _=>.out ⟨Int.le_refl _,by omega⟩) fun _=>(H7 r (k+1)).imp fun v hv=>?_
  obtain v | v:=v
  · trivial
  · obtain ⟨a,b⟩:=v
    exact ⟨by have:=hv.1;omega,by have:=hv.2;omega⟩
theorem VQ {fu:Nat} {s:jO} {n:ByteArray}:kG (zC fu s n) (fun r=>jy r fun v b=>b=true→0≤v∧v < s.a.b.length):=by
 unfold zC
 refine .el (H7 _ 0) (fun _ _=>.mk fun z=>(by cases z)) fun o ho=>.mk ?_
 obtain ⟨a,b⟩:=o
 exact fun _=>⟨by have:=ho.1;omega,by have:=ho.2;omega⟩
theorem SI.ix {S:fV} {V:List jA} (h:SI S V):kG (ix S.a.c S.f) (fun r=>r=V):=by
 have h1:=h.vl;have h2:=h.f0
 refine (kG.ix h2 (by omega)).imp fun v hv=>?_
 rw [h.v] at hv
 exact (Option.some.inj hv).symm
theorem Eh {fu:Nat} {S:fV} {V:List jA} (h:SI S V) {n:ByteArray}:∀ (l:List Int) (k:Nat),(∀ v ∈ l,v ∈ S.b)→kG (p9 fu S n l k) (oJ (fun _=>∀ v ∈ l,∀ x,V[v.toNat]?=some x→x.b≠n) (fun r=>jy r fun v b=>b=true∧v ∈ S.b∧∃ x,V[v.toNat]?=some x∧x.b=n))
 | [],_,_=>.go fun v hv=>(by cases hv)
 | u :: r,k,hl=>by
  rw [p9]
  have hu:=h.op u (hl u (.head _))
  refine .bd h.ix fun e he=>?_
  subst he
  refine .bd (.ix hu.1 hu.2) fun x hx=>.ite (fun c=>.out ⟨rfl,hl u (.head _),x,hx,c⟩) fun c=>(Eh h r (k+1) fun v hv=>hl v (.tail _ hv)).imp fun v hv=>?_
  obtain v | v:=v
  · intro w hw y hy
    rcases List.mem_cons.1 hw with rfl | hw
    · rw [hx] at hy
      obtain rfl:=Option.some.inj hy
      exact c
    · exact hv w hw y hy
  · exact hv
theorem LQ {fu:Nat} {S:fV} {V:List jA} (h:SI S V) {n:ByteArray}:kG (uJ fu S n) (fun r=>jy r fun v b=>(b=true→v ∈ S.b∧∃ x,V[v.toNat]?=some x∧x.b=n)∧(b=false→∀ v ∈ S.b,∀ x,V[v.toNat]?=some x→x.b≠n)):=by
 unfold uJ
 refine .el (Eh h S.b 0 fun v hv=>hv) (fun _ hs=>.mk ⟨fun z=>(by cases z),fun _=>hs⟩) fun o ho=>.mk ?_
 obtain ⟨a,b⟩:=o
 obtain ⟨rfl,h1,h2⟩:=ho
 exact ⟨fun _=>⟨h1,h2⟩,fun z=>(by cases z)⟩
theorem DI {fu:Nat} {S:fV} {V:List jA} (h:SI S V) {ln:Int} {x:jA} (hx:x.c=2→0≤x.d∧x.d < S.a.a.a.length) (hf:S.a.b.length≤x.e) :
   kG (og fu S ln x) (fun r=>jy r fun v S'=>∃ V',Stp S V S' V'∧(∃ ext,S'.b=S.b ++ ext)∧(S'.e=0→V'=V ++ [x]∧v=V.length∧S'.b=S.b ++ [(V.length:Int)])):=by
 unfold og
 refine .bp (LQ h) fun v b hv=>.bd h.ix fun e he=>?_
 subst he
 have same:∀ S',Ba S S'→S'.e≠0→∃ V',Stp S e S' V'∧(∃ ext,S'.b=S.b ++ ext)∧(S'.e=0→V'=e ++ [x]∧(0:Int)=e.length∧S'.b=S.b ++ [(e.length:Int)]):=fun S' k z=>⟨e,k.TH h,⟨[],by rw [k.op,List.append_nil]⟩,fun y=>absurd y z⟩
 refine .ite (fun c=>.mk (same S .rfl' c)) fun c=>?_
 have c:S.e=0:=by omega
 refine .ite (fun d=>.bd (uV (by decide)) fun S' k=>.mk (same S' k.1 k.2)) fun d=>?_
 refine .ite (fun d2=>.bd (uV (by decide)) fun S' k=>.mk (same S' k.1 k.2)) fun d2=>?_
 have a1:=h.vn;have a2:=h.ol;have a3:=h.f0;have a4:=h.vl
 refine .bd (.app (by simp only [List.length_cons,List.length_nil];omega)) fun r hr=>?_
 refine .bd (.app (by simp only [List.length_cons,List.length_nil];omega)) fun o ho=>?_
 refine .bd (.st (by omega)) fun vs hvs=>.mk ?_
 subst hr ho hvs
 have hb:b=false:=by cases b <;> simp_all
 refine ⟨e ++ [x],⟨⟨h.f0,by simp only [List.length_set];exact h.vl,?_,by rw [ko];omega,?_,by rw [ko,ko];omega,h.st,nP h.rk hx⟩,rfl,rfl,fun k hk=>?_,Nat.le_refl _,fun _=>c,by rw [ko];omega,fun _ n=>⟨fun i y hi ho=>?_,fun i j y z hij hi hj=>?_⟩⟩,⟨[_],rfl⟩,fun _=>⟨rfl,rfl,rfl⟩⟩
 · show (S.a.c.set S.f.toNat (e ++ [x]))[S.f.toNat]?=_
   rw [List.getElem?_set_self (by omega)]
 · refine nP (fun v hv=>?_) ?_
   · have:=h.op v hv;rw [ko];omega
   · rw [ko];omega
 · show (S.a.c.set S.f.toNat (e ++ [x]))[k]?=_
   rw [List.getElem?_set_ne (by omega)]
 · dsimp only at ho ⊢
   rw [List.mem_append,not_or] at ho
   have hi2:i < e.length:=by
     have:=kI hi
     rw [ko] at this
     have h3:i≠e.length:=fun z=>ho.2 (by rw [z];exact .head _)
     omega
   rw [List.getElem?_append_left hi2] at hi
   exact n.cl i y hi ho.1
 · dsimp only
   have hi2:i < e.length:=by have:=kI hj;rw [ko] at this;omega
   rw [List.getElem?_append_left hi2] at hi
   have hne:(i:Int) ∉ S.b→(i:Int) ∉ S.b ++ [(e.length:Int)]:=fun z y=>by
     rcases List.mem_append.1 y with y | y
     · exact z y
     · simp only [List.mem_cons,List.not_mem_nil,or_false] at y
       omega
   by_cases hj2:j < e.length
   · rw [List.getElem?_append_left hj2] at hj
     rcases n.pr i j y z hij hi hj with k | k
     · exact .inl k
     · exact .inr ⟨hne k.1,k.2⟩
   · have:j=e.length:=by have:=kI hj;rw [ko] at this;omega
     subst this
     rw [List.getElem?_append_right (Nat.le_refl _),Nat.sub_self] at hj
     obtain rfl:=Option.some.inj hj
     by_cases ho:(i:Int) ∈ S.b
     · exact .inl (hv.2 hb _ ho y hi)
     · exact .inr ⟨hne ho,by have:=n.cl i y hi ho;omega⟩
def Rm (f:fV→jB→Int→Option (jB × fV)) (fu:Nat):Prop:=∀ S V x ln n,SI S V→zm n x→2 * n≤fu→kG (f S x ln) (fun r=>jy r fun _ S'=>Ba S S')
def QS (f:fV→List jB→Int→Option (List jB × fV)) (fu:Nat):Prop:=∀ S V l ln n,SI S V→(∀ y ∈ l,zm n y)→l.length≤5000→2 * n+1≤fu→kG (f S l ln) (fun r=>jy r fun l' S'=>Ba S S'∧l'.length=l.length)
section
variable {fu:Nat} {f:fV→jB→Int→Option (jB × fV)} {g:fV→List jB→Int→Option (List jB × fV)}
theorem DV {x:jB} {O:jB × fV→Prop}:∀ (l:List ByteArray) (k:Nat) (n:Int),kG (nL fu g f x l k n) (oJ (fun _=>True) O)
 | [],_,_=>.go trivial
 | u :: r,k,n=>by
  rw [nL]
  exact .ite (fun _=>DV r (k+1) _) fun _=>DV r (k+1) n
theorem TY (hg:QS g fu):Rm (sK fu g f) (fu+1):=by
 intro S V x ln n h hx hn
 cases n with
 | zero=>exact hx.elim
 | succ n=>
 unfold sK
 refine .ite (fun c=>.mk .rfl') fun c=>?_
 have hJ:kG (oh fu g f S x ln) (oJ (fun r=>jy r fun _ r=>jy r fun _ r=>jy r fun a r=>jy r fun b r=>jy r fun c r=>jy r fun d r=>jy r fun e r=>jy r fun f r=>jy r fun g h=>Ba S ⟨⟨⟨a,e⟩,f,g⟩,b,h,c,d⟩) (fun r=>jy r fun _ S'=>Ba S S')):=by
  unfold oh
  have hJ1:kG (rQ fu g f x) (oJ (fun b=>b=true→x.e=1 ∨ x.e=2 ∨ x.e=3) (fun _=>False)):=by
    unfold rQ
    refine .ite (fun c=>.go fun _=>.inl c) fun _=>.ite (fun c=>.go fun _=>.inr (.inl c)) fun _=>.go fun z=>.inr (.inr (of_decide_eq_true z))
  refine .el hJ1 (fun b hb=>?_) fun _ z=>z.elim
  refine .ite (fun c=>?_) fun c=>.go .rfl'
  refine .bp (LQ h) fun v is hv=>.ite (fun d=>?_) fun d=>?_
  · exact .bd (uV (by decide)) fun S' k=>.out k.1
  have hv:=hv.1 (by simpa using d)
  refine .bd h.ix fun e he=>?_
  subst he
  have ho:=h.op v hv.1
  refine .bd (.ix ho.1 ho.2) fun y hy=>.ite (fun _=>?_) fun d2=>?_
  · exact .bd (uV (by decide)) fun S' k=>.out k.1
  refine .ite (fun c2=>?_) fun _=>.go .rfl'
  have hk:y.c=2:=by
    rw [c2,show wr ((1:Int)+2)=3 from lQ (by omega) (by omega),show wr ((3:Int) - 1)=2 from lQ (by omega) (by omega)] at d2
    omega
  have hr:=h.rk y (List.mem_of_getElem? hy) hk
  refine .bd (.ix hr.1 hr.2) fun rc _=>.BN (DV _ 0 _) fun m _=>?_
  exact .ite (fun _=>.bd (uV (by decide)) fun S' k=>.go k.1) fun _=>.go .rfl'
 refine .eo hJ fun s hs=>?_
 refine .pp hs fun a1 r hs=>.pp hs fun a2 r hs=>.pp hs fun a3 r hs=>.pp hs fun a4 r hs=>.pp hs fun a5 r hs=>.pp hs fun a6 r hs=>.pp hs fun a7 r hs=>.pp hs fun a8 r hs=>.pp hs fun a9 a10 hs=>?_
 exact .bp (hg _ V _ ln n (hs.si h) hx.2 hx.1 (by omega)) fun l' S' k=>.mk (hs.trans k.1)
theorem Gf (hf:Rm f fu) {V:List jA} {ln:Int} {n:Nat} (hn:2 * n≤fu) {S0:fV} (h:SI S0 V) {O:List jB × fV→Prop}:∀ (l:List jB) (k:Nat) (out:List jB) (S:fV),Ba S0 S→(∀ y ∈ l,zm n y)→out.length+l.length≤5000→
  kG (nK fu g f ln l k out S.a.a.a S.f S.c S.e S.a.a.b S.a.c S.a.b S.b) (oJ (fun r=>jy r fun o r=>jy r fun a r=>jy r fun b r=>jy r fun c r=>jy r fun d r=>jy r fun e r=>jy r fun f r=>jy r fun g h=>Ba S0 ⟨⟨⟨a,e⟩,f,g⟩,b,h,c,d⟩∧o.length=out.length+l.length) O)
 | [],_,out,S,hS,_,_=>.go ⟨hS,rfl⟩
 | u :: r,k,out,S,hS,hl,hlen=>by
  rw [nK]
  rw [List.length_cons] at hlen
  refine .bp (hf _ V u ln n (hS.si h) (hl u (.head _)) hn) fun x S1 k1=>?_
  refine .bd (.app (by simp only [List.length_cons,List.length_nil];omega)) fun o ho=>?_
  subst ho
  refine (Gf hf hn h (O:=O) r (k+1) _ S1 (hS.trans k1) (fun y hy=>hl y (.tail _ hy)) (by rw [ko];omega)).imp fun v hv=>?_
  obtain v | v:=v
  · obtain ⟨a1,a2,a3,a4,a5,a6,a7,a8,a9⟩:=v
    exact ⟨hv.1,by rw [hv.2,ko,List.length_cons];omega⟩
  · exact hv
theorem Sr (hf:Rm f fu):QS (qZ fu g f) (fu+1):=by
 intro S V l ln n h hl hlen hn
 unfold qZ
 refine .el (Gf (O:=fun _=>False) hf (by omega) h l 0 [] S .rfl' hl (by simp only [List.length_nil];omega)) (fun s hs=>?_) fun _ z=>z.elim
 refine .pp hs fun a1 r hs=>.pp hs fun a2 r hs=>.pp hs fun a3 r hs=>.pp hs fun a4 r hs=>.pp hs fun a5 r hs=>.pp hs fun a6 r hs=>.pp hs fun a7 r hs=>.pp hs fun a8 a9 hs=>.mk ⟨hs.1,?_⟩
 rw [hs.2,List.length_nil,Nat.zero_add]
end
theorem IK:∀ fu:Nat,Rm (xJ fu) fu∧QS (rE fu) fu
 | 0=>by
  refine ⟨fun S V x ln n h hx hn=>?_,fun S V l ln n h hl hlen hn=>by omega⟩
  obtain rfl:n=0:=by omega
  exact hx.elim
 | fu+1=>⟨TY (IK fu).2,Sr (IK fu).1⟩
theorem P5 {fu:Nat} {S:fV} {x:jD}:kG (qm fu S x) (fun r=>jy r fun S' x'=>Ba S S'∧∃ c,x'=⟨x.c,x.f,x.n,x.b,x.k,x.m,x.g,x.d,x.j,c,x.a,x.e,x.h⟩):=by
 unfold qm
 have hx:x=⟨x.c,x.f,x.n,x.b,x.k,x.m,x.g,x.d,x.j,x.i,x.a,x.e,x.h⟩:=by cases x;rfl
 refine .ite (fun _=>.mk ⟨.rfl',_,hx⟩) fun _=>?_
 refine .bp VQ fun v b hv=>.ite (fun _=>?_) fun d=>?_
 · exact .bd (uV (by decide)) fun S' k=>.mk ⟨k.1,_,rfl⟩
 have hv:=hv (by simpa using d)
 refine .bd (.ix hv.1 hv.2) fun fn _=>.ite (fun _=>?_) fun _=>.mk ⟨.rfl',_,rfl⟩
 exact .bd (uV (by decide)) fun S' k=>.mk ⟨k.1,_,rfl⟩
structure GJ (N:Int) (C:Nat→Prop) (V V':List jA):Prop where
 len:V'.length=V.length
 el:∀ (i:Nat) (x':jA),V'[i]?=some x'→∃ x,V[i]?=some x∧x'.b=x.b∧x'.c=x.c∧x'.d=x.d∧x'.e=x.e∧(x'.g=N ∨ x'.g=x.g)∧(C i→x'.g=N)∧(¬ C i→x'.g=x.g)
theorem GJ.rfl' {N:Int} {V:List jA}:GJ N (fun _=>False) V V:=⟨rfl,fun i x h=>⟨x,h,rfl,rfl,rfl,rfl,.inr rfl,fun z=>z.elim,fun _=>rfl⟩⟩
theorem GJ.trans {N:Int} {C C2:Nat→Prop} {V V1 V2:List jA} (h:GJ N C V V1) (k:GJ N C2 V1 V2):GJ N (fun i=>C i ∨ C2 i) V V2:=⟨k.len.trans h.len,fun i x hx=>by
 obtain ⟨y,hy,a1,a2,a3,a4,a5,a6,a7⟩:=k.el i x hx
 obtain ⟨z,hz,b1,b2,b3,b4,b5,b6,b7⟩:=h.el i y hy
 refine ⟨z,hz,a1.trans b1,a2.trans b2,a3.trans b3,a4.trans b4,?_,fun c=>?_,fun c=>?_⟩
 · rcases a5 with a5 | a5
   · exact .inl a5
   · rw [a5];exact b5
 · rcases c with c | c
   · rcases a5 with a5 | a5
     · exact a5
     · rw [a5];exact b6 c
   · exact a6 c
 · rw [a7 fun y=>c (.inr y)];exact b7 fun y=>c (.inl y)⟩
theorem GJ.one {N:Int} {V:List jA} {i:Nat} {x:jA} (hx:V[i]?=some x):GJ N (·=i) V (V.set i ⟨x.b,x.c,x.d,x.a,x.f,x.e,N⟩):=⟨List.length_set,fun j y hy=>by
 by_cases c:j=i
 · subst c
   rw [List.getElem?_set_self (kI hx)] at hy
   obtain rfl:=Option.some.inj hy
   exact ⟨x,hx,rfl,rfl,rfl,rfl,.inl rfl,fun _=>rfl,fun z=>absurd rfl z⟩
 · rw [List.getElem?_set_ne (Ne.symm c)] at hy
   exact ⟨y,hy,rfl,rfl,rfl,rfl,.inr rfl,fun z=>absurd z c,fun _=>rfl⟩⟩
theorem FE {α:Type} {l:List α} {x:α} {k:Nat} (h:l[k]?=some x):l.set k x=l:=by
 obtain ⟨hk,rfl⟩:=List.getElem?_eq_some_iff.1 h
 exact List.set_getElem_self hk
theorem NW {α:Type} {l:List α} {x:α} (h:x ∈ l):∃ i:Nat,l[i]?=some x:=by
 obtain ⟨i,hi,rfl⟩:=List.getElem_of_mem h
 exact ⟨i,List.getElem?_eq_getElem hi⟩
theorem GJ.TH {S:fV} {V V':List jA} {C:Nat→Prop} {op:List Int} {vs:List (List jA)} (h:SI S V) (k:GJ ((S.a.b.length:Int) - 1) C V V') (hvs:vs=S.a.c.set S.f.toNat V')
   (ho:∀ v ∈ op,v ∈ S.b) (hl:op.length≤S.b.length) (hC:∀ i:Nat,C i→(i:Int) ∈ S.b) (hD:S.e=0→∀ i:Nat,(i:Int) ∈ S.b→(i:Int) ∉ op→C i):Stp S V ⟨⟨S.a.a,vs,S.a.b⟩,S.f,op,S.c,S.e⟩ V':=by
 have a3:=h.f0;have a4:=h.vl
 subst hvs
 refine ⟨⟨h.f0,by simp only [List.length_set];exact h.vl,?_,by rw [k.len];exact h.vn,fun v hv=>by rw [k.len];exact h.op v (ho v hv),by rw [k.len];exact Nat.le_trans hl h.ol,h.st,fun x hx hk=>?_⟩,rfl,rfl,fun q hq=>?_,Nat.le_refl _,id,by rw [k.len];exact Nat.le_refl _,fun he n=>⟨fun i x hi ho2=>?_,fun i j x y hij hi hj=>?_⟩⟩
 · show (S.a.c.set S.f.toNat V')[S.f.toNat]?=_
   rw [List.getElem?_set_self (by omega)]
 · obtain ⟨i,hi⟩:=NW hx
   obtain ⟨y,hy,_,b1,b2,_⟩:=k.el i x hi
   rw [b2]
   exact h.rk y (List.mem_of_getElem? hy) (b1 ▸ hk)
 · show (S.a.c.set S.f.toNat V')[q]?=_
   rw [List.getElem?_set_ne (by omega)]
 · obtain ⟨y,hy,_,_,_,_,b5,b6,b7⟩:=k.el i x hi
   dsimp only at ho2 ⊢
   by_cases c:(i:Int) ∈ S.b
   · rw [b6 (hD he i c ho2)];omega
   · rw [b7 fun z=>c (hC i z)];exact n.cl i y hy c
 · obtain ⟨x0,hx0,b1,_,_,_,_,b6,b7⟩:=k.el i x hi
   obtain ⟨y0,hy0,c1,_,_,c4,_⟩:=k.el j y hj
   rw [b1,c1,c4]
   rcases n.pr i j x0 y0 hij hx0 hy0 with m | m
   · exact .inl m
   · exact .inr ⟨fun z=>m.1 (ho _ z),by rw [b7 fun z=>m.1 (hC i z)];exact m.2⟩
def Rv (f:fV→List jD→Option (List jD × fV)) (fu:Nat):Prop:=∀ S V l n,SI S V→(∀ y ∈ l,BK 5000 n y)→l.length≤5001→2 * n+10002≤fu→kG (f S l) (fun r=>jy r fun _ S'=>∃ V',Stp S V S' V'∧S'.b=S.b)
def RU (f:fV→jD→Option (jD × fV)) (fu:Nat):Prop:=∀ S V x n,SI S V→BK 5000 n x→2 * n+10001≤fu→kG (f S x) (fun r=>jy r fun _ S'=>∃ V',Stp S V S' V'∧∃ ext,S'.b=S.b ++ ext)
section
variable {fu:Nat} {f:fV→List jD→Option (List jD × fV)} {g:fV→jD→Option (jD × fV)}
theorem FB (hg:RU g fu) {n:Nat} (hn:2 * n+10001≤fu) {S0:fV} {V0:List jA} (h0:SI S0 V0) {O:List jD × fV→Prop}:∀ (l:List jD) (k:Nat) (out:List jD) (S:fV) (V:List jA),Stp S0 V0 S V→(∃ ext,S.b=S0.b ++ ext)→(∀ y ∈ l,BK 5000 n y)→out.length+l.length≤5001→
  kG (lS fu f g l k out S.a.a.a S.f S.c S.e S.a.a.b S.a.c S.a.b S.b) (oJ (fun r=>jy r fun o r=>jy r fun a r=>jy r fun b r=>jy r fun c r=>jy r fun d r=>jy r fun e r=>jy r fun f r=>jy r fun g h=>∃ V',Stp S0 V0 ⟨⟨⟨a,e⟩,f,g⟩,b,h,c,d⟩ V'∧∃ ext,h=S0.b ++ ext) O)
 | [],_,out,S,V,hS,he,_,_=>.go ⟨V,hS,he⟩
 | u :: r,k,out,S,V,hS,he,hl,hlen=>by
  rw [lS]
  rw [List.length_cons] at hlen
  refine .ite (fun c=>.go ⟨V,hS,he⟩) fun c=>?_
  refine .bp (hg _ V u n hS.si (hl u (.head _)) hn) fun x S1 ⟨V1,k1,ext,k2⟩=>?_
  refine .bd (.app (by simp only [List.length_cons,List.length_nil];omega)) fun o ho=>?_
  subst ho
  obtain ⟨e0,he⟩:=he
  exact FB hg hn h0 r (k+1) _ S1 V1 (hS.trans k1) ⟨e0 ++ ext,by rw [k2];dsimp only;rw [he,List.append_assoc]⟩ (fun y hy=>hl y (.tail _ hy)) (by rw [ko];omega)
theorem FJ {S:fV} {V:List jA} (h:SI S V) {O:List jD × fV→Prop}:∀ (l:List Int) (k:Nat) (vs:List (List jA)) (V1:List jA) (C:Nat→Prop),(∀ v ∈ l,v ∈ S.b)→vs.length=S.a.c.length→vs=S.a.c.set S.f.toNat V1→GJ ((S.a.b.length:Int) - 1) C V V1→(∀ i,C i→(i:Int) ∈ S.b)→
  kG (nG fu f g S.f S.a.b l k vs) (oJ (fun vs'=>∃ V',vs'=S.a.c.set S.f.toNat V'∧∃ C',GJ ((S.a.b.length:Int) - 1) C' V V'∧(∀ i,C' i→(i:Int) ∈ S.b)∧(∀ i,C i→C' i)∧∀ v ∈ l,C' v.toNat) O)
 | [],_,vs,V1,C,_,_,h1,h2,h3=>.go ⟨V1,h1,C,h2,h3,fun _ z=>z,fun v hv=>(by cases hv)⟩
 | u :: r,k,vs,V1,C,hl,hlen,h1,h2,h3=>by
  have a3:=h.f0;have a4:=h.vl;have a5:=h.st
  have hu:=hl u (.head _)
  have hu2:=h.op u hu
  rw [nG]
  have hg:vs[S.f.toNat]?=some V1:=by rw [h1,List.getElem?_set_self (by omega)]
  refine .bd (.ix (by omega) (by omega)) fun e he=>?_
  rw [hg] at he
  obtain rfl:=Option.some.inj he
  refine .bd (.ix hu2.1 (by rw [h2.len];exact hu2.2)) fun x hx=>?_
  refine .bd (.st (by rw [h2.len];exact hu2)) fun w hw=>?_
  refine .bd (.st (by omega)) fun w2 hw2=>?_
  rw [lQ (by omega) (by omega)] at hw
  have k1:=GJ.one (N:=(S.a.b.length:Int) - 1) hx
  rw [← hw] at k1
  refine (FJ h (O:=O) r (k+1) w2 w _ (fun v hv=>hl v (.tail _ hv)) (by rw [hw2,List.length_set];exact hlen) (by rw [hw2,h1,List.set_set]) (h2.trans k1) (fun i hi=>?_)).imp fun v hv=>?_
  · rcases hi with hi | rfl
    · exact h3 i hi
    · rw [show ((u.toNat:Nat):Int)=u by omega];exact hu
  · obtain v | v:=v
    · obtain ⟨V',b1,C',b2,b3,b4,b5⟩:=hv
      refine ⟨V',b1,C',b2,b3,fun i hi=>b4 i (.inl hi),fun q hq=>?_⟩
      rcases List.mem_cons.1 hq with rfl | hq
      · exact b4 _ (.inr rfl)
      · exact b5 q hq
    · exact hv
theorem Sq (hg:RU g fu):Rv (pK fu f g) (fu+1):=by
 intro S V l n h hl hlen hn
 unfold pK
 refine .el (FB (O:=fun _=>False) hg (by omega) h l 0 [] S V (.rfl' h) ⟨[],(List.append_nil _).symm⟩ hl (by simp only [List.length_nil];omega)) (fun s hs=>?_) fun _ z=>z.elim
 refine .pp hs fun o r hs=>.pp hs fun a1 r hs=>.pp hs fun a2 r hs=>.pp hs fun a3 r hs=>.pp hs fun a4 r hs=>.pp hs fun a5 r hs=>.pp hs fun a6 r hs=>.pp hs fun a7 a8 hs=>?_
 obtain ⟨V1,h1,ext,rfl⟩:=hs
 have b1:=h1.si.ol;have b2:=h1.si.vn
 dsimp only at b1
 rw [List.length_append] at b1
 refine .bd (.sl (by rw [List.length_append];omega)) fun l1 hl1=>?_
 have e1:l1=ext:=by
   rw [hl1,List.length_append]
   simp only [Int.toNat_natCast,List.drop_left]
   rw [List.take_of_length_le (by omega)]
 subst e1
 clear hl1
 refine .el (FJ h1.si (O:=fun _=>False) l1 0 a6 V1 (fun _=>False) (fun v hv=>List.mem_append.2 (.inr hv)) rfl (FE h1.si.v).symm .rfl' (fun _ z=>z.elim)) (fun vs hvs=>?_) fun _ z=>z.elim
 obtain ⟨V2,c1,C,c2,c3,_,c5⟩:=hvs
 refine .bd (.sl (by rw [List.length_append];omega)) fun l2 hl2=>?_
 have e2:l2=S.b:=by
   rw [hl2]
   simp only [Int.toNat_zero,List.drop_zero,Int.sub_zero,Int.toNat_natCast,List.take_left]
 subst e2
 refine .bd (.app (by simp only [List.length_nil];omega)) fun r hr=>.mk ?_
 rw [List.nil_append] at hr
 subst hr
 refine ⟨V2,h1.trans (GJ.TH h1.si c2 c1 (fun v hv=>List.mem_append.2 (.inl hv)) (by dsimp only;rw [List.length_append];omega) c3 fun _ i hi ho=>?_),rfl⟩
 dsimp only at hi
 rcases List.mem_append.1 hi with hi | hi
 · exact absurd hi ho
 · have:=c5 _ hi
   rwa [Int.toNat_natCast] at this
end
end Go.Proofs.Ytfglbdkfnphjgaa
set_option linter.unusedVariables false
set_option linter.unusedSimpArgs false
namespace Go.Proofs.Ytfglbdkfnphjgaa
open Go.RowKit Go.Fw
def UP (S:fV) (V:List jA) (S':fV):Prop:=∃ V',Stp S V S' V'∧∃ ext,S'.b=S.b ++ ext
theorem UP.trans {S S1 S2:fV} {V V1:List jA} (h:Stp S V S1 V1) (ho:S1.b=S.b) (k:UP S1 V1 S2):UP S V S2:=by
 obtain ⟨V2,k1,ext,k2⟩:=k
 exact ⟨V2,h.trans k1,ext,by rw [k2,ho]⟩
section
variable {fu:Nat} {f:fV→List jD→Option (List jD × fV)} {g:fV→jD→Option (jD × fV)}
theorem Oz {S:fV} {V:List jA} {x:jD} {r8:List kK} (h:SI ⟨⟨S.a.a,S.a.c,r8⟩,S.f,S.b,S.c,S.e⟩ V):kG (qx fu f g S x r8) (oJ (fun r=>jy r fun k r=>jy r fun c _=>k=2→0≤c∧c < S.a.a.a.length) (fun r=>jy r fun _ S'=>UP ⟨⟨S.a.a,S.a.c,r8⟩,S.f,S.b,S.c,S.e⟩ V S')):=by
 unfold qx
 refine .ite (fun _=>.go fun z=>(by cases z)) fun _=>.ite (fun _=>?_) fun _=>.go fun z=>(by cases z)
 refine .bp O6 fun v b hv=>.ite (fun _=>?_) fun d=>?_
 · exact .bd (uV (by decide)) fun S' k=>.out ⟨V,k.1.TH h,[],by rw [k.1.op,List.append_nil]⟩
 have hv:=hv (by simpa using d)
 exact .bd (.ix hv.1 hv.2) fun rc _=>.go fun _=>hv
theorem Og {S:fV} {V:List jA} {x:jD} {r8:List kK} (h:SI ⟨⟨S.a.a,S.a.c,r8⟩,S.f,S.b,S.c,S.e⟩ V) (hr:r8.length=S.a.b.length+1):kG (nZ fu f g S x r8) (oJ (fun r=>jy r fun a r=>jy r fun b r=>jy r fun c r=>jy r fun d r=>jy r fun e r=>jy r fun f r=>jy r fun g h=>Ba ⟨⟨S.a.a,S.a.c,r8⟩,S.f,S.b,S.c,S.e⟩ ⟨⟨⟨a,e⟩,f,g⟩,b,h,c,d⟩) (fun r=>jy r fun _ S'=>UP ⟨⟨S.a.a,S.a.c,r8⟩,S.f,S.b,S.c,S.e⟩ V S')):=by
 unfold nZ
 refine .ite (fun _=>?_) fun _=>.ite (fun _=>.ite (fun c=>?_) fun _=>.go .rfl') fun _=>.go .rfl'
 · refine .el (Oz h) (fun s hs=>?_) fun o ho=>.out ho
   refine .pp hs fun k r hs=>.pp hs fun c w hs=>?_
   have h1:=h.st
   dsimp only at h1
   refine .bp (DI h hs ?_) fun v S' k=>.out ?_
   · dsimp only;rw [lQ (by omega) (by omega)];omega
   · obtain ⟨V',k1,k2,_⟩:=k
     exact ⟨V',k1,k2⟩
 · refine .bd (.ix (Int.le_refl _) c) fun e he=>.ite (fun _=>?_) fun _=>.go .rfl'
   exact .bd (uV (by decide)) fun S' k=>.go k.1
theorem OD {S:fV} {V:List jA} {v:Int} (h:SI S V) (hv:S.e=0→0≤v∧v < V.length) {O:jD × fV→Prop}:kG (qw fu f g v S) (oJ (fun vs=>∃ V',vs=S.a.c.set S.f.toNat V'∧∃ C,GJ ((S.a.b.length:Int) - 1) C V V'∧(S.e=0→∀ i,C i ↔ i=v.toNat)∧(S.e≠0→∀ i,¬ C i)) O):=by
 unfold qw
 refine .ite (fun c=>?_) fun c=>.go ⟨V,(FE h.v).symm,_,.rfl',fun z=>absurd z c,fun _ _ z=>z⟩
 have hv:=hv c
 have a3:=h.f0;have a4:=h.vl;have a5:=h.st
 refine .bd h.ix fun e he=>?_
 subst he
 refine .bd (.ix hv.1 hv.2) fun x hx=>.bd (.st hv) fun w hw=>.bd (.st (by omega)) fun w2 hw2=>.go ?_
 rw [lQ (by omega) (by omega)] at hw
 subst hw hw2
 exact ⟨_,rfl,_,GJ.one hx,fun _ i=>Iff.rfl,fun z=>absurd c z⟩
theorem OE (hf:Rv f fu) {n:Nat} (hn:2 * n+10002≤fu) {S:fV} {V:List jA} {l:List jD} (h:SI S V) (hl:(∀ y ∈ l,BK 5000 n y)∧l.length≤5001) {a1 a2 a3:Int} {a4 a5:ByteArray} {a6:Int} {a7:List jB} {a8:ByteArray} {a9:Int} {a10:List jB} {a11:List jD} :
   kG (pz fu f g a1 a2 a3 a4 a5 a6 a7 a8 a9 l a10 a11 S) (oJ (fun _=>True) (fun r=>jy r fun _ S'=>UP S V S')):=by
 unfold pz
 refine .ite (fun _=>.ite (fun c=>?_) fun _=>.go trivial) fun _=>.go trivial
 have b1:=h.ol;have b2:=h.vn
 refine .bd (.app (by simp only [List.length_nil];omega)) fun r hr=>?_
 rw [List.nil_append] at hr
 subst hr
 refine .bp (DI h (fun z=>(by cases z)) (Int.le_refl _)) fun v S1 k1=>?_
 obtain ⟨V1,k1,⟨ext,k2⟩,k3⟩:=k1
 refine .bp (hf S1 V1 l n k1.si hl.1 hl.2 hn) fun l2 S2 k4=>?_
 obtain ⟨V2,k4,k5⟩:=k4
 have hv:S2.e=0→0≤v∧v < V2.length:=fun z=>by
   have q:=k3 (k4.e z)
   have q1:=k4.vle
   rw [q.1,ko] at q1
   omega
 refine .el (OD (O:=fun _=>False) k4.si hv) (fun vs hvs=>?_) fun _ z=>z.elim
 obtain ⟨V3,c1,C,c2,c3,c4⟩:=hvs
 have hop:S2.b=S.b ++ ext:=by rw [k5,k2]
 refine .out ⟨V3,(k1.trans k4).trans (GJ.TH k4.si c2 c1 (fun v hv=>by rw [hop];exact List.mem_append.2 (.inl hv)) (by rw [hop,List.length_append];omega) (fun i hi=>?_) fun z i hi ho=>?_),[],by rw [List.append_nil]⟩
 · by_cases z:S2.e=0
   · have q:=k3 (k4.e z)
     rw [(c3 z i).1 hi,k5,q.2.2,q.2.1,Int.toNat_natCast]
     exact List.mem_append.2 (.inr (.head _))
   · exact absurd hi (c4 z i)
 · have q:=k3 (k4.e z)
   rw [k5,q.2.2] at hi
   rcases List.mem_append.1 hi with hi | hi
   · exact absurd hi ho
   · simp only [List.mem_cons,List.not_mem_nil,or_false] at hi
     refine (c3 z i).2 ?_
     rw [q.2.1];omega
theorem Om {S:fV} {x:jD} {a:List jB} {S1:fV} {O:jD × fV→Prop}:kG (qz fu f g S x a S1) (oJ (fun r=>jy r fun a r=>jy r fun b r=>jy r fun c r=>jy r fun d r=>jy r fun e r=>jy r fun f r=>jy r fun g r=>jy r fun h r=>jy r fun _ r=>jy r fun _ r=>jy r fun _ r=>jy r fun _ r=>jy r fun _ r=>jy r fun _ r=>jy r fun _ r=>jy r fun _ r=>jy r fun _ r=>jy r fun _ r=>jy r fun i r=>jy r fun j k=>Ba S1 ⟨⟨⟨a,e⟩,f,g⟩,b,h,c,d⟩∧i=x.a∧j=x.e∧k=x.h) O):=by
 unfold qz
 refine .ite (fun _=>.bp P5 fun S' x' k=>.go ?_) fun _=>.go ⟨.rfl',rfl,rfl,rfl⟩
 obtain ⟨k1,c,rfl⟩:=k
 exact ⟨k1,rfl,rfl,rfl⟩
theorem Vl (hf:Rv f fu):RU (sM fu f g) (fu+1):=by
 intro S V x n h hx hn
 cases n with
 | zero=>exact hx.elim
 | succ n=>
 obtain ⟨x1,x2,x3,x4,x5⟩:=hx
 unfold sM
 refine .ite (fun c=>.bd (uV (by decide)) fun S' k=>.mk ⟨V,k.1.TH h,[],by rw [k.1.op,List.append_nil]⟩) fun c=>?_
 have a3:=h.st
 refine .bd (.app (by simp only [List.length_cons,List.length_nil];omega)) fun r8 hr8=>?_
 have hlen:r8.length=S.a.b.length+1:=by rw [hr8,ko]
 have h1:SI ⟨⟨S.a.a,S.a.c,r8⟩,S.f,S.b,S.c,S.e⟩ V:=⟨h.f0,h.vl,h.v,h.vn,h.op,h.ol,by dsimp only;omega,h.rk⟩
 have s1:Stp S V ⟨⟨S.a.a,S.a.c,r8⟩,S.f,S.b,S.c,S.e⟩ V:=⟨h1,rfl,rfl,fun _ _=>rfl,by dsimp only;omega,id,Nat.le_refl _,fun _ m=>⟨fun i y hi ho=>by have:=m.cl i y hi ho;dsimp only;omega,m.pr⟩⟩
 refine .el (Og h1 hlen) (fun s hs=>?_) fun o ho=>.mk ?_
 rotate_left
 · obtain ⟨y,S'⟩:=o
   exact UP.trans s1 rfl ho
 refine .pp hs fun b1 r hs=>.pp hs fun b2 r hs=>.pp hs fun b3 r hs=>.pp hs fun b4 r hs=>.pp hs fun b5 r hs=>.pp hs fun b6 r hs=>.pp hs fun b7 b8 hs=>?_
 refine .bp ((IK fu).2 _ V _ _ 5000 (hs.si h1) x1.2 (by have:=x1.1;omega) (by omega)) fun tg S2 k2=>?_
 have q2:=hs.trans k2.1
 refine .el (Om (O:=fun _=>False)) (fun s hs=>?_) fun _ z=>z.elim
 refine .pp hs fun c1 r hs=>.pp hs fun c2 r hs=>.pp hs fun c3 r hs=>.pp hs fun c4 r hs=>.pp hs fun c5 r hs=>.pp hs fun c6 r hs=>.pp hs fun c7 r hs=>.pp hs fun c8 r hs=>.pp hs fun c9 r hs=>.pp hs fun c10 r hs=>.pp hs fun c11 r hs=>.pp hs fun c12 r hs=>.pp hs fun c13 r hs=>.pp hs fun c14 r hs=>.pp hs fun c15 r hs=>.pp hs fun c16 r hs=>.pp hs fun c17 r hs=>.pp hs fun c18 r hs=>.pp hs fun c19 r hs=>.pp hs fun c20 c21 hs=>?_
 obtain ⟨k3,rfl,rfl,rfl⟩:=hs
 have q3:=q2.trans k3
 refine .bp ((IK fu).2 _ V _ _ 5000 (q3.si h1) x2.2 x2.1 (by omega)) fun ar S4 k4=>?_
 have q4:=q3.trans k4.1
 have s4:=s1.trans (q4.TH h1)
 refine .bp (hf S4 V x.e n s4.si x3.2 (by have:=x3.1;omega) (by omega)) fun bd S5 k5=>?_
 obtain ⟨V5,k5,o5⟩:=k5
 have s5:=s4.trans k5
 have ho5:S5.b=S.b:=by rw [o5,q4.op]
 refine .el (OE hf (by omega) s5.si ⟨x4.2,by have:=x4.1;omega⟩) (fun _ _=>?_) fun o ho=>.mk ?_
 · refine .bp (hf S5 V5 x.h n s5.si x4.2 (by have:=x4.1;omega) (by omega)) fun el S6 k6=>.mk ?_
   obtain ⟨V6,k6,o6⟩:=k6
   exact ⟨V6,s5.trans k6,[],by rw [o6,ho5,List.append_nil]⟩
 · obtain ⟨y,S'⟩:=o
   exact UP.trans s5 ho5 ho
end
theorem FK:∀ fu:Nat,Rv (q9 fu) fu∧RU (xS fu) fu
 | 0=>⟨fun S V l n h hl hlen hn=>by omega,fun S V x n h hx hn=>by omega⟩
 | fu+1=>⟨Sq (FK fu).2,Vl (FK fu).1⟩
end Go.Proofs.Ytfglbdkfnphjgaa
set_option linter.unusedVariables false
set_option linter.unusedSimpArgs false
namespace Go.Proofs.Ytfglbdkfnphjgaa
open Go.RowKit Go.Fw
theorem pl {α β γ:Type} {a:α} {b:β} {f:α→β→γ}:jy (a,b) f=f a b:=rfl
def CF:Nat→jD→Prop
 | 0,_=>False
 | n+1,x=>(∀ y ∈ x.d,zm 5000 y)∧(x.a.length≤5000∧∀ y ∈ x.a,zm 5000 y)∧(∀ y ∈ x.e,CF n y)∧(∀ y ∈ x.h,CF n y)
def FX (f:lI):Prop:=∀ y ∈ f.e,CF 10 y
theorem BK.x:∀ {n:Nat} {x:jD},BK 5000 n x→CF n x
 | 0,_,h=>h.elim
 | n+1,x,h=>⟨h.1.2,h.2.1,fun y hy=>BK.x (h.2.2.1.2 y hy),fun y hy=>BK.x (h.2.2.2.1.2 y hy)⟩
theorem U9.x {f:lI} (h:U9 5000 f):FX f:=fun y hy=>(h.el y hy).x
section
variable {fu:Nat} {f:fV→jB→Int→Option (jB × fV)} {g:fV→List jB→Int→Option (List jB × fV)}
def De (f:fV→jB→Int→Option (jB × fV)):Prop:=∀ S x ln x' S' n,f S x ln=some (x',S')→zm n x→zm n x'
def YR (g:fV→List jB→Int→Option (List jB × fV)):Prop:=∀ S l ln l' S' n,g S l ln=some (l',S')→(∀ y ∈ l,zm n y)→(∀ y ∈ l',zm n y)∧l'.length=l.length
theorem R3 {x:jB}:∀ (l:List ByteArray) (k:Nat) (a:Int) (o:jB × fV),nL fu g f x l k a=some (.out o)→False
 | [],_,_,_,h=>by cases h
 | u :: r,k,a,o,h=>by
  rw [nL] at h
  rcases jS h with ⟨_,h⟩|⟨_,h⟩
  · exact R3 r _ _ o h
  · exact R3 r _ _ o h
theorem YN {S:fV} {x:jB} {ln:Int} {x':jB} {S':fV} (h:oh fu g f S x ln=some (.out (x',S'))):x'=x:=by
 unfold oh at h
 obtain ⟨v,hv,h⟩:=bs h
 cases v with
 | out o=>
  unfold rQ at hv
  rcases jS hv with ⟨_,hv⟩|⟨_,hv⟩
  · cases hv
  · rcases jS hv with ⟨_,hv⟩|⟨_,hv⟩ <;> cases hv
 | go b=>
  replace h:=gi h
  rcases jS h with ⟨_,h⟩|⟨_,h⟩
  · obtain ⟨⟨c,i⟩,_,h⟩:=bs h
    replace h:=pi h
    rcases jS h with ⟨_,h⟩|⟨_,h⟩
    · obtain ⟨j,_,h⟩:=bs h
      cases h;rfl
    · obtain ⟨t,_,h⟩:=bs h
      obtain ⟨m,_,h⟩:=bs h
      rcases jS h with ⟨_,h⟩|⟨_,h⟩
      · obtain ⟨k,_,h⟩:=bs h
        cases h;rfl
      · rcases jS h with ⟨_,h⟩|⟨_,h⟩
        · obtain ⟨u,_,h⟩:=bs h
          obtain ⟨v,hv,h⟩:=bs h
          cases v with
          | out o=>exact (R3 _ _ _ _ hv).elim
          | go d=>
           replace h:=gi h
           rcases jS h with ⟨_,h⟩|⟨_,h⟩
           · obtain ⟨a,_,h⟩:=bs h
             cases h
           · cases h
        · cases h
  · cases h
theorem UU (hg:YR g):De (sK fu g f):=by
 intro S x ln x' S' n h hx
 unfold sK at h
 rcases jS h with ⟨_,h⟩|⟨_,h⟩
 · cases h;exact hx
 · obtain ⟨v,hv,h⟩:=bs h
   cases v with
   | out o=>cases h;rw [YN hv];exact hx
   | go s=>
    obtain ⟨a1,a2,a3,a4,a5,a6,a7,a8,a9,a10⟩:=s
    replace h:=gi h
    simp only [pl] at h
    obtain ⟨⟨l',S1⟩,h1,h⟩:=bs h
    rw [pl] at h
    cases h
    cases n with
    | zero=>exact hx.elim
    | succ n=>
     have k:=hg _ _ _ _ _ n h1 hx.2
     exact ⟨by rw [show (jB.a _)=l' from rfl,k.2];exact hx.1,k.1⟩
theorem FM (hf:De f) {ln:Int} {n:Nat}:∀ (l:List jB) (k:Nat) (out:List jB) (a1:List kV) (a2 a3 a4:Int) (a5:List lI) (a6:List (List jA)) (a7:List kK) (a8:List Int) (v:Ld (List jB × List kV × Int × Int × Int × List lI × List (List jA) × List kK × List Int) (List jB × fV)),
  nK fu g f ln l k out a1 a2 a3 a4 a5 a6 a7 a8=some v→(∀ y ∈ l,zm n y)→(∀ y ∈ out,zm n y)→∃ o r,v=.go (o,r)∧(∀ y ∈ o,zm n y)∧o.length=out.length+l.length
 | [],_,out,_,_,_,_,_,_,_,_,v,h,_,ho=>by cases h;exact ⟨_,_,rfl,ho,rfl⟩
 | u :: r,k,out,_,_,_,_,_,_,_,_,v,h,hl,ho=>by
  rw [nK] at h
  obtain ⟨⟨x,S1⟩,h1,h⟩:=bs h
  rw [pl] at h
  obtain ⟨w,hw,h⟩:=bs h
  obtain ⟨_,rfl⟩:=vJ hw
  obtain ⟨o,q,rfl,h2,h3⟩:=FM hf r _ _ _ _ _ _ _ _ _ _ v h (fun y hy=>hl y (.tail _ hy)) (nP ho (hf _ _ _ _ _ n h1 (hl u (.head _))))
  exact ⟨o,q,rfl,h2,by rw [h3,ko,List.length_cons];omega⟩
theorem Rj (hf:De f):YR (qZ fu g f):=by
 intro S l ln l' S' n h hl
 unfold qZ at h
 obtain ⟨v,hv,h⟩:=bs h
 obtain ⟨o,r,rfl,h1,h2⟩:=FM hf l _ _ _ _ _ _ _ _ _ _ v hv hl (fun y hy=>by cases hy)
 obtain ⟨a2,a3,a4,a5,a6,a7,a8,a9⟩:=r
 replace h:=gi h
 simp only [pl] at h
 cases h
 exact ⟨h1,by rw [h2];exact Nat.zero_add _⟩
end
theorem Je:∀ fu:Nat,De (xJ fu)∧YR (rE fu)
 | 0=>⟨fun _ _ _ _ _ _ h=>(by cases h),fun _ _ _ _ _ _ h=>(by cases h)⟩
 | fu+1=>⟨UU (Je fu).2,Rj (Je fu).1⟩
theorem OV {fu:Nat} {S:fV} {x:jD} {S':fV} {x':jD} (h:qm fu S x=some (S',x')):∃ c,x'=⟨x.c,x.f,x.n,x.b,x.k,x.m,x.g,x.d,x.j,c,x.a,x.e,x.h⟩:=by
 unfold qm at h
 rcases jS h with ⟨_,h⟩|⟨_,h⟩
 · cases h;exact ⟨x.i,by cases x;rfl⟩
 · obtain ⟨⟨b,d⟩,_,h⟩:=bs h
   rw [pl] at h
   rcases jS h with ⟨_,h⟩|⟨_,h⟩
   · obtain ⟨_,_,h⟩:=bs h;cases h;exact ⟨_,rfl⟩
   · obtain ⟨_,_,h⟩:=bs h
     rcases jS h with ⟨_,h⟩|⟨_,h⟩
     · obtain ⟨_,_,h⟩:=bs h;cases h;exact ⟨_,rfl⟩
     · cases h;exact ⟨_,rfl⟩
section
variable {fu:Nat} {f:fV→List jD→Option (List jD × fV)} {g:fV→jD→Option (jD × fV)}
def Db (f:fV→List jD→Option (List jD × fV)):Prop:=∀ S l l' S' n,f S l=some (l',S')→(∀ y ∈ l,CF n y)→∀ y ∈ l',CF n y
def Ds (g:fV→jD→Option (jD × fV)):Prop:=∀ S x x' S' n,g S x=some (x',S')→CF n x→CF n x'
theorem ZI {S:fV} {x:jD} {r8:List kK} {x':jD} {S':fV} (h:qx fu f g S x r8=some (.out (x',S'))):∃ i,x'=⟨x.c,x.f,i,x.b,x.k,x.m,x.g,x.d,x.j,x.i,x.a,x.e,x.h⟩:=by
 unfold qx at h
 rcases jS h with ⟨_,h⟩|⟨_,h⟩
 · cases h
 · rcases jS h with ⟨_,h⟩|⟨_,h⟩
   · obtain ⟨⟨c,d⟩,_,h⟩:=bs h
     rw [pl] at h
     rcases jS h with ⟨_,h⟩|⟨_,h⟩
     · obtain ⟨_,_,h⟩:=bs h;cases h;exact ⟨_,rfl⟩
     · obtain ⟨_,_,h⟩:=bs h;cases h
   · cases h
theorem Wi {S:fV} {x:jD} {r8:List kK} {x':jD} {S':fV} (h:nZ fu f g S x r8=some (.out (x',S'))):∃ i v,x'=⟨x.c,x.f,i,x.b,x.k,x.m,v,x.d,x.j,x.i,x.a,x.e,x.h⟩:=by
 unfold nZ at h
 rcases jS h with ⟨_,h⟩|⟨_,h⟩
 · obtain ⟨v,hv,h⟩:=bs h
   cases v with
   | out o=>
     cases h
     obtain ⟨i,e⟩:=ZI hv
     exact ⟨i,x.g,e⟩
   | go s=>
     obtain ⟨a,b,c⟩:=s
     replace h:=gi h
     simp only [pl] at h
     obtain ⟨⟨j,k⟩,_,h⟩:=bs h
     rw [pl] at h
     cases h
     exact ⟨_,_,rfl⟩
 · rcases jS h with ⟨_,h⟩|⟨_,h⟩
   · rcases jS h with ⟨_,h⟩|⟨_,h⟩
     · obtain ⟨_,_,h⟩:=bs h
       rcases jS h with ⟨_,h⟩|⟨_,h⟩
       · obtain ⟨_,_,h⟩:=bs h;cases h
       · cases h
     · cases h
   · cases h
theorem Xj {v:Int} {S:fV} {o:jD × fV} (h:qw fu f g v S=some (.out o)):False:=by
 unfold qw at h
 rcases jS h with ⟨_,h⟩|⟨_,h⟩
 · obtain ⟨_,_,h⟩:=bs h
   obtain ⟨_,_,h⟩:=bs h
   obtain ⟨_,_,h⟩:=bs h
   obtain ⟨_,_,h⟩:=bs h
   cases h
 · cases h
theorem YX (hf:Db f) {h' c j:Int} {d k:ByteArray} {l:Int} {m:List jB} {p:ByteArray} {t:Int} {u:List jD} {v:List jB} {w:List jD} {S:fV} {x':jD} {S':fV} (h:pz fu f g h' c j d k l m p t u v w S=some (.out (x',S'))) :
   ∃ i z,x'=⟨h',c,j,d,k,l,i,m,p,t,v,w,z⟩∧∀ n,(∀ y ∈ u,CF n y)→∀ y ∈ z,CF n y:=by
 unfold pz at h
 rcases jS h with ⟨_,h⟩|⟨_,h⟩
 · rcases jS h with ⟨_,h⟩|⟨_,h⟩
   · obtain ⟨_,_,h⟩:=bs h
     obtain ⟨⟨i,x⟩,_,h⟩:=bs h
     rw [pl] at h
     obtain ⟨⟨z,a⟩,hz,h⟩:=bs h
     rw [pl] at h
     obtain ⟨q,hq,h⟩:=bs h
     cases q with
     | out o=>exact (Xj hq).elim
     | go A=>
      replace h:=gi h
      cases h
      exact ⟨_,_,rfl,fun n hn=>hf _ _ _ _ n hz hn⟩
   · cases h
 · cases h
theorem ZL {z:fV} {x:jD} {T:List jB} {S:fV} {v:Ld (List kV × Int × Int × Int × List lI × List (List jA) × List kK × List Int × Int × Int × Int × ByteArray × ByteArray × Int × Int × List jB × ByteArray × Int × List jB × List jD × List jD) (jD × fV)} (h:qz fu f g z x T S=some v) :
   ∃ a1 a2 a3 a4 a5 a6 a7 a8 c1 c2 c3 c4 c5 c6 c7 c8 c9,v=.go (a1,a2,a3,a4,a5,a6,a7,a8,c1,c2,c3,c4,c5,c6,c7,T,c8,c9,x.a,x.e,x.h):=by
 unfold qz at h
 rcases jS h with ⟨_,h⟩|⟨_,h⟩
 · obtain ⟨⟨c,a⟩,ha,h⟩:=bs h
   rw [pl] at h
   obtain ⟨cc,rfl⟩:=OV ha
   cases h
   exact ⟨_,_,_,_,_,_,_,_,_,_,_,_,_,_,_,_,_,rfl⟩
 · cases h
   exact ⟨_,_,_,_,_,_,_,_,_,_,_,_,_,_,_,_,_,rfl⟩
theorem U0 (hf:Db f):Ds (sM fu f g):=by
 intro S x x' S' n h hx
 cases n with
 | zero=>exact hx.elim
 | succ n=>
 obtain ⟨h1,h2,h3,h4⟩:=hx
 unfold sM at h
 rcases jS h with ⟨_,h⟩|⟨_,h⟩
 · obtain ⟨_,_,h⟩:=bs h
   cases h
   exact ⟨h1,h2,h3,h4⟩
 obtain ⟨r8,_,h⟩:=bs h
 obtain ⟨v,hv,h⟩:=bs h
 cases v with
 | out o=>
   cases h
   obtain ⟨i,v,rfl⟩:=Wi hv
   exact ⟨h1,h2,h3,h4⟩
 | go s=>
   obtain ⟨a1,a2,a3,a4,a5,a6,a7,a8⟩:=s
   replace h:=gi h
   simp only [pl] at h
   obtain ⟨⟨T,S1⟩,hT,h⟩:=bs h
   have k1:=(Je fu).2 _ _ _ _ _ 5000 hT h1
   rw [pl] at h
   obtain ⟨v,hv,h⟩:=bs h
   obtain ⟨_,_,_,_,_,_,_,_,_,_,_,_,_,_,_,_,_,rfl⟩:=ZL hv
   replace h:=gi h
   simp only [pl] at h
   obtain ⟨⟨A,S2⟩,hA,h⟩:=bs h
   have k2:=(Je fu).2 _ _ _ _ _ 5000 hA h2.2
   rw [pl] at h
   obtain ⟨⟨B,S3⟩,hB,h⟩:=bs h
   have k3:=hf _ _ _ _ n hB h3
   rw [pl] at h
   obtain ⟨v,hv,h⟩:=bs h
   cases v with
   | out o=>
    cases h
    obtain ⟨i,z,rfl,hz⟩:=YX hf hv
    exact ⟨k1.1,⟨by rw [k2.2];exact h2.1,k2.1⟩,k3,hz n h4⟩
   | go s=>
    replace h:=gi h
    obtain ⟨⟨E,S4⟩,hE,h⟩:=bs h
    have k4:=hf _ _ _ _ n hE h4
    rw [pl] at h
    cases h
    exact ⟨k1.1,⟨by rw [k2.2];exact h2.1,k2.1⟩,k3,k4⟩
theorem Gp (hg:Ds g) {n:Nat}:∀ (l:List jD) (k:Nat) (out:List jD) (a1:List kV) (a2 a3 a4:Int) (a5:List lI) (a6:List (List jA)) (a7:List kK) (a8:List Int) (v:Ld (List jD × List kV × Int × Int × Int × List lI × List (List jA) × List kK × List Int) (List jD × fV)),
  lS fu f g l k out a1 a2 a3 a4 a5 a6 a7 a8=some v→(∀ y ∈ l,CF n y)→(∀ y ∈ out,CF n y)→∃ o r,v=.go (o,r)∧∀ y ∈ o,CF n y
 | [],_,out,_,_,_,_,_,_,_,_,v,h,_,ho=>by cases h;exact ⟨_,_,rfl,ho⟩
 | u :: r,k,out,_,_,_,_,_,_,_,_,v,h,hl,ho=>by
  rw [lS] at h
  rcases jS h with ⟨_,h⟩|⟨_,h⟩
  · cases h;exact ⟨_,_,rfl,ho⟩
  obtain ⟨⟨x,S1⟩,h1,h⟩:=bs h
  rw [pl] at h
  obtain ⟨w,hw,h⟩:=bs h
  obtain ⟨_,rfl⟩:=vJ hw
  exact Gp hg r _ _ _ _ _ _ _ _ _ _ v h (fun y hy=>hl y (.tail _ hy)) (nP ho (hg _ _ _ _ n h1 (hl u (.head _))))
theorem AO {c:Int} {d:List kK}:∀ (l:List Int) (k:Nat) (a:List (List jA)) (o:List jD × fV),nG fu f g c d l k a=some (.out o)→False
 | [],_,_,_,h=>by cases h
 | e :: r,k,a,o,h=>by
  rw [nG] at h
  obtain ⟨_,_,h⟩:=bs h
  obtain ⟨_,_,h⟩:=bs h
  obtain ⟨_,_,h⟩:=bs h
  obtain ⟨_,_,h⟩:=bs h
  exact AO r _ _ o h
theorem R9 (hg:Ds g):Db (pK fu f g):=by
 intro S l l' S' n h hl
 unfold pK at h
 obtain ⟨v,hv,h⟩:=bs h
 obtain ⟨o,r,rfl,ho⟩:=Gp hg l _ _ _ _ _ _ _ _ _ _ v hv hl (fun y hy=>by cases hy)
 obtain ⟨a2,a3,a4,a5,a6,a7,a8,a9⟩:=r
 replace h:=gi h
 simp only [pl] at h
 obtain ⟨_,_,h⟩:=bs h
 obtain ⟨v,hv,h⟩:=bs h
 cases v with
 | out q=>exact (AO _ _ _ _ hv).elim
 | go q=>
  replace h:=gi h
  obtain ⟨_,_,h⟩:=bs h
  obtain ⟨_,_,h⟩:=bs h
  cases h
  exact ho
end
theorem Fq:∀ fu:Nat,Db (q9 fu)∧Ds (xS fu)
 | 0=>⟨fun _ _ _ _ _ h=>(by cases h),fun _ _ _ _ _ h=>(by cases h)⟩
 | fu+1=>⟨R9 (Fq fu).2,U0 (Fq fu).1⟩
theorem E8 {fu:Nat} {m:lI}:∀ (l:List ByteArray) (k:Nat) (a1:List Int) (a2:List kV) (a3 a4 a5:Int) (a6:List lI) (a7:List (List jA)) (a8:List kK) (o:lI × fV),lF fu m l k a1 a2 a3 a4 a5 a6 a7 a8=some (.out o)→False
 | [],_,_,_,_,_,_,_,_,_,_,h=>by cases h
 | e :: r,_,_,_,_,_,_,_,_,_,o,h=>by
  rw [lF] at h
  obtain ⟨⟨_,a⟩,_,h⟩:=bs h
  rw [pl] at h
  exact E8 r _ _ _ _ _ _ _ _ _ o h
theorem FC {fu:Nat} {S:fV}:∀ (l:List ByteArray) (k:Nat) (a:List (List jA)) (o:lI × fV),l6 fu S l k a=some (.out o)→False
 | [],_,_,_,h=>by cases h
 | e :: r,_,_,o,h=>by
  rw [l6] at h
  obtain ⟨_,_,h⟩:=bs h
  obtain ⟨_,_,h⟩:=bs h
  obtain ⟨_,_,h⟩:=bs h
  obtain ⟨_,_,h⟩:=bs h
  exact FC r _ _ o h
theorem ME {fu:Nat} {S:fV} {x x':lI} {S':fV} (h:oD fu S x=some (x',S')) (hx:FX x):FX x':=by
 unfold oD at h
 rcases jS h with ⟨_,h⟩|⟨_,h⟩
 · obtain ⟨_,_,h⟩:=bs h
   cases h
   exact hx
 obtain ⟨v,hv,h⟩:=bs h
 cases v with
 | out o=>exact (E8 _ _ _ _ _ _ _ _ _ _ _ hv).elim
 | go s=>
   obtain ⟨a1,a2,a3,a4,a5,a6,a7,a8⟩:=s
   replace h:=gi h
   simp only [pl] at h
   rcases jS h with ⟨_,h⟩|⟨_,h⟩
   · obtain ⟨⟨t,a⟩,ht,h⟩:=bs h
     rw [pl] at h
     obtain ⟨v,hv,h⟩:=bs h
     cases v with
     | out o=>exact (FC _ _ _ _ hv).elim
     | go u=>
      replace h:=gi h
      cases h
      exact (Fq fu).1 _ _ _ _ 10 ht hx
   · cases h
     exact hx
end Go.Proofs.Ytfglbdkfnphjgaa
