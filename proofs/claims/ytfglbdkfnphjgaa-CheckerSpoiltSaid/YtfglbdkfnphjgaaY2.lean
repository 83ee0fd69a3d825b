/- The checker of the specification answers for any program; variables in scope together have different names. -/
import Derived.Test.YtfglbdkfnphjgaaY1
import Derived.Test.YtfglbdkfnphjgaaLg
set_option linter.unusedVariables false
set_option linter.unusedSimpArgs false
namespace Go.Proofs.Ytfglbdkfnphjgaa
open Go.RowKit Go.Fw
structure SI (S:fV) (V:List jA):Prop where
 f0:0≤S.f
 vl:(S.a.c.length:Int)=S.f+1
 v:S.a.c[S.f.toNat]?=some V
 vn:V.length≤24
 op:∀ v ∈ S.b,0≤v∧v < V.length
 ol:S.b.length≤V.length
 st:S.a.b.length≤200
 rk:∀ x ∈ V,x.e=2→0≤x.b∧x.b < S.a.a.a.length
structure NI (S:fV) (V:List jA):Prop where
 cl:∀ (i:Nat) (x:jA),V[i]?=some x→(i:Int) ∉ S.b→x.g < S.a.b.length
 pr:∀ (i j:Nat) (x y:jA),i < j→V[i]?=some x→V[j]?=some y→x.a≠y.a ∨ ((i:Int) ∉ S.b∧x.g < y.d)
structure Stp (S:fV) (V:List jA) (S':fV) (V':List jA):Prop where
 si:SI S' V'
 f:S'.f=S.f
 pg:S'.a.a=S.a.a
 vs:∀ k:Nat,(k:Int)≠S.f→S'.a.c[k]?=S.a.c[k]?
 st:S.a.b.length≤S'.a.b.length
 e:S'.e=0→S.e=0
 vle:V.length≤V'.length
 ni:S'.e=0→NI S V→NI S' V'
theorem Stp.rfl' {S:fV} {V:List jA} (h:SI S V):Stp S V S V:=⟨h,rfl,rfl,fun _ _=>rfl,Nat.le_refl _,id,Nat.le_refl _,fun _ k=>k⟩
theorem Stp.trans {S S1 S2:fV} {V V1 V2:List jA} (h:Stp S V S1 V1) (k:Stp S1 V1 S2 V2):Stp S V S2 V2:=
 ⟨k.si,k.f.trans h.f,k.pg.trans h.pg,fun x hx=>(k.vs x (by rw [h.f];exact hx)).trans (h.vs x hx),Nat.le_trans h.st k.st,fun z=>h.e (k.e z),Nat.le_trans h.vle k.vle,fun z n=>k.ni z (h.ni (k.e z) n)⟩
structure BS (S S':fV):Prop where
 out:S'.a=S.a
 f:S'.f=S.f
 op:S'.b=S.b
 e:S'.e=0→S.e=0
theorem BS.rfl' {S:fV}:BS S S:=⟨rfl,rfl,rfl,id⟩
theorem BS.trans {S S1 S2:fV} (h:BS S S1) (k:BS S1 S2):BS S S2:=⟨k.out.trans h.out,k.f.trans h.f,k.op.trans h.op,fun z=>h.e (k.e z)⟩
theorem BS.si {S S':fV} {V:List jA} (k:BS S S') (h:SI S V):SI S' V:=
 ⟨by rw [k.f];exact h.f0,by rw [k.out,k.f];exact h.vl,by rw [k.out,k.f];exact h.v,h.vn,by rw [k.op];exact h.op,by rw [k.op];exact h.ol,by rw [k.out];exact h.st,by rw [k.out];exact h.rk⟩
theorem BS.QN {S S':fV} {V:List jA} (k:BS S S') (h:SI S V):Stp S V S' V:=
 ⟨k.si h,k.f,by rw [k.out],fun x _=>by rw [k.out],by rw [k.out];exact Nat.le_refl _,k.e,Nat.le_refl _,fun _ n=>⟨fun i x hi ho=>by rw [k.out];rw [k.op] at ho;exact n.cl i x hi ho,fun i j x y hij hi hj=>by rw [k.op];exact n.pr i j x y hij hi hj⟩⟩
theorem wB {fu:Nat} {S:fV} {ln e:Int} (he:e≠0):kI (lh fu S ln e) (fun S'=>BS S S'∧S'.e≠0):=by
 unfold lh
 exact .ite (fun c=>.mk ⟨⟨rfl,rfl,rfl,fun z=>absurd z he⟩,he⟩) fun c=>.mk ⟨.rfl',c⟩
theorem Fh {fu:Nat} {n:ByteArray}:∀ (l:List kD) (k:Nat),kI (oD fu n l k) (oK (fun _=>True) (fun r=>iA r fun v b=>(k:Int)≤v∧v < k+l.length))
 | [],_=>.go trivial
 | u :: r,k=>by
  rw [oD,List.length_cons]
  refine .ite (fun _=>.out ⟨Int.le_refl _,by omega⟩) fun _=>(Fh r (k+1)).imp fun v hv=>?_
  obtain v | v:=v
  · trivial
  · obtain ⟨a,b⟩:=v
    exact ⟨by have:=hv.1;omega,by have:=hv.2;omega⟩
theorem OB {fu:Nat} {S:fV} {n:ByteArray}:kI (qE fu S n) (fun r=>iA r fun v b=>b=true→0≤v∧v < S.a.a.a.length):=by
 unfold qE
 refine .el (Fh _ 0) (fun _ _=>.mk fun z=>(by cases z)) fun o ho=>.mk ?_
 obtain ⟨a,b⟩:=o
 exact fun _=>⟨by have:=ho.1;omega,by have:=ho.2;omega⟩
theorem IJ {fu:Nat} {n:ByteArray}:∀ (l:List kC) (k:Nat),kI (pU fu n l k) (oK (fun _=>True) (fun r=>iA r fun v b=>(k:Int)≤v∧v < k+l.length))
 | [],_=>.go trivial
 | u :: r,k=>by
  rw [pU,List.length_cons]
  refine .ite (fun _=>.out ⟨Int.le_refl _,by omega⟩) fun _=>(IJ r (k+1)).imp fun v hv=>?_
  obtain v | v:=v
  · trivial
  · obtain ⟨a,b⟩:=v
    exact ⟨by have:=hv.1;omega,by have:=hv.2;omega⟩
theorem R9 {fu:Nat} {s:jW} {n:ByteArray}:kI (xh fu s n) (fun r=>iA r fun v b=>b=true→0≤v∧v < s.a.b.length):=by
 unfold xh
 refine .el (IJ _ 0) (fun _ _=>.mk fun z=>(by cases z)) fun o ho=>.mk ?_
 obtain ⟨a,b⟩:=o
 exact fun _=>⟨by have:=ho.1;omega,by have:=ho.2;omega⟩
theorem SI.ix {S:fV} {V:List jA} (h:SI S V):kI (ix S.a.c S.f) (fun r=>r=V):=by
 have h1:=h.vl;have h2:=h.f0
 refine (kI.ix h2 (by omega)).imp fun v hv=>?_
 rw [h.v] at hv
 exact (Option.some.inj hv).symm
theorem E9 {fu:Nat} {S:fV} {V:List jA} (h:SI S V) {n:ByteArray}:∀ (l:List Int) (k:Nat),(∀ v ∈ l,v ∈ S.b)→kI (oU fu S n l k) (oK (fun _=>∀ v ∈ l,∀ x,V[v.toNat]?=some x→x.a≠n) (fun r=>iA r fun v b=>b=true∧v ∈ S.b∧∃ x,V[v.toNat]?=some x∧x.a=n))
 | [],_,_=>.go fun v hv=>(by cases hv)
 | u :: r,k,hl=>by
  rw [oU]
  have hu:=h.op u (hl u (.head _))
  refine .bd h.ix fun e he=>?_
  subst he
  refine .bd (.ix hu.1 hu.2) fun x hx=>.ite (fun c=>.out ⟨rfl,hl u (.head _),x,hx,c⟩) fun c=>(E9 h r (k+1) fun v hv=>hl v (.tail _ hv)).imp fun v hv=>?_
  obtain v | v:=v
  · intro w hw y hy
    rcases List.mem_cons.1 hw with rfl | hw
    · rw [hx] at hy
      obtain rfl:=Option.some.inj hy
      exact c
    · exact hv w hw y hy
  · exact hv
theorem Lh {fu:Nat} {S:fV} {V:List jA} (h:SI S V) {n:ByteArray}:kI (tY fu S n) (fun r=>iA r fun v b=>(b=true→v ∈ S.b∧∃ x,V[v.toNat]?=some x∧x.a=n)∧(b=false→∀ v ∈ S.b,∀ x,V[v.toNat]?=some x→x.a≠n)):=by
 unfold tY
 refine .el (E9 h S.b 0 fun v hv=>hv) (fun _ hs=>.mk ⟨fun z=>(by cases z),fun _=>hs⟩) fun o ho=>.mk ?_
 obtain ⟨a,b⟩:=o
 obtain ⟨rfl,h1,h2⟩:=ho
 exact ⟨fun _=>⟨h1,h2⟩,fun z=>(by cases z)⟩
theorem EE {fu:Nat} {S:fV} {V:List jA} (h:SI S V) {ln:Int} {x:jA} (hx:x.e=2→0≤x.b∧x.b < S.a.a.a.length) (hf:S.a.b.length≤x.d) :
   kI (nR fu S ln x) (fun r=>iA r fun v S'=>∃ V',Stp S V S' V'∧(∃ ext,S'.b=S.b ++ ext)∧(S'.e=0→V'=V ++ [x]∧v=V.length∧S'.b=S.b ++ [(V.length:Int)])):=by
 unfold nR
 refine .bp (Lh h) fun v b hv=>.bd h.ix fun e he=>?_
 subst he
 have same:∀ S',BS S S'→S'.e≠0→∃ V',Stp S e S' V'∧(∃ ext,S'.b=S.b ++ ext)∧(S'.e=0→V'=e ++ [x]∧(0:Int)=e.length∧S'.b=S.b ++ [(e.length:Int)]):=fun S' k z=>⟨e,k.QN h,⟨[],by rw [k.op,List.append_nil]⟩,fun y=>absurd y z⟩
 refine .ite (fun c=>.mk (same S .rfl' c)) fun c=>?_
 have c:S.e=0:=by omega
 refine .ite (fun d=>.bd (wB (by decide)) fun S' k=>.mk (same S' k.1 k.2)) fun d=>?_
 refine .ite (fun d2=>.bd (wB (by decide)) fun S' k=>.mk (same S' k.1 k.2)) fun d2=>?_
 have a1:=h.vn;have a2:=h.ol;have a3:=h.f0;have a4:=h.vl
 refine .bd (.app (by simp only [List.length_cons,List.length_nil];omega)) fun r hr=>?_
 refine .bd (.app (by simp only [List.length_cons,List.length_nil];omega)) fun o ho=>?_
 refine .bd (.st (by omega)) fun vs hvs=>.mk ?_
 subst hr ho hvs
 have hb:b=false:=by cases b <;> simp_all
 refine ⟨e ++ [x],⟨⟨h.f0,by simp only [List.length_set];exact h.vl,?_,by rw [jY];omega,?_,by rw [jY,jY];omega,h.st,pq h.rk hx⟩,rfl,rfl,fun k hk=>?_,Nat.le_refl _,fun _=>c,by rw [jY];omega,fun _ n=>⟨fun i y hi ho=>?_,fun i j y z hij hi hj=>?_⟩⟩,⟨[_],rfl⟩,fun _=>⟨rfl,rfl,rfl⟩⟩
 · show (S.a.c.set S.f.toNat (e ++ [x]))[S.f.toNat]?=_
   rw [List.getElem?_set_self (by omega)]
 · refine pq (fun v hv=>?_) ?_
   · have:=h.op v hv;rw [jY];omega
   · rw [jY];omega
 · show (S.a.c.set S.f.toNat (e ++ [x]))[k]?=_
   rw [List.getElem?_set_ne (by omega)]
 · dsimp only at ho ⊢
   rw [List.mem_append,not_or] at ho
   have hi2:i < e.length:=by
     have:=kE hi
     rw [jY] at this
     have h3:i≠e.length:=fun z=>ho.2 (by rw [z];exact .head _)
     omega
   rw [List.getElem?_append_left hi2] at hi
   exact n.cl i y hi ho.1
 · dsimp only
   have hi2:i < e.length:=by have:=kE hj;rw [jY] at this;omega
   rw [List.getElem?_append_left hi2] at hi
   have hne:(i:Int) ∉ S.b→(i:Int) ∉ S.b ++ [(e.length:Int)]:=fun z y=>by
     rcases List.mem_append.1 y with y | y
     · exact z y
     · simp only [List.mem_cons,List.not_mem_nil,or_false] at y
       omega
   by_cases hj2:j < e.length
   · rw [List.getElem?_append_left hj2] at hj
     rcases n.pr i j y z hij hi hj with k | k
     · exact .inl k
     · exact .inr ⟨hne k.1,k.2⟩
   · have:j=e.length:=by have:=kE hj;rw [jY] at this;omega
     subst this
     rw [List.getElem?_append_right (Nat.le_refl _),Nat.sub_self] at hj
     obtain rfl:=Option.some.inj hj
     by_cases ho:(i:Int) ∈ S.b
     · exact .inl (hv.2 hb _ ho y hi)
     · exact .inr ⟨hne ho,by have:=n.cl i y hi ho;omega⟩
def PO (f:fV→jL→Int→Option (jL × fV)) (fu:Nat):Prop:=∀ S V x ln n,SI S V→Af n x→2 * n≤fu→kI (f S x ln) (fun r=>iA r fun _ S'=>BS S S')
def Oz (f:fV→List jL→Int→Option (List jL × fV)) (fu:Nat):Prop:=∀ S V l ln n,SI S V→(∀ y ∈ l,Af n y)→l.length≤5000→2 * n+1≤fu→kI (f S l ln) (fun r=>iA r fun l' S'=>BS S S'∧l'.length=l.length)
section
variable {fu:Nat} {f:fV→jL→Int→Option (jL × fV)} {g:fV→List jL→Int→Option (List jL × fV)}
theorem Et {x:jL} {O:jL × fV→Prop}:∀ (l:List ByteArray) (k:Nat) (n:Int),kI (mU fu g f x l k n) (oK (fun _=>True) O)
 | [],_,_=>.go trivial
 | u :: r,k,n=>by
  rw [mU]
  exact .ite (fun _=>Et r (k+1) _) fun _=>Et r (k+1) n
theorem RG (hg:Oz g fu):PO (uU fu g f) (fu+1):=by
 intro S V x ln n h hx hn
 cases n with
 | zero=>exact hx.elim
 | succ n=>
 unfold uU
 refine .ite (fun c=>.mk .rfl') fun c=>?_
 have hJ:kI (wR fu g f S x ln) (oK (fun r=>iA r fun _ r=>iA r fun _ r=>iA r fun a r=>iA r fun b r=>iA r fun c r=>iA r fun d r=>iA r fun e r=>iA r fun f r=>iA r fun g h=>BS S ⟨⟨⟨a,e⟩,f,g⟩,b,h,c,d⟩) (fun r=>iA r fun _ S'=>BS S S')):=by
  unfold wR
  have hJ1:kI (wN fu g f x) (oK (fun b=>b=true→x.e=1 ∨ x.e=2 ∨ x.e=3) (fun _=>False)):=by
    unfold wN
    refine .ite (fun c=>.go fun _=>.inl c) fun _=>.ite (fun c=>.go fun _=>.inr (.inl c)) fun _=>.go fun z=>.inr (.inr (of_decide_eq_true z))
  refine .el hJ1 (fun b hb=>?_) fun _ z=>z.elim
  refine .ite (fun c=>?_) fun c=>.go .rfl'
  refine .bp (Lh h) fun v is hv=>.ite (fun d=>?_) fun d=>?_
  · exact .bd (wB (by decide)) fun S' k=>.out k.1
  have hv:=hv.1 (by simpa using d)
  refine .bd h.ix fun e he=>?_
  subst he
  have ho:=h.op v hv.1
  refine .bd (.ix ho.1 ho.2) fun y hy=>.ite (fun _=>?_) fun d2=>?_
  · exact .bd (wB (by decide)) fun S' k=>.out k.1
  refine .ite (fun c2=>?_) fun _=>.go .rfl'
  have hk:y.e=2:=by
    rw [c2,show wr ((1:Int)+2)=3 from lD (by omega) (by omega),show wr ((3:Int) - 1)=2 from lD (by omega) (by omega)] at d2
    omega
  have hr:=h.rk y (List.mem_of_getElem? hy) hk
  refine .bd (.ix hr.1 hr.2) fun rc _=>.Cv (Et _ 0 _) fun m _=>?_
  exact .ite (fun _=>.bd (wB (by decide)) fun S' k=>.go k.1) fun _=>.go .rfl'
 refine .eo hJ fun s hs=>?_
 refine .pp hs fun a1 r hs=>.pp hs fun a2 r hs=>.pp hs fun a3 r hs=>.pp hs fun a4 r hs=>.pp hs fun a5 r hs=>.pp hs fun a6 r hs=>.pp hs fun a7 r hs=>.pp hs fun a8 r hs=>.pp hs fun a9 a10 hs=>?_
 exact .bp (hg _ V _ ln n (hs.si h) hx.2 hx.1 (by omega)) fun l' S' k=>.mk (hs.trans k.1)
theorem GA (hf:PO f fu) {V:List jA} {ln:Int} {n:Nat} (hn:2 * n≤fu) {S0:fV} (h:SI S0 V) {O:List jL × fV→Prop}:∀ (l:List jL) (k:Nat) (out:List jL) (S:fV),BS S0 S→(∀ y ∈ l,Af n y)→out.length+l.length≤5000→
  kI (ng fu g f ln l k out S.a.a.a S.f S.c S.e S.a.a.b S.a.c S.a.b S.b) (oK (fun r=>iA r fun o r=>iA r fun a r=>iA r fun b r=>iA r fun c r=>iA r fun d r=>iA r fun e r=>iA r fun f r=>iA r fun g h=>BS S0 ⟨⟨⟨a,e⟩,f,g⟩,b,h,c,d⟩∧o.length=out.length+l.length) O)
 | [],_,out,S,hS,_,_=>.go ⟨hS,rfl⟩
 | u :: r,k,out,S,hS,hl,hlen=>by
  rw [ng]
  rw [List.length_cons] at hlen
  refine .bp (hf _ V u ln n (hS.si h) (hl u (.head _)) hn) fun x S1 k1=>?_
  refine .bd (.app (by simp only [List.length_cons,List.length_nil];omega)) fun o ho=>?_
  subst ho
  refine (GA hf hn h (O:=O) r (k+1) _ S1 (hS.trans k1) (fun y hy=>hl y (.tail _ hy)) (by rw [jY];omega)).imp fun v hv=>?_
  obtain v | v:=v
  · obtain ⟨a1,a2,a3,a4,a5,a6,a7,a8,a9⟩:=v
    exact ⟨hv.1,by rw [hv.2,jY,List.length_cons];omega⟩
  · exact hv
theorem PN (hf:PO f fu):Oz (uh fu g f) (fu+1):=by
 intro S V l ln n h hl hlen hn
 unfold uh
 refine .el (GA (O:=fun _=>False) hf (by omega) h l 0 [] S .rfl' hl (by simp only [List.length_nil];omega)) (fun s hs=>?_) fun _ z=>z.elim
 refine .pp hs fun a1 r hs=>.pp hs fun a2 r hs=>.pp hs fun a3 r hs=>.pp hs fun a4 r hs=>.pp hs fun a5 r hs=>.pp hs fun a6 r hs=>.pp hs fun a7 r hs=>.pp hs fun a8 a9 hs=>.mk ⟨hs.1,?_⟩
 rw [hs.2,List.length_nil,Nat.zero_add]
end
theorem JS:∀ fu:Nat,PO (rF fu) fu∧Oz (mG fu) fu
 | 0=>by
  refine ⟨fun S V x ln n h hx hn=>?_,fun S V l ln n h hl hlen hn=>by omega⟩
  obtain rfl:n=0:=by omega
  exact hx.elim
 | fu+1=>⟨RG (JS fu).2,PN (JS fu).1⟩
theorem OE {fu:Nat} {S:fV} {x:jM}:kI (oV fu S x) (fun r=>iA r fun S' x'=>BS S S'∧∃ c,x'=⟨x.e,x.c,x.n,x.a,x.g,x.m,x.j,x.d,x.k,c,x.b,x.f,x.i⟩):=by
 unfold oV
 have hx:x=⟨x.e,x.c,x.n,x.a,x.g,x.m,x.j,x.d,x.k,x.h,x.b,x.f,x.i⟩:=by cases x;rfl
 refine .ite (fun _=>.mk ⟨.rfl',_,hx⟩) fun _=>?_
 refine .bp R9 fun v b hv=>.ite (fun _=>?_) fun d=>?_
 · exact .bd (wB (by decide)) fun S' k=>.mk ⟨k.1,_,rfl⟩
 have hv:=hv (by simpa using d)
 refine .bd (.ix hv.1 hv.2) fun fn _=>.ite (fun _=>?_) fun _=>.mk ⟨.rfl',_,rfl⟩
 exact .bd (wB (by decide)) fun S' k=>.mk ⟨k.1,_,rfl⟩
structure Il (N:Int) (C:Nat→Prop) (V V':List jA):Prop where
 len:V'.length=V.length
 el:∀ (i:Nat) (x':jA),V'[i]?=some x'→∃ x,V[i]?=some x∧x'.a=x.a∧x'.e=x.e∧x'.b=x.b∧x'.d=x.d∧(x'.g=N ∨ x'.g=x.g)∧(C i→x'.g=N)∧(¬ C i→x'.g=x.g)
theorem Il.rfl' {N:Int} {V:List jA}:Il N (fun _=>False) V V:=⟨rfl,fun i x h=>⟨x,h,rfl,rfl,rfl,rfl,.inr rfl,fun z=>z.elim,fun _=>rfl⟩⟩
theorem Il.trans {N:Int} {C C2:Nat→Prop} {V V1 V2:List jA} (h:Il N C V V1) (k:Il N C2 V1 V2):Il N (fun i=>C i ∨ C2 i) V V2:=⟨k.len.trans h.len,fun i x hx=>by
 obtain ⟨y,hy,a1,a2,a3,a4,a5,a6,a7⟩:=k.el i x hx
 obtain ⟨z,hz,b1,b2,b3,b4,b5,b6,b7⟩:=h.el i y hy
 refine ⟨z,hz,a1.trans b1,a2.trans b2,a3.trans b3,a4.trans b4,?_,fun c=>?_,fun c=>?_⟩
 · rcases a5 with a5 | a5
   · exact .inl a5
   · rw [a5];exact b5
 · rcases c with c | c
   · rcases a5 with a5 | a5
     · exact a5
     · rw [a5];exact b6 c
   · exact a6 c
 · rw [a7 fun y=>c (.inr y)];exact b7 fun y=>c (.inl y)⟩
theorem Il.one {N:Int} {V:List jA} {i:Nat} {x:jA} (hx:V[i]?=some x):Il N (·=i) V (V.set i ⟨x.a,x.e,x.b,x.f,x.c,x.d,N⟩):=⟨List.length_set,fun j y hy=>by
 by_cases c:j=i
 · subst c
   rw [List.getElem?_set_self (kE hx)] at hy
   obtain rfl:=Option.some.inj hy
   exact ⟨x,hx,rfl,rfl,rfl,rfl,.inl rfl,fun _=>rfl,fun z=>absurd rfl z⟩
 · rw [List.getElem?_set_ne (Ne.symm c)] at hy
   exact ⟨y,hy,rfl,rfl,rfl,rfl,.inr rfl,fun z=>absurd z c,fun _=>rfl⟩⟩
theorem GJ {α:Type} {l:List α} {x:α} {k:Nat} (h:l[k]?=some x):l.set k x=l:=by
 obtain ⟨hk,rfl⟩:=List.getElem?_eq_some_iff.1 h
 exact List.set_getElem_self hk
theorem MQ {α:Type} {l:List α} {x:α} (h:x ∈ l):∃ i:Nat,l[i]?=some x:=by
 obtain ⟨i,hi,rfl⟩:=List.getElem_of_mem h
 exact ⟨i,List.getElem?_eq_getElem hi⟩
theorem Il.QN {S:fV} {V V':List jA} {C:Nat→Prop} {op:List Int} {vs:List (List jA)} (h:SI S V) (k:Il ((S.a.b.length:Int) - 1) C V V') (hvs:vs=S.a.c.set S.f.toNat V')
   (ho:∀ v ∈ op,v ∈ S.b) (hl:op.length≤S.b.length) (hC:∀ i:Nat,C i→(i:Int) ∈ S.b) (hD:S.e=0→∀ i:Nat,(i:Int) ∈ S.b→(i:Int) ∉ op→C i):Stp S V ⟨⟨S.a.a,vs,S.a.b⟩,S.f,op,S.c,S.e⟩ V':=by
 have a3:=h.f0;have a4:=h.vl
 subst hvs
 refine ⟨⟨h.f0,by simp only [List.length_set];exact h.vl,?_,by rw [k.len];exact h.vn,fun v hv=>by rw [k.len];exact h.op v (ho v hv),by rw [k.len];exact Nat.le_trans hl h.ol,h.st,fun x hx hk=>?_⟩,rfl,rfl,fun q hq=>?_,Nat.le_refl _,id,by rw [k.len];exact Nat.le_refl _,fun he n=>⟨fun i x hi ho2=>?_,fun i j x y hij hi hj=>?_⟩⟩
 · show (S.a.c.set S.f.toNat V')[S.f.toNat]?=_
   rw [List.getElem?_set_self (by omega)]
 · obtain ⟨i,hi⟩:=MQ hx
   obtain ⟨y,hy,_,b1,b2,_⟩:=k.el i x hi
   rw [b2]
   exact h.rk y (List.mem_of_getElem? hy) (b1 ▸ hk)
 · show (S.a.c.set S.f.toNat V')[q]?=_
   rw [List.getElem?_set_ne (by omega)]
 · obtain ⟨y,hy,_,_,_,_,b5,b6,b7⟩:=k.el i x hi
   dsimp only at ho2 ⊢
   by_cases c:(i:Int) ∈ S.b
   · rw [b6 (hD he i c ho2)];omega
   · rw [b7 fun z=>c (hC i z)];exact n.cl i y hy c
 · obtain ⟨x0,hx0,b1,_,_,_,_,b6,b7⟩:=k.el i x hi
   obtain ⟨y0,hy0,c1,_,_,c4,_⟩:=k.el j y hj
   rw [b1,c1,c4]
   rcases n.pr i j x0 y0 hij hx0 hy0 with m | m
   · exact .inl m
   · exact .inr ⟨fun z=>m.1 (ho _ z),by rw [b7 fun z=>m.1 (hC i z)];exact m.2⟩
def Qr (f:fV→List jM→Option (List jM × fV)) (fu:Nat):Prop:=∀ S V l n,SI S V→(∀ y ∈ l,CJ 5000 n y)→l.length≤5001→2 * n+10002≤fu→kI (f S l) (fun r=>iA r fun _ S'=>∃ V',Stp S V S' V'∧S'.b=S.b)
def PG (f:fV→jM→Option (jM × fV)) (fu:Nat):Prop:=∀ S V x n,SI S V→CJ 5000 n x→2 * n+10001≤fu→kI (f S x) (fun r=>iA r fun _ S'=>∃ V',Stp S V S' V'∧∃ ext,S'.b=S.b ++ ext)
section
variable {fu:Nat} {f:fV→List jM→Option (List jM × fV)} {g:fV→jM→Option (jM × fV)}
theorem Hl (hg:PG g fu) {n:Nat} (hn:2 * n+10001≤fu) {S0:fV} {V0:List jA} (h0:SI S0 V0) {O:List jM × fV→Prop}:∀ (l:List jM) (k:Nat) (out:List jM) (S:fV) (V:List jA),Stp S0 V0 S V→(∃ ext,S.b=S0.b ++ ext)→(∀ y ∈ l,CJ 5000 n y)→out.length+l.length≤5001→
  kI (mq fu f g l k out S.a.a.a S.f S.c S.e S.a.a.b S.a.c S.a.b S.b) (oK (fun r=>iA r fun o r=>iA r fun a r=>iA r fun b r=>iA r fun c r=>iA r fun d r=>iA r fun e r=>iA r fun f r=>iA r fun g h=>∃ V',Stp S0 V0 ⟨⟨⟨a,e⟩,f,g⟩,b,h,c,d⟩ V'∧∃ ext,h=S0.b ++ ext) O)
 | [],_,out,S,V,hS,he,_,_=>.go ⟨V,hS,he⟩
 | u :: r,k,out,S,V,hS,he,hl,hlen=>by
  rw [mq]
  rw [List.length_cons] at hlen
  refine .ite (fun c=>.go ⟨V,hS,he⟩) fun c=>?_
  refine .bp (hg _ V u n hS.si (hl u (.head _)) hn) fun x S1 ⟨V1,k1,ext,k2⟩=>?_
  refine .bd (.app (by simp only [List.length_cons,List.length_nil];omega)) fun o ho=>?_
  subst ho
  obtain ⟨e0,he⟩:=he
  exact Hl hg hn h0 r (k+1) _ S1 V1 (hS.trans k1) ⟨e0 ++ ext,by rw [k2];dsimp only;rw [he,List.append_assoc]⟩ (fun y hy=>hl y (.tail _ hy)) (by rw [jY];omega)
theorem GK {S:fV} {V:List jA} (h:SI S V) {O:List jM × fV→Prop}:∀ (l:List Int) (k:Nat) (vs:List (List jA)) (V1:List jA) (C:Nat→Prop),(∀ v ∈ l,v ∈ S.b)→vs.length=S.a.c.length→vs=S.a.c.set S.f.toNat V1→Il ((S.a.b.length:Int) - 1) C V V1→(∀ i,C i→(i:Int) ∈ S.b)→
  kI (lI fu f g S.f S.a.b l k vs) (oK (fun vs'=>∃ V',vs'=S.a.c.set S.f.toNat V'∧∃ C',Il ((S.a.b.length:Int) - 1) C' V V'∧(∀ i,C' i→(i:Int) ∈ S.b)∧(∀ i,C i→C' i)∧∀ v ∈ l,C' v.toNat) O)
 | [],_,vs,V1,C,_,_,h1,h2,h3=>.go ⟨V1,h1,C,h2,h3,fun _ z=>z,fun v hv=>(by cases hv)⟩
 | u :: r,k,vs,V1,C,hl,hlen,h1,h2,h3=>by
  have a3:=h.f0;have a4:=h.vl;have a5:=h.st
  have hu:=hl u (.head _)
  have hu2:=h.op u hu
  rw [lI]
  have hg:vs[S.f.toNat]?=some V1:=by rw [h1,List.getElem?_set_self (by omega)]
  refine .bd (.ix (by omega) (by omega)) fun e he=>?_
  rw [hg] at he
  obtain rfl:=Option.some.inj he
  refine .bd (.ix hu2.1 (by rw [h2.len];exact hu2.2)) fun x hx=>?_
  refine .bd (.st (by rw [h2.len];exact hu2)) fun w hw=>?_
  refine .bd (.st (by omega)) fun w2 hw2=>?_
  rw [lD (by omega) (by omega)] at hw
  have k1:=Il.one (N:=(S.a.b.length:Int) - 1) hx
  rw [← hw] at k1
  refine (GK h (O:=O) r (k+1) w2 w _ (fun v hv=>hl v (.tail _ hv)) (by rw [hw2,List.length_set];exact hlen) (by rw [hw2,h1,List.set_set]) (h2.trans k1) (fun i hi=>?_)).imp fun v hv=>?_
  · rcases hi with hi | rfl
    · exact h3 i hi
    · rw [show ((u.toNat:Nat):Int)=u by omega];exact hu
  · obtain v | v:=v
    · obtain ⟨V',b1,C',b2,b3,b4,b5⟩:=hv
      refine ⟨V',b1,C',b2,b3,fun i hi=>b4 i (.inl hi),fun q hq=>?_⟩
      rcases List.mem_cons.1 hq with rfl | hq
      · exact b4 _ (.inr rfl)
      · exact b5 q hq
    · exact hv
theorem Qk (hg:PG g fu):Qr (pz fu f g) (fu+1):=by
 intro S V l n h hl hlen hn
 unfold pz
 refine .el (Hl (O:=fun _=>False) hg (by omega) h l 0 [] S V (.rfl' h) ⟨[],(List.append_nil _).symm⟩ hl (by simp only [List.length_nil];omega)) (fun s hs=>?_) fun _ z=>z.elim
 refine .pp hs fun o r hs=>.pp hs fun a1 r hs=>.pp hs fun a2 r hs=>.pp hs fun a3 r hs=>.pp hs fun a4 r hs=>.pp hs fun a5 r hs=>.pp hs fun a6 r hs=>.pp hs fun a7 a8 hs=>?_
 obtain ⟨V1,h1,ext,rfl⟩:=hs
 have b1:=h1.si.ol;have b2:=h1.si.vn
 dsimp only at b1
 rw [List.length_append] at b1
 refine .bd (.sl (by rw [List.length_append];omega)) fun l1 hl1=>?_
 have e1:l1=ext:=by
   rw [hl1,List.length_append]
   simp only [Int.toNat_natCast,List.drop_left]
   rw [List.take_of_length_le (by omega)]
 subst e1
 clear hl1
 refine .el (GK h1.si (O:=fun _=>False) l1 0 a6 V1 (fun _=>False) (fun v hv=>List.mem_append.2 (.inr hv)) rfl (GJ h1.si.v).symm .rfl' (fun _ z=>z.elim)) (fun vs hvs=>?_) fun _ z=>z.elim
 obtain ⟨V2,c1,C,c2,c3,_,c5⟩:=hvs
 refine .bd (.sl (by rw [List.length_append];omega)) fun l2 hl2=>?_
 have e2:l2=S.b:=by
   rw [hl2]
   simp only [Int.toNat_zero,List.drop_zero,Int.sub_zero,Int.toNat_natCast,List.take_left]
 subst e2
 refine .bd (.app (by simp only [List.length_nil];omega)) fun r hr=>.mk ?_
 rw [List.nil_append] at hr
 subst hr
 refine ⟨V2,h1.trans (Il.QN h1.si c2 c1 (fun v hv=>List.mem_append.2 (.inl hv)) (by dsimp only;rw [List.length_append];omega) c3 fun _ i hi ho=>?_),rfl⟩
 dsimp only at hi
 rcases List.mem_append.1 hi with hi | hi
 · exact absurd hi ho
 · have:=c5 _ hi
   rwa [Int.toNat_natCast] at this
end
end Go.Proofs.Ytfglbdkfnphjgaa
set_option linter.unusedVariables false
set_option linter.unusedSimpArgs false
namespace Go.Proofs.Ytfglbdkfnphjgaa
open Go.RowKit Go.Fw
def UP (S:fV) (V:List jA) (S':fV):Prop:=∃ V',Stp S V S' V'∧∃ ext,S'.b=S.b ++ ext
theorem UP.trans {S S1 S2:fV} {V V1:List jA} (h:Stp S V S1 V1) (ho:S1.b=S.b) (k:UP S1 V1 S2):UP S V S2:=by
 obtain ⟨V2,k1,ext,k2⟩:=k
 exact ⟨V2,h.trans k1,ext,by rw [k2,ho]⟩
section
variable {fu:Nat} {f:fV→List jM→Option (List jM × fV)} {g:fV→jM→Option (jM × fV)}
theorem NH {S:fV} {V:List jA} {x:jM} {r8:List ky} (h:SI ⟨⟨S.a.a,S.a.c,r8⟩,S.f,S.b,S.c,S.e⟩ V):kI (wQ fu f g S x r8) (oK (fun r=>iA r fun k r=>iA r fun c _=>k=2→0≤c∧c < S.a.a.a.length) (fun r=>iA r fun _ S'=>UP ⟨⟨S.a.a,S.a.c,r8⟩,S.f,S.b,S.c,S.e⟩ V S')):=by
 unfold wQ
 refine .ite (fun _=>.go fun z=>(by cases z)) fun _=>.ite (fun _=>?_) fun _=>.go fun z=>(by cases z)
 refine .bp OB fun v b hv=>.ite (fun _=>?_) fun d=>?_
 · exact .bd (wB (by decide)) fun S' k=>.out ⟨V,k.1.QN h,[],by rw [k.1.op,List.append_nil]⟩
 have hv:=hv (by simpa using d)
 exact .bd (.ix hv.1 hv.2) fun rc _=>.go fun _=>hv
theorem Nw {S:fV} {V:List jA} {x:jM} {r8:List ky} (h:SI ⟨⟨S.a.a,S.a.c,r8⟩,S.f,S.b,S.c,S.e⟩ V) (hr:r8.length=S.a.b.length+1):kI (uE fu f g S x r8) (oK (fun r=>iA r fun a r=>iA r fun b r=>iA r fun c r=>iA r fun d r=>iA r fun e r=>iA r fun f r=>iA r fun g h=>BS ⟨⟨S.a.a,S.a.c,r8⟩,S.f,S.b,S.c,S.e⟩ ⟨⟨⟨a,e⟩,f,g⟩,b,h,c,d⟩) (fun r=>iA r fun _ S'=>UP ⟨⟨S.a.a,S.a.c,r8⟩,S.f,S.b,S.c,S.e⟩ V S')):=by
 unfold uE
 refine .ite (fun _=>?_) fun _=>.ite (fun _=>.ite (fun c=>?_) fun _=>.go .rfl') fun _=>.go .rfl'
 · refine .el (NH h) (fun s hs=>?_) fun o ho=>.out ho
   refine .pp hs fun k r hs=>.pp hs fun c w hs=>?_
   have h1:=h.st
   dsimp only at h1
   refine .bp (EE h hs ?_) fun v S' k=>.out ?_
   · dsimp only;rw [lD (by omega) (by omega)];omega
   · obtain ⟨V',k1,k2,_⟩:=k
     exact ⟨V',k1,k2⟩
 · refine .bd (.ix (Int.le_refl _) c) fun e he=>.ite (fun _=>?_) fun _=>.go .rfl'
   exact .bd (wB (by decide)) fun S' k=>.go k.1
theorem Nr {S:fV} {V:List jA} {v:Int} (h:SI S V) (hv:S.e=0→0≤v∧v < V.length) {O:jM × fV→Prop}:kI (wL fu f g v S) (oK (fun vs=>∃ V',vs=S.a.c.set S.f.toNat V'∧∃ C,Il ((S.a.b.length:Int) - 1) C V V'∧(S.e=0→∀ i,C i ↔ i=v.toNat)∧(S.e≠0→∀ i,¬ C i)) O):=by
 unfold wL
 refine .ite (fun c=>?_) fun c=>.go ⟨V,(GJ h.v).symm,_,.rfl',fun z=>absurd z c,fun _ _ z=>z⟩
 have hv:=hv c
 have a3:=h.f0;have a4:=h.vl;have a5:=h.st
 refine .bd h.ix fun e he=>?_
 subst he
 refine .bd (.ix hv.1 hv.2) fun x hx=>.bd (.st hv) fun w hw=>.bd (.st (by omega)) fun w2 hw2=>.go ?_
 rw [lD (by omega) (by omega)] at hw
 subst hw hw2
 exact ⟨_,rfl,_,Il.one hx,fun _ i=>Iff.rfl,fun z=>absurd c z⟩
theorem NK (hf:Qr f fu) {n:Nat} (hn:2 * n+10002≤fu) {S:fV} {V:List jA} {l:List jM} (h:SI S V) (hl:(∀ y ∈ l,CJ 5000 n y)∧l.length≤5001) {a1 a2 a3:Int} {a4 a5:ByteArray} {a6:Int} {a7:List jL} {a8:ByteArray} {a9:Int} {a10:List jL} {a11:List jM} :
   kI (mW fu f g a1 a2 a3 a4 a5 a6 a7 a8 a9 l a10 a11 S) (oK (fun _=>True) (fun r=>iA r fun _ S'=>UP S V S')):=by
 unfold mW
 refine .ite (fun _=>.ite (fun c=>?_) fun _=>.go trivial) fun _=>.go trivial
 have b1:=h.ol;have b2:=h.vn
 refine .bd (.app (by simp only [List.length_nil];omega)) fun r hr=>?_
 rw [List.nil_append] at hr
 subst hr
 refine .bp (EE h (fun z=>(by cases z)) (Int.le_refl _)) fun v S1 k1=>?_
 obtain ⟨V1,k1,⟨ext,k2⟩,k3⟩:=k1
 refine .bp (hf S1 V1 l n k1.si hl.1 hl.2 hn) fun l2 S2 k4=>?_
 obtain ⟨V2,k4,k5⟩:=k4
 have hv:S2.e=0→0≤v∧v < V2.length:=fun z=>by
   have q:=k3 (k4.e z)
   have q1:=k4.vle
   rw [q.1,jY] at q1
   omega
 refine .el (Nr (O:=fun _=>False) k4.si hv) (fun vs hvs=>?_) fun _ z=>z.elim
 obtain ⟨V3,c1,C,c2,c3,c4⟩:=hvs
 have hop:S2.b=S.b ++ ext:=by rw [k5,k2]
 refine .out ⟨V3,(k1.trans k4).trans (Il.QN k4.si c2 c1 (fun v hv=>by rw [hop];exact List.mem_append.2 (.inl hv)) (by rw [hop,List.length_append];omega) (fun i hi=>?_) fun z i hi ho=>?_),[],by rw [List.append_nil]⟩
 · by_cases z:S2.e=0
   · have q:=k3 (k4.e z)
     rw [(c3 z i).1 hi,k5,q.2.2,q.2.1,Int.toNat_natCast]
     exact List.mem_append.2 (.inr (.head _))
   · exact absurd hi (c4 z i)
 · have q:=k3 (k4.e z)
   rw [k5,q.2.2] at hi
   rcases List.mem_append.1 hi with hi | hi
   · exact absurd hi ho
   · simp only [List.mem_cons,List.not_mem_nil,or_false] at hi
     refine (c3 z i).2 ?_
     rw [q.2.1];omega
theorem NG {S:fV} {x:jM} {a:List jL} {S1:fV} {O:jM × fV→Prop}:kI (wP fu f g S x a S1) (oK (fun r=>iA r fun a r=>iA r fun b r=>iA r fun c r=>iA r fun d r=>iA r fun e r=>iA r fun f r=>iA r fun g r=>iA r fun h r=>iA r fun _ r=>iA r fun _ r=>iA r fun _ r=>iA r fun _ r=>iA r fun _ r=>iA r fun _ r=>iA r fun _ r=>iA r fun _ r=>iA r fun _ r=>iA r fun _ r=>iA r fun i r=>iA r fun j k=>BS S1 ⟨⟨⟨a,e⟩,f,g⟩,b,h,c,d⟩∧i=x.b∧j=x.f∧k=x.i) O):=by
 unfold wP
 refine .ite (fun _=>.bp OE fun S' x' k=>.go ?_) fun _=>.go ⟨.rfl',rfl,rfl,rfl⟩
 obtain ⟨k1,c,rfl⟩:=k
 exact ⟨k1,rfl,rfl,rfl⟩
theorem R6 (hf:Qr f fu):PG (sV fu f g) (fu+1):=by
 intro S V x n h hx hn
 cases n with
 | zero=>exact hx.elim
 | succ n=>
 obtain ⟨x1,x2,x3,x4,x5⟩:=hx
 unfold sV
 refine .ite (fun c=>.bd (wB (by decide)) fun S' k=>.mk ⟨V,k.1.QN h,[],by rw [k.1.op,List.append_nil]⟩) fun c=>?_
 have a3:=h.st
 refine .bd (.app (by simp only [List.length_cons,List.length_nil];omega)) fun r8 hr8=>?_
 have hlen:r8.length=S.a.b.length+1:=by rw [hr8,jY]
 have h1:SI ⟨⟨S.a.a,S.a.c,r8⟩,S.f,S.b,S.c,S.e⟩ V:=⟨h.f0,h.vl,h.v,h.vn,h.op,h.ol,by dsimp only;omega,h.rk⟩
 have s1:Stp S V ⟨⟨S.a.a,S.a.c,r8⟩,S.f,S.b,S.c,S.e⟩ V:=⟨h1,rfl,rfl,fun _ _=>rfl,by dsimp only;omega,id,Nat.le_refl _,fun _ m=>⟨fun i y hi ho=>by have:=m.cl i y hi ho;dsimp only;omega,m.pr⟩⟩
 refine .el (Nw h1 hlen) (fun s hs=>?_) fun o ho=>.mk ?_
 rotate_left
 · obtain ⟨y,S'⟩:=o
   exact UP.trans s1 rfl ho
 refine .pp hs fun b1 r hs=>.pp hs fun b2 r hs=>.pp hs fun b3 r hs=>.pp hs fun b4 r hs=>.pp hs fun b5 r hs=>.pp hs fun b6 r hs=>.pp hs fun b7 b8 hs=>?_
 refine .bp ((JS fu).2 _ V _ _ 5000 (hs.si h1) x1.2 (by have:=x1.1;omega) (by omega)) fun tg S2 k2=>?_
 have q2:=hs.trans k2.1
 refine .el (NG (O:=fun _=>False)) (fun s hs=>?_) fun _ z=>z.elim
 refine .pp hs fun c1 r hs=>.pp hs fun c2 r hs=>.pp hs fun c3 r hs=>.pp hs fun c4 r hs=>.pp hs fun c5 r hs=>.pp hs fun c6 r hs=>.pp hs fun c7 r hs=>.pp hs fun c8 r hs=>.pp hs fun c9 r hs=>.pp hs fun c10 r hs=>.pp hs fun c11 r hs=>.pp hs fun c12 r hs=>.pp hs fun c13 r hs=>.pp hs fun c14 r hs=>.pp hs fun c15 r hs=>.pp hs fun c16 r hs=>.pp hs fun c17 r hs=>.pp hs fun c18 r hs=>.pp hs fun c19 r hs=>.pp hs fun c20 c21 hs=>?_
 obtain ⟨k3,rfl,rfl,rfl⟩:=hs
 have q3:=q2.trans k3
 refine .bp ((JS fu).2 _ V _ _ 5000 (q3.si h1) x2.2 x2.1 (by omega)) fun ar S4 k4=>?_
 have q4:=q3.trans k4.1
 have s4:=s1.trans (q4.QN h1)
 refine .bp (hf S4 V x.f n s4.si x3.2 (by have:=x3.1;omega) (by omega)) fun bd S5 k5=>?_
 obtain ⟨V5,k5,o5⟩:=k5
 have s5:=s4.trans k5
 have ho5:S5.b=S.b:=by rw [o5,q4.op]
 refine .el (NK hf (by omega) s5.si ⟨x4.2,by have:=x4.1;omega⟩) (fun _ _=>?_) fun o ho=>.mk ?_
 · refine .bp (hf S5 V5 x.i n s5.si x4.2 (by have:=x4.1;omega) (by omega)) fun el S6 k6=>.mk ?_
   obtain ⟨V6,k6,o6⟩:=k6
   exact ⟨V6,s5.trans k6,[],by rw [o6,ho5,List.append_nil]⟩
 · obtain ⟨y,S'⟩:=o
   exact UP.trans s5 ho5 ho
end
theorem GV:∀ fu:Nat,Qr (kR fu) fu∧PG (qc fu) fu
 | 0=>⟨fun S V l n h hl hlen hn=>by omega,fun S V x n h hx hn=>by omega⟩
 | fu+1=>⟨Qk (GV fu).2,R6 (GV fu).1⟩
end Go.Proofs.Ytfglbdkfnphjgaa
set_option linter.unusedVariables false
set_option linter.unusedSimpArgs false
namespace Go.Proofs.Ytfglbdkfnphjgaa
open Go.RowKit Go.Fw
def NP (V:List jA):Prop:=∀ (i j:Nat) (x y:jA),i < j→V[i]?=some x→V[j]?=some y→x.a≠y.a ∨ x.g < y.d
theorem CR {fu:Nat} {x1:kC} {S0:fV} (h0:SI S0 []) {O:kC × fV→Prop}:∀ (l:List ByteArray) (k:Nat) (S:fV) (V:List jA),Stp S0 [] S V→(S.e=0→V.length=k∧∀ i:Nat,i < k→(i:Int) ∈ S.b)→
  kI (lq fu x1 l k S.b S.a.a.a S.f S.c S.e S.a.a.b S.a.c S.a.b) (oK (fun r=>iA r fun h r=>iA r fun a r=>iA r fun b r=>iA r fun c r=>iA r fun d r=>iA r fun e r=>iA r fun f g=>∃ V',Stp S0 [] ⟨⟨⟨a,e⟩,f,g⟩,b,h,c,d⟩ V'∧(d=0→V'.length=k+l.length∧∀ i:Nat,i < k+l.length→(i:Int) ∈ h)) O)
 | [],k,S,V,hS,hv=>.go ⟨V,hS,hv⟩
 | u :: r,k,S,V,hS,hv=>by
  rw [lq]
  refine .bp (EE hS.si (fun z=>(by cases z)) (Int.le_refl _)) fun v S1 k1=>?_
  obtain ⟨V1,k1,_,k3⟩:=k1
  refine (CR h0 (O:=O) r (k+1) S1 V1 (hS.trans k1) fun z=>?_).imp fun v hv=>?_
  · have q:=k3 z
    have q0:=hv (k1.e z)
    refine ⟨by rw [q.1,jY,q0.1],fun i hi=>?_⟩
    rw [q.2.2]
    by_cases c:i < k
    · exact List.mem_append.2 (.inl (q0.2 i c))
    · obtain rfl:i=V.length:=by omega
      exact List.mem_append.2 (.inr (.head _))
  · obtain v | v:=v
    · obtain ⟨a1,a2,a3,a4,a5,a6,a7,a8⟩:=v
      obtain ⟨V',b1,b2⟩:=hv
      rw [List.length_cons]
      exact ⟨V',b1,fun z=>by have:=b2 z;exact ⟨by omega,fun i hi=>this.2 i (by omega)⟩⟩
    · exact hv
theorem CK {fu:Nat} {S:fV} {V:List jA} (h:SI S V) {O:kC × fV→Prop}:∀ (l:List ByteArray) (k:Nat) (vs:List (List jA)) (V1:List jA) (C:Nat→Prop),(∀ i:Nat,k≤i→i < k+l.length→(i:Int) ∈ S.b)→vs=S.a.c.set S.f.toNat V1→Il ((S.a.b.length:Int) - 1) C V V1→(∀ i,C i→(i:Int) ∈ S.b)→
  kI (lM fu S l k vs) (oK (fun vs'=>∃ V',vs'=S.a.c.set S.f.toNat V'∧∃ C',Il ((S.a.b.length:Int) - 1) C' V V'∧∀ i,C' i→(i:Int) ∈ S.b) O)
 | [],_,vs,V1,C,_,h1,h2,h3=>.go ⟨V1,h1,C,h2,h3⟩
 | u :: r,k,vs,V1,C,hl,h1,h2,h3=>by
  have a3:=h.f0;have a4:=h.vl;have a5:=h.st
  rw [List.length_cons] at hl
  have hu:=hl k (Nat.le_refl _) (by omega)
  have hu2:=h.op _ hu
  rw [lM]
  have hlen:vs.length=S.a.c.length:=by rw [h1,List.length_set]
  have hg:vs[S.f.toNat]?=some V1:=by rw [h1,List.getElem?_set_self (by omega)]
  refine .bd (.ix (by omega) (by omega)) fun e he=>?_
  rw [hg] at he
  obtain rfl:=Option.some.inj he
  refine .bd (.ix hu2.1 (by rw [h2.len];exact hu2.2)) fun x hx=>?_
  refine .bd (.st (by rw [h2.len];exact hu2)) fun w hw=>?_
  refine .bd (.st (by omega)) fun w2 hw2=>?_
  rw [lD (by omega) (by omega)] at hw
  have k1:=Il.one (N:=(S.a.b.length:Int) - 1) hx
  rw [← hw] at k1
  refine CK h (O:=O) r (k+1) w2 w _ (fun i hi hi2=>hl i (by omega) (by omega)) (by rw [hw2,h1,List.set_set]) (h2.trans k1) (fun i hi=>?_)
  rcases hi with hi | rfl
  · exact h3 i hi
  · exact hu
structure UF (S S':fV):Prop where
 f:S'.f=S.f
 pg:S'.a.a=S.a.a
 vs:∀ k:Nat,(k:Int)≠S.f→S'.a.c[k]?=S.a.c[k]?
 vl:S'.a.c.length=S.a.c.length
 st:S'.a.b.length≤200
 np:S'.e=0→∀ V,S'.a.c[S.f.toNat]?=some V→NP V∧V.length≤24
theorem Stp.uf {S S':fV} {V V':List jA} (h:SI S V) (k:Stp S V S' V') (hn:S'.e=0→NP V'):UF S S':=⟨k.f,k.pg,k.vs,by have:=h.vl;have:=k.si.vl;rw [k.f] at this;omega,k.si.st,fun z W hW=>by
 have:=k.si.v
 rw [k.f,hW] at this
 obtain rfl:=Option.some.inj this
 exact ⟨hn z,k.si.vn⟩⟩
theorem NI.np {S:fV} {V:List jA} (h:NI S V):NP V:=fun i j x y hij hi hj=>(h.pr i j x y hij hi hj).imp id And.right
theorem NI.nil {S:fV}:NI S []:=⟨fun i x hi=>(by cases hi),fun i j x y _ hi=>(by cases hi)⟩
theorem UF.of {S S':fV} (h:UF ⟨S.a,S.f,[],S.c,S.e⟩ S'):UF S S':=⟨h.f,h.pg,h.vs,h.vl,h.st,h.np⟩
theorem L8 {fu:Nat} {S:fV} {x:kC} (h:SI ⟨S.a,S.f,[],S.c,S.e⟩ []) (hx:SY 5000 x) (hf:10100≤fu):kI (tF fu S x) (fun r=>iA r fun _ S'=>UF S S'):=by
 unfold tF
 refine .ite (fun c=>.bd (wB (by decide)) fun S' k=>.mk ⟨k.1.f,by rw [k.1.out],fun _ _=>by rw [k.1.out],by rw [k.1.out],by rw [k.1.out];exact h.st,fun z=>absurd z k.2⟩) fun c=>?_
 refine .el (CR (O:=fun _=>False) h x.b 0 _ [] (.rfl' h) fun _=>⟨rfl,fun i hi=>absurd hi (Nat.not_lt_zero i)⟩) (fun s hs=>?_) fun _ z=>z.elim
 refine .pp hs fun b1 r hs=>.pp hs fun b2 r hs=>.pp hs fun b3 r hs=>.pp hs fun b4 r hs=>.pp hs fun b5 r hs=>.pp hs fun b6 r hs=>.pp hs fun b7 b8 hs=>?_
 obtain ⟨V1,k1,k2⟩:=hs
 refine .ite (fun d=>?_) fun d=>.mk (k1.uf h fun z=>absurd z d).of
 refine .bp ((GV fu).1 _ V1 x.f 10 k1.si hx.el hx.body (by omega)) fun bd S2 k3=>?_
 obtain ⟨V2,k3,k4⟩:=k3
 have hk2:=k2 d
 refine .el (CK (O:=fun _=>False) k3.si x.b 0 _ V2 (fun _=>False) (fun i _ hi=>?_) (GJ k3.si.v).symm .rfl' (fun _ z=>z.elim)) (fun vs hvs=>.mk ?_) fun _ z=>z.elim
 · rw [k4]
   exact hk2.2 i hi
 · obtain ⟨V3,c1,C,c2,c3⟩:=hvs
   have s2:=(k1.trans k3).trans (Il.QN k3.si c2 c1 (fun v hv=>hv) (Nat.le_refl _) c3 fun _ i hi ho=>absurd hi ho)
   exact (s2.uf h fun z=>(s2.ni z .nil).np).of
theorem Dg {fu:Nat} {S0:fV} {u:kD} {k:Nat} (hk:k < S0.a.a.a.length) (hk2:k≤5000) {O:fV→Prop}:∀ (n:Nat) (i:Int) (S:fV),0≤i→i≤k→k+1≤n+i→BS S0 S→
  kI (pW fu S0 u k n i S.a.a.a S.f S.c S.e S.a.a.b S.a.c S.a.b S.b) (oK (fun r=>iA r fun _ r=>iA r fun a r=>iA r fun b r=>iA r fun c r=>iA r fun d r=>iA r fun e r=>iA r fun f r=>iA r fun g h=>BS S0 ⟨⟨⟨a,e⟩,f,g⟩,b,h,c,d⟩) O)
 | 0,i,S,h0,h1,hn,hS=>by omega
 | n+1,i,S,h0,h1,hn,hS=>by
  rw [pW]
  refine .ite (fun c=>?_) fun _=>.go hS
  rw [lD (by omega) (by omega)]
  refine .bd (.ix h0 (by omega)) fun e he=>.ite (fun _=>?_) fun _=>Dg hk hk2 n (i+1) S (by omega) (by omega) (by omega) hS
  exact .bd (wB (by decide)) fun S' k=>Dg hk hk2 n (i+1) S' (by omega) (by omega) (by omega) (hS.trans k.1)
theorem Db {fu:Nat} {S0:fV} {u:kD} {w:ByteArray} {k:Nat} (hk:k < u.b.length) (hk2:k≤5000) {O:fV→Prop}:∀ (n:Nat) (i:Int) (S:fV),0≤i→i≤k→k+1≤n+i→BS S0 S→
  kI (qh fu u w k n i S.a.a.a S.f S.c S.e S.a.a.b S.a.c S.a.b S.b) (oK (fun r=>iA r fun _ r=>iA r fun a r=>iA r fun b r=>iA r fun c r=>iA r fun d r=>iA r fun e r=>iA r fun f r=>iA r fun g h=>BS S0 ⟨⟨⟨a,e⟩,f,g⟩,b,h,c,d⟩) O)
 | 0,i,S,h0,h1,hn,hS=>by omega
 | n+1,i,S,h0,h1,hn,hS=>by
  rw [qh]
  refine .ite (fun c=>?_) fun _=>.go hS
  rw [lD (by omega) (by omega)]
  refine .bd (.ix h0 (by omega)) fun e he=>.ite (fun _=>?_) fun _=>Db hk hk2 n (i+1) S (by omega) (by omega) (by omega) hS
  exact .bd (wB (by decide)) fun S' k=>Db hk hk2 n (i+1) S' (by omega) (by omega) (by omega) (hS.trans k.1)
theorem F6 {fu:Nat} (hf:5002≤fu) {S0:fV} {u:kD} (hu:u.b.length≤5000) {O:fV→Prop}:∀ (l:List ByteArray) (k:Nat) (S:fV),k+l.length=u.b.length→BS S0 S→
  kI (nz fu u l k S.a.a.a S.f S.c S.e S.a.a.b S.a.c S.a.b S.b) (oK (fun r=>iA r fun a r=>iA r fun b r=>iA r fun c r=>iA r fun d r=>iA r fun e r=>iA r fun f r=>iA r fun g h=>BS S0 ⟨⟨⟨a,e⟩,f,g⟩,b,h,c,d⟩) O)
 | [],_,S,_,hS=>.go hS
 | w :: r,k,S,hk,hS=>by
  rw [List.length_cons] at hk
  rw [nz]
  refine .Cv (Db (by omega) (by omega) fu 0 S (Int.le_refl _) (by omega) (by omega) hS) fun s hs=>?_
  exact .pp hs fun _ r hs=>.pp hs fun a1 r hs=>.pp hs fun a2 r hs=>.pp hs fun a3 r hs=>.pp hs fun a4 r hs=>.pp hs fun a5 r hs=>.pp hs fun a6 r hs=>.pp hs fun a7 a8 hs=>F6 hf hu (O:=O) _ (k+1) ⟨⟨⟨a1,a5⟩,a6,a7⟩,a2,a8,a3,a4⟩ (by omega) hs
theorem Hg {fu:Nat} (hf:5002≤fu) {S0:fV} (hr:S0.a.a.a.length≤5000) {O:fV→Prop}:∀ (l:List kD) (k:Nat) (S:fV),k+l.length=S0.a.a.a.length→(∀ u ∈ l,u.b.length≤5000)→BS S0 S→
  kI (mK fu S0 l k S.a.a.a S.f S.c S.e S.a.a.b S.a.c S.a.b S.b) (oK (fun r=>iA r fun a r=>iA r fun b r=>iA r fun c r=>iA r fun d r=>iA r fun e r=>iA r fun f r=>iA r fun g h=>BS S0 ⟨⟨⟨a,e⟩,f,g⟩,b,h,c,d⟩) O)
 | [],_,S,_,_,hS=>.go hS
 | u :: r,k,S,hk,hl,hS=>by
  rw [List.length_cons] at hk
  rw [mK]
  have hJ:kI (uL fu S.a.a.a S.f S.c S.e S.a.a.b S.a.c S.a.b S.b u k) (oK (fun r=>iA r fun a r=>iA r fun b r=>iA r fun c r=>iA r fun d r=>iA r fun e r=>iA r fun f r=>iA r fun g h=>BS S0 ⟨⟨⟨a,e⟩,f,g⟩,b,h,c,d⟩) O):=by
   unfold uL
   have hJ2:kI (vW fu u k) (oK (fun _=>True) O):=by
    unfold vW
    exact .ite (fun _=>.go trivial) fun _=>.go trivial
   exact .Cv hJ2 fun b _=>.ite (fun _=>.bd (wB (by decide)) fun S' k=>.go (hS.trans k.1)) fun _=>.go hS
  refine .Cv hJ fun s hs=>?_
  refine .pp hs fun a1 r hs=>.pp hs fun a2 r hs=>.pp hs fun a3 r hs=>.pp hs fun a4 r hs=>.pp hs fun a5 r hs=>.pp hs fun a6 r hs=>.pp hs fun a7 a8 hs=>?_
  refine .Cv (Dg (by omega) (by omega) fu 0 ⟨⟨⟨a1,a5⟩,a6,a7⟩,a2,a8,a3,a4⟩ (Int.le_refl _) (by omega) (by omega) hs) fun s hs=>?_
  refine .pp hs fun _ r hs=>.pp hs fun a1 r hs=>.pp hs fun a2 r hs=>.pp hs fun a3 r hs=>.pp hs fun a4 r hs=>.pp hs fun a5 r hs=>.pp hs fun a6 r hs=>.pp hs fun a7 a8 hs=>?_
  refine .Cv (F6 hf (hl u (.head _)) u.b 0 ⟨⟨⟨a1,a5⟩,a6,a7⟩,a2,a8,a3,a4⟩ (by omega) hs) fun s hs=>?_
  exact .pp hs fun a1 r hs=>.pp hs fun a2 r hs=>.pp hs fun a3 r hs=>.pp hs fun a4 r hs=>.pp hs fun a5 r hs=>.pp hs fun a6 r hs=>.pp hs fun a7 a8 hs=>Hg hf hr (O:=O) _ (k+1) ⟨⟨⟨a1,a5⟩,a6,a7⟩,a2,a8,a3,a4⟩ (by omega) (fun y hy=>hl y (.tail _ hy)) hs
theorem Dv {fu:Nat} {S0:fV} {fn:kC} {m:Int} (hm:m < S0.a.a.b.length) (hm2:m≤5000) {O:fV→Prop}:∀ (n:Nat) (i:Int) (S:fV),0≤i→i≤m→m+1≤n+i→BS S0 S→
  kI (qd fu m fn n i S.a.a.a S.f S.c S.e S.a.a.b S.a.c S.a.b S.b) (oK (fun r=>iA r fun _ r=>iA r fun a r=>iA r fun b r=>iA r fun c r=>iA r fun d r=>iA r fun e r=>iA r fun f r=>iA r fun g h=>BS S0 ⟨⟨⟨a,e⟩,f,g⟩,b,h,c,d⟩) O)
 | 0,i,S,h0,h1,hn,hS=>by omega
 | n+1,i,S,h0,h1,hn,hS=>by
  rw [qd]
  refine .ite (fun c=>?_) fun _=>.go hS
  rw [lD (by omega) (by omega)]
  refine .bd (.ix h0 (by rw [hS.out];omega)) fun e he=>.ite (fun _=>?_) fun _=>Dv hm hm2 n (i+1) S (by omega) (by omega) (by omega) hS
  exact .bd (wB (by decide)) fun S' k=>Dv hm hm2 n (i+1) S' (by omega) (by omega) (by omega) (hS.trans k.1)
theorem GU {fu:Nat} (hf:5002≤fu) {S0:fV} (hr:S0.a.a.b.length≤5000) {O:fV→Prop}:∀ (n:Nat) (i:Int) (S:fV),0≤i→i≤S0.a.a.b.length→S0.a.a.b.length+1≤n+i→BS S0 S→
  kI (ny fu S0.a.a.b n i S.a.a.a S.f S.c S.e S.a.a.b S.a.c S.a.b S.b) (oK (fun r=>iA r fun _ r=>iA r fun a r=>iA r fun b r=>iA r fun c r=>iA r fun d r=>iA r fun e r=>iA r fun f r=>iA r fun g h=>BS S0 ⟨⟨⟨a,e⟩,f,g⟩,b,h,c,d⟩) O)
 | 0,i,S,h0,h1,hn,hS=>by omega
 | n+1,i,S,h0,h1,hn,hS=>by
  rw [ny]
  refine .ite (fun c=>?_) fun _=>.go hS
  refine .bd (.ix h0 (by rw [hS.out];omega)) fun fn he=>?_
  have hJ:kI (vL fu i S.a.a.a S.f S.c S.e S.a.a.b S.a.c S.a.b S.b fn) (oK (fun r=>iA r fun a r=>iA r fun b r=>iA r fun c r=>iA r fun d r=>iA r fun e r=>iA r fun f r=>iA r fun g h=>BS S0 ⟨⟨⟨a,e⟩,f,g⟩,b,h,c,d⟩) O):=by
   unfold vL
   exact .ite (fun _=>.bd (wB (by decide)) fun S' k=>.go (hS.trans k.1)) fun _=>.go hS
  refine .Cv hJ fun s hs=>?_
  refine .pp hs fun a1 r hs=>.pp hs fun a2 r hs=>.pp hs fun a3 r hs=>.pp hs fun a4 r hs=>.pp hs fun a5 r hs=>.pp hs fun a6 r hs=>.pp hs fun a7 a8 hs=>?_
  refine .Cv (Dv (by omega) (by omega) fu 0 ⟨⟨⟨a1,a5⟩,a6,a7⟩,a2,a8,a3,a4⟩ (Int.le_refl _) (by omega) (by omega) hs) fun s hs=>?_
  rw [lD (by omega) (by omega)]
  exact .pp hs fun _ r hs=>.pp hs fun a1 r hs=>.pp hs fun a2 r hs=>.pp hs fun a3 r hs=>.pp hs fun a4 r hs=>.pp hs fun a5 r hs=>.pp hs fun a6 r hs=>.pp hs fun a7 a8 hs=>GU hf hr (O:=O) n (i+1) ⟨⟨⟨a1,a5⟩,a6,a7⟩,a2,a8,a3,a4⟩ (by omega) (by omega) (by omega) hs
theorem PK {fu:Nat} (hf:5002≤fu) {S:fV} (h1:S.a.a.a.length≤5000) (h2:∀ u ∈ S.a.a.a,u.b.length≤5000) (h3:S.a.a.b.length≤5000):kI (xx fu S) (BS S):=by
 unfold xx
 refine .el (Hg (O:=fun _=>False) hf h1 _ 0 S (by omega) h2 .rfl') (fun s hs=>?_) fun _ z=>z.elim
 refine .pp hs fun a1 r hs=>.pp hs fun a2 r hs=>.pp hs fun a3 r hs=>.pp hs fun a4 r hs=>.pp hs fun a5 r hs=>.pp hs fun a6 r hs=>.pp hs fun a7 a8 hs=>?_
 have h4:S.a.a.b=a5:=by rw [← hs.out]
 subst h4
 refine .el (GU (O:=fun _=>False) hf h3 fu 0 ⟨⟨⟨a1,_⟩,a6,a7⟩,a2,a8,a3,a4⟩ (Int.le_refl _) (by omega) (by omega) hs) (fun s hs=>?_) fun _ z=>z.elim
 exact .pp hs fun _ r hs=>.pp hs fun a1 r hs=>.pp hs fun a2 r hs=>.pp hs fun a3 r hs=>.pp hs fun a4 r hs=>.pp hs fun a5 r hs=>.pp hs fun a6 r hs=>.pp hs fun a7 a8 hs=>.mk hs
theorem Hf {fu:Nat} (hf:10100≤fu) {p:jJ} (hp:MR 5000 p) {O:jW × Int × Int→Prop}:∀ (n:Nat) (i:Nat) (a:List kD) (b c d:Int) (e:List kC) (vs:List (List jA)) (g:List ky) (h:List Int),e.length=p.b.length→vs.length=i→i≤p.b.length→p.b.length+1≤n+i→g.length≤200→(d=0→∀ V ∈ vs,NP V∧V.length≤24)→
  kI (oq fu p n i a b c d e vs g h) (oK (fun r=>iA r fun _ r=>iA r fun a r=>iA r fun b r=>iA r fun c r=>iA r fun d r=>iA r fun e r=>iA r fun vs r=>iA r fun g h=>d=0→(vs.length=p.b.length∧∀ V ∈ vs,NP V∧V.length≤24)∧g.length≤200) O)
 | 0,i,a,b,c,d,e,vs,g,h,h1,h2,h3,h4,h5,h6=>by omega
 | n+1,i,a,b,c,d,e,vs,g,h,h1,h2,h3,h4,h5,h6=>by
  have hlen:=hp.e
  rw [oq]
  refine .ite (fun k=>?_) fun k=>.go fun z=>⟨⟨by omega,h6 z⟩,h5⟩
  refine .ite (fun k2=>?_) fun k2=>.go fun z=>absurd z k2
  refine .bd (.app (by simp only [List.length_cons,List.length_nil];omega)) fun r hr=>?_
  subst hr
  refine .bd (.ix (by omega) k) fun fn hfn=>?_
  rw [Int.toNat_natCast] at hfn
  have hsi:SI ⟨⟨⟨a,e⟩,vs ++ [[]],g⟩,(i:Int),[],c,d⟩ []:=⟨by dsimp only;omega,by dsimp only;rw [jY];omega,by dsimp only;rw [Int.toNat_natCast,← h2,List.getElem?_append_right (Nat.le_refl _),Nat.sub_self];rfl,Nat.zero_le _,fun v hv=>(by cases hv),Nat.zero_le _,h5,fun x hx=>(by cases hx)⟩
  refine .bp (L8 (S:=⟨⟨⟨a,e⟩,vs ++ [[]],g⟩,(i:Int),h,c,d⟩) hsi (hp.el _ (List.mem_of_getElem? hfn)) hf) fun fn' S' k3=>?_
  have hF:S'.a.a.b.length=p.b.length:=by rw [k3.pg];exact h1
  refine .bd (.ix (by omega) (by omega)) fun _ _=>.bd (.st (by omega)) fun r hr=>?_
  rw [lD (by omega) (by omega)]
  have hv:=k3.vl
  dsimp only at hv
  rw [jY] at hv
  refine Hf hf hp (O:=O) n (i+1) _ _ _ _ r _ _ _ (by rw [hr,List.length_set];exact hF) (by omega) (by omega) (by omega) k3.st fun z V hV=>?_
  obtain ⟨q,hq⟩:=MQ hV
  by_cases hqi:q=i
  · subst hqi
    exact k3.np z V (by dsimp only;rw [Int.toNat_natCast];exact hq)
  · rw [k3.vs q (by dsimp only;omega)] at hq
    dsimp only at hq
    rw [List.getElem?_append_left (by have:=kE hq;rw [jY] at this;omega)] at hq
    exact h6 k2 V (List.mem_of_getElem? hq)
theorem PL {fu:Nat} (hf:10100≤fu) {p:jJ} (hp:MR 5000 p):kI (uO fu p) (fun r=>iA r fun s r=>iA r fun _ e=>e=0→(s.c.length=p.b.length∧∀ V ∈ s.c,NP V∧V.length≤24)∧s.b.length≤200):=by
 have hlen:=hp.e
 unfold uO
 refine .bd (.app (by simp only [List.length_nil];omega)) fun r hr=>?_
 rw [List.nil_append] at hr
 subst hr
 refine .bd (PK (by omega) hp.recs hp.fields hp.e) fun S hS=>?_
 have h1:=hS.out
 refine .el (Hf (O:=fun _=>False) hf hp fu 0 S.a.a.a S.f S.c S.e S.a.a.b S.a.c S.a.b S.b (by rw [h1]) (by rw [h1];rfl) (Nat.zero_le _) (by omega) (by rw [h1];exact Nat.zero_le _) fun _ V hV=>(by rw [h1] at hV;cases hV)) (fun s hs=>?_) fun _ z=>z.elim
 refine .pp hs fun _ r hs=>.pp hs fun a1 r hs=>.pp hs fun a2 r hs=>.pp hs fun a3 r hs=>.pp hs fun a4 r hs=>.pp hs fun a5 r hs=>.pp hs fun a6 r hs=>.pp hs fun a7 a8 hs=>?_
 refine .ite (fun c=>.mk fun z=>absurd z c) fun c=>.mk fun _=>hs (by omega)
end Go.Proofs.Ytfglbdkfnphjgaa
