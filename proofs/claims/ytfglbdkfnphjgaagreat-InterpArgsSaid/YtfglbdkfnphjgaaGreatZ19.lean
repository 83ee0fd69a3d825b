/- What the checker of the specification finds out: statements, functions, sources. -/
import Derived.Test.YtfglbdkfnphjgaaGreatZ18
import Derived.Test.YtfglbdkfnphjgaaGreatPf
import Derived.Test.YtfglbdkfnphjgaaGreatZ5
set_option linter.unusedVariables false
set_option linter.unusedSimpArgs false
namespace Go.Proofs.YtfglbdkfnphjgaaGreat
open Go.RowKit Go.Fw Go.Proofs.Tryz
def yN (l:List kY):List Nat:=l.map fun f=>f.a.length
theorem wM {α:Type} {l:List α} {k:Nat}:ix l (k:Int)=l[k]?:=by unfold Go.Fw.ix;rw [if_neg (by omega),Int.toNat_natCast]
theorem Vr.snoc {V:List jy} {v:jy}:Vr V (V ++ [v]):=fun i x h=>⟨x,by rw [List.getElem?_append_left (jW h)];exact h,rfl,rfl,rfl,rfl⟩
theorem VT {S:fV} {V V':List jy} {vs:List (List jy)} (h:Wd S V) (hs:st S.a.c S.f V'=some vs):ix vs S.f=some V'/\(∀ i:Nat,(i:Int)≠S.f->vs[i]?=S.a.c[i]?)/\vs.length=S.a.c.length:=by obtain ⟨k,hk,hl,rfl⟩:=vQ hs;rw [hk];refine ⟨by rw [wM,List.getElem?_set_self hl],fun i hi=>?_,List.length_set⟩;rw [List.getElem?_set_ne (by omega)]
theorem Fa {fu:Nat} {S S':fV} {ln j:Int} {v:jy} {V:List jy} (h:oI fu S ln v=some (j,S')) (hw:Wd S V) (hv:VO S.a.a.a v) (e:S'.e=0):Up S V S' (V ++ [v])/\j=(V.length:Int)/\S'.a.b=S.a.b:=by
 unfold oI at h;obtain ⟨⟨o,c⟩,_,h⟩:=bs h;rw [pl] at h;obtain ⟨t,ht,h⟩:=bs h;rw [hw.v] at ht;cases ht;rcases jC h with ⟨c1,h⟩|⟨c1,h⟩
 · cases h;exact absurd e c1
 rcases jC h with ⟨c2,h⟩|⟨c2,h⟩
 · obtain ⟨d,hd,h⟩:=bs h;cases h;exact absurd e (vO (by decide) hd).2
 rcases jC h with ⟨c3,h⟩|⟨c3,h⟩
 · obtain ⟨d,hd,h⟩:=bs h;cases h;exact absurd e (vO (by decide) hd).2
 obtain ⟨i,hi,h⟩:=bs h;obtain ⟨_,rfl⟩:=sK hi;obtain ⟨op,_,h⟩:=bs h;obtain ⟨vs,hvs,h⟩:=bs h;cases h;obtain ⟨k1,k2,k3⟩:=VT hw hvs;exact ⟨⟨Decidable.not_not.1 c1,rfl,rfl,List.prefix_rfl,k1,k2,k3,.snoc,og hw.vo hv⟩,rfl,rfl⟩
theorem Sb {fu:Nat} {S S':fV} {x x':jI} (h:qI fu S x=some (S',x')):JM S S'/\∃ c,x'=⟨x.c,x.f,x.n,x.b,x.k,x.m,x.g,x.d,x.j,c,x.a,x.e,x.h⟩/\(S'.e=0->ix (yN S.a.a.b) c=some x.a.length):=by
 unfold qI at h;rcases jC h with ⟨c1,h⟩|⟨_,h⟩
 · cases h;exact ⟨.rfl',x.i,by cases x;rfl,fun z=>absurd z c1⟩
 · obtain ⟨⟨b,d⟩,_,h⟩:=bs h;rw [pl] at h;rcases jC h with ⟨_,h⟩|⟨_,h⟩
   · obtain ⟨q,hq,h⟩:=bs h;cases h;have k:=vO (by decide) hq;exact ⟨k.1,b,rfl,fun z=>absurd z k.2⟩
   · obtain ⟨fn,hfn,h⟩:=bs h;rcases jC h with ⟨_,h⟩|⟨c2,h⟩
     · obtain ⟨q,hq,h⟩:=bs h;cases h;have k:=vO (by decide) hq;exact ⟨k.1,b,rfl,fun z=>absurd z k.2⟩
     · cases h;refine ⟨.rfl',b,rfl,fun _=>?_⟩;obtain ⟨k,rfl,hk⟩:=kK hfn;rw [wM];unfold yN;rw [List.getElem?_map,hk];exact congrArg some (by dsimp only;omega)
section
variable {fu:Nat} {f:fV->List jI->Option (List jI × fV)} {g:fV->jI->Option (jI × fV)}
def Xb (f:fV->List jI->Option (List jI × fV)):Prop:=∀ S l l' S' V,f S l=some (l',S')->Wd S V->(∀ y ∈ l,∃ n,Di 5000 n y)->S'.e=0->∃ V',Up S V S' V'/\SW S'.a.b V' (yN S.a.a.b) S.f l' S.a.b.length S'.a.b.length
def Eb (f:fV->List jI->Option (List jI × fV)):Prop:=∀ S l l' S',f S l=some (l',S')->S'.e=0->S.e=0
def Xs (g:fV->jI->Option (jI × fV)):Prop:=∀ S x x' S' V,g S x=some (x',S')->Wd S V->(∃ n,Di 5000 n x)->S'.e=0->∃ V',Up S V S' V'/\SW S'.a.b V' (yN S.a.a.b) S.f [x'] S.a.b.length S'.a.b.length
abbrev Zi (S:fV) (r8:List jV):fV:=⟨⟨S.a.a,S.a.c,r8⟩,S.f,S.b,S.c,S.e⟩
theorem Zn {S:fV} {x:jI} {r8:List jV} {v:Ld (Int × Int × Int) (jI × fV)} (h8:x.m<=8) (h:qK fu f g S x r8=some v) :(∃ k c n,v=.go (k,c,n)/\∀ nm p a b,VO S.a.a.a ⟨nm,k,c,n,p,a,b⟩)\/∃ y S',v=.out (y,S')/\S'.e≠0:=by
 unfold qK at h;rcases jC h with ⟨c,h⟩|⟨_,h⟩
 · cases h;exact .inl ⟨_,_,_,rfl,fun _ _ _ _=>.inr (.inr ⟨rfl,c,h8⟩)⟩
 · rcases jC h with ⟨_,h⟩|⟨_,h⟩
   · obtain ⟨⟨c,d⟩,_,h⟩:=bs h;rw [pl] at h;rcases jC h with ⟨_,h⟩|⟨_,h⟩
     · obtain ⟨q,hq,h⟩:=bs h;cases h;exact .inr ⟨_,_,rfl,(vO (by decide) hq).2⟩
     · obtain ⟨r,hr,h⟩:=bs h;cases h;exact .inl ⟨_,_,_,rfl,fun _ _ _ _=>.inr (.inl ⟨rfl,r,hr,rfl⟩)⟩
   · cases h;exact .inl ⟨_,_,_,rfl,fun _ _ _ _=>.inl ⟨rfl,rfl⟩⟩
theorem XD {S:fV} {x:jI} {r8:List jV} {x':jI} {S':fV} {V:List jy} (h8:x.m<=8) (h:oG fu f g S x r8=some (.out (x',S'))) (hw:Wd (Zi S r8) V) (e:S'.e=0) :x.c=1/\∃ V' v,Up (Zi S r8) V S' V'/\x'=⟨x.c,x.f,(S.a.b.length:Int),x.b,x.k,x.m,v,x.d,x.j,x.i,x.a,x.e,x.h⟩/\S'.a.b=r8/\∃ q,ix V' v=some q:=by
 unfold oG at h;rcases jC h with ⟨hk,h⟩|⟨_,h⟩
 · obtain ⟨v,hv,h⟩:=bs h;rcases Zn h8 hv with ⟨k,c,n,rfl,hvo⟩|⟨y,S2,rfl,h2⟩
   · replace h:=gi h;simp only [pl] at h;obtain ⟨⟨j,k⟩,hd,h⟩:=bs h;rw [pl] at h;cases h;obtain ⟨k1,rfl,k3⟩:=Fa hd hw (hvo _ _ _ _) e;exact ⟨hk,_,_,k1,rfl,k3,_,by rw [wM,List.getElem?_append_right (Nat.le_refl _),Nat.sub_self];rfl⟩
   · cases h;exact absurd e h2
 · rcases jC h with ⟨_,h⟩|⟨_,h⟩
   · rcases jC h with ⟨_,h⟩|⟨_,h⟩
     · obtain ⟨_,_,h⟩:=bs h;rcases jC h with ⟨_,h⟩|⟨_,h⟩
       · obtain ⟨_,_,h⟩:=bs h;cases h
       · cases h
     · cases h
   · cases h
theorem ZB {S:fV} {x:jI} {r8:List jV} {a1:List kE} {a2 a3 a4:Int} {a5:List kY} {a6:List (List jy)} {a7:List jV} {a8:List Int} (h1:x.d.length<=1) (h8:x.m<=8) (h:oG fu f g S x r8=some (.go (a1,a2,a3,a4,a5,a6,a7,a8))):JM (Zi S r8) ⟨⟨⟨a1,a5⟩,a6,a7⟩,a2,a8,a3,a4⟩/\x.c≠1/\(a4=0->x.c=3->∀ y ∈ x.d,y.e=1):=by
 unfold oG at h;rcases jC h with ⟨hk,h⟩|⟨hk,h⟩
 · obtain ⟨v,hv,h⟩:=bs h;rcases Zn h8 hv with ⟨k,c,n,rfl,hvo⟩|⟨y,S2,rfl,h2⟩
   · replace h:=gi h;simp only [pl] at h;obtain ⟨⟨j,k⟩,hd,h⟩:=bs h;rw [pl] at h;cases h
   · cases h
 · rcases jC h with ⟨hk3,h⟩|⟨hk3,h⟩
   · rcases jC h with ⟨ht,h⟩|⟨ht,h⟩
     · obtain ⟨t,ht2,h⟩:=bs h;rcases jC h with ⟨_,h⟩|⟨hop,h⟩
       · obtain ⟨q,hq,h⟩:=bs h;cases h;have k:=vO (by decide) hq;exact ⟨k.1,hk,fun z=>absurd z k.2⟩
       · cases h;refine ⟨.rfl',hk,fun _ _ y hy=>?_⟩;obtain ⟨i,hi⟩:=List.getElem?_of_mem hy;have:=jW hi;obtain rfl:i=0:=by omega
         rw [show (0:Int)=((0:Nat):Int) from rfl,wM,hi] at ht2;cases ht2;exact Decidable.not_not.1 hop
     · cases h;exact ⟨.rfl',hk,fun _ _ y hy=>by
         have:=List.length_pos_of_mem hy;omega⟩
   · cases h;exact ⟨.rfl',hk,fun _ z=>absurd z hk3⟩
theorem abB {v:Int} {S:fV} {V:List jy} {A:List (List jy)} (hw:Wd S V) (h:qO fu f g v S=some (.go A)) (e:S.e=0):∃ V',Up S V ⟨⟨S.a.a,A,S.a.b⟩,S.f,S.b,S.c,S.e⟩ V':=by
 unfold qO at h;rcases jC h with ⟨_,h⟩|⟨c,h⟩
 · obtain ⟨t,ht,h⟩:=bs h;rw [hw.v] at ht;cases ht;obtain ⟨b,hb,h⟩:=bs h;obtain ⟨V',hV',h⟩:=bs h;obtain ⟨vs,hvs,h⟩:=bs h;cases h;obtain ⟨k,rfl,hkl,rfl⟩:=vQ hV';rw [wM] at hb;obtain ⟨k1,k2,k3⟩:=VT hw hvs;refine ⟨_,e,rfl,rfl,List.prefix_rfl,k1,k2,k3,fun i x hx=>?_,fun x hx=>?_⟩
   · by_cases hik:i=k
     · subst hik;rw [hb] at hx;cases hx;exact ⟨_,List.getElem?_set_self hkl,rfl,rfl,rfl,rfl⟩
     · exact ⟨x,by rw [List.getElem?_set_ne (by omega)];exact hx,rfl,rfl,rfl,rfl⟩
   · rcases List.mem_or_eq_of_mem_set hx with hx | rfl
     · exact hw.vo x hx
     · have:=hw.vo b (List.mem_of_getElem? hb);exact this
 · exact absurd e c
theorem CR:∀ (l:List jI) (k:Nat) (out:List jI) (a1:List kE) (a2 a3 a4:Int) (a5:List kY) (a6:List (List jy)) (a7:List jV) (a8:List Int) (v:Ld (List jI × List kE × Int × Int × Int × List kY × List (List jy) × List jV × List Int) (List jI × fV)),
  a4≠0->lI fu f g l k out a1 a2 a3 a4 a5 a6 a7 a8=some v->v=.go (out,a1,a2,a3,a4,a5,a6,a7,a8)
 | [],_,_,_,_,_,_,_,_,_,_,v,_,h=>by cases h;rfl
 | u :: r,_,_,_,_,_,_,_,_,_,_,v,he,h=>by rw [lI,if_pos he] at h;cases h;rfl
theorem Hf (hg:Xs g) {S0:fV} {V0:List jy}:∀ (l:List jI) (k:Nat) (out:List jI) (S:fV) (V:List jy) (o:List jI) (a1:List kE) (a2 a3 a4:Int) (a5:List kY) (a6:List (List jy)) (a7:List jV) (a8:List Int),
  Up S0 V0 S V->SW S.a.b V (yN S0.a.a.b) S0.f out S0.a.b.length S.a.b.length->(∀ y ∈ l,∃ n,Di 5000 n y)->
  lI fu f g l k out S.a.a.a S.f S.c S.e S.a.a.b S.a.c S.a.b S.b=some (.go (o,a1,a2,a3,a4,a5,a6,a7,a8))->a4=0->
  ∃ V',Up S0 V0 ⟨⟨⟨a1,a5⟩,a6,a7⟩,a2,a8,a3,a4⟩ V'/\SW a7 V' (yN S0.a.a.b) S0.f o S0.a.b.length a7.length
 | [],_,out,S,V,_,_,_,_,_,_,_,_,_,hU,hW,_,h,e=>by cases h;exact ⟨V,hU,hW⟩
 | u :: r,k,out,S,V,o,a1,a2,a3,a4,a5,a6,a7,a8,hU,hW,hl,h,e=>by
  rw [lI] at h;rcases jC h with ⟨c,h⟩|⟨_,h⟩
  · cases h;exact absurd e c
  obtain ⟨⟨x,S1⟩,h1,h⟩:=bs h;rw [pl] at h;obtain ⟨w,hw,h⟩:=bs h;obtain ⟨_,rfl⟩:=sK hw;by_cases he:S1.e=0
  · obtain ⟨V1,k1,k2⟩:=hg _ _ _ _ V h1 hU.wd (hl u (.head _)) he;rw [hU.pg,hU.f] at k2;exact Hf hg r _ _ S1 V1 o a1 a2 a3 a4 a5 a6 a7 a8 (hU.trans k1) ((hW.mono k1.k k1.vr).app k2) (fun y hy=>hl y (.tail _ hy)) h e
  · have:=CR _ _ _ _ _ _ _ _ _ _ _ _ he h;cases this;exact absurd e he
theorem GZ {c:Int} {d:List jV} {R:List kE}:∀ (l:List Int) (k:Nat) (a a':List (List jy)) (V:List jy),nP fu f g c d l k a=some (.go a')→ix a c=some V→(∀ x ∈ V,VO R x)→
  ∃ V',ix a' c=some V'/\Vr V V'/\(∀ x ∈ V',VO R x)/\(∀ i:Nat,(i:Int)≠c->a'[i]?=a[i]?)/\a'.length=a.length
 | [],_,a,a',V,h,hV,ho=>by cases h;exact ⟨V,hV,.rfl',ho,fun _ _=>rfl,rfl⟩
 | e :: r,k,a,a',V,h,hV,ho=>by
  rw [nP] at h;obtain ⟨t,ht,h⟩:=bs h;rw [hV] at ht;cases ht;obtain ⟨b,hb,h⟩:=bs h;obtain ⟨V1,hV1,h⟩:=bs h;obtain ⟨vs,hvs,h⟩:=bs h;obtain ⟨q,rfl,hql,rfl⟩:=vQ hV1;rw [wM] at hb;obtain ⟨p,rfl,hpl,rfl⟩:=vQ hvs;obtain ⟨V',h1,h2,h3,h4,h5⟩:=GZ r _ _ a' _ h (by rw [wM,List.getElem?_set_self hpl]) (fun x hx=>by
    rcases List.mem_or_eq_of_mem_set hx with hx | rfl
    · exact ho x hx
    · have:=ho b (List.mem_of_getElem? hb);exact this)
  refine ⟨V',h1,Vr.trans (fun i x hx=>?_) h2,h3,fun i hi=>(h4 i hi).trans (by rw [List.getElem?_set_ne (by omega)]),h5.trans List.length_set⟩;by_cases hik:i=q
  · subst hik;rw [hb] at hx;cases hx;exact ⟨_,List.getElem?_set_self hql,rfl,rfl,rfl,rfl⟩
  · exact ⟨x,by rw [List.getElem?_set_ne (by omega)];exact hx,rfl,rfl,rfl,rfl⟩
theorem CG:∀ (l:List jI) {k:Nat} {out:List jI} {a1:List kE} {a2 a3 a4:Int} {a5:List kY} {a6:List (List jy)} {a7:List jV} {a8:List Int} {o:List jI × fV},lI fu f g l k out a1 a2 a3 a4 a5 a6 a7 a8=some (.out o)→False
 | [],_,_,_,_,_,_,_,_,_,_,_,h=>by cases h
 | u :: r,_,_,_,_,_,_,_,_,_,_,_,h=>by
  rw [lI] at h;rcases jC h with ⟨c,h⟩|⟨_,h⟩
  · cases h
  obtain ⟨⟨x,S1⟩,h1,h⟩:=bs h;rw [pl] at h;obtain ⟨w,hw,h⟩:=bs h;exact CG r h
theorem U1 (hg:Xs g):Xb (om fu f g):=by
 intro S l l' S' V h hw hl e;unfold om at h;obtain ⟨v,hv,h⟩:=bs h;cases v with
 | out o=>
  have hd:=CG l hv;exact hd.elim
 | go r=>
 obtain ⟨o,a1,a2,a3,a4,a5,a6,a7,a8⟩:=r;replace h:=gi h;simp only [pl] at h;obtain ⟨_,_,h⟩:=bs h;obtain ⟨v2,hv2,h⟩:=bs h;cases v2 with
 | out q=>exact (Ar _ _ _ _ hv2).elim
 | go q=>
  replace h:=gi h;obtain ⟨_,_,h⟩:=bs h;obtain ⟨_,_,h⟩:=bs h;cases h;by_cases hS:S.e=0
  · obtain ⟨V1,k1,k2⟩:=Hf hg l 0 [] S V _ _ _ _ _ _ _ _ _ (.rfl' hw hS) .nil hl hv e;have hf:a2=S.f:=k1.f;obtain ⟨V2,h1,h2,h3,h4,h5⟩:=GZ (R:=S.a.a.a) _ _ _ _ V1 hv2 (by rw [hf];exact k1.v) k1.vo;refine ⟨V2,⟨hS,hf,k1.pg,k1.k,by rw [<-hf];exact h1,fun i hi=>(h4 i (by rw [hf];exact hi)).trans (k1.vs i hi),h5.trans k1.vl,k1.vr.trans h2,h3⟩,k2.mono List.prefix_rfl h2⟩
  · have:=CR _ _ _ _ _ _ _ _ _ _ _ _ hS hv;cases this;exact absurd e hS
theorem UD:Eb (om fu f g):=by
 intro S l l' S' h e;unfold om at h;obtain ⟨v,hv,h⟩:=bs h;cases v with
 | out o=>exact (CG l hv).elim
 | go r=>
 obtain ⟨o,a1,a2,a3,a4,a5,a6,a7,a8⟩:=r;replace h:=gi h;simp only [pl] at h;obtain ⟨_,_,h⟩:=bs h;obtain ⟨v2,hv2,h⟩:=bs h;cases v2 with
 | out q=>exact (Ar _ _ _ _ hv2).elim
 | go q=>
  replace h:=gi h;obtain ⟨_,_,h⟩:=bs h;obtain ⟨_,_,h⟩:=bs h;cases h;refine Classical.byContradiction fun hS=>?_;have:=CR _ _ _ _ _ _ _ _ _ _ _ _ hS hv;cases this;exact hS e
theorem abX (hE:Eb f) (hf:Xb f) {h' c j:Int} {d k:ByteArray} {l:Int} {m:List jA} {p:ByteArray} {t:Int} {u:List jI} {v:List jA} {w:List jI} {S:fV} {V:List jy} (hw:Wd S V) (hl:∀ y ∈ u,∃ n,Di 5000 n y) {r:Ld Unit (jI × fV)} (h:pY fu f g h' c j d k l m p t u v w S=some r) :(r=.go ()/\(S.e=0->h'≠8))\/∃ i z S',r=.out (⟨h',c,j,d,k,l,i,m,p,t,v,w,z⟩,S')/\h'=8/\(S'.e=0->∃ V',Up S V S' V'/\SW S'.a.b V' (yN S.a.a.b) S.f z S.a.b.length S'.a.b.length/\∃ q,ix V' i=some q/\q.c=1/\q.e=(S.a.b.length:Int)):=by
 unfold pY at h;rcases jC h with ⟨h8,h⟩|⟨h8,h⟩
 · rcases jC h with ⟨he,h⟩|⟨he,h⟩
   · obtain ⟨B,_,h⟩:=bs h;obtain ⟨⟨i,S1⟩,hd,h⟩:=bs h;rw [pl] at h;obtain ⟨⟨z,S2⟩,hz,h⟩:=bs h;rw [pl] at h;obtain ⟨q,hq,h⟩:=bs h;cases q with
     | out o=>exact (aaZ hq).elim
     | go A=>
      replace h:=gi h;cases h;refine .inr ⟨_,_,_,rfl,h8,fun e=>?_⟩;have e2:S2.e=0:=e;by_cases e1:S1.e=0
      · obtain ⟨k1,rfl,k3⟩:=Fa hd hw (.inl ⟨rfl,rfl⟩) e1;obtain ⟨V2,k4,k5⟩:=hf _ _ _ _ _ hz k1.wd hl e2;obtain ⟨V3,k6⟩:=abB k4.wd hq e2;have k7:Up S V ⟨⟨S2.a.a,A,S2.a.b⟩,S2.f,B,S2.c,S2.e⟩ V3:=by have:=(k1.trans k4).trans k6;exact ⟨this.e,this.f,this.pg,this.k,this.v,this.vs,this.vl,this.vr,this.vo⟩
        rw [k1.pg,k1.f,k3] at k5;refine ⟨V3,k7,k5.mono List.prefix_rfl k6.vr,?_⟩;obtain ⟨q',hq',a1,a2,a3,a4⟩:=PU (k4.vr.trans k6.vr) (i:=(V.length:Int)) (v:=⟨d,1,-1,1,false,(S.a.b.length:Int),0⟩) (by rw [wM,List.getElem?_append_right (Nat.le_refl _),Nat.sub_self];rfl);exact ⟨q',hq',a1,a4⟩
      · exact absurd (hE _ _ _ _ hz e2) e1
   · cases h;exact .inl ⟨rfl,fun z=>absurd z he⟩
 · cases h;exact .inl ⟨rfl,fun _=>h8⟩
theorem abO {z:fV} {x:jI} {T:List jA} {S:fV} {V:List jy} (hw:Wd S V) {v:Ld (List kE × Int × Int × Int × List kY × List (List jy) × List jV × List Int × Int × Int × Int × ByteArray × ByteArray × Int × Int × List jA × ByteArray × Int × List jA × List jI × List jI) (jI × fV)} (h:qJ fu f g z x T S=some v) :∃ S1 cl,v=.go (S1.a.a.a,S1.f,S1.c,S1.e,S1.a.a.b,S1.a.c,S1.a.b,S1.b,x.c,x.f,(z.a.b.length:Int),x.b,x.k,x.m,x.g,T,x.j,cl,x.a,x.e,x.h)/\JM S S1/\(S1.e=0->x.j≠be->ix (yN S.a.a.b) cl=some x.a.length):=by
 unfold qJ at h;rcases jC h with ⟨_,h⟩|⟨c,h⟩
 · obtain ⟨⟨S1,a⟩,ha,h⟩:=bs h;rw [pl] at h;obtain ⟨k1,cc,rfl,k2⟩:=Sb ha;cases h;exact ⟨S1,cc,rfl,k1,fun z _=>k2 z⟩
 · cases h;exact ⟨S,x.i,rfl,.rfl',fun _ z=>absurd (Decidable.not_not.1 c) z⟩
theorem WJ (hE:Eb f) (hf:Xb f):Xs (tK fu f g):=by
 intro S x x' S' V h hw ⟨n,hx⟩ e;cases n with
 | zero=>exact hx.elim
 | succ n=>
 obtain ⟨h1,h2,h3,h4,hsh⟩:=hx;have hbo:∀ y ∈ x.e,∃ n,Di 5000 n y:=fun y hy=>⟨n,h3.2 y hy⟩;have hel:∀ y ∈ x.h,∃ n,Di 5000 n y:=fun y hy=>⟨n,h4.2 y hy⟩;unfold tK at h;rcases jC h with ⟨_,h⟩|⟨_,h⟩
 · obtain ⟨q,hq,h⟩:=bs h;cases h;exact absurd e (vO (by decide) hq).2
 obtain ⟨r8,hr8,h⟩:=bs h;obtain ⟨_,rfl⟩:=sK hr8;have hw8:Wd (Zi S (S.a.b ++ [⟨S.f,x.c,x.f⟩])) V:=⟨hw.v,hw.vo⟩;have hup:∀ {S2:fV} {V2:List jy},Up (Zi S (S.a.b ++ [⟨S.f,x.c,x.f⟩])) V S2 V2->Up S V S2 V2:=fun k=>⟨k.e,k.f,k.pg,(List.prefix_append _ _).trans k.k,k.v,k.vs,k.vl,k.vr,k.vo⟩;have hk8:∀ {K:List jV},S.a.b ++ [⟨S.f,x.c,x.f⟩] <+: K->K[S.a.b.length]?=some ⟨S.f,x.c,x.f⟩:=fun hK=>by obtain ⟨t,rfl⟩:=hK;rw [List.append_assoc,List.getElem?_append_right (Nat.le_refl _),Nat.sub_self];rfl
 obtain ⟨v,hv,h⟩:=bs h;cases v with
 | out o=>
   cases h;obtain ⟨hk,V',q,k1,rfl,k2,q',hq'⟩:=XD hsh.len hv hw8 e;obtain ⟨t1,t2,t3,t4,t5⟩:=hsh.decl hk;refine ⟨V',hup k1,.cons rfl ?_ ?_ ?_ (fun _=>⟨q',hq'⟩) (fun z=>?_) (fun z=>?_) (fun y z=>?_) (c:=S.a.b.length+1) (d:=S.a.b.length+1) ?_ ?_ ?_⟩
   · rw [k2];exact hk8 List.prefix_rfl
   · dsimp only;rw [t1];intro y hy;cases hy
   · dsimp only;rw [t2];intro y hy;cases hy
   · dsimp only at z;omega
   · dsimp only at z;exact absurd t5 z
   · dsimp only at z;rw [t1] at z;cases z
   · dsimp only;rw [t3];exact .nil
   · dsimp only;rw [t4];exact .nil
   · rw [k2,kL];exact .nil
 | go s=>
   obtain ⟨a1,a2,a3,a4,a5,a6,a7,a8⟩:=s;replace h:=gi h;simp only [pl] at h;obtain ⟨m1,m2,m3⟩:=ZB h1.1 hsh.len hv;obtain ⟨⟨T,S1⟩,hT,h⟩:=bs h;rw [pl] at h;obtain ⟨k1,k2,k3⟩:=(KD fu).2 _ _ _ _ _ V hT (m1.wd hw8);obtain ⟨v,hv2,h⟩:=bs h;obtain ⟨S2,cl,rfl,k4,k5⟩:=abO ((m1.trans k1).wd hw8) hv2;replace h:=gi h;simp only [pl] at h;obtain ⟨⟨A,S3⟩,hA,h⟩:=bs h;rw [pl] at h;have m4:=(m1.trans k1).trans k4;obtain ⟨k6,k7,k8⟩:=(KD fu).2 _ _ _ _ _ V hA (m4.wd hw8);have m6:=m4.trans k6;obtain ⟨⟨B,S4⟩,hB,h⟩:=bs h;rw [pl] at h;have hlenA:A.length=x.a.length:=by have:=congrArg List.length k7;rwa [List.length_map,List.length_map] at this
   have fin:∀ {V4 V5:List jy} {S5:fV} {Z:List jI} {i:Int},Up S3 V S4 V4→SW S4.a.b V4 (yN S3.a.a.b) S3.f B S3.a.b.length S4.a.b.length→Up S4 V4 S5 V5→SW S5.a.b V5 (yN S4.a.a.b) S4.f Z S4.a.b.length S5.a.b.length→(x.c=8→∃ q,ix V5 i=some q∧q.c=1∧q.e=(S4.a.b.length:Int))→
       Up S V S5 V5/\SW S5.a.b V5 (yN S.a.a.b) S.f [⟨x.c,x.f,(S.a.b.length:Int),x.b,x.k,x.m,i,T,x.j,cl,A,B,Z⟩] S.a.b.length S5.a.b.length:=fun {V4 V5 S5 Z i} n1 n2 n3 n4 n5=>by
     have e3:S3.e=0:=n1.e;have u3:Up S V S3 V:=hup (m6.up hw8 e3);have hst:S3.a.b=S.a.b ++ [⟨S.f,x.c,x.f⟩]:=by rw [m6.out]
     rw [u3.pg,u3.f,hst,kL] at n2;rw [n1.pg,n1.f,u3.pg,u3.f] at n4;have vr:=n1.vr.trans n3.vr;refine ⟨(u3.trans n1).trans n3,.cons rfl (hk8 ?_) (fun y hy=>(k3 (k4.e (k6.e e3)) y hy).mono vr) (fun y hy=>(k8 e3 y hy).mono vr) (fun z=>absurd z m2) n5 (fun z=>?_) (fun y hy=>?_) (n2.mono n3.k n3.vr) n4 .nil⟩
     · rw [<-hst];exact n1.k.trans n3.k
     · have:=k5 (k6.e e3) z;rw [(m1.trans k1).out] at this;rw [hlenA];exact this
     · have hop:=m3 (k1.e (k4.e (k6.e e3)));obtain ⟨q,hq⟩:=List.getElem?_of_mem hy;have hq2:(T.map jA.e)[q]?=some y.e:=by rw [List.getElem?_map,hq];rfl
       rw [k2,List.getElem?_map] at hq2;cases hq3:x.d[q]? with
       | none=>rw [hq3] at hq2;cases hq2
       | some y0=>
         rw [hq3] at hq2;have:y0.e=y.e:=Option.some.inj hq2;rw [<-this];have hm:=List.mem_of_getElem? hq3;exact ⟨fun z=>hop z y0 hm,hsh.tops y0 hm⟩
   obtain ⟨v,hv3,h⟩:=bs h;by_cases e4:S4.e=0
   · obtain ⟨V4,n1,n2⟩:=hf _ _ _ _ _ hB (m6.wd hw8) hbo e4;rcases abX hE hf n1.wd hel hv3 with ⟨rfl,h8⟩|⟨i,z,S5,rfl,h8,hz⟩
     · replace h:=gi h;obtain ⟨⟨E,S5⟩,hE2,h⟩:=bs h;rw [pl] at h;cases h;obtain ⟨V5,n3,n4⟩:=hf _ _ _ _ _ hE2 n1.wd hel e;exact ⟨V5,fin n1 n2 n3 n4 fun z=>absurd z (h8 e4)⟩
     · cases h;obtain ⟨V5,n3,n4,n5⟩:=hz e;exact ⟨V5,fin n1 n2 n3 n4 fun _=>n5⟩
   · exfalso;unfold pY at hv3;have hg2:v=.go ():=by
       rcases jC hv3 with ⟨_,hv3⟩|⟨_,hv3⟩
       · rw [if_neg e4] at hv3;cases hv3;rfl
       · cases hv3;rfl
     subst hg2;replace h:=gi h;obtain ⟨⟨E,S5⟩,hE2,h⟩:=bs h;rw [pl] at h;cases h;exact e4 (hE _ _ _ _ hE2 e)
end
theorem Ee:∀ fu:Nat,Eb (qj fu)∧Xb (qj fu)∧Xs (wN fu)
 | 0=>⟨fun _ _ _ _ h=>(by cases h),fun _ _ _ _ _ h=>(by cases h),fun _ _ _ _ _ h=>(by cases h)⟩
 | fu+1=>⟨UD,U1 (Ee fu).2.2,WJ (Ee fu).1 (Ee fu).2.1⟩
theorem NH {fu:Nat} {m:kY} {S0:fV} {V0:List jy}:∀ (l:List ByteArray) (k:Nat) (S:fV) (V:List jy) (b1:List Int) (b2:List kE) (b3 b4 b5:Int) (b6:List kY) (b7:List (List jy)) (b8:List jV),Wd S V→
  lN fu m l k S.b S.a.a.a S.f S.c S.e S.a.a.b S.a.c S.a.b=some (.go (b1,b2,b3,b4,b5,b6,b7,b8))->b5=0->
  ∃ V',Up S V ⟨⟨⟨b2,b6⟩,b7,b8⟩,b3,b1,b4,b5⟩ V'/\b8=S.a.b/\V'.length=V.length+l.length/\∀ (i:Nat) (v:jy),V.length<=i->V'[i]?=some v->v.c=1
 | [],_,S,V,_,_,_,_,_,_,_,_,hw,h,e=>by cases h;exact ⟨V,.rfl' hw e,rfl,rfl,fun i v h1 h2=>by have:=jW h2;omega⟩
 | u :: r,k,S,V,b1,b2,b3,b4,b5,b6,b7,b8,hw,h,e=>by
  rw [lN] at h;obtain ⟨⟨j,S1⟩,h1,h⟩:=bs h;rw [pl] at h;by_cases e1:S1.e=0
  · obtain ⟨k1,_,k3⟩:=Fa h1 hw (.inl ⟨rfl,rfl⟩) e1;obtain ⟨V',k4,k5,k6,k7⟩:=NH (S0:=S0) (V0:=V0) r _ S1 _ b1 b2 b3 b4 b5 b6 b7 b8 k1.wd h e;refine ⟨V',k1.trans k4,k5.trans k3,by rw [k6,kL,List.length_cons];omega,fun i v hi hv=>?_⟩;by_cases hi2:i=V.length
    · subst hi2;obtain ⟨v',h2,a1,_⟩:=k4.vr V.length _ (by rw [List.getElem?_append_right (Nat.le_refl _),Nat.sub_self];rfl);rw [hv] at h2;cases h2;exact a1
    · exact k7 i v (by rw [kL];omega) hv
  · exfalso;have hn:∀ (l:List ByteArray) (k:Nat) (S:fV) b1 b2 b3 b4 b5 b6 b7 b8,S.e≠0->lN fu m l k S.b S.a.a.a S.f S.c S.e S.a.a.b S.a.c S.a.b=some (.go (b1,b2,b3,b4,b5,b6,b7,b8))->b5≠0:=fun l=>by
      induction l with
      | nil=>intro k S b1 b2 b3 b4 b5 b6 b7 b8 h1 h2;cases h2;exact h1
      | cons y l ih=>
       intro k S b1 b2 b3 b4 b5 b6 b7 b8 h1 h2;rw [lN] at h2;obtain ⟨⟨j,S2⟩,h3,h2⟩:=bs h2;rw [pl] at h2;refine ih _ S2 _ _ _ _ _ _ _ _ (fun z=>?_) h2;unfold oI at h3;obtain ⟨⟨o,c⟩,_,h3⟩:=bs h3;rw [pl] at h3;obtain ⟨t,ht,h3⟩:=bs h3;rw [if_pos h1] at h3;cases h3;exact h1 z
    exact hn _ _ _ _ _ _ _ _ _ _ _ e1 h e
theorem Na {fu:Nat} {S:fV} {R:List kE}:∀ (l:List ByteArray) (k:Nat) (a a':List (List jy)) (V:List jy),mD fu S l k a=some (.go a')→ix a S.f=some V→(∀ x ∈ V,VO R x)→
  ∃ V',ix a' S.f=some V'/\Vr V V'/\(∀ x ∈ V',VO R x)/\(∀ i:Nat,(i:Int)≠S.f->a'[i]?=a[i]?)/\a'.length=a.length
 | [],_,a,a',V,h,hV,ho=>by cases h;exact ⟨V,hV,.rfl',ho,fun _ _=>rfl,rfl⟩
 | e :: r,k,a,a',V,h,hV,ho=>by
  rw [mD] at h;obtain ⟨t,ht,h⟩:=bs h;rw [hV] at ht;cases ht;obtain ⟨b,hb,h⟩:=bs h;obtain ⟨V1,hV1,h⟩:=bs h;obtain ⟨vs,hvs,h⟩:=bs h;obtain ⟨q,hq,hql,rfl⟩:=vQ hV1;rw [hq,wM] at hb;obtain ⟨p,hp,hpl,rfl⟩:=vQ hvs;obtain ⟨V',h1,h2,h3,h4,h5⟩:=Na r _ _ a' _ h (by rw [hp,wM,List.getElem?_set_self hpl]) (fun x hx=>by
    rcases List.mem_or_eq_of_mem_set hx with hx | rfl
    · exact ho x hx
    · have:=ho b (List.mem_of_getElem? hb);exact this)
  refine ⟨V',h1,Vr.trans (fun i x hx=>?_) h2,h3,fun i hi=>(h4 i hi).trans (by rw [List.getElem?_set_ne (by omega)]),h5.trans List.length_set⟩;by_cases hik:i=q
  · subst hik;rw [hb] at hx;cases hx;exact ⟨_,List.getElem?_set_self hql,rfl,rfl,rfl,rfl⟩
  · exact ⟨x,by rw [List.getElem?_set_ne (by omega)];exact hx,rfl,rfl,rfl,rfl⟩
def FW (R:List kE) (K:List jV) (V:List jy) (Ps:List Nat) (f:Int) (fn:kY):Prop:=(∀ x ∈ V,VO R x)/\(∃ a b,SW K V Ps f fn.e a b)/\(∀ i:Nat,i < fn.a.length->∃ v,V[i]?=some v/\v.c=1)/\∃ l e,fn.e=l ++ [e]/\e.c=10
theorem FW.mono {R:List kE} {K K':List jV} {V:List jy} {Ps:List Nat} {f:Int} {fn:kY} (h:FW R K V Ps f fn) (hk:K <+: K'):FW R K' V Ps f fn:=by obtain ⟨h1,⟨a,b,h2⟩,h3⟩:=h;exact ⟨h1,⟨a,b,h2.mono hk .rfl'⟩,h3⟩
theorem OP {fu:Nat} {S S':fV} {x x':kY} (h:oW fu S x=some (x',S')) (hw:Wd S []) (hx:WB 5000 x) (e:S'.e=0):∃ V',Up S [] S' V'/\FW S.a.a.a S'.a.b V' (yN S.a.a.b) S.f x'/\x'.a=x.a:=by
 unfold oW at h;rcases jC h with ⟨_,h⟩|⟨_,h⟩
 · obtain ⟨q,hq,h⟩:=bs h;cases h;exact absurd e (vO (by decide) hq).2
 obtain ⟨v,hv,h⟩:=bs h;cases v with
 | out o=>exact (HZ _ _ _ _ _ _ _ _ _ _ _ hv).elim
 | go s=>
   obtain ⟨a1,a2,a3,a4,a5,a6,a7,a8⟩:=s;replace h:=gi h;simp only [pl] at h;rcases jC h with ⟨c,h⟩|⟨c,h⟩
   · have hw0:Wd ⟨S.a,S.f,[],S.c,S.e⟩ []:=⟨hw.v,hw.vo⟩;obtain ⟨V1,k1,k2,k3,k4⟩:=NH (S0:=S) (V0:=[]) x.a 0 ⟨S.a,S.f,[],S.c,S.e⟩ [] _ _ _ _ _ _ _ _ hw0 hv c;obtain ⟨⟨t,S2⟩,ht,h⟩:=bs h;rw [pl] at h;obtain ⟨v,hv2,h⟩:=bs h;cases v with
     | out o=>exact (Hl _ _ _ _ hv2).elim
     | go u=>
      replace h:=gi h;cases h;obtain ⟨V2,k5,k6⟩:=(Ee fu).2.1 _ _ _ _ _ ht k1.wd (fun y hy=>⟨10,hx.el y hy⟩) e;have k7:=k1.trans k5;obtain ⟨V3,h1,h2,h3,h4,h5⟩:=Na (R:=S.a.a.a) _ _ _ _ V2 hv2 (by rw [k7.f];exact k7.v) k7.vo;have hf:S2.f=S.f:=k7.f;rw [hf] at h1 h4;have hp:(yN a6)=yN S.a.a.b:=by have:=congrArg jU.b k1.pg;dsimp only at this;rw [this]
      have hf3:a3=S.f:=k1.f;dsimp only at k6;rw [hp,hf3] at k6;refine ⟨V3,⟨k1.e,hf,k7.pg,k7.k,h1,fun i hi=>(h4 i hi).trans (k7.vs i hi),h5.trans k7.vl,k7.vr.trans h2,h3⟩,⟨h3,⟨_,_,k6.mono List.prefix_rfl h2⟩,fun i hi=>?_,?_⟩,rfl⟩
      · have hi:i < x.a.length:=hi;obtain ⟨v1,hv1⟩:=lT (l:=V1) (k:=i) (by rw [k3,List.length_nil];omega);obtain ⟨v2,q1,b1,_⟩:=(k5.vr.trans h2) i v1 hv1;exact ⟨v2,q1,b1.trans (k4 i v1 (Nat.zero_le _) hv1)⟩
      · obtain ⟨l,en,hb,hk⟩:=hx.en;have hkk:=UY ht (WB.x hx) e;rw [hb] at hkk;obtain ⟨m,y,h1,h2⟩:=Tf hkk;exact ⟨m,y,h1,h2.trans hk⟩
   · cases h;exact absurd e c
def Xd (s:jL):Prop:=s.c.length=s.a.b.length/\(∀ (k:Nat) (fn:kY),s.a.b[k]?=some fn->∃ V,s.c[k]?=some V/\FW s.a.a s.b V (yN s.a.b) k fn)/\∀ u ∈ s.a.a,u.a.length<=4
theorem Sz {l:List kY} {k:Nat} {fn fn':kY} (h:l[k]?=some fn) (hp:fn'.a=fn.a):yN (l.set k fn')=yN l:=by unfold yN;rw [List.map_set];exact set_self (by rw [List.getElem?_map,h,hp];rfl)
theorem GU {fu:Nat} {p:jU} (hp:Tv 5000 p):∀ (n:Nat) (i:Nat) (a:List kE) (b c d:Int) (e:List kY) (vs:List (List jy)) (g:List jV) (h:List Int) (j:Int) (a':List kE) (b' c' d':Int) (e':List kY) (vs':List (List jy)) (g':List jV) (h':List Int),
  e.length=p.b.length->vs.length=i->i<=p.b.length->(∀ (k:Nat) (fn:kY),k < i->e[k]?=some fn->∃ V,vs[k]?=some V/\FW a g V (yN e) k fn)->(∀ (k:Nat),i<=k->e[k]?=p.b[k]?)->(∀ u ∈ a,u.a.length<=4)->
  mM fu p n i a b c d e vs g h=some (.go (j,a',b',c',d',e',vs',g',h'))->d'=0->Xd ⟨⟨a',e'⟩,vs',g'⟩
 | 0,_,_,_,_,_,_,_,_,_,_,_,_,_,_,_,_,_,_,_,_,_,_,_,_,h,_=>by cases h
 | n+1,i,a,b,c,d,e,vs,g,h,j,a',b',c',d',e',vs',g',h',h1,h2,h3,h4,h5,h6,hm,hd=>by
  have hlen:=hp.e;rw [mM] at hm;rcases jC hm with ⟨hi,hm⟩|⟨hi,hm⟩
  · rcases jC hm with ⟨he,hm⟩|⟨he,hm⟩
    · obtain ⟨r,hr,hm⟩:=bs hm;obtain ⟨_,rfl⟩:=sK hr;obtain ⟨fn,hfn,hm⟩:=bs hm;rw [wM] at hfn;obtain ⟨⟨fn',S'⟩,hF,hm⟩:=bs hm;rw [pl] at hm;obtain ⟨q,hq,hm⟩:=bs hm;obtain ⟨w,hw,hm⟩:=bs hm;rw [lZ (by omega) (by omega)] at hm;have hwd:Wd ⟨⟨⟨a,e⟩,vs ++ [[]],g⟩,(i:Int),h,c,d⟩ []:=⟨by dsimp only;rw [wM,<-h2,List.getElem?_append_right (Nat.le_refl _),Nat.sub_self];rfl,fun x hx=>by cases hx⟩;by_cases e1:S'.e=0
      · obtain ⟨V',k1,k2,k3⟩:=OP hF hwd (hp.el fn (List.mem_of_getElem? hfn)) e1;obtain ⟨q2,hq2,hql,rfl⟩:=vQ hw;obtain rfl:i=q2:=by omega
        have hpg:S'.a.a=⟨a,e⟩:=k1.pg;have hPF:S'.a.a.b=e:=by rw [hpg]
        have hPR:S'.a.a.a=a:=by rw [hpg]
        have hei:e[i]?=some fn:=(h5 i (Nat.le_refl _)).trans hfn;have hps:yN (e.set i fn')=yN e:=Sz hei k3;have hvl:S'.a.c.length=i+1:=by rw [k1.vl];dsimp only;rw [kL,h2]
        rw [show ((i:Int)+1)=((i+1:Nat):Int) from by omega] at hm;refine GU hp n (i+1) _ _ _ _ _ _ _ _ j a' b' c' d' e' vs' g' h' (by rw [List.length_set,hPF];exact h1) hvl (by omega) (fun k fk hk hfk=>?_) (fun k hk=>?_) (by rw [hPR];exact h6) hm hd
        · rw [hPF] at hfk;rw [hPR,hPF,hps];by_cases hki:k=i
          · subst hki;rw [List.getElem?_set_self (by rw [h1];omega)] at hfk;cases hfk;have:=k1.v;dsimp only at this;rw [wM] at this;exact ⟨V',this,k2⟩
          · rw [List.getElem?_set_ne (by omega)] at hfk;obtain ⟨V,hV,hW⟩:=h4 k fk (by omega) hfk;have:=k1.vs k (by dsimp only;omega);dsimp only at this;exact ⟨V,by rw [this,List.getElem?_append_left (jW hV)];exact hV,hW.mono k1.k⟩
        · rw [hPF,List.getElem?_set_ne (by omega)];exact h5 k (by omega)
      · exfalso;cases n with
        | zero=>cases hm
        | succ n=>
          rw [mM] at hm;rcases jC hm with ⟨_,hm⟩|⟨_,hm⟩
          · rw [if_neg e1] at hm;cases hm;exact e1 hd
          · cases hm;exact e1 hd
    · cases hm;exact absurd hd he
  · cases hm;have hi2:i=p.b.length:=by omega
    refine ⟨by dsimp only;omega,fun k fn hk=>?_,h6⟩;have:=jW hk;exact h4 k fn (by dsimp only at this;omega) hk
theorem PW {fu:Nat} {p:jU} {o:jL × Int × Int}:∀ (n:Nat) (i:Int) (a:List kE) (b c d:Int) (e:List kY) (vs:List (List jy)) (g:List jV) (h:List Int),mM fu p n i a b c d e vs g h=some (.out o)→False
 | 0,_,_,_,_,_,_,_,_,_,h=>by cases h
 | n+1,_,_,_,_,_,_,_,_,_,h=>by
  rw [mM] at h;rcases jC h with ⟨_,h⟩|⟨_,h⟩
  · rcases jC h with ⟨_,h⟩|⟨_,h⟩
    · obtain ⟨_,_,h⟩:=bs h;obtain ⟨_,_,h⟩:=bs h;obtain ⟨⟨_,_⟩,_,h⟩:=bs h;rw [pl] at h;obtain ⟨_,_,h⟩:=bs h;obtain ⟨_,_,h⟩:=bs h;exact PW n _ _ _ _ _ _ _ _ _ h
    · cases h
  · cases h
theorem OZ {fu:Nat} {p:jU}:∀ (n:Nat) {i:Int} {a:List kE} {b c d:Int} {e:List kY} {vs:List (List jy)} {g:List jV} {h:List Int} {r:Int × List kE × Int × Int × Int × List kY × List (List jy) × List jV × List Int},
  mM fu p n i a b c d e vs g h=some (.go r)->r.2.2.2.2.1=0->d=0
 | 0,_,_,_,_,_,_,_,_,_,_,h,_=>by cases h
 | n+1,_,_,_,_,_,_,_,_,_,_,h,z=>by
  rw [mM] at h;rcases jC h with ⟨_,h⟩|⟨_,h⟩
  · rcases jC h with ⟨c,h⟩|⟨_,h⟩
    · exact c
    · cases h;exact z
  · cases h;exact z
theorem PE {fu:Nat} {p:jU} (hf:5002<=fu) (hp:Tv 5000 p) {s:jL} {ln:Int} (h:rU fu p=some (s,ln,0)):Xd s:=by
 unfold rU at h;obtain ⟨r,hr,h⟩:=bs h;obtain ⟨_,rfl⟩:=sK hr;obtain ⟨S,hS,h⟩:=bs h;have hs:=(PV hf (S:=⟨⟨⟨p.a,[] ++ p.b⟩,[],[]⟩,0,[],0,0⟩) hp.recs hp.fields hp.e).of' hS;obtain ⟨v,hv,h⟩:=bs h;cases v with
 | out o=>exact (PW _ _ _ _ _ _ _ _ _ _ hv).elim
 | go r=>
  have he:=OZ fu hv;obtain ⟨j,a',b',c',d',e',vs',g',h'⟩:=r;replace h:=gi h;simp only [pl] at h;have ho:=hs.out;rcases jC h with ⟨c,h⟩|⟨c,h⟩
  · cases h;exact absurd rfl c
  · cases h;have h4:=U4 hf hp.recs hp.fields hp.e hS (he (Decidable.not_not.1 c));rw [ho] at hv;exact GU hp fu 0 _ _ _ _ _ _ _ _ _ _ _ _ _ _ _ _ _ rfl rfl (Nat.zero_le _) (fun k fn hk=>by omega) (fun k _=>rfl) h4 hv (Decidable.not_not.1 c)
theorem Ry {fu:Nat} {p:jU} (hf:5002<=fu) (hp:Tv 5000 p) {s:jL} {ln:Int} (h:rU fu p=some (s,ln,0)):∀ V ∈ s.c,∀ v ∈ V,0<=v.a/\v.a<=8:=by
 have hw:=PE hf hp h;have h4:=hw.2.2;intro V hV v hv;obtain ⟨k,hk⟩:=List.getElem?_of_mem hV;obtain ⟨fn,hfn⟩:=lT (l:=s.a.b) (k:=k) (by rw [<-hw.1];exact jW hk);obtain ⟨V',h1,h2,_⟩:=hw.2.1 k fn hfn;rw [hk] at h1;cases h1;rcases h2 v hv with ⟨_,h⟩|⟨_,r,hr,h⟩|⟨_,h,h'⟩
 · omega
 · have:=h4 r (by obtain ⟨q,_,hq⟩:=kK hr;exact List.mem_of_getElem? hq);omega
 · omega
structure vg where
 b:Nat
 A:Option Addr
 c:Nat
 R:List Nat
def ET (w:World):List Nat→List (List Int)→Prop
 | [],[]=>True
 | r :: R,l :: m=>nH w r 3 (l.map V).toArray/\ET w R m
 | _,_=>False
def Eh:List Nat→List (List Int)→List Value
 | r :: R,l :: m=>.slice (some ⟨r,0,none⟩) l.length l.length :: Eh R m
 | _,_=>[]
theorem ET.len {w:World}:∀ {R:List Nat} {m:List (List Int)},ET w R m→R.length=m.length
 | [],[],_=>rfl
 | _ :: _,_ :: _,h=>congrArg (·+1) (ET.len h.2)
 | [],_ :: _,h=>h.elim
 | _ :: _,[],h=>h.elim
theorem ET.get {w:World}:∀ {R:List Nat} {m:List (List Int)} {k:Nat} {l:List Int},ET w R m→m[k]?=some l→∃ r,R[k]?=some r∧nH w r 3 (l.map V).toArray
 | r :: _,_ :: _,0,l,h,hx=>by simp only [List.getElem?_cons_zero,Option.some.injEq] at hx;subst hx;exact ⟨r,rfl,h.1⟩
 | _ :: _,_ :: _,k+1,l,h,hx=>ET.get (k:=k) h.2 (by simpa using hx)
 | [],[],_,_,_,hx=>by simp at hx
 | [],_ :: _,_,_,h,_=>h.elim
 | _ :: _,[],_,_,h,_=>h.elim
theorem ET.mem {w:World}:∀ {R:List Nat} {m:List (List Int)} {r:Nat},ET w R m→r ∈ R→r < w.heap.size
 | _ :: _,_ :: _,r,h,hr=>by
  rcases List.mem_cons.1 hr with rfl | hr
  · exact h.1.lt
  · exact ET.mem h.2 hr
 | [],[],_,_,hr=>by cases hr
 | [],_ :: _,_,h,_=>h.elim
 | _ :: _,[],_,h,_=>h.elim
theorem ET.st {w w':World}:∀ {R:List Nat} {m:List (List Int)},ET w R m→(∀ b ∈ R,w'.heap[b]?=w.heap[b]?)→ET w' R m
 | _ :: _,_ :: _,h,k=>⟨by have:=h.1;unfold nH at this ⊢;rw [k _ (List.mem_cons_self ..)];exact this,ET.st h.2 fun b hb=>k b (List.mem_cons_of_mem _ hb)⟩
 | [],[],_,_=>trivial
 | [],_ :: _,h,_=>h.elim
 | _ :: _,[],h,_=>h.elim
theorem ES:∀ {R:List Nat} {m:List (List Int)} {k r:Nat} {l:List Int},R[k]?=some r→m[k]?=some l→(Eh R m)[k]?=some (.slice (some ⟨r,0,none⟩) l.length l.length)
 | _ :: _,_ :: _,0,_,_,h,k=>by simp only [List.getElem?_cons_zero,Option.some.injEq] at h k;subst h k;rfl
 | _ :: _,_ :: _,k+1,_,_,h,hk=>ES (k:=k) (by simpa using h) (by simpa using hk)
 | [],_,_,_,_,h,_=>by simp at h
 | _,[],_,_,_,_,h=>by simp at h
def It.uY (T:TypeId) (x:vg) (g:pQ):It where
 F k:=k=x.b\/rowOf x.A=some k\/k ∈ x.R
 p w:=nH w x.b T #[V g.f,V g.st,.slice x.A g.ws.length x.c]/\ET w x.R g.ws/\Go.Fw.Own w 0 22 1 x.A g.ws.length x.c (Eh x.R g.ws)/\x.b ∉ x.R/\rowOf x.A≠some x.b/\(∀ r ∈ x.R,rowOf x.A≠some r)/\x.R.Nodup/\∀ l ∈ g.ws,l.length<=8
 bd w h k hk:=by
  obtain ⟨h1,h2,h3,_⟩:=h;rcases hk with rfl | hk | hk
  · exact h1.lt
  · exact (h3.row k hk).2
  · exact h2.mem hk
 st w w' h k hs:=by obtain ⟨h1,h2,h3,h4⟩:=h;refine ⟨?_,h2.st fun b hb=>k b (.inr (.inr hb)),Go.Fw.Own.same h3 fun b hb=>k b (.inr (.inl hb)),h4⟩;unfold nH at h1 ⊢;rw [k _ (.inl rfl)];exact h1
abbrev It.act:=It.uY 95
section
variable {w:World} {x:vg} {g:pQ} {k:Nat} {l:List Int} {T:TypeId}
theorem It.oF (h:(It.uY T x g).p w):nH w x.b T #[V g.f,V g.st,.slice x.A g.ws.length x.c]:=h.1
theorem Cu {w:World} {base:Nat} {e:TypeId} {n c k:Nat} {A:Option Addr} {xs:List Value} {v:Value} (h:Go.Fw.Own w base e 1 A n c xs) (hv:xs[k]?=some v):A=some ⟨mX A,nU A,none⟩/\w.cell? ⟨mX A,nU A+k,none⟩=some v/\nU A=0:=by
 rcases h.blk with ⟨_,_,_,h4⟩|⟨q,cur,h1,_,h3,_,_,_,h7⟩
 · subst h4;simp at hv
 · subst h1;refine ⟨rfl,?_,rfl⟩;show w.cell? ⟨q,0+k,none⟩=_;rw [Nat.zero_add];refine h3.cell ?_;have:cur.toList[k]?=some v:=by rw [<-h7,List.getElem?_take] at hv;split at hv;exact hv;cases hv
   simpa using this
theorem It.sN (h:(It.uY T x g).p w) (hk:g.ws[k]?=some l):∃ r,x.R[k]?=some r/\nH w r 3 (l.map V).toArray/\x.A=some ⟨mX x.A,nU x.A,none⟩/\w.cell? ⟨mX x.A,nU x.A+k,none⟩=some (.slice (some ⟨r,0,none⟩) l.length l.length):=by obtain ⟨r,h1,h2⟩:=h.2.1.get hk;have h3:=Cu h.2.2.1 (ES h1 hk);exact ⟨r,h1,h2,h3.1,h3.2.1⟩
end
set_option maxRecDepth 4000
set_option maxHeartbeats 12800000
theorem Vm:∃ D,prog.underlying 70=some D/\(match D with | .interface _=>false | _=>true)=true:=⟨_,underlying70,rfl⟩
theorem Rs:∃ D,prog.underlying 71=some D/\(match D with | .interface _=>false | _=>true)=true:=⟨_,underlying71,rfl⟩
def Pb {α:Type}:Pn α→List PanicEntry→Prop
 | .ok _,_=>False
 | .tV v,c=>Pch (.iface 70 (V v)) c
 | .err e,c=>Pch (.iface 71 (V e)) c
 | .rt,c=>∃ u,Pch (.iface prog.rt.boundsError u) c
theorem Nq:jH prog 95:=⟨_,func95,by kernel_rfl,by kernel_rfl⟩
theorem QD {op x y:Int} {w:World}:Calls prog 96 #[V op,V x,V y] w (RP (fun v w'=>∃ n,BG op x y=.ok n/\v=V n/\w'=w) (fun c w'=>Pb (BG op x y) c/\w'=w)):=by
 refine wP func96 rfl ?_;refine lu [(0,V op),(1,V x),(2,V y)] ⟨rfl,rfl,rfl,trivial⟩ fun av=>?_;refine go ?_;unfold BG;refine nS rfl (fun h=>?_) (fun h=>?_)
 · refine go ?_;exact kD (jB rfl (kH rfl) ⟨_,by rw [if_pos h],rfl,rfl⟩)
 rw [if_neg h];refine go ?_;refine nS rfl (fun h=>?_) (fun h=>?_)
 · refine go ?_;exact kD (jB rfl (kH rfl) ⟨_,by rw [if_pos h],rfl,rfl⟩)
 rw [if_neg h];refine go ?_;refine nS rfl (fun h=>?_) (fun h=>?_)
 · refine go ?_;exact kD (jB rfl (kH rfl) ⟨_,by rw [if_pos h],rfl,rfl⟩)
 rw [if_neg h];refine go ?_;refine qF (fun f w'=>w'=w/\Has f [(0,V op),(1,V x),(2,V y),(7,V op),(23,.bool (decide (op=9\/op=10)))]) (fun J hJ=>?_) ?_
 · refine nS rfl (fun h=>?_) (fun h=>?_)
   · refine go ?_;exact hJ _ _ ⟨rfl,rfl,rfl,rfl,rfl,congrArg Value.bool (decide_eq_decide.2 ⟨.inl,fun _=>h⟩),trivial⟩
   · refine go ?_;exact hJ _ _ ⟨rfl,rfl,rfl,rfl,rfl,congrArg Value.bool (decide_eq_decide.2 ⟨.inr,fun z=>z.resolve_left h⟩),trivial⟩
 rintro f w1 ⟨rfl,hf⟩;obtain ⟨av,rfl⟩:=mE _ _ hf;clear hf;refine go ?_;refine nS rfl (fun hd=>?_) (fun hd=>?_)
 · refine go ?_;refine nS rfl (fun hy=>?_) (fun hy=>?_)
   · refine go ?_;refine jZ (Kr Vm rfl) ?_;refine Bg rfl ?_;refine ⟨?_,rfl⟩;rcases hd with hd | hd
     · rw [if_pos hd,if_pos hy];exact yw _
     · rw [if_neg (by omega),if_pos hd,if_pos hy];exact yw _
   refine go ?_;refine nS rfl (fun h=>?_) (fun h=>?_)
   · refine go ?_;refine jZ (RL rfl rfl hy) ?_;refine go ?_;exact kD (jB rfl (kH rfl) ⟨_,by rw [if_pos h,if_neg hy],rfl,rfl⟩)
   refine go ?_;refine jZ (P6 rfl rfl hy) ?_;refine go ?_;exact kD (jB rfl (kH rfl) ⟨_,by rw [if_neg h,if_pos (hd.resolve_left h),if_neg hy],rfl,rfl⟩)
 rw [if_neg fun z=>hd (.inl z),if_neg fun z=>hd (.inr z)];refine go ?_;refine nS rfl (fun h=>?_) (fun h=>?_)
 · refine go ?_;exact kD (jB rfl (kH rfl) ⟨_,by rw [if_pos h],rfl,rfl⟩)
 rw [if_neg h];refine go ?_;refine nS rfl (fun h=>?_) (fun h=>?_)
 · refine go ?_;exact kD (jB rfl (kH rfl) ⟨_,by rw [if_pos h],rfl,rfl⟩)
 rw [if_neg h];refine go ?_;refine nS rfl (fun h=>?_) (fun h=>?_)
 · refine go ?_;exact kD (jB rfl (kH rfl) ⟨_,by rw [if_pos h],rfl,rfl⟩)
 rw [if_neg h];refine go ?_;refine nS rfl (fun h=>?_) (fun h=>?_)
 · refine go ?_;refine oO (lW Nq rfl) Ct ?_;rintro _ w2 ⟨rfl,rfl⟩;refine go ?_;exact kD (jB rfl (kH rfl) ⟨_,by rw [if_pos h],rfl,rfl⟩)
 rw [if_neg h];refine go ?_;refine nS rfl (fun h=>?_) (fun h=>?_)
 · refine go ?_;refine oO (lW Nq rfl) Ct ?_;rintro _ w2 ⟨rfl,rfl⟩;refine go ?_;exact kD (jB rfl (kH rfl) ⟨_,by rw [if_pos h],rfl,rfl⟩)
 rw [if_neg h];refine go ?_;refine nS rfl (fun h=>?_) (fun h=>?_)
 · refine go ?_;refine oO (lW Nq rfl) Ct ?_;rintro _ w2 ⟨rfl,rfl⟩;refine go ?_;exact kD (jB rfl (kH rfl) ⟨_,by rw [if_pos h],rfl,rfl⟩)
 rw [if_neg h];refine go ?_;refine nS rfl (fun h=>?_) (fun h=>?_)
 · refine go ?_;refine oO (lW Nq rfl) Ct ?_;rintro _ w2 ⟨rfl,rfl⟩;refine go ?_;exact kD (jB rfl (kH rfl) ⟨_,by rw [if_pos h],rfl,rfl⟩)
 rw [if_neg h];refine go ?_;refine jZ (Kr Rs rfl) ?_;exact Bg rfl ⟨yw _,rfl⟩
end Go.Proofs.YtfglbdkfnphjgaaGreat
