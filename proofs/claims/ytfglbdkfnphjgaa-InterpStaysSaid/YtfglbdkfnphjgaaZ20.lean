/- What the checker of the specification finds out: statements, functions, sources. -/
import Derived.Test.YtfglbdkfnphjgaaZ19
import Derived.Test.YtfglbdkfnphjgaaPf
set_option linter.unusedVariables false
set_option linter.unusedSimpArgs false
namespace Go.Proofs.Ytfglbdkfnphjgaa
open Go.RowKit Go.Fw
def yX (l:List lI):List Nat:=l.map fun f=>f.a.length
theorem xR {α:Type} {l:List α} {k:Nat}:ix l (k:Int)=l[k]?:=by unfold Go.Fw.ix;rw [if_neg (by omega),Int.toNat_natCast]
theorem Vr.snoc {V:List jA} {v:jA}:Vr V (V ++ [v]):=fun i x h=>⟨x,by rw [List.getElem?_append_left (kI h)];exact h,rfl,rfl,rfl,rfl⟩
theorem Tf {S:fV} {V V':List jA} {vs:List (List jA)} (h:Wd S V) (hs:st S.a.c S.f V'=some vs):ix vs S.f=some V'∧(∀ i:Nat,(i:Int)≠S.f→vs[i]?=S.a.c[i]?)∧vs.length=S.a.c.length:=by
 obtain ⟨k,hk,hl,rfl⟩:=uY hs
 rw [hk]
 refine ⟨by rw [xR,List.getElem?_set_self hl],fun i hi=>?_,List.length_set⟩
 rw [List.getElem?_set_ne (by omega)]
theorem DY {fu:Nat} {S S':fV} {ln j:Int} {v:jA} {V:List jA} (h:og fu S ln v=some (j,S')) (hw:Wd S V) (hv:VO S.a.a.a v) (e:S'.e=0):Up S V S' (V ++ [v])∧j=(V.length:Int)∧S'.a.b=S.a.b:=by
 unfold og at h
 obtain ⟨⟨o,c⟩,_,h⟩:=bs h
 rw [pl] at h
 obtain ⟨t,ht,h⟩:=bs h
 rw [hw.v] at ht
 cases ht
 rcases jS h with ⟨c1,h⟩|⟨c1,h⟩
 · cases h;exact absurd e c1
 rcases jS h with ⟨c2,h⟩|⟨c2,h⟩
 · obtain ⟨d,hd,h⟩:=bs h
   cases h
   exact absurd e (zo (by decide) hd).2
 rcases jS h with ⟨c3,h⟩|⟨c3,h⟩
 · obtain ⟨d,hd,h⟩:=bs h
   cases h
   exact absurd e (zo (by decide) hd).2
 obtain ⟨i,hi,h⟩:=bs h
 obtain ⟨_,rfl⟩:=vJ hi
 obtain ⟨op,_,h⟩:=bs h
 obtain ⟨vs,hvs,h⟩:=bs h
 cases h
 obtain ⟨k1,k2,k3⟩:=Tf hw hvs
 exact ⟨⟨Decidable.not_not.1 c1,rfl,rfl,List.prefix_rfl,k1,k2,k3,.snoc,nP hw.vo hv⟩,rfl,rfl⟩
theorem Qj {fu:Nat} {S S':fV} {x x':jD} (h:qm fu S x=some (S',x')):Hz S S'∧∃ c,x'=⟨x.c,x.f,x.n,x.b,x.k,x.m,x.g,x.d,x.j,c,x.a,x.e,x.h⟩∧(S'.e=0→ix (yX S.a.a.b) c=some x.a.length):=by
 unfold qm at h
 rcases jS h with ⟨c1,h⟩|⟨_,h⟩
 · cases h;exact ⟨.rfl',x.i,by cases x;rfl,fun z=>absurd z c1⟩
 · obtain ⟨⟨b,d⟩,_,h⟩:=bs h
   rw [pl] at h
   rcases jS h with ⟨_,h⟩|⟨_,h⟩
   · obtain ⟨q,hq,h⟩:=bs h
     cases h
     have k:=zo (by decide) hq
     exact ⟨k.1,b,rfl,fun z=>absurd z k.2⟩
   · obtain ⟨fn,hfn,h⟩:=bs h
     rcases jS h with ⟨_,h⟩|⟨c2,h⟩
     · obtain ⟨q,hq,h⟩:=bs h
       cases h
       have k:=zo (by decide) hq
       exact ⟨k.1,b,rfl,fun z=>absurd z k.2⟩
     · cases h
       refine ⟨.rfl',b,rfl,fun _=>?_⟩
       obtain ⟨k,rfl,hk⟩:=kJ hfn
       rw [xR]
       unfold yX
       rw [List.getElem?_map,hk]
       exact congrArg some (by dsimp only;omega)
section
variable {fu:Nat} {f:fV→List jD→Option (List jD × fV)} {g:fV→jD→Option (jD × fV)}
def Xb (f:fV→List jD→Option (List jD × fV)):Prop:=∀ S l l' S' V,f S l=some (l',S')→Wd S V→(∀ y ∈ l,∃ n,BK 5000 n y)→S'.e=0→∃ V',Up S V S' V'∧SW S'.a.b V' (yX S.a.a.b) S.f l' S.a.b.length S'.a.b.length
def Eb (f:fV→List jD→Option (List jD × fV)):Prop:=∀ S l l' S',f S l=some (l',S')→S'.e=0→S.e=0
def Xs (g:fV→jD→Option (jD × fV)):Prop:=∀ S x x' S' V,g S x=some (x',S')→Wd S V→(∃ n,BK 5000 n x)→S'.e=0→∃ V',Up S V S' V'∧SW S'.a.b V' (yX S.a.a.b) S.f [x'] S.a.b.length S'.a.b.length
abbrev Ya (S:fV) (r8:List kK):fV:=⟨⟨S.a.a,S.a.c,r8⟩,S.f,S.b,S.c,S.e⟩
theorem Xo {S:fV} {x:jD} {r8:List kK} {v:Ld (Int × Int × Int) (jD × fV)} (h:qx fu f g S x r8=some v) :
   (∃ k c n,v=.go (k,c,n)∧∀ nm p a b,VO S.a.a.a ⟨nm,k,c,n,p,a,b⟩) ∨ ∃ y S',v=.out (y,S')∧S'.e≠0:=by
 unfold qx at h
 rcases jS h with ⟨c,h⟩|⟨_,h⟩
 · cases h;exact .inl ⟨_,_,_,rfl,fun _ _ _ _=>.inr (.inr ⟨rfl,c⟩)⟩
 · rcases jS h with ⟨_,h⟩|⟨_,h⟩
   · obtain ⟨⟨c,d⟩,_,h⟩:=bs h
     rw [pl] at h
     rcases jS h with ⟨_,h⟩|⟨_,h⟩
     · obtain ⟨q,hq,h⟩:=bs h;cases h;exact .inr ⟨_,_,rfl,(zo (by decide) hq).2⟩
     · obtain ⟨r,hr,h⟩:=bs h;cases h;exact .inl ⟨_,_,_,rfl,fun _ _ _ _=>.inr (.inl ⟨rfl,r,hr,rfl⟩)⟩
   · cases h;exact .inl ⟨_,_,_,rfl,fun _ _ _ _=>.inl ⟨rfl,rfl⟩⟩
theorem VH {S:fV} {x:jD} {r8:List kK} {x':jD} {S':fV} {V:List jA} (h:nZ fu f g S x r8=some (.out (x',S'))) (hw:Wd (Ya S r8) V) (e:S'.e=0) :
   x.c=1∧∃ V' v,Up (Ya S r8) V S' V'∧x'=⟨x.c,x.f,(S.a.b.length:Int),x.b,x.k,x.m,v,x.d,x.j,x.i,x.a,x.e,x.h⟩∧S'.a.b=r8∧∃ q,ix V' v=some q:=by
 unfold nZ at h
 rcases jS h with ⟨hk,h⟩|⟨_,h⟩
 · obtain ⟨v,hv,h⟩:=bs h
   rcases Xo hv with ⟨k,c,n,rfl,hvo⟩|⟨y,S2,rfl,h2⟩
   · replace h:=gi h
     simp only [pl] at h
     obtain ⟨⟨j,k⟩,hd,h⟩:=bs h
     rw [pl] at h
     cases h
     obtain ⟨k1,rfl,k3⟩:=DY hd hw (hvo _ _ _ _) e
     exact ⟨hk,_,_,k1,rfl,k3,_,by rw [xR,List.getElem?_append_right (Nat.le_refl _),Nat.sub_self];rfl⟩
   · cases h;exact absurd e h2
 · rcases jS h with ⟨_,h⟩|⟨_,h⟩
   · rcases jS h with ⟨_,h⟩|⟨_,h⟩
     · obtain ⟨_,_,h⟩:=bs h
       rcases jS h with ⟨_,h⟩|⟨_,h⟩
       · obtain ⟨_,_,h⟩:=bs h;cases h
       · cases h
     · cases h
   · cases h
theorem Xk {S:fV} {x:jD} {r8:List kK} {a1:List kV} {a2 a3 a4:Int} {a5:List lI} {a6:List (List jA)} {a7:List kK} {a8:List Int} (h1:x.d.length≤1)
   (h:nZ fu f g S x r8=some (.go (a1,a2,a3,a4,a5,a6,a7,a8))):Hz (Ya S r8) ⟨⟨⟨a1,a5⟩,a6,a7⟩,a2,a8,a3,a4⟩∧x.c≠1∧(a4=0→x.c=3→∀ y ∈ x.d,y.e=1):=by
 unfold nZ at h
 rcases jS h with ⟨hk,h⟩|⟨hk,h⟩
 · obtain ⟨v,hv,h⟩:=bs h
   rcases Xo hv with ⟨k,c,n,rfl,hvo⟩|⟨y,S2,rfl,h2⟩
   · replace h:=gi h
     simp only [pl] at h
     obtain ⟨⟨j,k⟩,hd,h⟩:=bs h
     rw [pl] at h
     cases h
   · cases h
 · rcases jS h with ⟨hk3,h⟩|⟨hk3,h⟩
   · rcases jS h with ⟨ht,h⟩|⟨ht,h⟩
     · obtain ⟨t,ht2,h⟩:=bs h
       rcases jS h with ⟨_,h⟩|⟨hop,h⟩
       · obtain ⟨q,hq,h⟩:=bs h
         cases h
         have k:=zo (by decide) hq
         exact ⟨k.1,hk,fun z=>absurd z k.2⟩
       · cases h
         refine ⟨.rfl',hk,fun _ _ y hy=>?_⟩
         obtain ⟨i,hi⟩:=List.getElem?_of_mem hy
         have:=kI hi
         obtain rfl:i=0:=by omega
         rw [show (0:Int)=((0:Nat):Int) from rfl,xR,hi] at ht2
         cases ht2
         exact Decidable.not_not.1 hop
     · cases h
       exact ⟨.rfl',hk,fun _ _ y hy=>by
         have:=List.length_pos_of_mem hy
         omega⟩
   · cases h
     exact ⟨.rfl',hk,fun _ z=>absurd z hk3⟩
theorem Zj {v:Int} {S:fV} {V:List jA} {A:List (List jA)} (hw:Wd S V) (h:qw fu f g v S=some (.go A)) (e:S.e=0):∃ V',Up S V ⟨⟨S.a.a,A,S.a.b⟩,S.f,S.b,S.c,S.e⟩ V':=by
 unfold qw at h
 rcases jS h with ⟨_,h⟩|⟨c,h⟩
 · obtain ⟨t,ht,h⟩:=bs h
   rw [hw.v] at ht
   cases ht
   obtain ⟨b,hb,h⟩:=bs h
   obtain ⟨V',hV',h⟩:=bs h
   obtain ⟨vs,hvs,h⟩:=bs h
   cases h
   obtain ⟨k,rfl,hkl,rfl⟩:=uY hV'
   rw [xR] at hb
   obtain ⟨k1,k2,k3⟩:=Tf hw hvs
   refine ⟨_,e,rfl,rfl,List.prefix_rfl,k1,k2,k3,fun i x hx=>?_,fun x hx=>?_⟩
   · by_cases hik:i=k
     · subst hik
       rw [hb] at hx
       cases hx
       exact ⟨_,List.getElem?_set_self hkl,rfl,rfl,rfl,rfl⟩
     · exact ⟨x,by rw [List.getElem?_set_ne (by omega)];exact hx,rfl,rfl,rfl,rfl⟩
   · rcases List.mem_or_eq_of_mem_set hx with hx | rfl
     · exact hw.vo x hx
     · have:=hw.vo b (List.mem_of_getElem? hb)
       exact this
 · exact absurd e c
theorem Bt:∀ (l:List jD) (k:Nat) (out:List jD) (a1:List kV) (a2 a3 a4:Int) (a5:List lI) (a6:List (List jA)) (a7:List kK) (a8:List Int) (v:Ld (List jD × List kV × Int × Int × Int × List lI × List (List jA) × List kK × List Int) (List jD × fV)),
  a4≠0→lS fu f g l k out a1 a2 a3 a4 a5 a6 a7 a8=some v→v=.go (out,a1,a2,a3,a4,a5,a6,a7,a8)
 | [],_,_,_,_,_,_,_,_,_,_,v,_,h=>by cases h;rfl
 | u :: r,_,_,_,_,_,_,_,_,_,_,v,he,h=>by
  rw [lS,if_pos he] at h
  cases h;rfl
theorem EY (hg:Xs g) {S0:fV} {V0:List jA}:∀ (l:List jD) (k:Nat) (out:List jD) (S:fV) (V:List jA) (o:List jD) (a1:List kV) (a2 a3 a4:Int) (a5:List lI) (a6:List (List jA)) (a7:List kK) (a8:List Int),
  Up S0 V0 S V→SW S.a.b V (yX S0.a.a.b) S0.f out S0.a.b.length S.a.b.length→(∀ y ∈ l,∃ n,BK 5000 n y)→
  lS fu f g l k out S.a.a.a S.f S.c S.e S.a.a.b S.a.c S.a.b S.b=some (.go (o,a1,a2,a3,a4,a5,a6,a7,a8))→a4=0→
  ∃ V',Up S0 V0 ⟨⟨⟨a1,a5⟩,a6,a7⟩,a2,a8,a3,a4⟩ V'∧SW a7 V' (yX S0.a.a.b) S0.f o S0.a.b.length a7.length
 | [],_,out,S,V,_,_,_,_,_,_,_,_,_,hU,hW,_,h,e=>by cases h;exact ⟨V,hU,hW⟩
 | u :: r,k,out,S,V,o,a1,a2,a3,a4,a5,a6,a7,a8,hU,hW,hl,h,e=>by
  rw [lS] at h
  rcases jS h with ⟨c,h⟩|⟨_,h⟩
  · cases h;exact absurd e c
  obtain ⟨⟨x,S1⟩,h1,h⟩:=bs h
  rw [pl] at h
  obtain ⟨w,hw,h⟩:=bs h
  obtain ⟨_,rfl⟩:=vJ hw
  by_cases he:S1.e=0
  · obtain ⟨V1,k1,k2⟩:=hg _ _ _ _ V h1 hU.wd (hl u (.head _)) he
    rw [hU.pg,hU.f] at k2
    exact EY hg r _ _ S1 V1 o a1 a2 a3 a4 a5 a6 a7 a8 (hU.trans k1) ((hW.mono k1.k k1.vr).app k2) (fun y hy=>hl y (.tail _ hy)) h e
  · have:=Bt _ _ _ _ _ _ _ _ _ _ _ _ he h
    cases this
    exact absurd e he
theorem Gu {c:Int} {d:List kK} {R:List kV}:∀ (l:List Int) (k:Nat) (a a':List (List jA)) (V:List jA),nG fu f g c d l k a=some (.go a')→ix a c=some V→(∀ x ∈ V,VO R x)→
  ∃ V',ix a' c=some V'∧Vr V V'∧(∀ x ∈ V',VO R x)∧(∀ i:Nat,(i:Int)≠c→a'[i]?=a[i]?)∧a'.length=a.length
 | [],_,a,a',V,h,hV,ho=>by cases h;exact ⟨V,hV,.rfl',ho,fun _ _=>rfl,rfl⟩
 | e :: r,k,a,a',V,h,hV,ho=>by
  rw [nG] at h
  obtain ⟨t,ht,h⟩:=bs h
  rw [hV] at ht
  cases ht
  obtain ⟨b,hb,h⟩:=bs h
  obtain ⟨V1,hV1,h⟩:=bs h
  obtain ⟨vs,hvs,h⟩:=bs h
  obtain ⟨q,rfl,hql,rfl⟩:=uY hV1
  rw [xR] at hb
  obtain ⟨p,rfl,hpl,rfl⟩:=uY hvs
  obtain ⟨V',h1,h2,h3,h4,h5⟩:=Gu r _ _ a' _ h (by rw [xR,List.getElem?_set_self hpl]) (fun x hx=>by
    rcases List.mem_or_eq_of_mem_set hx with hx | rfl
    · exact ho x hx
    · have:=ho b (List.mem_of_getElem? hb)
      exact this)
  refine ⟨V',h1,Vr.trans (fun i x hx=>?_) h2,h3,fun i hi=>(h4 i hi).trans (by rw [List.getElem?_set_ne (by omega)]),h5.trans List.length_set⟩
  by_cases hik:i=q
  · subst hik
    rw [hb] at hx
    cases hx
    exact ⟨_,List.getElem?_set_self hql,rfl,rfl,rfl,rfl⟩
  · exact ⟨x,by rw [List.getElem?_set_ne (by omega)];exact hx,rfl,rfl,rfl,rfl⟩
theorem BG:∀ (l:List jD) {k:Nat} {out:List jD} {a1:List kV} {a2 a3 a4:Int} {a5:List lI} {a6:List (List jA)} {a7:List kK} {a8:List Int} {o:List jD × fV},lS fu f g l k out a1 a2 a3 a4 a5 a6 a7 a8=some (.out o)→False
 | [],_,_,_,_,_,_,_,_,_,_,_,h=>by cases h
 | u :: r,_,_,_,_,_,_,_,_,_,_,_,h=>by
  rw [lS] at h
  rcases jS h with ⟨c,h⟩|⟨_,h⟩
  · cases h
  obtain ⟨⟨x,S1⟩,h1,h⟩:=bs h
  rw [pl] at h
  obtain ⟨w,hw,h⟩:=bs h
  exact BG r h
theorem Sj (hg:Xs g):Xb (pK fu f g):=by
 intro S l l' S' V h hw hl e
 unfold pK at h
 obtain ⟨v,hv,h⟩:=bs h
 cases v with
 | out o=>
  have hd:=BG l hv
  exact hd.elim
 | go r=>
 obtain ⟨o,a1,a2,a3,a4,a5,a6,a7,a8⟩:=r
 replace h:=gi h
 simp only [pl] at h
 obtain ⟨_,_,h⟩:=bs h
 obtain ⟨v2,hv2,h⟩:=bs h
 cases v2 with
 | out q=>exact (AO _ _ _ _ hv2).elim
 | go q=>
  replace h:=gi h
  obtain ⟨_,_,h⟩:=bs h
  obtain ⟨_,_,h⟩:=bs h
  cases h
  by_cases hS:S.e=0
  · obtain ⟨V1,k1,k2⟩:=EY hg l 0 [] S V _ _ _ _ _ _ _ _ _ (.rfl' hw hS) .nil hl hv e
    have hf:a2=S.f:=k1.f
    obtain ⟨V2,h1,h2,h3,h4,h5⟩:=Gu (R:=S.a.a.a) _ _ _ _ V1 hv2 (by rw [hf];exact k1.v) k1.vo
    refine ⟨V2,⟨hS,hf,k1.pg,k1.k,by rw [← hf];exact h1,fun i hi=>(h4 i (by rw [hf];exact hi)).trans (k1.vs i hi),h5.trans k1.vl,k1.vr.trans h2,h3⟩,k2.mono List.prefix_rfl h2⟩
  · have:=Bt _ _ _ _ _ _ _ _ _ _ _ _ hS hv
    cases this
    exact absurd e hS
theorem RL:Eb (pK fu f g):=by
 intro S l l' S' h e
 unfold pK at h
 obtain ⟨v,hv,h⟩:=bs h
 cases v with
 | out o=>exact (BG l hv).elim
 | go r=>
 obtain ⟨o,a1,a2,a3,a4,a5,a6,a7,a8⟩:=r
 replace h:=gi h
 simp only [pl] at h
 obtain ⟨_,_,h⟩:=bs h
 obtain ⟨v2,hv2,h⟩:=bs h
 cases v2 with
 | out q=>exact (AO _ _ _ _ hv2).elim
 | go q=>
  replace h:=gi h
  obtain ⟨_,_,h⟩:=bs h
  obtain ⟨_,_,h⟩:=bs h
  cases h
  refine Classical.byContradiction fun hS=>?_
  have:=Bt _ _ _ _ _ _ _ _ _ _ _ _ hS hv
  cases this
  exact hS e
theorem Zd (hE:Eb f) (hf:Xb f) {h' c j:Int} {d k:ByteArray} {l:Int} {m:List jB} {p:ByteArray} {t:Int} {u:List jD} {v:List jB} {w:List jD} {S:fV} {V:List jA} (hw:Wd S V) (hl:∀ y ∈ u,∃ n,BK 5000 n y)
   {r:Ld Unit (jD × fV)} (h:pz fu f g h' c j d k l m p t u v w S=some r) :
   (r=.go ()∧(S.e=0→h'≠8)) ∨ ∃ i z S',r=.out (⟨h',c,j,d,k,l,i,m,p,t,v,w,z⟩,S')∧h'=8∧(S'.e=0→∃ V',Up S V S' V'∧SW S'.a.b V' (yX S.a.a.b) S.f z S.a.b.length S'.a.b.length∧∃ q,ix V' i=some q∧q.c=1∧q.e=(S.a.b.length:Int)):=by
 unfold pz at h
 rcases jS h with ⟨h8,h⟩|⟨h8,h⟩
 · rcases jS h with ⟨he,h⟩|⟨he,h⟩
   · obtain ⟨B,_,h⟩:=bs h
     obtain ⟨⟨i,S1⟩,hd,h⟩:=bs h
     rw [pl] at h
     obtain ⟨⟨z,S2⟩,hz,h⟩:=bs h
     rw [pl] at h
     obtain ⟨q,hq,h⟩:=bs h
     cases q with
     | out o=>exact (Xj hq).elim
     | go A=>
      replace h:=gi h
      cases h
      refine .inr ⟨_,_,_,rfl,h8,fun e=>?_⟩
      have e2:S2.e=0:=e
      by_cases e1:S1.e=0
      · obtain ⟨k1,rfl,k3⟩:=DY hd hw (.inl ⟨rfl,rfl⟩) e1
        obtain ⟨V2,k4,k5⟩:=hf _ _ _ _ _ hz k1.wd hl e2
        obtain ⟨V3,k6⟩:=Zj k4.wd hq e2
        have k7:Up S V ⟨⟨S2.a.a,A,S2.a.b⟩,S2.f,B,S2.c,S2.e⟩ V3:=by
         have:=(k1.trans k4).trans k6
         exact ⟨this.e,this.f,this.pg,this.k,this.v,this.vs,this.vl,this.vr,this.vo⟩
        rw [k1.pg,k1.f,k3] at k5
        refine ⟨V3,k7,k5.mono List.prefix_rfl k6.vr,?_⟩
        obtain ⟨q',hq',a1,a2,a3,a4⟩:=NH (k4.vr.trans k6.vr) (i:=(V.length:Int)) (v:=⟨d,1,-1,1,false,(S.a.b.length:Int),0⟩) (by rw [xR,List.getElem?_append_right (Nat.le_refl _),Nat.sub_self];rfl)
        exact ⟨q',hq',a1,a4⟩
      · exact absurd (hE _ _ _ _ hz e2) e1
   · cases h;exact .inl ⟨rfl,fun z=>absurd z he⟩
 · cases h;exact .inl ⟨rfl,fun _=>h8⟩
theorem YZ {z:fV} {x:jD} {T:List jB} {S:fV} {V:List jA} (hw:Wd S V) {v:Ld (List kV × Int × Int × Int × List lI × List (List jA) × List kK × List Int × Int × Int × Int × ByteArray × ByteArray × Int × Int × List jB × ByteArray × Int × List jB × List jD × List jD) (jD × fV)} (h:qz fu f g z x T S=some v) :
   ∃ S1 cl,v=.go (S1.a.a.a,S1.f,S1.c,S1.e,S1.a.a.b,S1.a.c,S1.a.b,S1.b,x.c,x.f,(z.a.b.length:Int),x.b,x.k,x.m,x.g,T,x.j,cl,x.a,x.e,x.h)∧Hz S S1∧(S1.e=0→x.j≠be→ix (yX S.a.a.b) cl=some x.a.length):=by
 unfold qz at h
 rcases jS h with ⟨_,h⟩|⟨c,h⟩
 · obtain ⟨⟨S1,a⟩,ha,h⟩:=bs h
   rw [pl] at h
   obtain ⟨k1,cc,rfl,k2⟩:=Qj ha
   cases h
   exact ⟨S1,cc,rfl,k1,fun z _=>k2 z⟩
 · cases h
   exact ⟨S,x.i,rfl,.rfl',fun _ z=>absurd (Decidable.not_not.1 c) z⟩
theorem Uv (hE:Eb f) (hf:Xb f):Xs (sM fu f g):=by
 intro S x x' S' V h hw ⟨n,hx⟩ e
 cases n with
 | zero=>exact hx.elim
 | succ n=>
 obtain ⟨h1,h2,h3,h4,hsh⟩:=hx
 have hbo:∀ y ∈ x.e,∃ n,BK 5000 n y:=fun y hy=>⟨n,h3.2 y hy⟩
 have hel:∀ y ∈ x.h,∃ n,BK 5000 n y:=fun y hy=>⟨n,h4.2 y hy⟩
 unfold sM at h
 rcases jS h with ⟨_,h⟩|⟨_,h⟩
 · obtain ⟨q,hq,h⟩:=bs h
   cases h
   exact absurd e (zo (by decide) hq).2
 obtain ⟨r8,hr8,h⟩:=bs h
 obtain ⟨_,rfl⟩:=vJ hr8
 have hw8:Wd (Ya S (S.a.b ++ [⟨S.f,x.c,x.f⟩])) V:=⟨hw.v,hw.vo⟩
 have hup:∀ {S2:fV} {V2:List jA},Up (Ya S (S.a.b ++ [⟨S.f,x.c,x.f⟩])) V S2 V2→Up S V S2 V2:=fun k=>⟨k.e,k.f,k.pg,(List.prefix_append _ _).trans k.k,k.v,k.vs,k.vl,k.vr,k.vo⟩
 have hk8:∀ {K:List kK},S.a.b ++ [⟨S.f,x.c,x.f⟩] <+: K→K[S.a.b.length]?=some ⟨S.f,x.c,x.f⟩:=fun hK=>by
   obtain ⟨t,rfl⟩:=hK
   rw [List.append_assoc,List.getElem?_append_right (Nat.le_refl _),Nat.sub_self]
   rfl
 obtain ⟨v,hv,h⟩:=bs h
 cases v with
 | out o=>
   cases h
   obtain ⟨hk,V',q,k1,rfl,k2,q',hq'⟩:=VH hv hw8 e
   obtain ⟨t1,t2,t3,t4,t5⟩:=hsh.decl hk
   refine ⟨V',hup k1,.cons rfl ?_ ?_ ?_ (fun _=>⟨q',hq'⟩) (fun z=>?_) (fun z=>?_) (fun z=>?_) (c:=S.a.b.length+1) (d:=S.a.b.length+1) ?_ ?_ ?_⟩
   · rw [k2];exact hk8 List.prefix_rfl
   · dsimp only;rw [t1];intro y hy;cases hy
   · dsimp only;rw [t2];intro y hy;cases hy
   · dsimp only at z;omega
   · dsimp only at z;exact absurd t5 z
   · dsimp only at z;omega
   · dsimp only;rw [t3];exact .nil
   · dsimp only;rw [t4];exact .nil
   · rw [k2,ko];exact .nil
 | go s=>
   obtain ⟨a1,a2,a3,a4,a5,a6,a7,a8⟩:=s
   replace h:=gi h
   simp only [pl] at h
   obtain ⟨m1,m2,m3⟩:=Xk h1.1 hv
   obtain ⟨⟨T,S1⟩,hT,h⟩:=bs h
   rw [pl] at h
   obtain ⟨k1,k2,k3⟩:=(I7 fu).2 _ _ _ _ _ V hT (m1.wd hw8)
   obtain ⟨v,hv2,h⟩:=bs h
   obtain ⟨S2,cl,rfl,k4,k5⟩:=YZ ((m1.trans k1).wd hw8) hv2
   replace h:=gi h
   simp only [pl] at h
   obtain ⟨⟨A,S3⟩,hA,h⟩:=bs h
   rw [pl] at h
   have m4:=(m1.trans k1).trans k4
   obtain ⟨k6,k7,k8⟩:=(I7 fu).2 _ _ _ _ _ V hA (m4.wd hw8)
   have m6:=m4.trans k6
   obtain ⟨⟨B,S4⟩,hB,h⟩:=bs h
   rw [pl] at h
   have hlenA:A.length=x.a.length:=by have:=congrArg List.length k7;rwa [List.length_map,List.length_map] at this
   have fin:∀ {V4 V5:List jA} {S5:fV} {Z:List jD} {i:Int},Up S3 V S4 V4→SW S4.a.b V4 (yX S3.a.a.b) S3.f B S3.a.b.length S4.a.b.length→Up S4 V4 S5 V5→SW S5.a.b V5 (yX S4.a.a.b) S4.f Z S4.a.b.length S5.a.b.length→(x.c=8→∃ q,ix V5 i=some q∧q.c=1∧q.e=(S4.a.b.length:Int))→
       Up S V S5 V5∧SW S5.a.b V5 (yX S.a.a.b) S.f [⟨x.c,x.f,(S.a.b.length:Int),x.b,x.k,x.m,i,T,x.j,cl,A,B,Z⟩] S.a.b.length S5.a.b.length:=fun {V4 V5 S5 Z i} n1 n2 n3 n4 n5=>by
     have e3:S3.e=0:=n1.e
     have u3:Up S V S3 V:=hup (m6.up hw8 e3)
     have hst:S3.a.b=S.a.b ++ [⟨S.f,x.c,x.f⟩]:=by rw [m6.out]
     rw [u3.pg,u3.f,hst,ko] at n2
     rw [n1.pg,n1.f,u3.pg,u3.f] at n4
     have vr:=n1.vr.trans n3.vr
     refine ⟨(u3.trans n1).trans n3,.cons rfl (hk8 ?_) (fun y hy=>(k3 (k4.e (k6.e e3)) y hy).mono vr) (fun y hy=>(k8 e3 y hy).mono vr) (fun z=>absurd z m2) n5 (fun z=>?_) (fun z y hy=>?_) (n2.mono n3.k n3.vr) n4 .nil⟩
     · rw [← hst];exact n1.k.trans n3.k
     · have:=k5 (k6.e e3) z
       rw [(m1.trans k1).out] at this
       rw [hlenA]
       exact this
     · have hop:=m3 (k1.e (k4.e (k6.e e3))) z
       obtain ⟨q,hq⟩:=List.getElem?_of_mem hy
       have hq2:(T.map jB.e)[q]?=some y.e:=by rw [List.getElem?_map,hq];rfl
       rw [k2,List.getElem?_map] at hq2
       cases hq3:x.d[q]? with
       | none=>rw [hq3] at hq2;cases hq2
       | some y0=>
         rw [hq3] at hq2
         have:y0.e=y.e:=Option.some.inj hq2
         rw [← this]
         exact hop y0 (List.mem_of_getElem? hq3)
   obtain ⟨v,hv3,h⟩:=bs h
   by_cases e4:S4.e=0
   · obtain ⟨V4,n1,n2⟩:=hf _ _ _ _ _ hB (m6.wd hw8) hbo e4
     rcases Zd hE hf n1.wd hel hv3 with ⟨rfl,h8⟩|⟨i,z,S5,rfl,h8,hz⟩
     · replace h:=gi h
       obtain ⟨⟨E,S5⟩,hE2,h⟩:=bs h
       rw [pl] at h
       cases h
       obtain ⟨V5,n3,n4⟩:=hf _ _ _ _ _ hE2 n1.wd hel e
       exact ⟨V5,fin n1 n2 n3 n4 fun z=>absurd z (h8 e4)⟩
     · cases h
       obtain ⟨V5,n3,n4,n5⟩:=hz e
       exact ⟨V5,fin n1 n2 n3 n4 fun _=>n5⟩
   · exfalso
     unfold pz at hv3
     have hg2:v=.go ():=by
       rcases jS hv3 with ⟨_,hv3⟩|⟨_,hv3⟩
       · rw [if_neg e4] at hv3;cases hv3;rfl
       · cases hv3;rfl
     subst hg2
     replace h:=gi h
     obtain ⟨⟨E,S5⟩,hE2,h⟩:=bs h
     rw [pl] at h
     cases h
     exact e4 (hE _ _ _ _ hE2 e)
end
theorem CV:∀ fu:Nat,Eb (q9 fu)∧Xb (q9 fu)∧Xs (xS fu)
 | 0=>⟨fun _ _ _ _ h=>(by cases h),fun _ _ _ _ _ h=>(by cases h),fun _ _ _ _ _ h=>(by cases h)⟩
 | fu+1=>⟨RL,Sj (CV fu).2.2,Uv (CV fu).1 (CV fu).2.1⟩
theorem KN {fu:Nat} {m:lI} {S0:fV} {V0:List jA}:∀ (l:List ByteArray) (k:Nat) (S:fV) (V:List jA) (b1:List Int) (b2:List kV) (b3 b4 b5:Int) (b6:List lI) (b7:List (List jA)) (b8:List kK),Wd S V→
  lF fu m l k S.b S.a.a.a S.f S.c S.e S.a.a.b S.a.c S.a.b=some (.go (b1,b2,b3,b4,b5,b6,b7,b8))→b5=0→
  ∃ V',Up S V ⟨⟨⟨b2,b6⟩,b7,b8⟩,b3,b1,b4,b5⟩ V'∧b8=S.a.b∧V'.length=V.length+l.length∧∀ (i:Nat) (v:jA),V.length≤i→V'[i]?=some v→v.c=1
 | [],_,S,V,_,_,_,_,_,_,_,_,hw,h,e=>by
  cases h
  exact ⟨V,.rfl' hw e,rfl,rfl,fun i v h1 h2=>by have:=kI h2;omega⟩
 | u :: r,k,S,V,b1,b2,b3,b4,b5,b6,b7,b8,hw,h,e=>by
  rw [lF] at h
  obtain ⟨⟨j,S1⟩,h1,h⟩:=bs h
  rw [pl] at h
  by_cases e1:S1.e=0
  · obtain ⟨k1,_,k3⟩:=DY h1 hw (.inl ⟨rfl,rfl⟩) e1
    obtain ⟨V',k4,k5,k6,k7⟩:=KN (S0:=S0) (V0:=V0) r _ S1 _ b1 b2 b3 b4 b5 b6 b7 b8 k1.wd h e
    refine ⟨V',k1.trans k4,k5.trans k3,by rw [k6,ko,List.length_cons];omega,fun i v hi hv=>?_⟩
    by_cases hi2:i=V.length
    · subst hi2
      obtain ⟨v',h2,a1,_⟩:=k4.vr V.length _ (by rw [List.getElem?_append_right (Nat.le_refl _),Nat.sub_self];rfl)
      rw [hv] at h2
      cases h2
      exact a1
    · exact k7 i v (by rw [ko];omega) hv
  · exfalso
    have hn:∀ (l:List ByteArray) (k:Nat) (S:fV) b1 b2 b3 b4 b5 b6 b7 b8,S.e≠0→lF fu m l k S.b S.a.a.a S.f S.c S.e S.a.a.b S.a.c S.a.b=some (.go (b1,b2,b3,b4,b5,b6,b7,b8))→b5≠0:=fun l=>by
      induction l with
      | nil=>intro k S b1 b2 b3 b4 b5 b6 b7 b8 h1 h2;cases h2;exact h1
      | cons y l ih=>
       intro k S b1 b2 b3 b4 b5 b6 b7 b8 h1 h2
       rw [lF] at h2
       obtain ⟨⟨j,S2⟩,h3,h2⟩:=bs h2
       rw [pl] at h2
       refine ih _ S2 _ _ _ _ _ _ _ _ (fun z=>?_) h2
       unfold og at h3
       obtain ⟨⟨o,c⟩,_,h3⟩:=bs h3
       rw [pl] at h3
       obtain ⟨t,ht,h3⟩:=bs h3
       rw [if_pos h1] at h3
       cases h3
       exact h1 z
    exact hn _ _ _ _ _ _ _ _ _ _ _ e1 h e
theorem KF {fu:Nat} {S:fV} {R:List kV}:∀ (l:List ByteArray) (k:Nat) (a a':List (List jA)) (V:List jA),l6 fu S l k a=some (.go a')→ix a S.f=some V→(∀ x ∈ V,VO R x)→
  ∃ V',ix a' S.f=some V'∧Vr V V'∧(∀ x ∈ V',VO R x)∧(∀ i:Nat,(i:Int)≠S.f→a'[i]?=a[i]?)∧a'.length=a.length
 | [],_,a,a',V,h,hV,ho=>by cases h;exact ⟨V,hV,.rfl',ho,fun _ _=>rfl,rfl⟩
 | e :: r,k,a,a',V,h,hV,ho=>by
  rw [l6] at h
  obtain ⟨t,ht,h⟩:=bs h
  rw [hV] at ht
  cases ht
  obtain ⟨b,hb,h⟩:=bs h
  obtain ⟨V1,hV1,h⟩:=bs h
  obtain ⟨vs,hvs,h⟩:=bs h
  obtain ⟨q,hq,hql,rfl⟩:=uY hV1
  rw [hq,xR] at hb
  obtain ⟨p,hp,hpl,rfl⟩:=uY hvs
  obtain ⟨V',h1,h2,h3,h4,h5⟩:=KF r _ _ a' _ h (by rw [hp,xR,List.getElem?_set_self hpl]) (fun x hx=>by
    rcases List.mem_or_eq_of_mem_set hx with hx | rfl
    · exact ho x hx
    · have:=ho b (List.mem_of_getElem? hb)
      exact this)
  refine ⟨V',h1,Vr.trans (fun i x hx=>?_) h2,h3,fun i hi=>(h4 i hi).trans (by rw [List.getElem?_set_ne (by omega)]),h5.trans List.length_set⟩
  by_cases hik:i=q
  · subst hik
    rw [hb] at hx
    cases hx
    exact ⟨_,List.getElem?_set_self hql,rfl,rfl,rfl,rfl⟩
  · exact ⟨x,by rw [List.getElem?_set_ne (by omega)];exact hx,rfl,rfl,rfl,rfl⟩
def FW (R:List kV) (K:List kK) (V:List jA) (Ps:List Nat) (f:Int) (fn:lI):Prop:=
 (∀ x ∈ V,VO R x)∧(∃ a b,SW K V Ps f fn.e a b)∧∀ i:Nat,i < fn.a.length→∃ v,V[i]?=some v∧v.c=1
theorem FW.mono {R:List kV} {K K':List kK} {V:List jA} {Ps:List Nat} {f:Int} {fn:lI} (h:FW R K V Ps f fn) (hk:K <+: K'):FW R K' V Ps f fn:=by
 obtain ⟨h1,⟨a,b,h2⟩,h3⟩:=h
 exact ⟨h1,⟨a,b,h2.mono hk .rfl'⟩,h3⟩
theorem Mq {fu:Nat} {S S':fV} {x x':lI} (h:oD fu S x=some (x',S')) (hw:Wd S []) (hx:U9 5000 x) (e:S'.e=0):∃ V',Up S [] S' V'∧FW S.a.a.a S'.a.b V' (yX S.a.a.b) S.f x'∧x'.a=x.a:=by
 unfold oD at h
 rcases jS h with ⟨_,h⟩|⟨_,h⟩
 · obtain ⟨q,hq,h⟩:=bs h
   cases h
   exact absurd e (zo (by decide) hq).2
 obtain ⟨v,hv,h⟩:=bs h
 cases v with
 | out o=>exact (E8 _ _ _ _ _ _ _ _ _ _ _ hv).elim
 | go s=>
   obtain ⟨a1,a2,a3,a4,a5,a6,a7,a8⟩:=s
   replace h:=gi h
   simp only [pl] at h
   rcases jS h with ⟨c,h⟩|⟨c,h⟩
   · have hw0:Wd ⟨S.a,S.f,[],S.c,S.e⟩ []:=⟨hw.v,hw.vo⟩
     obtain ⟨V1,k1,k2,k3,k4⟩:=KN (S0:=S) (V0:=[]) x.a 0 ⟨S.a,S.f,[],S.c,S.e⟩ [] _ _ _ _ _ _ _ _ hw0 hv c
     obtain ⟨⟨t,S2⟩,ht,h⟩:=bs h
     rw [pl] at h
     obtain ⟨v,hv2,h⟩:=bs h
     cases v with
     | out o=>exact (FC _ _ _ _ hv2).elim
     | go u=>
      replace h:=gi h
      cases h
      obtain ⟨V2,k5,k6⟩:=(CV fu).2.1 _ _ _ _ _ ht k1.wd (fun y hy=>⟨10,hx.el y hy⟩) e
      have k7:=k1.trans k5
      obtain ⟨V3,h1,h2,h3,h4,h5⟩:=KF (R:=S.a.a.a) _ _ _ _ V2 hv2 (by rw [k7.f];exact k7.v) k7.vo
      have hf:S2.f=S.f:=k7.f
      rw [hf] at h1 h4
      have hp:(yX a6)=yX S.a.a.b:=by have:=congrArg jR.b k1.pg;dsimp only at this;rw [this]
      have hf3:a3=S.f:=k1.f
      dsimp only at k6
      rw [hp,hf3] at k6
      refine ⟨V3,⟨k1.e,hf,k7.pg,k7.k,h1,fun i hi=>(h4 i hi).trans (k7.vs i hi),h5.trans k7.vl,k7.vr.trans h2,h3⟩,⟨h3,⟨_,_,k6.mono List.prefix_rfl h2⟩,fun i hi=>?_⟩,rfl⟩
      have hi:i < x.a.length:=hi
      obtain ⟨v1,hv1⟩:=mh (l:=V1) (k:=i) (by rw [k3,List.length_nil];omega)
      obtain ⟨v2,q1,b1,_⟩:=(k5.vr.trans h2) i v1 hv1
      exact ⟨v2,q1,b1.trans (k4 i v1 (Nat.zero_le _) hv1)⟩
   · cases h
     exact absurd e c
def OI (s:jO):Prop:=s.c.length=s.a.b.length∧∀ (k:Nat) (fn:lI),s.a.b[k]?=some fn→∃ V,s.c[k]?=some V∧FW s.a.a s.b V (yX s.a.b) k fn
theorem Qe {l:List lI} {k:Nat} {fn fn':lI} (h:l[k]?=some fn) (hp:fn'.a=fn.a):yX (l.set k fn')=yX l:=by
 unfold yX
 rw [List.map_set]
 exact set_self (by rw [List.getElem?_map,h,hp];rfl)
theorem EI {fu:Nat} {p:jR} (hp:Q0 5000 p):∀ (n:Nat) (i:Nat) (a:List kV) (b c d:Int) (e:List lI) (vs:List (List jA)) (g:List kK) (h:List Int) (j:Int) (a':List kV) (b' c' d':Int) (e':List lI) (vs':List (List jA)) (g':List kK) (h':List Int),
  e.length=p.b.length→vs.length=i→i≤p.b.length→(∀ (k:Nat) (fn:lI),k < i→e[k]?=some fn→∃ V,vs[k]?=some V∧FW a g V (yX e) k fn)→(∀ (k:Nat),i≤k→e[k]?=p.b[k]?)→
  nE fu p n i a b c d e vs g h=some (.go (j,a',b',c',d',e',vs',g',h'))→d'=0→OI ⟨⟨a',e'⟩,vs',g'⟩
 | 0,_,_,_,_,_,_,_,_,_,_,_,_,_,_,_,_,_,_,_,_,_,_,_,h,_=>by cases h
 | n+1,i,a,b,c,d,e,vs,g,h,j,a',b',c',d',e',vs',g',h',h1,h2,h3,h4,h5,hm,hd=>by
  have hlen:=hp.e
  rw [nE] at hm
  rcases jS hm with ⟨hi,hm⟩|⟨hi,hm⟩
  · rcases jS hm with ⟨he,hm⟩|⟨he,hm⟩
    · obtain ⟨r,hr,hm⟩:=bs hm
      obtain ⟨_,rfl⟩:=vJ hr
      obtain ⟨fn,hfn,hm⟩:=bs hm
      rw [xR] at hfn
      obtain ⟨⟨fn',S'⟩,hF,hm⟩:=bs hm
      rw [pl] at hm
      obtain ⟨q,hq,hm⟩:=bs hm
      obtain ⟨w,hw,hm⟩:=bs hm
      rw [lQ (by omega) (by omega)] at hm
      have hwd:Wd ⟨⟨⟨a,e⟩,vs ++ [[]],g⟩,(i:Int),h,c,d⟩ []:=⟨by dsimp only;rw [xR,← h2,List.getElem?_append_right (Nat.le_refl _),Nat.sub_self];rfl,fun x hx=>by cases hx⟩
      by_cases e1:S'.e=0
      · obtain ⟨V',k1,k2,k3⟩:=Mq hF hwd (hp.el fn (List.mem_of_getElem? hfn)) e1
        obtain ⟨q2,hq2,hql,rfl⟩:=uY hw
        obtain rfl:i=q2:=by omega
        have hpg:S'.a.a=⟨a,e⟩:=k1.pg
        have hPF:S'.a.a.b=e:=by rw [hpg]
        have hPR:S'.a.a.a=a:=by rw [hpg]
        have hei:e[i]?=some fn:=(h5 i (Nat.le_refl _)).trans hfn
        have hps:yX (e.set i fn')=yX e:=Qe hei k3
        have hvl:S'.a.c.length=i+1:=by rw [k1.vl];dsimp only;rw [ko,h2]
        rw [show ((i:Int)+1)=((i+1:Nat):Int) from by omega] at hm
        refine EI hp n (i+1) _ _ _ _ _ _ _ _ j a' b' c' d' e' vs' g' h' (by rw [List.length_set,hPF];exact h1) hvl (by omega) (fun k fk hk hfk=>?_) (fun k hk=>?_) hm hd
        · rw [hPF] at hfk
          rw [hPR,hPF,hps]
          by_cases hki:k=i
          · subst hki
            rw [List.getElem?_set_self (by rw [h1];omega)] at hfk
            cases hfk
            have:=k1.v
            dsimp only at this
            rw [xR] at this
            exact ⟨V',this,k2⟩
          · rw [List.getElem?_set_ne (by omega)] at hfk
            obtain ⟨V,hV,hW⟩:=h4 k fk (by omega) hfk
            have:=k1.vs k (by dsimp only;omega)
            dsimp only at this
            exact ⟨V,by rw [this,List.getElem?_append_left (kI hV)];exact hV,hW.mono k1.k⟩
        · rw [hPF,List.getElem?_set_ne (by omega)]
          exact h5 k (by omega)
      · exfalso
        cases n with
        | zero=>cases hm
        | succ n=>
          rw [nE] at hm
          rcases jS hm with ⟨_,hm⟩|⟨_,hm⟩
          · rw [if_neg e1] at hm
            cases hm
            exact e1 hd
          · cases hm
            exact e1 hd
    · cases hm
      exact absurd hd he
  · cases hm
    have hi2:i=p.b.length:=by omega
    refine ⟨by dsimp only;omega,fun k fn hk=>?_⟩
    have:=kI hk
    exact h4 k fn (by dsimp only at this;omega) hk
theorem M7 {fu:Nat} {p:jR} {o:jO × Int × Int}:∀ (n:Nat) (i:Int) (a:List kV) (b c d:Int) (e:List lI) (vs:List (List jA)) (g:List kK) (h:List Int),nE fu p n i a b c d e vs g h=some (.out o)→False
 | 0,_,_,_,_,_,_,_,_,_,h=>by cases h
 | n+1,_,_,_,_,_,_,_,_,_,h=>by
  rw [nE] at h
  rcases jS h with ⟨_,h⟩|⟨_,h⟩
  · rcases jS h with ⟨_,h⟩|⟨_,h⟩
    · obtain ⟨_,_,h⟩:=bs h
      obtain ⟨_,_,h⟩:=bs h
      obtain ⟨⟨_,_⟩,_,h⟩:=bs h
      rw [pl] at h
      obtain ⟨_,_,h⟩:=bs h
      obtain ⟨_,_,h⟩:=bs h
      exact M7 n _ _ _ _ _ _ _ _ _ h
    · cases h
  · cases h
theorem RH {fu:Nat} {p:jR} (hf:5002≤fu) (hp:Q0 5000 p) {s:jO} {ln:Int} (h:sD fu p=some (s,ln,0)):OI s:=by
 unfold sD at h
 obtain ⟨r,hr,h⟩:=bs h
 obtain ⟨_,rfl⟩:=vJ hr
 obtain ⟨S,hS,h⟩:=bs h
 have hs:=(NA hf (S:=⟨⟨⟨p.a,[] ++ p.b⟩,[],[]⟩,0,[],0,0⟩) hp.recs hp.fields hp.e).of' hS
 obtain ⟨v,hv,h⟩:=bs h
 cases v with
 | out o=>exact (M7 _ _ _ _ _ _ _ _ _ _ hv).elim
 | go r=>
  obtain ⟨j,a',b',c',d',e',vs',g',h'⟩:=r
  replace h:=gi h
  simp only [pl] at h
  have ho:=hs.out
  rcases jS h with ⟨c,h⟩|⟨c,h⟩
  · cases h;exact absurd rfl c
  · cases h
    rw [ho] at hv
    exact EI hp fu 0 _ _ _ _ _ _ _ _ _ _ _ _ _ _ _ _ _ rfl rfl (Nat.zero_le _) (fun k fn hk=>by omega) (fun k _=>rfl) hv (Decidable.not_not.1 c)
end Go.Proofs.Ytfglbdkfnphjgaa
set_option linter.unusedVariables false
set_option linter.unusedSimpArgs false
namespace Go.Proofs.Ytfglbdkfnphjgaa
open Go.RowKit Go.Fw
section
variable {s:jO}
def Zb (s:jO) (q:Int):Prop:=0≤q∧∃ i,s.b[q.toNat]?=some i∧i.c≠1∧i.c≠2∧i.c≠3∧i.c≠6∧i.c≠10
def Jv (s:jO) (d:Nat) (S:Sg):Prop:=∀ e x,S.hist.getLast?=some e→e.a.length=d→e.a[0]?=some x→Zb s x.a→∀ y ∈ x.c,y.a=S.a.ws.getD y.g.toNat []
def Pair (s:jO) (e e':kR):Prop:=∀ x y,e.a.length=e'.a.length→e.a[0]?=some x→e'.a[0]?=some y→Zb s x.a→∀ a ∈ x.c,∀ b ∈ y.c,a.g=b.g→a.a=b.a
def GH (s:jO) (h:List kR):Prop:=∀ i e e',h[i]?=some e→h[i+1]?=some e'→Pair s e e'
theorem GH.snoc {h:List kR} {e':kR} (H:GH s h) (k:∀ e,h.getLast?=some e→Pair s e e'):GH s (h ++ [e']):=fun i e e2 h1 h2=>by
 by_cases hi:i+1 < h.length
 · rw [List.getElem?_append_left (by omega)] at h1
   rw [List.getElem?_append_left hi] at h2
   exact H i e e2 h1 h2
 · have:=kI h2
   rw [ko] at this
   have hi2:i+1=h.length:=by omega
   rw [List.getElem?_append_right (by omega),hi2,Nat.sub_self] at h2
   cases h2
   rw [List.getElem?_append_left (by omega)] at h1
   refine k e ?_
   rw [List.getLast?_eq_getElem?,← hi2]
   exact h1
def New (d:Nat) (f:Int) (a b:Nat) (t:List kR):Prop:=∀ e ∈ t,d≤e.a.length∧(e.a.length=d→∃ x,e.a[0]?=some x∧x.j=f∧(a:Int)≤x.a∧x.a < (b:Int))
theorem New.wk {d:Nat} {f:Int} {a b a' b':Nat} {t:List kR} (h:New d f a b t) (h1:a'≤a) (h2:b≤b'):New d f a' b' t:=fun e he=>by
 obtain ⟨k1,k2⟩:=h e he
 refine ⟨k1,fun z=>?_⟩
 obtain ⟨x,x1,x2,x3,x4⟩:=k2 z
 exact ⟨x,x1,x2,by omega,by omega⟩
theorem New.app {d:Nat} {f:Int} {a b:Nat} {t u:List kR} (h:New d f a b t) (k:New d f a b u):New d f a b (t ++ u):=fun e he=>by
 rcases List.mem_append.1 he with he | he
 · exact h e he
 · exact k e he
structure Po (s:jO) (d a b:Nat) (S S':Sg):Prop where
 hst:GH s S'.hist
 j:Jv s d S'
 f:S'.a.f=S.a.f
 t:∃ t,S'.hist=S.hist ++ t∧New d S.a.f a b t
theorem Po.rfl' {d a b:Nat} {S:Sg} (h:GH s S.hist) (j:Jv s d S):Po s d a b S S:=⟨h,j,rfl,[],by rw [List.append_nil],fun e he=>by cases he⟩
theorem Po.trans {d a b a1 b1 a2 b2:Nat} {S S1 S2:Sg} (h:Po s d a1 b1 S S1) (k:Po s d a2 b2 S1 S2) (h1:a≤a1) (h2:b1≤b) (h3:a≤a2) (h4:b2≤b):Po s d a b S S2:=by
 obtain ⟨t,e1,n1⟩:=h.t
 obtain ⟨u,e2,n2⟩:=k.t
 rw [h.f] at n2
 exact ⟨k.hst,k.j,k.f.trans h.f,t ++ u,by rw [e2,e1,List.append_assoc],(n1.wk h1 h2).app (n2.wk h3 h4)⟩
theorem Po.wk {d a b a1 b1:Nat} {S S1:Sg} (h:Po s d a1 b1 S S1) (h1:a≤a1) (h2:b1≤b):Po s d a b S S1:=by
 obtain ⟨t,e1,n1⟩:=h.t
 exact ⟨h.hst,h.j,h.f,t,e1,n1.wk h1 h2⟩
theorem getD_set_ne {ws:List (List Int)} {i j:Nat} {l:List Int} (h:i≠j):(ws.set i l).getD j []=ws.getD j []:=by
 rw [List.getD_eq_getElem?_getD,List.getD_eq_getElem?_getD,List.getElem?_set_ne h]
theorem TJ {rest:List sJ} {S:Sg} {a b:Nat} (h:GH s S.hist) (j:Jv s (rest.length+1) S) (hab:a < b):Po s (rest.length+1) a b S (JC s rest S (a:Int)):=by
 have hl:(JC s rest S (a:Int)).hist.getLast?=some ⟨((⟨S.a.f,(a:Int),S.a.ws⟩:sJ) :: rest).map (U5 s)⟩:=by unfold JC;rw [List.getLast?_append];rfl
 refine ⟨h.snoc fun e he x y h1 h2 h3 h4 c hc b' hb' hcb=>?_,fun e x he _ hx hp y hy=>?_,rfl,[_],rfl,fun e he=>?_⟩
 · rw [List.map_cons,List.getElem?_cons_zero] at h3
   cases h3
   rw [List.map_cons,List.length_cons,List.length_map] at h1
   have hw:=j e x he h1 h2 h4 c hc
   obtain ⟨v,hv,rfl⟩:=List.mem_map.1 hb'
   rw [hw,hcb]
   rfl
 · rw [hl] at he
   cases he
   rw [List.map_cons,List.getElem?_cons_zero] at hx
   cases hx
   obtain ⟨v,hv,rfl⟩:=List.mem_map.1 hy
   rfl
 · rcases List.mem_singleton.1 he with rfl
   refine ⟨by rw [List.length_map,List.length_cons];exact Nat.le_refl _,fun _=>⟨_,rfl,rfl,Int.le_refl _,?_⟩⟩
   show (a:Int) < b
   omega
variable {N:Nat}
theorem Va {sm:Sm} {M n d:Nat} {K:List kK} {V:List jA} {Ps:List Nat} {f:Int} (hT:∀ S x,M≤S.hist.length→DN s N S→CF n x→kG (sm S x) (fun r=>Nw s N S r.2))
  (hS:∀ S x r a b,M≤S.hist.length→DN s N S→CF n x→S.a.f=f→SW K V Ps f [x] a b→GH s S.hist→Jv s d S→sm S x=some r→Po s d a b S r.2) :
  ∀ (l:List jD) (S:Sg) (r:Pn (Option Int) × Sg) (a b:Nat),M≤S.hist.length→DN s N S→(∀ y ∈ l,CF n y)→S.a.f=f→SW K V Ps f l a b→GH s S.hist→Jv s d S→Gy sm S l=some r→Po s d a b S r.2
 | [],S,r,a,b,_,_,_,_,hw,h,j,h1=>by cases h1;exact .rfl' h j
 | x :: l,S,r,a,b,hM,hG,hl,hf,hw,h,j,h1=>by
  rw [Gy] at h1
  obtain ⟨⟨p1,S1⟩,e1,h1⟩:=bs h1
  have k:=(hT S x hM hG (hl x (.head _))).of' e1
  cases hw with
  | cons hid kd tg ar de tr ca ct bo el nx=>
   rename_i c d'
   have hP:=hS S x _ a d' hM hG (hl x (.head _)) hf (.cons hid kd tg ar de tr ca ct bo el .nil) h j e1
   have h2:=bo.le
   have h3:=el.le
   have h4:=nx.le
   cases p1 with
   | ok o=>
    cases o with
    | none=>
     have hQ:=Va hT hS l S1 r d' b (Nat.le_trans hM k.hp.length_le) k.gd (fun y hy=>hl y (.tail _ hy)) (hP.f.trans hf) nx hP.hst hP.j h1
     exact hP.trans hQ (Nat.le_refl _) h4 (by omega) (Nat.le_refl _)
    | some v=>cases h1;exact hP.wk (Nat.le_refl _) h4
   | _=>cases h1;exact hP.wk (Nat.le_refl _) h4
theorem Pj (hs:CI s) (hw:OI s) {sm:List sJ→Sm} {stk:List sJ} {f:Int} {args:List Int} {hist:List kR} {out:List Int} (h1:hist.length≤N) (h2:out.length≤hist.length) (h3:∀ e ∈ hist,Lu s e)
   (hT:stk.length≤19→∀ S x n,n≤10→hist.length≤S.hist.length→DN s N S→CF n x→kG (sm stk S x) (fun r=>Nw s N S r.2))
   (hS:stk.length≤19→∀ (V:List jA) (f:Nat) S x n r a b,s.c[f]?=some V→n≤10→hist.length≤S.hist.length→DN s N S→CF n x→S.a.f=f→SW s.b V (yX s.a.b) f [x] a b→GH s S.hist→Jv s (stk.length+1) S→sm stk S x=some r→Po s (stk.length+1) a b S r.2)
   (hH:GH s hist) (hL:∀ e,hist.getLast?=some e→e.a.length≤stk.length) {r:Pn Int × List kR × List Int} (e1:BO sm s stk f args hist out=some r) :
   GH s r.2.1∧∃ t,r.2.1=hist ++ t∧∀ e ∈ t,stk.length < e.a.length:=by
 have triv:GH s hist∧∃ t,hist=hist ++ t∧∀ e ∈ t,stk.length < e.a.length:=⟨hH,[],by rw [List.append_nil],fun e he=>by cases he⟩
 unfold BO at e1
 by_cases c:20≤stk.length
 · rw [if_pos c] at e1;cases e1;exact triv
 rw [if_neg c] at e1
 cases hV:ix? s.c f with
 | none=>rw [hV] at e1;cases e1;exact triv
 | some vars=>
 rw [hV] at e1
 obtain ⟨k,rfl,hk⟩:=U2 hV
 have h24:=hs.vn vars (List.mem_of_getElem? hk)
 obtain ⟨p,hp,e1⟩:=bs e1
 have hI:=(Mw vars [] (by simp only [List.length_nil];omega)).of' hp
 cases p with
 | ok ws=>
   obtain ⟨h4,h5⟩:=hI ws rfl
   dsimp only at e1
   cases hA:G7 args 0 ws with
   | ok ws'=>
    simp only [hA] at e1
    cases hF:ix? s.a.b (k:Int) with
    | none=>rw [hF] at e1;cases e1;exact triv
    | some fn=>
     rw [hF] at e1
     obtain ⟨k2,hkk,hk2⟩:=U2 hF
     obtain rfl:k=k2:=by omega
     have hfit:Fit s ⟨(k:Int),0,ws'⟩:=⟨Int.natCast_nonneg k,vars,by dsimp only;rw [Int.toNat_natCast];exact hk,by dsimp only;rw [IX _ _ _ _ hA,h4];rfl,h5⟩
     obtain ⟨⟨p1,S1⟩,q1,e1⟩:=bs e1
     obtain ⟨V,hV2,_,⟨a,b,hSW⟩,_⟩:=hw.2 k fn hk2
     have hR:=Va (M:=hist.length) (n:=10) (d:=stk.length+1) (f:=(k:Int)) (fun S x=>hT (by omega) S x 10 (Nat.le_refl _)) (fun S x r a b=>hS (by omega) V k S x 10 r a b hV2 (Nat.le_refl _)) fn.e ⟨⟨(k:Int),0,ws'⟩,hist,out⟩ _ a b (Nat.le_refl _) ⟨h1,h2,hfit,h3⟩ (hs.fx fn (List.mem_of_getElem? hk2)) rfl hSW hH
      (fun e x he hl=>by have:=hL e he;omega) q1
     cases e1
     obtain ⟨t,e2,hn⟩:=hR.t
     exact ⟨hR.hst,t,e2,fun e he=>(hn e he).1⟩
   | _=>simp only [hA] at e1;cases e1;exact triv
 | _=>cases e1;exact triv
theorem F7 {ev:jB→Option (Pn Int)} {l:List jB} {S:Sg} {β:Type} {k:Int→Option (Pn β × Sg)} {r:Pn β × Sg} (h:one ev l S k=some r):r.2=S ∨ ∃ n,k n=some r:=by
 unfold one at h
 cases l with
 | nil=>cases h;exact .inl rfl
 | cons x l=>
  obtain ⟨p,e,h⟩:=bs h
  cases p with
  | ok n=>exact .inr ⟨n,h⟩
  | _=>cases h;exact .inl rfl
theorem Ni {ev:jB→Option (Pn Int)} {ws:List (List Int)} {l:List jB} {S:Sg} {β:Type} {k:Nat × Nat→Option (Pn β × Sg)} {r:Pn β × Sg} (h:KA ev ws l S k=some r):r.2=S ∨ ∃ n,k n=some r:=by
 unfold KA at h
 cases l with
 | nil=>cases h;exact .inl rfl
 | cons x l=>
  obtain ⟨p,e,h⟩:=bs h
  cases p with
  | ok n=>exact .inr ⟨n,h⟩
  | _=>cases h;exact .inl rfl
theorem Wp (hs:CI s) {rest:List sJ} (hr:∀ g ∈ rest,Fit s g) (hn:rest.length≤19) {fv:Nat} {a b:Nat} (hab:a < b) {M:Nat} {cond:Sg→Option (Pn Int)} {body:Sg→Option (Pn (Option Int) × Sg)} (hc:∀ S,Yes (cond S)) {f:Int}
  (hT:∀ S,M≤S.hist.length→DN s N S→kG (body S) (fun r=>Nw s N S r.2)) (hb:∀ S r,M≤S.hist.length→DN s N S→S.a.f=f→GH s S.hist→Jv s (rest.length+1) S→body S=some r→Po s (rest.length+1) a b S r.2) :
  ∀ (n:Nat) (S:Sg) (r:Pn (Option Int) × Sg),M≤S.hist.length→DN s N S→S.a.f=f→GH s S.hist→Jv s (rest.length+1) S→TM cond body (fun S=>event (jJ fv s) N rest S (a:Int)) n S=some r→Po s (rest.length+1) a b S r.2
 | 0,S,_,_,_,_,_,_,h=>by cases h
 | n+1,S,r,hM,hG,hf,h,j,e1=>by
  rw [TM] at e1
  obtain ⟨p,hp,e1⟩:=bs e1
  cases p with
  | ok v=>
   dsimp only at e1
   by_cases hv:v=0
   · rw [if_pos hv] at e1;cases e1;exact .rfl' h j
   rw [if_neg hv] at e1
   obtain ⟨⟨p1,S1⟩,q1,e1⟩:=bs e1
   have k:=(hT S hM hG).of' q1
   have hP:=hb S _ hM hG hf h j q1
   dsimp only at k hP
   cases p1 with
   | ok o=>
     cases o with
     | none=>
      dsimp only at e1
      rw [Dw hs.vn k.gd.fit hr (by omega)] at e1
      by_cases hN:N≤S1.hist.length
      · rw [if_pos hN] at e1;cases e1;exact hP
      · rw [if_neg hN] at e1
        have k3:=I9 (id:=(a:Int)) k.gd hr hn (by omega)
        have hE:=TJ (rest:=rest) (a:=a) (b:=b) hP.hst hP.j hab
        have hQ:=Wp hs hr hn hab hc hT hb n _ r (Nat.le_trans hM (Nat.le_trans k.hp.length_le k3.hp.length_le)) k3.gd (hP.f.trans hf) hE.hst hE.j e1
        exact (hP.trans hE (Nat.le_refl _) (Nat.le_refl _) (Nat.le_refl _) (Nat.le_refl _)).trans hQ (Nat.le_refl _) (Nat.le_refl _) (Nat.le_refl _) (Nat.le_refl _)
     | some v=>cases e1;exact hP
   | _=>cases e1;exact hP
  | _=>cases e1;exact .rfl' h j
theorem K6 {α:Type} {l t:List α} (h:t≠[]):(l ++ t).getLast?=t.getLast?:=by
 rw [List.getLast?_append]
 cases ht:t.getLast? with
 | none=>exact absurd (List.getLast?_eq_none_iff.1 ht) h
 | some x=>rfl
theorem Yr (hs:CI s) (hw:OI s) (hN:N≤5000) {fv:Nat}:∀ (fu:Nat) (rest:List sJ) (V:List jA) (f:Nat) (S:Sg) (x:jD) (n:Nat) (r:Pn (Option Int) × Sg) (a b:Nat),s.c[f]?=some V→(∀ g ∈ rest,Fit s g)→rest.length≤19→DN s N S→CF n x→n≤10→5001+(N - S.hist.length)≤fu→
  S.a.f=f→SW s.b V (yX s.a.b) f [x] a b→GH s S.hist→Jv s (rest.length+1) S→stM (jJ fv s) s N fu rest S x=some r→Po s (rest.length+1) a b S r.2
 | 0,_,_,_,_,_,_,_,_,_,_,_,_,_,_,_,h,_,_,_,_,_=>by omega
 | fu+1,rest,V,f,S,x,n,r,a,b,hV,hr,hn,h,hx,hn10,hf,hfn,hSW,hH,hJ,e1=>by
  cases n with
  | zero=>exact hx.elim
  | succ n=>
  obtain ⟨x1,x2,x3,x4⟩:=hx
  cases hSW with
  | cons hid kd tg ar de tr ca ct bo el nx=>
  rename_i c d
  have hbd:d=b:=by cases nx;rfl
  subst hbd
  have l1:=bo.le
  have l2:=el.le
  rw [stM,Dw hs.vn h.fit hr (by omega)] at e1
  by_cases hN1:N≤S.hist.length
  · rw [if_pos hN1] at e1
    cases e1
    exact .rfl' hH hJ
  rw [if_neg hN1,hid] at e1
  have k:=I9 (id:=(a:Int)) h hr hn (by omega)
  have hl:(JC s rest S (a:Int)).hist.length=S.hist.length+1:=ko
  have hP:=TJ (rest:=rest) (a:=a) (b:=d) hH hJ (by omega)
  have hlast:(JC s rest S (a:Int)).hist.getLast?=some ⟨((⟨S.a.f,(a:Int),S.a.ws⟩:sJ) :: rest).map (U5 s)⟩:=by unfold JC;rw [List.getLast?_append];rfl
  have hEf:(JC s rest S (a:Int)).a.f=f:=hfn
  have hno:¬ (x.c≠1∧x.c≠2∧x.c≠3∧x.c≠6∧x.c≠10)→¬ Zb s (a:Int):=fun hz hp=>by
    obtain ⟨_,i,hi,hp⟩:=hp
    rw [Int.toNat_natCast,kd] at hi
    cases hi
    exact hz hp
  have hfree:∀ {S':Sg},¬ (x.c≠1∧x.c≠2∧x.c≠3∧x.c≠6∧x.c≠10)→S'.hist=(JC s rest S (a:Int)).hist→Jv s (rest.length+1) S':=fun {S'} hz hh e x he _ hx0 hp=>by
    rw [hh,hlast] at he
    cases he
    rw [List.map_cons,List.getElem?_cons_zero] at hx0
    cases hx0
    exact absurd hp (hno hz)
  refine Po.trans (S1:=JC s rest S (a:Int)) hP ?_ (Nat.le_refl _) (Nat.le_refl _) (Nat.le_refl _) (Nat.le_refl _)
  have hEH:=hP.hst
  have hEJ:=hP.j
  clear hP
  generalize JC s rest S (a:Int)=E at k hl e1 hlast hEf hfree hEH hEJ ⊢
  have hE:=k.gd
  replace e1:(if x.c=1 then _ else _)=some r:=e1
  have hfE:∀ g ∈ E.a :: rest,Fit s g:=fun g hg=>by
    rcases List.mem_cons.1 hg with rfl | hg
    · exact hE.fit
    · exact hr g hg
  have hfu:∀ m,E.hist.length≤m→5001+(N - m)≤fu:=fun m hm=>by clear tr de ca ct;omega
  have iht:∀ (rest:List sJ),(∀ g ∈ rest,Fit s g)→rest.length≤19→∀ S' x n,n≤10→E.hist.length≤S'.hist.length→DN s N S'→CF n x→kG (stM (jJ fv s) s N fu rest S' x) (fun r=>Nw s N S' r.2):=
    fun rest hr hn S' x n h10 hl' hG hX=>RA hs hN fu rest S' x n hr hn hG hX h10 (hfu _ hl')
  have ihm:∀ (rest:List sJ),(∀ g ∈ rest,Fit s g)→rest.length≤19→∀ (V:List jA) (f:Nat) S' x n r a b,s.c[f]?=some V→n≤10→E.hist.length≤S'.hist.length→DN s N S'→CF n x→S'.a.f=f→SW s.b V (yX s.a.b) f [x] a b→GH s S'.hist→Jv s (rest.length+1) S'→stM (jJ fv s) s N fu rest S' x=some r→Po s (rest.length+1) a b S' r.2:=
    fun rest hr hn V f S' x n r a b hV h10 hl' hG hX hf' hsw hh hj he=>Yr hs hw hN fu rest V f S' x n r a b hV hr hn hG hX h10 (hfu _ hl') hf' hsw hh hj he
  have hlsT:∀ (l:List jD) (S':Sg),E.hist.length≤S'.hist.length→DN s N S'→(∀ y ∈ l,CF n y)→kG (Gy (stM (jJ fv s) s N fu rest) S' l) (fun r=>Nw s N S' r.2):=
    SA (M:=E.hist.length) (n:=n) fun S' x=>iht rest hr hn S' x n (by omega)
  have hls:∀ (l:List jD) (S':Sg) r a b,E.hist.length≤S'.hist.length→DN s N S'→(∀ y ∈ l,CF n y)→S'.a.f=f→SW s.b V (yX s.a.b) f l a b→GH s S'.hist→Jv s (rest.length+1) S'→Gy (stM (jJ fv s) s N fu rest) S' l=some r→Po s (rest.length+1) a b S' r.2:=
    Va (M:=E.hist.length) (n:=n) (fun S' x=>iht rest hr hn S' x n (by omega)) fun S' x r a b hM hG hX hf'=>ihm rest hr hn V f S' x n r a b hV (by omega) hM hG hX hf'
  have hcallS:∀ {k2:Int→Sg→Option (Pn (Option Int) × Sg)},(x.c=3 ∨ x.c=6)→(∀ v S' r,S'.hist.length ≥ E.hist.length→k2 v S'=some r→r.2.hist=S'.hist∧r.2.a.f=S'.a.f)→
      CZ (stM (jJ fv s) s N fu) s rest fu E x k2=some r→Po s (rest.length+1) a d E r.2:=fun {k2} h36 hk2 e1=>by
    unfold CZ at e1
    obtain ⟨p,hp,e1⟩:=bs e1
    cases p with
    | ok l=>
      obtain ⟨⟨p1,h',o'⟩,q1,e1⟩:=bs e1
      have hC:=Pj hs hw hE.hl hE.ol hE.ev (fun h19=>iht (E.a :: rest) hfE h19) (fun h19 V f S' x n r a b hV' h10 hM hG hX hf' hsw hh hj he=>ihm (E.a :: rest) hfE h19 V f S' x n r a b hV' h10 hM hG hX hf' hsw hh hj he) hEH
        (fun e he=>by rw [hlast] at he;cases he;rw [List.length_map,List.length_cons,List.length_cons];exact Nat.le_refl _) q1
      obtain ⟨c1,t,c2,c3⟩:=hC
      dsimp only at c1 c2
      have base:∀ {S':Sg},S'.hist=h'→S'.a.f=E.a.f→Po s (rest.length+1) a d E S':=fun {S'} z1 z2=>by
        refine ⟨by rw [z1];exact c1,fun e x' he hlen hx0 hp=>?_,z2,t,by rw [z1];exact c2,fun e he=>⟨by have:=c3 e he;rw [List.length_cons] at this;omega,fun z=>by have:=c3 e he;rw [List.length_cons] at this;omega⟩⟩
        by_cases ht:t=[]
        · exact hfree (S':=S') (by omega) (by rw [z1,c2,ht,List.append_nil]) e x' he hlen hx0 hp
        · rw [z1,c2,K6 ht] at he
          have:=c3 e (List.mem_of_getLast? he)
          rw [List.length_cons] at this
          omega
      cases p1 with
      | ok v=>
        have hq:=hk2 v _ _ (by dsimp only;rw [c2,List.length_append];omega) e1
        exact base hq.1 hq.2
      | _=>cases e1;exact base rfl rfl
    | _=>cases e1;exact .rfl' hEH hEJ
  by_cases c1:x.c=1
  · rw [if_pos c1] at e1
    cases hi:ix? E.a.ws x.g with
    | none=>rw [hi] at e1;cases e1;exact .rfl' hEH hEJ
    | some l=>rw [hi] at e1;cases e1;exact ⟨hEH,hfree (by omega) rfl,rfl,[],by rw [List.append_nil],fun e he=>by cases he⟩
  rw [if_neg c1] at e1
  by_cases c2:x.c=2
  · rw [if_pos c2] at e1
    rcases Ni e1 with e2 | ⟨q,e1⟩
    · rw [e2];exact .rfl' hEH hEJ
    rcases F7 e1 with e2 | ⟨v,e1⟩
    · rw [e2];exact .rfl' hEH hEJ
    cases e1
    exact ⟨hEH,hfree (by omega) rfl,rfl,[],by rw [List.append_nil],fun e he=>by cases he⟩
  rw [if_neg c2] at e1
  by_cases c3:x.c=3
  · rw [if_pos c3] at e1
    refine hcallS (.inl c3) (fun v S' r _ e=>?_) e1
    rcases jS e with ⟨_,e⟩|⟨_,e⟩
    · cases e;exact ⟨rfl,rfl⟩
    · rcases Ni e with e2 | ⟨q,e⟩
      · rw [e2];exact ⟨rfl,rfl⟩
      · cases e;exact ⟨rfl,rfl⟩
  rw [if_neg c3] at e1
  by_cases c4:x.c=4
  · rw [if_pos c4] at e1
    rcases F7 e1 with e2 | ⟨v,e1⟩
    · rw [e2];exact .rfl' hEH hEJ
    by_cases hv0:v≠0
    · rw [if_pos hv0] at e1
      exact (hls _ _ _ _ _ (Nat.le_refl _) hE x3 hEf bo hEH hEJ e1).wk (by omega) (by omega)
    · rw [if_neg hv0] at e1
      exact (hls _ _ _ _ _ (Nat.le_refl _) hE x4 hEf el hEH hEJ e1).wk (by omega) (by omega)
  rw [if_neg c4] at e1
  have hev:∀ ws,∀ y ∈ x.a,Yes (CG fu ws y):=fun ws y hy=>O4 fu 5000 ws y (x2.2 y hy) (by omega)
  by_cases c5:x.c=5
  · rw [if_pos c5] at e1
    refine Wp (M:=E.hist.length) (f:=(f:Int)) hs hr hn (show a < d by omega) (fun S=>?_) (fun S' hM hG=>hlsT _ _ hM hG x3) (fun S' r hM hG hf' hh hj e=>(hls _ _ _ _ _ hM hG x3 hf' bo hh hj e).wk (by omega) (by omega)) fu E r (Nat.le_refl _) hE hEf hEH hEJ e1
    cases hA:x.a with
    | nil=>exact .mk trivial
    | cons y l=>exact hev _ y (by rw [hA];exact .head _)
  rw [if_neg c5] at e1
  by_cases c6:x.c=6
  · rw [if_pos c6] at e1
    by_cases cf:x.j≠be
    · rw [if_pos cf] at e1
      exact hcallS (.inr c6) (fun v S' r _ e=>by cases e;exact ⟨rfl,rfl⟩) e1
    · rw [if_neg cf] at e1
      rcases F7 e1 with e2 | ⟨v,e1⟩
      · rw [e2];exact .rfl' hEH hEJ
      · cases e1;exact .rfl' hEH hEJ
  rw [if_neg c6] at e1
  by_cases c7:x.c=7
  · rw [if_pos c7] at e1
    rcases F7 e1 with e2 | ⟨v,e1⟩
    · rw [e2];exact .rfl' hEH hEJ
    · cases e1;exact .rfl' hEH hEJ
  rw [if_neg c7] at e1
  by_cases c8:x.c=8
  · rw [if_pos c8] at e1
    obtain ⟨⟨p1,S1⟩,q1,e1⟩:=bs e1
    have k2:=(hlsT _ _ (Nat.le_refl _) hE x3).of' q1
    have hB:=hls _ _ _ _ _ (Nat.le_refl _) hE x3 hEf bo hEH hEJ q1
    dsimp only at k2 hB
    cases p1 with
    | Eu v=>
      dsimp only at e1
      cases hi:ix? S1.a.ws x.g with
      | none=>rw [hi] at e1;cases e1;exact hB.wk (by omega) (by omega)
      | some row=>
        rw [hi] at e1
        cases row with
        | nil=>cases e1;exact hB.wk (by omega) (by omega)
        | cons z row=>
          obtain ⟨q,hq,hql⟩:=U2 hi
          have hG2:DN s N { S1 with a:={ S1.a with ws:=S1.a.ws.set x.g.toNat (v :: row) } }:=⟨k2.gd.hl,k2.gd.ol,by
           rw [show x.g.toNat=q from by omega]
           exact Fit.put (st:=S1.a.st) k2.gd.fit hql rfl,k2.gd.ev⟩
          obtain ⟨t,ht,hnew⟩:=hB.t
          have hJ2:Jv s (rest.length+1) { S1 with a:={ S1.a with ws:=S1.a.ws.set x.g.toNat (v :: row) } }:=fun e x' he hlen hx0 hp y hy=>by
           rw [hB.j e x' he hlen hx0 hp y hy]
           refine (getD_set_ne fun hc=>?_).symm
           have hst:x'.j=(f:Int)∧x'.a < (c:Int):=by
            by_cases ht0:t=[]
            · rw [ht,ht0,List.append_nil,hlast] at he
              cases he
              rw [List.map_cons,List.getElem?_cons_zero] at hx0
              cases hx0
              refine ⟨hfn,?_⟩
              show (a:Int) < c
              omega
            · rw [ht,K6 ht0] at he
              obtain ⟨_,hn2⟩:=hnew e (List.mem_of_getLast? he)
              obtain ⟨x2',y1,y2,_,y4⟩:=hn2 hlen
              rw [hx0] at y1
              cases y1
              exact ⟨y2.trans hEf,y4⟩
           obtain ⟨gs,g1,g2,g3⟩:=k2.gd.ev e (List.mem_of_getLast? he)
           cases gs with
           | nil=>rw [g1] at hx0;cases hx0
           | cons g gs=>
            rw [g1,List.map_cons,List.getElem?_cons_zero] at hx0
            cases hx0
            obtain ⟨v0,hv0,rfl⟩:=List.mem_map.1 hy
            obtain ⟨j0,hj0⟩:=List.getElem?_of_mem hv0
            obtain ⟨_,_,V',u,hV',u0,u1,hu,hu1,_⟩:=KP hj0
            have hgf:g.f=(f:Int):=hst.1
            rw [hgf,Int.toNat_natCast,hV] at hV'
            cases hV'
            obtain ⟨cv,hcv,_,hcf⟩:=tr c8
            obtain ⟨q3,hq3,hq4⟩:=kJ hcv
            have:x.g.toNat=v0.toNat:=hc
            rw [← this,hq3,Int.toNat_natCast,hq4] at hu
            cases hu
            have hlt:g.st < (c:Int):=hst.2
            omega
          have hC:=hls x.h { S1 with a:={ S1.a with ws:=S1.a.ws.set x.g.toNat (v :: row) } } r c d k2.hp.length_le hG2 x4 (hB.f.trans hEf) el hB.hst hJ2 e1
          have hB2:Po s (rest.length+1) (a+1) c E { S1 with a:={ S1.a with ws:=S1.a.ws.set x.g.toNat (v :: row) } }:=⟨hB.hst,hJ2,hB.f,t,ht,hnew⟩
          exact hB2.trans hC (by omega) (by omega) (by omega) (Nat.le_refl _)
    | _=>cases e1;exact hB.wk (by omega) (by omega)
  rw [if_neg c8] at e1
  by_cases c9:x.c=9
  · rw [if_pos c9] at e1
    rcases F7 e1 with e2 | ⟨v,e1⟩
    · rw [e2];exact .rfl' hEH hEJ
    · obtain ⟨o,_,e1⟩:=bs e1
      cases e1
      exact ⟨hEH,hEJ,rfl,[],by rw [List.append_nil],fun e he=>by cases he⟩
  rw [if_neg c9] at e1
  by_cases c10:x.c=10
  · rw [if_pos c10] at e1;cases e1;exact .rfl' hEH hEJ
  · rw [if_neg c10] at e1;cases e1;exact .rfl' hEH hEJ
end
end Go.Proofs.Ytfglbdkfnphjgaa
