/- Lemmas. -/
import Derived.Test.YtdkneekpdecjbaaGreatZ16
import Derived.Test.YtdkneekpdecjbaaGreatZ12
import Derived.Test.YtdkneekpdecjbaaGreatZ15
import Derived.Test.YtdkneekpdecjbaaGreatZ3
import Derived.Test.YtdkneekpdecjbaaGreatZ4
set_option linter.all false
namespace Go.Proofs.YtdkneekpdecjbaaGreat
open Go.RowKit Go.Fw Go.Proofs.Tryz
section
variable {fu:Nat}{f:fV->List jC->Option (List jC × fV)}{g:fV->jC->Option (jC × fV)}
def Yb' (f:fV->List jC->Option (List jC × fV)):Prop:=∀ S l l' S' V,f S l=some (l',S')->Wd S V->OS S V->(∀ y ∈ l,∃ n,Ef 5000 n y)->S'.e=0-> ∃ V',ix S'.a.c S.f=some V'/\Uo S V S' V'/\S'.b=S.b/\∀ VF,Fin' VF V' S'.b S'.a.b.length->Sc VF S.b l' S.a.b.length S'.a.b.length
def Ys' (g:fV->jC->Option (jC × fV)):Prop:=∀ S x x' S' V,g S x=some (x',S')->Wd S V->OS S V->(∃ n,Ef 5000 n x)->S'.e=0-> ∃ V',ix S'.a.c S.f=some V'/\Uo S V S' V'/\S'.b=(if x'.b=1 then S.b ++ [x'.f] else S.b)/\∀ VF,Fin' VF V' S'.b S'.a.b.length->Sc VF S.b [x'] S.a.b.length S'.a.b.length
theorem Mi (hg:Xs g)(hy:Ys' g){S0:fV}{V0:List iA}:∀ (l:List jC)(k:Nat)(out:List jC)(S:fV)(V:List iA)(o:List jC)(a1:List jX)(a2 a3 a4:Int)(a5:List kC)(a6:List (List iA))(a7:List jR)(a8:List Int),
  S.f=S0.f->Wd S V->Uo S0 V0 S V->S.b=KE S0.b out->(∀ VF,Fin' VF V S.b S.a.b.length->Sc VF S0.b out S0.a.b.length S.a.b.length)->(∀ y ∈ l,∃ n,Ef 5000 n y)->
  lJ fu f g l k out S.a.a.a S.f S.c S.e S.a.a.b S.a.c S.a.b S.b=some (.go (o,a1,a2,a3,a4,a5,a6,a7,a8))->a4=0->
  ∃ V',Wd ⟨⟨⟨a1,a5⟩,a6,a7⟩,a2,a8,a3,a4⟩ V'/\a2=S0.f/\Uo S0 V0 ⟨⟨⟨a1,a5⟩,a6,a7⟩,a2,a8,a3,a4⟩ V'/\a8=KE S0.b o/\∀ VF,Fin' VF V' a8 a7.length->Sc VF S0.b o S0.a.b.length a7.length
 | [],_,out,S,V,_,_,_,_,_,_,_,_,_,hf,hw,hU,hO,hS,_,h,e=>by cases h;exact ⟨V,hw,hf,hU,hO,hS⟩
 | u :: r,k,out,S,V,o,a1,a2,a3,a4,a5,a6,a7,a8,hf,hw,hU,hO,hS,hl,h,e=>by
  rw [lJ] at h;obtain ⟨c,h⟩|⟨_,h⟩:=jI h
  · cases h;exact absurd e c
  obtain ⟨⟨x,S1⟩,h1,h⟩:=bs h;rw [pl] at h;obtain ⟨w,hw2,h⟩:=bs h;obtain ⟨_,rfl⟩:=pY hw2;by_cases he:S1.e=0
  · obtain ⟨V1,k1,k2⟩:=hg _ _ _ _ V h1 hw (hl u (.head _)) he;obtain ⟨V1',j1,j2,j3,j4⟩:=hy _ _ _ _ V h1 hw hU.os (hl u (.head _)) he;have hv:=k1.v;rw [j1] at hv;cases hv;refine Mi hg hy r _ _ S1 V1 o a1 a2 a3 a4 a5 a6 a7 a8 (k1.f.trans hf) k1.wd (hU.trans j2) ?_ (fun VF hF=>?_) (fun y hy=>hl y (.tail _ hy)) h e
    · rw [RU,<-hO,j3];rfl
    · refine (hS VF (hF.back j2 hU.os)).app ?_;rw [<-hO];exact j4 VF hF
  · have:=Br _ _ _ _ _ _ _ _ _ _ _ _ he h;cases this;exact absurd e he
theorem MK {c:Int}{d:List jR}{m:Int}(hm:wr ((d.length:Int) - 1)=m):∀ (l:List Int)(k:Nat)(a a':List (List iA))(V:List iA),mZ fu f g c d l k a=some (.go a')→ix a c=some V→l.Pairwise (· < ·)→
  ∃ V',ix a' c=some V'/\V'.length=V.length/\(∀ n:Nat,(n:Int) ∉ l->V'[n]?=V[n]?)/\∀ n:Nat,(n:Int) ∈ l->∃ v w,V[n]?=some v/\V'[n]?=some w/\w.e=v.e/\w.d=m
 | [],_,a,a',V,h,hV,_=>by cases h;exact ⟨V,hV,rfl,fun _ _=>rfl,fun n hn=>by cases hn⟩
 | e :: r,k,a,a',V,h,hV,hp=>by
  rw [mZ] at h;obtain ⟨t,ht,h⟩:=bs h;rw [hV] at ht;cases ht;obtain ⟨b,hb,h⟩:=bs h;obtain ⟨V1,hV1,h⟩:=bs h;obtain ⟨vs,hvs,h⟩:=bs h;obtain ⟨q,rfl,hql,rfl⟩:=sQ hV1;rw [tX] at hb;obtain ⟨p,rfl,hpl,rfl⟩:=sQ hvs;obtain ⟨p1,p2⟩:=Cr.1 hp;obtain ⟨V',h1,h2,h3,h4⟩:=MK hm r _ _ a' _ h (by rw [tX,DJ hpl]) p2;have hq:(q:Int) ∉ r:=fun z=>by have:=p1 _ z;omega
  refine ⟨V',h1,h2.trans wR,fun n hn=>?_,fun n hn=>?_⟩
  · rw [h3 n fun z=>hn (.tail _ z),zV fun z=>hn (by rw [z];exact .head _)]
  · by_cases hnq:n=q
    · subst hnq;exact ⟨b,{ b with d:=wr ((d.length:Int) - 1) },hb,by rw [h3 n hq];exact DJ hql,rfl,hm⟩
    · obtain z | z:=nM.1 hn
      · omega
      · obtain ⟨v,w,z1,z2⟩:=h4 n z;rw [zV (fun z=>hnq z.symm)] at z1;exact ⟨v,w,z1,z2⟩
theorem QI {S S1 S2:fV}{V V1 V2:List iA}{O N:List Int}(hO:S.b=O)(os:OS S V)(k:Uo S V S1 V1)(ho:S1.b=O ++ N)(h2:S2.b=O)(hst:S2.a.b=S1.a.b)(hlt:N≠[]->1<=S1.a.b.length)(hl:V2.length=V1.length)(h3:∀ n:Nat,(n:Int) ∉ N->V2[n]?=V1[n]?)(h4:∀ n:Nat,(n:Int) ∈ N->∃ v w,V1[n]?=some v/\V2[n]?=some w/\w.e=v.e/\w.d=(S1.a.b.length:Int) - 1) :Uo S V S2 V2/\∀ VF,Fin' VF V2 O S2.a.b.length->Fin' VF V1 (O ++ N) S1.a.b.length:=by
 have hN:∀ n:Nat,(n:Int) ∈ N->V.length<=n:=fun n hn=>by obtain ⟨N',e,hN'⟩:=k.op;rw [ho,hO] at e;have:=List.append_cancel_left e;subst this;have:=hN' _ hn;omega
 have hs:N.Pairwise (· < ·):=by have:=k.os.up;rw [ho] at this;exact (List.pairwise_append.1 this).2.1
 have hnO:∀ n:Nat,(n:Int) ∈ N->(n:Int) ∉ O:=fun n hn hc=>by have:=os.lt n (by rw [hO];exact hc);have:=hN n hn;omega
 refine ⟨⟨by rw [hl];exact k.ln,fun n hn=>?_,fun n v h1 hv=>?_,by rw [hst];exact k.st,⟨[],by rw [h2,hO];simp,fun j hj=>by cases hj⟩,?_⟩,fun VF hF=>⟨fun n hn=>?_,fun n hn hc=>?_,fun n w hn hw=>?_⟩⟩
 · rw [h3 n fun c=>by have:=hN n c;omega];exact k.sm n hn
 · by_cases c:(n:Int) ∈ N
   · obtain ⟨v',w,a1,a2,a3,_⟩:=h4 n c;rw [hv] at a2;cases a2;have:=k.nw n v' h1 a1;omega
   · rw [h3 n c] at hv;exact k.nw n v h1 hv
 · refine ⟨by rw [h2,<-hO];exact os.up,fun j hj=>?_,fun n v hv=>?_,by rw [hst];exact k.os.sl⟩
   · rw [h2,<-hO] at hj;have:=os.lt j hj;have:=k.ln;omega
   · rw [h2,hst];by_cases c:(n:Int) ∈ N
     · obtain ⟨v',w,a1,a2,a3,a4⟩:=h4 n c;rw [hv] at a2;cases a2;have:=(k.os.fr n v' a1).1;exact ⟨by omega,.inr (by omega)⟩
     · rw [h3 n c] at hv;obtain ⟨b1,b2⟩:=k.os.fr n v hv;refine ⟨b1,?_⟩;rw [ho] at b2;obtain b2 | b2:=b2
       · obtain b2 | b2:=qg.1 b2
         · exact .inl b2
         · exact absurd b2 c
       · exact .inr b2
 · obtain hn | hn:=qg.1 hn
   · obtain ⟨v,w,a1,a2⟩:=hF.op n hn;rw [h3 n fun c=>hnO n c hn] at a1;rw [hst] at a2;exact ⟨v,w,a1,a2⟩
   · obtain ⟨v,w,a1,a2,a3,a4⟩:=h4 n hn;have:=hF.cl n (ku a2) (hnO n hn);rw [a2] at this;exact ⟨v,w,a1,this,a3,by omega⟩
 · rw [hF.cl n (by rw [hl];exact hn) fun c=>hc (List.mem_append_left _ c)];exact h3 n fun c=>hc (List.mem_append_right _ c)
 · have:=hF.nx n w (by rw [hl];exact hn) hw;rw [hst] at this;exact this
theorem Z4 (hg:Xs g)(hy:Ys' g):Yb' (oh fu f g):=by
 intro S l l' S' V h hw hos hl e;unfold oh at h;obtain ⟨v,hv,h⟩:=bs h;cases v with
 | out o=>exact (Dy l hv).elim
 | go r=>
 obtain ⟨o,a1,a2,a3,a4,a5,a6,a7,a8⟩:=r;replace h:=gi h;simp only [pl] at h;obtain ⟨rest,hr,h⟩:=bs h;obtain ⟨v2,hv2,h⟩:=bs h;cases v2 with
 | out q=>exact (zO _ _ _ _ hv2).elim
 | go q=>
  replace h:=gi h;obtain ⟨pre,hpre,h⟩:=bs h;obtain ⟨op2,hop,h⟩:=bs h;obtain ⟨_,rfl⟩:=pY hop;cases h;by_cases hS:S.e=0
  · obtain ⟨V1,w1,hf,k1,k2,k3⟩:=Mi hg hy l 0 [] S V _ _ _ _ _ _ _ _ _ rfl hw (.rfl' hos) rfl (fun VF _=>.nil) hl hv e;obtain ⟨N,hN⟩:=IL (l:=l') (O:=S.b);rw [<-k2] at hN;have hpr:pre=S.b:=by
     obtain ⟨i,j,hi,hj,_,_,rfl⟩:=DU hpre;obtain rfl:i=0:=by omega
     obtain rfl:j=S.b.length:=by omega
     rw [hN];simp
    have hre:rest=N:=by
     obtain ⟨i,j,hi,hj,_,_,rfl⟩:=DU hr;obtain rfl:i=S.b.length:=by omega
     obtain rfl:j=a8.length:=by omega
     rw [hN];simp
    subst hpr hre;have hsl:a7.length<=1000000000:=k1.os.sl;have hNs:rest.Pairwise (· < ·):=by have:=k1.os.up;dsimp only at this;rw [hN] at this;exact (List.pairwise_append.1 this).2.1
    obtain ⟨V2,h1,h2,h3,h4⟩:=MK (m:=(a7.length:Int) - 1) (by unfold wr;rw [Tp (by omega) (by omega)]) _ _ _ _ V1 hv2 w1.v hNs;obtain ⟨q1,q2⟩:=QI (S2:=⟨⟨⟨a1,a5⟩,q,a7⟩,a2,S.b,a3,a4⟩) rfl hos k1 hN rfl rfl (fun hne=>by
     obtain ⟨j,hj⟩:=List.exists_mem_of_ne_nil _ hne;obtain ⟨N',e2,hN'⟩:=k1.op;dsimp only at e2;rw [hN] at e2;have:=List.append_cancel_left e2;subst this;have:=hN' j hj;have:=k1.os.lt j (by dsimp only;rw [hN];exact List.mem_append_right _ hj);obtain ⟨v,hv⟩:=lZ (l:=V1) (k:=j.toNat) (by omega);have b1:=k1.nw j.toNat v (by omega) hv;have b2:=(k1.os.fr j.toNat v hv).1;dsimp only at b1 b2 ⊢;omega) h2 h3 h4
    refine ⟨V2,by dsimp only;rw [hf] at h1;exact h1,by simpa using q1,by simp,fun VF hF=>?_⟩;refine k3 VF ?_;rw [hN];exact q2 VF (by simpa using hF)
  · have:=Br _ _ _ _ _ _ _ _ _ _ _ _ hS hv;cases this;exact absurd e hS
end
section
variable {fu:Nat}{f:fV->List jC->Option (List jC × fV)}{g:fV->jC->Option (jC × fV)}
theorem acI {S:fV}{x:jC}{r8:List jR}{x':jC}{S':fV}{V:List iA}(h8:x.m<=8)(h:oD fu f g S x r8=some (.out (x',S')))(hw:Wd (inS S r8) V)(e:S'.e=0) :∃ v:iA,v.e=wr ((S.a.b.length:Int)+1)/\x'.f=(V.length:Int)/\S'.a.b=r8/\S'.b=S.b ++ [(V.length:Int)]/\ix S'.a.c S.f=some (V ++ [v]):=by
 unfold oD at h;obtain ⟨hk,h⟩|⟨_,h⟩:=jI h
 · obtain ⟨v,hv,h⟩:=bs h;obtain ⟨k,c,n,rfl,hvo⟩|⟨y,S2,rfl,h2⟩:=adx h8 hv
   · replace h:=gi h;simp only [pl] at h;obtain ⟨⟨j,k⟩,hd,h⟩:=bs h;rw [pl] at h;cases h;obtain ⟨rfl,_,k3,k4,k5⟩:=JJ hd hw e;exact ⟨_,rfl,rfl,k3,k4,k5⟩
   · cases h;exact absurd e h2
 · obtain ⟨_,h⟩|⟨_,h⟩:=jI h
   · obtain ⟨_,h⟩|⟨_,h⟩:=jI h
     · obtain ⟨_,_,h⟩:=bs h;obtain ⟨_,h⟩|⟨_,h⟩:=jI h
       · obtain ⟨_,_,h⟩:=bs h;cases h
       · cases h
     · cases h
   · cases h
theorem agK {i:Nat}{S:fV}{V:List iA}{A:List (List iA)}(hw:Wd S V)(h:pI fu f g (i:Int) S=some (.go A))(e:S.e=0)(h1:1<=S.a.b.length)(h2:S.a.b.length<=1000000000) :∃ V',ix A S.f=some V'/\V'.length=V.length/\(∀ n:Nat,(n:Int) ∉ [(i:Int)]->V'[n]?=V[n]?)/\∀ n:Nat,(n:Int) ∈ [(i:Int)]->∃ v w,V[n]?=some v/\V'[n]?=some w/\w.e=v.e/\w.d=(S.a.b.length:Int) - 1:=by
 unfold pI at h;rw [lF e] at h;obtain ⟨t,ht,h⟩:=bs h;rw [hw.v] at ht;cases ht;obtain ⟨b,hb,h⟩:=bs h;obtain ⟨V',hV',h⟩:=bs h;obtain ⟨vs,hvs,h⟩:=bs h;cases h;obtain ⟨k,hk,hkl,rfl⟩:=sQ hV';obtain rfl:i=k:=by omega
 rw [tX] at hb;refine ⟨_,(U6 hw hvs).1,wR,fun n hn=>zV fun z=>hn (by rw [z];exact .head _),fun n hn=>?_⟩;have hn:=List.mem_singleton.1 hn;obtain rfl:n=i:=by omega
 exact ⟨b,{ b with d:=wr ((S.a.b.length:Int) - 1) },hb,List.getElem?_set_self hkl,rfl,by unfold wr;dsimp only;rw [Tp (by omega) (by omega)]⟩
theorem Fin'.abP {VF V:List iA}{O:List Int}{v:iA}{c:Nat}(h:Fin' VF (V ++ [v]) (O ++ [(V.length:Int)]) c)(hO:∀ j ∈ O,j < (V.length:Int))(hv:v.e=(c:Int)):Fin' VF V O c:=by
 refine ⟨fun n hn=>?_,fun n hn ho=>?_,fun n w hn hw=>?_⟩
 · obtain ⟨v',w,h1,h2⟩:=h.op n (List.mem_append_left _ hn);have:=hO _ hn;rw [zQ (by omega)] at h1;exact ⟨v',w,h1,h2⟩
 · rw [h.cl n (by rw [kD];omega) fun z=>?_,zQ hn];obtain z | z:=qg.1 z
   · exact ho z
   · have:=List.mem_singleton.1 z;omega
 · by_cases c1:n=V.length
   · subst c1;obtain ⟨v',w',h1,h2,h3,h4⟩:=h.op V.length (List.mem_append_right _ (.head _));rw [EX (nD _),Nat.sub_self] at h1;cases h1;rw [hw] at h2;cases h2;omega
   · exact h.nx n w (by rw [kD];omega) hw
theorem agt (hE:Eb f)(hf:Xb f)(hy:Yb' f){h' c j:Int}{d k:BA}{l:Int}{m:List jD}{p:BA}{t:Int}{u:List jC}{v:List jD}{w:List jC}{S0 S:fV}{V0 V:List iA}(hw:Wd S V)(k0:Uo S0 V0 S V)(os0:OS S0 V0)(ho0:S.b=S0.b)(hlt:S0.a.b.length < S.a.b.length)(hl:∀ y ∈ u,∃ n,Ef 5000 n y){x':jC}{S':fV}(h:oG fu f g h' c j d k l m p t u v w S=some (.out (x',S')))(e:S'.e=0) :∃ V',ix S'.a.c S.f=some V'/\Uo S0 V0 S' V'/\S'.b=S0.b/\∀ VF,Fin' VF V' S'.b S'.a.b.length->Fin' VF V S.b S.a.b.length/\Sc VF (S0.b ++ [x'.f]) x'.i S.a.b.length S'.a.b.length:=by
 unfold oG at h;obtain ⟨h8,h⟩|⟨h8,h⟩:=jI h
 · obtain ⟨he,h⟩|⟨he,h⟩:=jI h
   · obtain ⟨B,hB,h⟩:=bs h;obtain ⟨_,rfl⟩:=pY hB;obtain ⟨⟨i,S1⟩,hd,h⟩:=bs h;rw [pl] at h;obtain ⟨⟨z,S2⟩,hz,h⟩:=bs h;rw [pl] at h;obtain ⟨q,hq,h⟩:=bs h;cases q with
     | out o=>exact (abQ hq).elim
     | go A=>
      replace h:=gi h;cases h;have e2:S2.e=0:=e;by_cases e1:S1.e=0
      · obtain ⟨u1,_,_⟩:=D5 hd hw (.inl ⟨rfl,rfl⟩) e1;obtain ⟨rfl,f1,s1,o1,v1⟩:=JJ hd hw e1;have hwl:=k0.os.sl;have os1:OS S1 (V ++ [⟨d,1,-1,1,false,(S.a.b.length:Int),0⟩]):=k0.os.decl (by rw [s1];exact nD _) o1 (by rw [s1];exact vP _) (by rw [s1];exact hwl);obtain ⟨V2,u2,_⟩:=hf _ _ _ _ _ hz u1.wd hl e2;obtain ⟨V2',a1,a2,a3,a4⟩:=hy _ _ _ _ _ hz u1.wd os1 hl e2;have hv2:=u2.v;rw [a1] at hv2;obtain rfl:V2'=V2:=Kj hv2;have k1:Uo S0 V0 S1 (V ++ [⟨d,1,-1,1,false,(S.a.b.length:Int),0⟩]):=by
         refine ⟨by have:=k0.ln;rw [kD];omega,fun n hn=>?_,fun n x hn hx=>?_,by rw [s1];exact k0.st,⟨[(V.length:Int)],by rw [o1,ho0],fun j hj=>by rw [List.mem_singleton.1 hj];have:=k0.ln;omega⟩,os1⟩
         · rw [zQ (Nat.lt_of_lt_of_le hn k0.ln)];exact k0.sm n hn
         · by_cases c1:n < V.length
           · rw [zQ c1] at hx;exact k0.nw n x hn hx
           · have hn2:n=V.length:=by have:=ku hx;rw [kD] at this;omega
             subst hn2;rw [EX (nD _),Nat.sub_self] at hx;cases hx;dsimp only;omega
        have k2:=k1.trans a2;have hst:=a2.st;rw [s1] at hst;obtain ⟨V3,h1,h2,h3,h4⟩:=agK u2.wd hq e2 (by omega) a2.os.sl;obtain ⟨q1,q2⟩:=QI (S2:=⟨⟨S2.a.a,A,S2.a.b⟩,S2.f,S0.b,S2.c,S2.e⟩) (N:=[(V.length:Int)]) rfl os0 k2 (by rw [a3,o1,ho0]) rfl rfl (fun _=>by omega) h2 h3 h4;rw [show S2.f=S.f from u2.f.trans f1] at h1;refine ⟨V3,h1,by rw [BZ,ho0];exact q1,by rw [BZ,ho0],fun VF hF=>?_⟩;rw [BZ,ho0] at hF;have hF2:=q2 VF hF;have hF3:Fin' VF V2' S2.b S2.a.b.length:=by rw [a3,o1,ho0];exact hF2
        have hF4:=hF3.back a2 os1;rw [o1,s1] at hF4;have hS:=a4 VF hF3;rw [o1,s1,ho0] at hS;exact ⟨hF4.abP (fun j hj=>(k0.os.lt j hj).2) rfl,hS⟩
      · exact absurd (hE _ _ _ _ hz e2) e1
   · cases h
 · cases h
theorem acn (hE:Eb f)(hf:Xb f)(hy:Yb' f):Ys' (sH fu f g):=by
 intro S x x' S' V h hw os ⟨n,hx⟩ e;cases n with
 | zero=>exact hx.elim
 | succ n=>
 obtain ⟨h1,h2,h3,h4,hsh⟩:=hx;have hbo:∀ y ∈ x.d,∃ n,Ef 5000 n y:=fun y hy=>⟨n,h3.2 y hy⟩;have hel:∀ y ∈ x.i,∃ n,Ef 5000 n y:=fun y hy=>⟨n,h4.2 y hy⟩;unfold sH at h;obtain ⟨_,h⟩|⟨_,h⟩:=jI h
 · obtain ⟨q,hq,h⟩:=bs h;cases h;exact absurd e (sK (by decide) hq).2
 obtain ⟨r8,hr8,h⟩:=bs h;obtain ⟨hr8l,rfl⟩:=pY hr8;have hsl:S.a.b.length+1<=1000000000:=hr8l;have hw8:Wd (inS S (S.a.b ++ [⟨S.f,x.b,x.g⟩])) V:=⟨hw.v,hw.vo⟩;obtain ⟨v,hv,h⟩:=bs h;cases v with
 | out o=>
   cases h;obtain ⟨hk,V2,q,_,hx',_⟩:=WX hsh.len hv hw8 e;obtain ⟨v,k1,k2,k3,k4,k5⟩:=acI hsh.len hv hw8 e;rw [l8 (by omega) (by omega)] at k1;obtain ⟨t1,t2,t3,t4,t5⟩:=hsh.decl hk;have hl3:S'.a.b.length=S.a.b.length+1:=by rw [k3,kD]
   have hU:Uo S V S' (V ++ [v]):=by
     refine ⟨by rw [kD];omega,fun n hn=>zQ hn,fun n y hn hy=>?_,by omega,⟨_,k4,fun j hj=>by rw [List.mem_singleton.1 hj];exact vP _⟩,os.decl (by omega) k4 (by rw [k1];omega) (by omega)⟩;have hn2:n=V.length:=by have:=ku hy;rw [kD] at this;omega
     subst hn2;rw [EX (nD _),Nat.sub_self] at hy;cases hy;omega
   have hk':x'.b=1:=by rw [hx'];exact hk
   have hb':x'.d=[]:=by rw [hx'];exact t3
   have he':x'.i=[]:=by rw [hx'];exact t4
   refine ⟨_,k5,hU,by rw [lF hk',k4,k2],fun VF hF=>?_⟩;refine .cons (c:=S.a.b.length+1) (d:=S.a.b.length+1) (by rw [hx']) (Ub hF hU os (by omega)) (by rw [hx'];dsimp only;rw [t2];intro y hy;cases hy) (by rw [hx'];dsimp only;rw [t1];intro y hy;cases hy) (by rw [hb'];exact .nil) (by rw [he'];exact .nil) (by rw [hl3];exact .nil)
 | go s=>
   obtain ⟨a1,a2,a3,a4,a5,a6,a7,a8⟩:=s;replace h:=gi h;simp only [pl] at h;obtain ⟨m1,m2,m3⟩:=abg h1.1 hsh.len hv;obtain ⟨⟨T,S1⟩,hT,h⟩:=bs h;rw [pl] at h;obtain ⟨k1,k2,k3⟩:=(Hg fu).2 _ _ _ _ _ V hT (m1.wd hw8);obtain ⟨v,hv2,h⟩:=bs h;obtain ⟨S2,cl,rfl,k4,k5⟩:=afH ((m1.trans k1).wd hw8) hv2;replace h:=gi h;simp only [pl] at h;obtain ⟨⟨A,S3⟩,hA,h⟩:=bs h;rw [pl] at h;have m4:=(m1.trans k1).trans k4;obtain ⟨k6,k7,k8⟩:=(Hg fu).2 _ _ _ _ _ V hA (m4.wd hw8);have m6:=m4.trans k6;obtain ⟨⟨B,S4⟩,hB,h⟩:=bs h;rw [pl] at h;have hea:S3.e=0->∀ y ∈ A,EO S.b y:=fun e3 y hy=>by
     have:=(Qi fu).2 _ _ _ _ _ V hA (m4.wd hw8) e3 y hy
     rwa [m4.op] at this
   have het:S3.e=0->∀ y ∈ T,EO S.b y:=fun e3 y hy=>by
     have:=(Qi fu).2 _ _ _ _ _ V hT (m1.wd hw8) (k4.e (k6.e e3)) y hy
     rwa [m1.op] at this
   have hst:S3.a.b.length=S.a.b.length+1:=by rw [m6.out];exact kD
   have hop:S3.b=S.b:=m6.op;have hf3:S3.f=S.f:=m6.f;have os3:OS S3 V:=os.grow (by omega) hop (by omega);have u3:Uo S V S3 V:=⟨nD _,fun _ _=>rfl,fun n y hn hy=>by have:=ku hy;omega,by omega,⟨[],by rw [hop];simp,fun j hj=>by cases hj⟩,os3⟩;obtain ⟨v,hv3,h⟩:=bs h;by_cases e4:S4.e=0
   · obtain ⟨V4,n1,_⟩:=hf _ _ _ _ _ hB (m6.wd hw8) hbo e4;obtain ⟨V4',b1,b2,b3,b4⟩:=hy _ _ _ _ _ hB (m6.wd hw8) os3 hbo e4;have hv4:=n1.v;rw [b1] at hv4;cases hv4;have u4:=u3.trans b2;have hst4:=b2.st;rw [hop] at b3;cases v with
     | go r=>
      replace h:=gi h;obtain ⟨⟨E,S5⟩,hE2,h⟩:=bs h;rw [pl] at h;cases h;obtain ⟨V5,c1,c2,c3,c4⟩:=hy _ _ _ _ _ hE2 n1.wd u4.os hel e;rw [b3] at c3;have h8:x.b≠8:=by
        obtain ⟨_,h8⟩|⟨i,z,S6,hh,_⟩:=adK hE hf n1.wd hel hv3
        · exact h8 e4
        · cases hh
      have hst5:=c2.st;refine ⟨V5,by rw [<-hf3,<-n1.f];exact c1,u4.trans c2,by rw [kQ m2];exact c3,fun VF hF=>?_⟩;have hF4:=hF.back c2 u4.os;have hF3:=hF4;have hB4:=b4 VF hF4;rw [hop,hst] at hB4;have hC:=c4 VF hF;rw [b3] at hC;exact .cons rfl (Ub hF (u4.trans c2) os (by omega)) (hea n1.e) (het n1.e) hB4 (by dsimp only;rw [if_neg h8];exact hC) (by dsimp only;rw [if_neg m2];exact .nil)
     | out o=>
      obtain ⟨y',S5⟩:=o;have hx8:=adK hE hf n1.wd hel hv3;cases h;obtain ⟨V5,c1,c2,c3,c4⟩:=agt hE hf hy n1.wd u4 os b3 (by omega) hel hv3 e;obtain ⟨hh,_⟩|⟨i,z,S6,hh,h8,_⟩:=hx8
      · cases hh
      cases hh;have hst5:=c2.st;refine ⟨V5,by rw [<-hf3,<-n1.f];exact c1,c2,by rw [kQ m2];exact c3,fun VF hF=>?_⟩;obtain ⟨hF4,hC⟩:=c4 VF hF;have hB4:=b4 VF hF4;rw [hop,hst] at hB4;have hlt5:S.a.b.length < S'.a.b.length:=by have:=hC.le;omega
      exact .cons rfl (Ub hF c2 os hlt5) (hea n1.e) (het n1.e) hB4 (by dsimp only;rw [if_pos h8];exact hC) (by dsimp only;rw [if_neg m2];exact .nil)
   · exfalso;unfold oG at hv3;have hg2:v=.go ():=by
      obtain ⟨_,hv3⟩|⟨_,hv3⟩:=jI hv3
      · rw [kQ e4] at hv3;cases hv3;rfl
      · cases hv3;rfl
     subst hg2;replace h:=gi h;obtain ⟨⟨E,S5⟩,hE2,h⟩:=bs h;rw [pl] at h;cases h;exact e4 (hE _ _ _ _ hE2 e)
end
theorem MZ:∀ fu:Nat,Yb' (qm fu)∧Ys' (vY fu)
 | 0=>⟨fun _ _ _ _ _ h=>(by cases h),fun _ _ _ _ _ h=>(by cases h)⟩
 | fu+1=>⟨Z4 (BD fu).2.2 (MZ fu).2,acn (BD fu).1 (BD fu).2.1 (MZ fu).1⟩
def mW (n:Nat):List Int:=(List.range n).map fun i:Nat=>(i:Int)
theorem SN {n k:Nat}:(k:Int) ∈ mW n ↔ k < n:=by unfold mW;rw [List.mem_map];exact ⟨fun ⟨a,h1,h2⟩=>by have:=List.mem_range.1 h1;omega,fun h=>⟨k,List.mem_range.2 h,rfl⟩⟩
theorem Ch {n:Nat}:mW n ++ [(n:Int)]=mW (n+1):=by unfold mW;rw [List.range_succ,List.map_append];rfl
theorem YX {fu:Nat}{m:kC}:∀ (l:List BA)(k:Nat)(S:fV) b1 b2 b3 b4 b5 b6 b7 b8,S.e≠0->kT fu m l k S.b S.a.a.a S.f S.c S.e S.a.a.b S.a.c S.a.b=some (.go (b1,b2,b3,b4,b5,b6,b7,b8))->b5≠0:=fun l=>by
 induction l with
 | nil=>intro k S b1 b2 b3 b4 b5 b6 b7 b8 h1 h2;cases h2;exact h1
 | cons y l ih=>
  intro k S b1 b2 b3 b4 b5 b6 b7 b8 h1 h2;rw [kT] at h2;obtain ⟨⟨j,S2⟩,h3,h2⟩:=bs h2;rw [pl] at h2;refine ih _ S2 _ _ _ _ _ _ _ _ (fun z=>?_) h2;unfold nL at h3;obtain ⟨⟨o,c⟩,_,h3⟩:=bs h3;rw [pl] at h3;obtain ⟨t,ht,h3⟩:=bs h3;rw [lF h1] at h3;cases h3;exact h1 z
theorem Ta {fu:Nat}{m:kC}:∀ (l:List BA)(k:Nat)(S:fV)(V:List iA)(b1:List Int)(b2:List jX)(b3 b4 b5:Int)(b6:List kC)(b7:List (List iA))(b8:List jR),Wd S V→OS S V→S.b=mW V.length→
  kT fu m l k S.b S.a.a.a S.f S.c S.e S.a.a.b S.a.c S.a.b=some (.go (b1,b2,b3,b4,b5,b6,b7,b8))->b5=0->
  ∃ V',Wd ⟨⟨⟨b2,b6⟩,b7,b8⟩,b3,b1,b4,b5⟩ V'/\OS ⟨⟨⟨b2,b6⟩,b7,b8⟩,b3,b1,b4,b5⟩ V'/\b1=mW V'.length/\b3=S.f/\V'.length=V.length+l.length
 | [],_,S,V,_,_,_,_,_,_,_,_,hw,os,ho,h,e=>by cases h;exact ⟨V,hw,os,ho,rfl,rfl⟩
 | u :: r,k,S,V,b1,b2,b3,b4,b5,b6,b7,b8,hw,os,ho,h,e=>by
  rw [kT] at h;obtain ⟨⟨j,S1⟩,h1,h⟩:=bs h;rw [pl] at h;by_cases e1:S1.e=0
  · obtain ⟨k1,_,_⟩:=D5 h1 hw (.inl ⟨rfl,rfl⟩) e1;obtain ⟨_,f1,s1,o1,_⟩:=JJ h1 hw e1;have hl1:S1.a.b.length=S.a.b.length:=by rw [s1]
    have hsl:=os.sl;obtain ⟨V',q1,q2,q3,q4,q5⟩:=Ta r _ S1 _ b1 b2 b3 b4 b5 b6 b7 b8 k1.wd (os.decl (by omega) o1 (by rw [hl1];exact vP _) (by omega)) (by rw [o1,ho,kD,Ch]) h e;exact ⟨V',q1,q2,q3,q4.trans f1,by rw [q5,kD,uM];omega⟩
  · exact absurd e (YX _ _ _ _ _ _ _ _ _ _ _ e1 h)
theorem RN {fu:Nat}{S:fV}(hsl:S.a.b.length≤1000000000):∀ (l:List BA)(k:Nat)(a a':List (List iA))(V:List iA),l6 fu S l k a=some (.go a')→ix a S.f=some V→
  ∃ V',ix a' S.f=some V'/\V'.length=V.length/\(∀ n:Nat,n < k\/k+l.length<=n->V'[n]?=V[n]?)/\∀ n:Nat,k<=n->n < k+l.length->∃ v w,V[n]?=some v/\V'[n]?=some w/\w.e=v.e/\w.d=(S.a.b.length:Int) - 1
 | [],k,a,a',V,h,hV=>by cases h;exact ⟨V,hV,rfl,fun _ _=>rfl,fun n h1 h2=>by simp at h2;omega⟩
 | e :: r,k,a,a',V,h,hV=>by
  rw [l6] at h;obtain ⟨t,ht,h⟩:=bs h;rw [hV] at ht;cases ht;obtain ⟨b,hb,h⟩:=bs h;obtain ⟨V1,hV1,h⟩:=bs h;obtain ⟨vs,hvs,h⟩:=bs h;obtain ⟨q,hq,hql,rfl⟩:=sQ hV1;obtain rfl:k=q:=by omega
  rw [tX] at hb;obtain ⟨p,hp,hpl,rfl⟩:=sQ hvs;obtain ⟨V',h1,h2,h3,h4⟩:=RN hsl r _ _ a' _ h (by rw [hp,tX,DJ hpl]);rw [uM];refine ⟨V',h1,h2.trans wR,fun n hn=>?_,fun n hn1 hn2=>?_⟩
  · rw [h3 n (by omega),zV (by omega)]
  · by_cases hnk:n=k
    · subst hnk;exact ⟨b,{ b with d:=wr ((S.a.b.length:Int) - 1) },hb,by rw [h3 n (by omega)];exact List.getElem?_set_self hql,rfl,by unfold wr;dsimp only;rw [Tp (by omega) (by omega)]⟩
    · obtain ⟨v,w,z1,z2⟩:=h4 n (by omega) (by omega);rw [zV (by omega)] at z1;exact ⟨v,w,z1,z2⟩
def FS (V:List iA)(fn:kC):Prop:=fn.a.length<=4/\∃ a b,Sc V (mW fn.a.length) fn.d a b
theorem Tw {fu:Nat}{S S':fV}{x x':kC}(h:og fu S x=some (x',S'))(hw:Wd S [])(hsl:S.a.b.length<=1000000000)(hx:FOk 5000 x)(e:S'.e=0):S'.a.b.length<=1000000000/\∃ V',ix S'.a.c S.f=some V'/\FS V' x':=by
 unfold og at h;obtain ⟨_,h⟩|⟨h4p,h⟩:=jI h
 · obtain ⟨q,hq,h⟩:=bs h;cases h;exact absurd e (sK (by decide) hq).2
 obtain ⟨v,hv,h⟩:=bs h;cases v with
 | out o=>exact (Ih _ _ _ _ _ _ _ _ _ _ _ hv).elim
 | go s=>
   obtain ⟨a1,a2,a3,a4,a5,a6,a7,a8⟩:=s;replace h:=gi h;simp only [pl] at h;obtain ⟨c,h⟩|⟨c,h⟩:=jI h
   · have hw0:Wd ⟨S.a,S.f,[],S.c,S.e⟩ []:=⟨hw.v,hw.vo⟩;obtain ⟨V1,k1,k2,k3,k4,k5⟩:=Ta x.a 0 ⟨S.a,S.f,[],S.c,S.e⟩ [] _ _ _ _ _ _ _ _ hw0 ⟨.nil,fun j hj=>(by cases hj),fun n v hv=>(by simp at hv),hsl⟩ rfl hv c;obtain ⟨⟨t,S2⟩,ht,h⟩:=bs h;rw [pl] at h;obtain ⟨v,hv2,h⟩:=bs h;cases v with
     | out o=>exact (IX _ _ _ _ hv2).elim
     | go u=>
      replace h:=gi h;cases h;have hbl:∀ y ∈ x.d,∃ n,Ef 5000 n y:=fun y hy=>⟨10,hx.el y hy⟩;obtain ⟨V2,n1,_⟩:=(BD fu).2.1 _ _ _ _ _ ht k1 hbl e;obtain ⟨V2',b1,b2,b3,b4⟩:=(MZ fu).1 _ _ _ _ _ ht k1 k2 hbl e;have hv4:=n1.v;rw [b1] at hv4;obtain rfl:V2'=V2:=Kj hv4;have hf:S2.f=S.f:=n1.f.trans k4;obtain ⟨V3,h1,h2,h3,h4⟩:=RN b2.os.sl _ _ _ _ V2' hv2 (by rw [hf,<-k4];exact b1);rw [hf] at h1;refine ⟨b2.os.sl,V3,h1,by show x.a.length<=4;omega,a8.length,S2.a.b.length,?_⟩;have hpl:a1=mW x.a.length:=by rw [k3,k5,yG,DV]
      dsimp only at b3 b4;rw [<-hpl];refine b4 V3 ⟨fun n hn=>?_,fun n hn ho=>?_,fun n w hn hw=>?_⟩
      · rw [b3,hpl,SN] at hn;obtain ⟨v,w,z1,z2,z3,z4⟩:=h4 n (uL _) (by omega);exact ⟨v,w,z1,z2,z3,by omega⟩
      · rw [b3,hpl,SN] at ho;exact h3 n (.inr (by omega))
      · have:=ku hw;omega
   · cases h;exact absurd e c
def aaf (s:jW):Prop:=∀ (k:Nat)(fn:kC),s.a.b[k]?=some fn->∃ V,s.c[k]?=some V/\FS V fn
theorem LX {fu:Nat}{p:jV}(hp:VG 5000 p):∀ (n i:Nat)(a:List jX)(b c d:Int)(e:List kC)(vs:List (List iA))(g:List jR)(h:List Int)(j:Int)(a':List jX)(b' c' d':Int)(e':List kC)(vs':List (List iA))(g':List jR)(h':List Int),
  g.length<=1000000000->e.length=p.b.length->vs.length=i->i<=p.b.length->(∀ (k:Nat)(fn:kC),k < i->e[k]?=some fn->∃ V,vs[k]?=some V/\FS V fn)->(∀ (k:Nat),i<=k->e[k]?=p.b[k]?)->
  mo fu p n i a b c d e vs g h=some (.go (j,a',b',c',d',e',vs',g',h'))->d'=0->aaf ⟨⟨a',e'⟩,vs',g'⟩
 | 0,_,_,_,_,_,_,_,_,_,_,_,_,_,_,_,_,_,_,_,_,_,_,_,_,h,_=>by cases h
 | n+1,i,a,b,c,d,e,vs,g,h,j,a',b',c',d',e',vs',g',h',hg,h1,h2,h3,h4,h5,hm,hd=>by
  have hlen:=hp.e;rw [mo] at hm;obtain ⟨hi,hm⟩|⟨hi,hm⟩:=jI hm
  · obtain ⟨he,hm⟩|⟨he,hm⟩:=jI hm
    · obtain ⟨r,hr,hm⟩:=bs hm;obtain ⟨_,rfl⟩:=pY hr;obtain ⟨fn,hfn,hm⟩:=bs hm;rw [tX] at hfn;obtain ⟨⟨fn',S'⟩,hF,hm⟩:=bs hm;rw [pl] at hm;obtain ⟨q,hq,hm⟩:=bs hm;obtain ⟨w,hw,hm⟩:=bs hm;rw [l8 (by omega) (by omega)] at hm;have hwd:Wd ⟨⟨⟨a,e⟩,vs ++ [[]],g⟩,(i:Int),h,c,d⟩ []:=⟨by dsimp only;rw [tX,<-h2,List.getElem?_append_right (Nat.le_refl _),Nat.sub_self];rfl,fun x hx=>by cases hx⟩;by_cases e1:S'.e=0
      · obtain ⟨V',k1,k2,k3⟩:=MN hF hwd (hp.el fn (vS hfn)) e1;obtain ⟨g1,V2,b1,b2⟩:=Tw hF hwd hg (hp.el fn (vS hfn)) e1;obtain ⟨q2,hq2,hql,rfl⟩:=sQ hw;obtain rfl:i=q2:=by omega
        have hPF:S'.a.a.b=e:=by rw [k1.pg]
        have hvl:S'.a.c.length=i+1:=by rw [k1.vl];dsimp only;rw [kD,h2]
        rw [show ((i:Int)+1)=((i+1:Nat):Int) from by omega] at hm;refine LX hp n (i+1) _ _ _ _ _ _ _ _ j a' b' c' d' e' vs' g' h' g1 (by rw [wR,hPF];exact h1) hvl (by omega) (fun k fk hk hfk=>?_) (fun k hk=>?_) hm hd
        · rw [hPF] at hfk;by_cases hki:k=i
          · subst hki;rw [DJ (by rw [h1];omega)] at hfk;cases hfk;dsimp only at b1;rw [tX] at b1;exact ⟨V2,b1,b2⟩
          · rw [zV (by omega)] at hfk;obtain ⟨V,hV,hW⟩:=h4 k fk (by omega) hfk;have:=k1.vs k (by dsimp only;omega);dsimp only at this;exact ⟨V,by rw [this,zQ (ku hV)];exact hV,hW⟩
        · rw [hPF,zV (by omega)];exact h5 k (by omega)
      · exfalso;cases n with
        | zero=>cases hm
        | succ n=>
          rw [mo] at hm;obtain ⟨_,hm⟩|⟨_,hm⟩:=jI hm
          · rw [kQ e1] at hm;cases hm;exact e1 hd
          · cases hm;exact e1 hd
    · cases hm;exact absurd hd he
  · cases hm;intro k fn hk;have:=ku hk;exact h4 k fn (by dsimp only at this;omega) hk
theorem aaE {fu:Nat}{p:jV}(hf:5002<=fu)(hp:VG 5000 p){s:jW}{ln:Int}(h:qj fu p=some (s,ln,0)):aaf s:=by
 unfold qj at h;obtain ⟨r,hr,h⟩:=bs h;obtain ⟨_,rfl⟩:=pY hr;obtain ⟨S,hS,h⟩:=bs h;have hs:=(KL hf (S:=⟨⟨⟨p.a,[] ++ p.b⟩,[],[]⟩,0,[],0,0⟩) hp.recs hp.fields hp.e).of' hS;obtain ⟨v,hv,h⟩:=bs h;cases v with
 | out o=>exact (KM _ _ _ _ _ _ _ _ _ _ hv).elim
 | go r=>
  obtain ⟨j,a',b',c',d',e',vs',g',h'⟩:=r;replace h:=gi h;simp only [pl] at h;have ho:=hs.out;obtain ⟨c,h⟩|⟨c,h⟩:=jI h
  · cases h;exact absurd rfl c
  · cases h;rw [ho] at hv;exact LX hp fu 0 _ _ _ _ _ _ _ _ _ _ _ _ _ _ _ _ _ (uL _) rfl rfl (uL _) (fun k fn hk=>by omega) (fun k _=>rfl) hv (Decidable.not_not.1 c)
set_option maxRecDepth 4000
def Mm (a b:Nat)(s s':Lw):Prop:=∀ i:Int,Qp s.blocks i<=Qp s'.blocks i/\Qp s'.blocks i<=Qp s.blocks i+if (a:Int)<=i/\i < b then 1 else 0
theorem Nmk.mm {a b:Nat}{s s':Lw}(h:Nmk s s'):Mm a b s s':=fun i=>by rw [h.2 i];exact ⟨nD _,Nat.le_add_right _ _⟩
theorem Mm.trans {a b c:Nat}{s s1 s2:Lw}(hab:a<=b)(hbc:b<=c)(h:Mm a b s s1)(k:Mm b c s1 s2):Mm a c s s2:=fun i=>by have h:=h i;have k:=k i;split at h <;> split at k <;> split <;> omega
theorem Mm.nl {a b:Nat}{s s1 s2:Lw}(h:Nmk s s1)(k:Mm a b s1 s2):Mm a b s s2:=fun i=>by rw [<-h.2 i];exact k i
theorem Mm.wid {a b d:Nat}{s s1:Lw}(hb:b<=d)(h:Mm a b s s1):Mm a d s s1:=fun i=>by have h:=h i;split at h <;> split <;> omega
inductive Ids:List jC→Nat→Nat→Prop
 | nil (a:Nat):Ids [] a a
 | cons {x:jC} {l:List jC} {a c d b:Nat} (h:x.n=a) (h1:∀ y ∈ x.a,XO y) (h2:∀ y ∈ x.e,XO y) (s1:Ids x.d (a+1) c) (s2:Ids x.i c d) (s3:Ids l d b):Ids (x :: l) a b
theorem Ids.le {l:List jC}{a b:Nat}(h:Ids l a b):a<=b:=by
 induction h with
 | nil=>exact nD _
 | cons _ _ _ _ _ _ i1 i2 i3=>omega
section
variable {α β:Type}{c:LM α}{f:α->LM β}{a b d:Nat}
def Mk1 (a d:Nat)(s s':Lw):Prop:=s.stmt=(a:Int)->Mm a d s s'/\Qp s.blocks a+1<=Qp s'.blocks a
end
theorem k1 {f:Unit->LM Unit}{a d:Nat}(hd:a+1<=d)(k:∀ x,Qt (f x) (Mm (a+1) d)):Qt (I9.bind f) (Mk1 a d):=acU.bind k fun s s1 s2 h1 h2 hs=>by
 refine ⟨fun i=>?_,?_⟩
 · have h:=h1.2 i;have k:=h2 i;rw [hs] at h;split at h <;> split at k <;> split <;> omega
 · have h:=h1.2 a;have k:=h2 a;rw [hs,lF rfl] at h;omega
section
variable {vis:Int->Int->Option (List Int)}{vars:List (List iA)}{st:jC->LM Unit}{fu:Nat}
end
theorem Tm {n:Int}(h:0<=n)(h2:n<=1000000):wr n=n:=by unfold wr;rw [Tp (by omega) (by omega)]
structure afP (src:jW)(B:Nat->Nat):Prop where
 b0:B 0=0
 be:B src.a.b.length=src.b.length
 sm:src.b.length<=1000
 ids:∀ (j:Nat)(fn:kC),src.a.b[j]?=some fn->Ids fn.d (B j) (B (j+1))
 fn:∀ (j i:Nat),j < src.a.b.length->B j<=i->i < B (j+1)->∃ x,src.b[i]?=some x/\x.k=(j:Int)
theorem afP.find {src:jW}{B:Nat→Nat}(h:afP src B){i:Nat}:∀ n,n≤src.a.b.length→i < B n→∃ j,j < n∧B j≤i∧i < B (j+1)
 | 0,_,hi=>by rw [h.b0] at hi;omega
 | n+1,hn,hi=>by
  by_cases c:B n<=i
  · exact ⟨n,by omega,c,hi⟩
  · obtain ⟨j,h1,h2,h3⟩:=h.find (i:=i) n (by omega) (by omega);exact ⟨j,by omega,h2,h3⟩
structure Iv (vars:List (List iA))(v:Bool)(s:Lw):Prop where
 o0:0<=s.ops
 o1:s.ops<=6000
 bk:∀ b ∈ s.blocks,(b.c.length:Int)<=s.ops
 lb:∀ t ∈ s.labs,t.2.length<=200
 vl:v=true->s.vals.isSome=true
 hn:∀ h ∈ s.hnd,h < s.labs.length
 vw:∀ vs,ix? vars s.f=some vs->∀ x ∈ vs,x.a<=8
def Go' (vars:List (List iA))(v:Bool)(s s':Lw):Prop:=Iv vars v s'/\s.labs.length<=s'.labs.length/\s'.f=s.f/\s'.hnd=s.hnd
section
variable {vars:List (List iA)}{v v' v2:Bool}{α β:Type}{c:LM α}{f:α->LM β}{L H n m p:Nat}
def TT (vars:List (List iA))(v v':Bool)(c:LM α)(L H n m:Nat)(Q:α->Nat->Prop):Prop:=∀ s,Iv vars v s->L<=s.labs.length->s.hnd.length<=H->s.pend.length<=n->∃ q,c s=some q/\∀ a s',q=.ok a s'->Go' vars v' s s'/\s'.pend.length<=m/\Q a s'.labs.length
abbrev q0:α->Nat->Prop:=fun _ _=>True
theorem tB {Q:α->Nat->Prop}{Q':β->Nat->Prop}(h:TT vars v v' c L H n m Q)(k:∀ a K,L<=K->Q a K->TT vars v' v2 (f a) K H m p Q'):TT vars v v2 (c.bind f) L H n p Q':=by
 intro s hi hl hh hp;obtain ⟨q,hq,h2⟩:=h s hi hl hh hp;unfold LM.bind;rw [hq];cases q with
 | lim=>exact ⟨_,rfl,fun a s' e=>by cases e⟩
 | rt=>exact ⟨_,rfl,fun a s' e=>by cases e⟩
 | ok a s1=>
  obtain ⟨⟨g1,g2,g3,g4⟩,g5,g6⟩:=h2 a s1 rfl;obtain ⟨q2,hq2,h3⟩:=k a _ (by omega) g6 s1 g1 (nD _) (by rw [g4];exact hh) g5;refine ⟨q2,hq2,fun b s2 e=>?_⟩;obtain ⟨⟨k1,k2,k3,k4⟩,k5,k6⟩:=h3 b s2 e;exact ⟨⟨k1,sO g2 k2,k3.trans g3,k4.trans g4⟩,k5,k6⟩
theorem yj {a:α}{Q:α->Nat->Prop}(h:∀ K,L<=K->Q a K)(hm:n<=m):TT vars v v (oL a) L H n m Q:=fun s hi hl hh hp=>⟨_,rfl,fun b s' e=>by
 cases e;exact ⟨⟨hi,nD _,rfl,rfl⟩,by omega,h _ hl⟩⟩
theorem YN {Q:α->Nat->Prop}:TT vars v v' (lrt (α:=α)) L H n m Q:=fun s _ _ _ _=>⟨_,rfl,fun b s' e=>by cases e⟩
theorem DN {l:List β}{k:β->LM α}{Q:α->Nat->Prop}(h:∀ x ∈ l,TT vars v v' (k x) L H n m Q):TT vars v v' (zG l k) L H n m Q:=by
 cases l with
 | nil=>exact YN
 | cons x l=>exact h x (Ca ..)
theorem adD {l:List β}{k:β->LM α}{Q:α->Nat->Prop}(h:∀ x ∈ l,TT vars v v' (k x) L H n m Q):TT vars v v' (ZY l k) L H n m Q:=by
 cases l with
 | nil=>exact YN
 | cons x l=>
  cases l with
  | nil=>exact YN
  | cons y l=>exact h y (yO _ (Ca ..))
theorem sj {p:Prop}[Decidable p]{a b:LM α}{Q:α->Nat->Prop}(h:p->TT vars v v' a L H n m Q)(k:¬ p->TT vars v v' b L H n m Q):TT vars v v' (if p then a else b) L H n m Q:=by
 split
 · exact h ‹_›
 · exact k ‹_›
theorem La {s s':Lw}(hi:Iv vars v s)(h1:s'.ops=s.ops)(h2:s'.blocks=s.blocks)(h3:s'.labs=s.labs)(h4:s'.vals=s.vals)(h5:s'.hnd=s.hnd)(h6:s'.f=s.f):Go' vars v s s':=
 ⟨⟨by rw [h1];exact hi.o0,by rw [h1];exact hi.o1,by rw [h1,h2];exact hi.bk,by rw [h3];exact hi.lb,by rw [h4];exact hi.vl,by rw [h5,h3];exact hi.hn,by rw [h6];exact hi.vw⟩,by rw [h3];exact nD _,h6,h5⟩
end
theorem FE {α:Type}{a b:List α}(h:a.length+b.length<=1000000000):app a b=some (a ++ b):=by unfold app;rw [lF h]
section
variable {vis:Int->Int->Option (List Int)}{vars:List (List iA)}{v:Bool}{L H n:Nat}
theorem MC {l:List yB}(hl:l.length<=1000):TT vars v v (lop l) L H n n q0:=by
 intro s hi hL hh hp;unfold lop;have h0:=hi.o0;have h1:=hi.o1;have hw:wr (s.ops+l.length)=s.ops+l.length:=by unfold wr;rw [Tp (by omega) (by omega)]
 rw [hw];by_cases c:6000 < s.ops+l.length
 · rw [lF c];exact ⟨_,rfl,fun a s' e=>by cases e⟩
 rw [kQ c];cases hb:ix? s.blocks s.blk with
 | none=>exact ⟨_,rfl,fun a s' e=>by cases e⟩
 | some b=>
   have hm:b ∈ s.blocks:=vS (ix?_at hb);have hbl:=hi.bk b hm;dsimp only;rw [FE (by omega)];refine ⟨_,rfl,fun a s' e=>?_⟩;cases e;refine ⟨⟨⟨by show (0:Int)<=s.ops+l.length;omega,by show s.ops+l.length<=(6000:Int);omega,fun x hx=>?_,hi.lb,hi.vl,hi.hn,hi.vw⟩,nD _,rfl,rfl⟩,hp,trivial⟩;show (x.c.length:Int)<=s.ops+l.length;obtain hx | rfl:=Jw hx
   · have:=hi.bk x hx;omega
   · simp only [F9];omega
theorem GN {o:yB}:TT vars v v (KG o) L H n n q0:=fun s hi hL hh hp=>by have h:=tB (f:=fun (_:Unit)=>oL s.next) (MC (v:=v) (vars:=vars) (L:=L) (H:=H) (n:=n) (l:=[{ o with e:=s.next }]) (by simp)) (fun a K _ _=>yj (Q:=q0) (fun _ _=>trivial) (nD _));exact h { s with next:=wr (s.next+1) } ⟨hi.o0,hi.o1,hi.bk,hi.lb,hi.vl,hi.hn,hi.vw⟩ hL hh hp
theorem Bu {k:Int}:TT vars v v (uy k) L H n n q0:=GN
theorem F8 {k:Int}(hn:n<=1000000):TT vars v v (Gt k) L H n (n+1) q0:=fun s hi hL hh hp=>by unfold Gt;rw [FE (by simp;omega)];refine ⟨_,rfl,fun a s' e=>?_⟩;cases e;exact ⟨La hi rfl rfl rfl rfl rfl rfl,by simp;omega,trivial⟩
theorem Jf:TT vars v v Ik L H (n+1) n q0:=fun s hi hL hh hp=>by
 unfold Ik;split
 · exact ⟨_,rfl,fun a s' e=>by cases e⟩
 · refine ⟨_,rfl,fun a s' e=>?_⟩;cases e;exact ⟨La hi rfl rfl rfl rfl rfl rfl,by simp;omega,trivial⟩
theorem Vj:TT vars v v Kg L H n n q0:=fun s hi hL hh hp=>by
 unfold Kg;split
 · exact ⟨_,rfl,fun a s' e=>by cases e⟩
 · refine ⟨_,rfl,fun a s' e=>?_⟩;cases e;exact ⟨La hi rfl rfl rfl rfl rfl rfl,hp,trivial⟩
theorem IB {p:Pc}{k:Int}:TT vars true true (vB p k) L H n n q0:=fun s hi hL hh hp=>by unfold vB;obtain ⟨l,hl⟩:=Option.isSome_iff_exists.1 (hi.vl rfl);rw [hl];obtain ⟨q,hq,h⟩:=MC (vars:=vars) (v:=true) (L:=L) (H:=H) (n:=n) (l:=[⟨21,0,0,0,0,0,p.1,p.2,⟨2,k,0⟩⟩]) (by simp) { s with vals:=some (yt l p k) } ⟨hi.o0,hi.o1,hi.bk,hi.lb,fun _=>rfl,hi.hn,hi.vw⟩ hL hh hp;exact ⟨q,hq,h⟩
theorem Yd:TT vars v v Tn L H n n q0:=fun s hi hL hh hp=>MC (l:=[⟨20,0,0,0,s.stmt,0,0,0,tY⟩]) (by simp) s hi hL hh hp
theorem UO:TT vars v v I9 L H n n q0:=fun s hi hL hh hp=>MC (l:=[⟨19,0,0,0,s.stmt,0,0,0,tY⟩]) (by simp) s hi hL hh hp
theorem Uj {vs:Option (List iA)}(h:∀ l,vs=some l→∀ x ∈ l,x.a≤8):∀ (l:List Int)(acc:List Pc),acc.length+8 * l.length≤200→∃ r,NK vs l acc=some r∧∀ ps,r=some ps→ps.length≤200
 | [],acc,ha=>⟨_,rfl,fun ps e=>by cases e;simp at ha;exact ha⟩
 | k :: l,acc,ha=>by
  rw [NK];cases hx:vs.bind fun vs=>ix? vs k with
  | none=>exact ⟨_,rfl,fun ps e=>by cases e⟩
  | some x=>
   obtain ⟨l2,hl2,hx⟩:=bs hx;have hw:=h l2 hl2 x (vS (ix?_at hx));simp only [uM] at ha;dsimp only;by_cases c:x.b=3
   · rw [lF c];exact Uj h l acc (by omega)
   · rw [kQ c,FE (by simp;omega)];exact Uj h l _ (by simp;omega)
theorem vV (hV:∀ f st,∃ l,vis f st=some l/\l.length<=25){stm:Int}:TT vars v v (sM vis vars stm) L H n n fun a K=>a < K:=fun s hi hL hh hp=>by
 unfold sM;obtain ⟨l,hl,hlen⟩:=hV s.f stm;rw [hl];obtain ⟨r,hr,hps⟩:=Uj (vs:=ix? vars s.f) hi.vw l [] (by simp;omega);rw [Option.bind_some,hr];cases r with
 | none=>exact ⟨_,rfl,fun a s' e=>by cases e⟩
 | some ps=>
  refine ⟨_,rfl,fun a s' e=>?_⟩;cases e;refine ⟨⟨⟨hi.o0,hi.o1,hi.bk,fun t ht=>?_,hi.vl,fun h hh=>?_,hi.vw⟩,by simp,rfl,rfl⟩,hp,by simp⟩
  · obtain ht | ht:=qg.1 ht
    · exact hi.lb t ht
    · rw [List.mem_singleton.1 ht];exact hps ps rfl
  · have:=hi.hn h hh;simp;omega
theorem Oz {i:Nat}(hi0:i < L):TT vars v v (wQ i) L H n n q0:=fun s hi hL hh hp=>by
 unfold wQ;obtain ⟨t,ht⟩:∃ t,s.labs[i]?=some t:=⟨_,List.getElem?_eq_getElem (by omega)⟩;rw [ht];dsimp only [Option.bind_some];split
 · refine ⟨_,rfl,fun a s' e=>?_⟩;cases e;exact ⟨La hi rfl rfl rfl rfl rfl rfl,hp,trivial⟩
 split
 · exact ⟨_,rfl,fun a s' e=>by cases e⟩
 refine ⟨_,rfl,fun a s' e=>?_⟩;cases e;refine ⟨⟨⟨hi.o0,hi.o1,fun b hb=>?_,fun x hx=>?_,hi.vl,fun h hh=>?_,hi.vw⟩,by simp,rfl,rfl⟩,hp,trivial⟩
 · obtain hb | hb:=qg.1 hb
   · exact hi.bk b hb
   · rw [List.mem_singleton.1 hb];exact hi.o0
 · obtain hx | rfl:=Jw hx
   · exact hi.lb x hx
   · exact hi.lb t (vS ht)
 · have:=hi.hn h hh;simpa using this
end
section
variable {vis:Int->Int->Option (List Int)}{vars:List (List iA)}{v:Bool}{L H n m:Nat}
theorem zJ {i:Nat}{l:List Int}(hi:i < L)(hl:l.length<=10):TT vars true true (yE i l) L H n n fun e _=>e.a.length<=300:=
 tB (Oz hi) fun _ K hK _ s hv hL hh hp=>by obtain ⟨t,ht⟩:∃ t,s.labs[i]?=some t:=⟨_,List.getElem?_eq_getElem (by omega)⟩;obtain ⟨vs,hvs⟩:=Option.isSome_iff_exists.1 (hv.vl rfl);have:=hv.lb t (vS ht);rw [ht,Option.bind_some,hvs,Option.bind_some,FE (by simp;omega)];refine ⟨_,rfl,fun a s' e=>?_⟩;cases e;exact ⟨La hv rfl rfl rfl rfl rfl rfl,hp,by simp;omega⟩
theorem SF:∀ {L:Nat}{l:List Pc}{k:Int}{i:Nat},TT vars true true (yh l k i) L H n n q0
 | _,[],_,_=>yj (fun _ _=>trivial) (nD _)
 | _,p :: l,k,i=>tB IB fun _ K hK _=>SF
theorem YO {s:Lw}{b b':lN}{k:Int}(h:∀ b ∈ s.blocks,(b.c.length:Int)<=s.ops)(hb:ix? s.blocks k=some b)(hE:b'.c=b.c):∀ x ∈ s.blocks.set k.toNat b',(x.c.length:Int)<=s.ops:=fun x hx=>by
 obtain hx | rfl:=Jw hx
 · exact h x hx
 · rw [hE];exact h b (vS (ix?_at hb))
theorem wF {i:Nat}{k:Int}(hi:i < L):TT vars v true (ou i k) L H n n q0:=fun s hv hL hh hp=>by
 obtain ⟨t,ht⟩:∃ t,s.labs[i]?=some t:=⟨_,List.getElem?_eq_getElem (by omega)⟩;unfold ou;rw [ht,Option.bind_some];dsimp only;split
 · exact ⟨_,rfl,fun a s' e=>by cases e⟩
 split
 · exact ⟨_,rfl,fun a s' e=>by cases e⟩
 rename_i b hb;exact (tB (SF (L:=L) (H:=H) (n:=n)) fun _ K hK _ s hv hL hh hp=>⟨_,rfl,fun a s' e=>by
   cases e;exact ⟨La hv rfl rfl rfl rfl rfl rfl,by simp;omega,trivial⟩⟩) { s with blk:=t.1,opn:=true,next:=_,blocks:=s.blocks.set t.1.toNat { b with a:=_ },vals:=some [] } ⟨hv.o0,hv.o1,YO hv.bk hb rfl,hv.lb,fun _=>rfl,hv.hn,hv.vw⟩ hL hh hp
theorem Jv {t:uG}:TT vars v v (lend t) L H n n q0:=fun s hv hL hh hp=>by
 unfold lend;split
 · exact ⟨_,rfl,fun a s' e=>by cases e⟩
 rename_i b hb;refine ⟨_,rfl,fun a s' e=>?_⟩;cases e;exact ⟨⟨⟨hv.o0,hv.o1,YO hv.bk hb rfl,hv.lb,hv.vl,hv.hn,hv.vw⟩,nD _,rfl,rfl⟩,hp,trivial⟩
theorem Gb {i:Nat}(hi:i < L):TT vars true true (xL i) L H n n q0:=fun s hv hL hh hp=>by
 unfold xL;split
 · exact (tB (zJ hi (by simp)) fun _ K hK _=>Jv) s hv hL hh hp
 · exact yj (Q:=q0) (fun _ _=>trivial) (nD _) s hv hL hh hp
theorem PE {k:Int}:TT vars v v (EK k) L H n n q0:=Jv
theorem FY {k:Int}{a b:nO}:TT vars v v (Em k a b) L H n n q0:=Jv
theorem Rs {k:Int}:TT vars true true (xA k) L H n n q0:=fun s hv hL hh hp=>by
 unfold xA;split
 · rename_i h hh2;exact (tB (zJ (L:=s.labs.length) (hv.hn h (List.mem_of_getLast? hh2)) (by simp)) fun _ K hK _=>Jv) s hv (nD _) hh hp
 · exact Jv s hv hL hh hp
theorem XL {k:nO->LM Unit}(h:∀ e K,L<=K->TT vars true true (k e) K H n m q0):TT vars true true (Fy k) L H n m q0:=fun s hv hL hh hp=>by
 unfold Fy;split
 · rename_i h' hh2;exact (tB (zJ (L:=s.labs.length) (hv.hn h' (List.mem_of_getLast? hh2)) (by simp)) fun e K hK _=>h e K (by omega)) s hv (nD _) hh hp
 · exact h _ L (nD _) s hv hL hh hp
theorem H8 {k:Int}(hn:n<=1000000):TT vars v v (Cz k) L H (n+2) (n+1) q0:=tB Jf fun _ _ _ _=>tB Jf fun _ _ _ _=>tB GN fun _ _ _ _=>F8 hn
theorem Qv {i:Nat}(hi:i < L)(hn:n<=1000000):TT vars true true (MX i) L H n n q0:=tB (zJ hi (by simp)) fun e K hK he s hv hL hh hp=>by rw [FE (by omega)];refine ⟨_,rfl,fun a s' e=>?_⟩;cases e;exact ⟨La hv rfl rfl rfl rfl rfl rfl,hp,trivial⟩
theorem NZ {i:Nat}(hi:i < L):TT vars v true (Ja i) L H n n q0:=tB (wF hi) fun _ _ _ _=>Yd
theorem Rj {i:Nat}{k:Int}(hi:i < L):TT vars v true (GY i k) L H n n q0:=fun s hv hL hh hp=>by
 have h:=tB (wF (vars:=vars) (v:=v) (L:=L) (H:=H) (n:=0) (k:=0) hi) fun _ _ _ _=>tB Yd fun _ _ _ _=>tB (Bu (k:=k)) fun c _ _ _=>Rs (k:=c);obtain ⟨q,hq,h2⟩:=h { s with pend:=[] } ⟨hv.o0,hv.o1,hv.bk,hv.lb,hv.vl,hv.hn,hv.vw⟩ hL hh (nD _);have hb:GY i k s=q.then fun _ s'=>some (.ok () { s' with pend:=s.pend }):=by
  have e:((ou i 0 |>.bind fun _=>Tn |>.bind fun _=>uy k |>.bind fun c=>xA c).bind fun _ s'=>some (.ok () { s' with pend:=s.pend })) { s with pend:=[] }=q.then fun _ s'=>some (.ok () { s' with pend:=s.pend }):=by show Option.bind _ _=_;rw [hq];rfl
  rw [<-e];have hba:∀ {α β γ:Type}{mm:LM α}{k:α->LM β}{j:β->LM γ},(mm.bind k).bind j=mm.bind fun a=>(k a).bind j:=fun {α β γ mm k j}=>funext fun s=>by
   unfold LM.bind;cases mm s with
   | none=>rfl
   | some q=>cases q <;> rfl
  rw [hba,show (fun a=>LM.bind (Tn.bind fun _=>(uy k).bind fun c=>xA c) fun _ s'=>some (Lo.ok () { s' with pend:=s.pend }))=fun (_:Unit)=>Tn.bind fun _=>(uy k).bind fun c=>(xA c).bind fun _ s'=>some (.ok () { s' with pend:=s.pend }) from funext fun _=>by rw [hba];congr 1;exact funext fun _=>hba];rfl
 rw [hb];cases q with
 | lim=>exact ⟨_,rfl,fun a s' e=>by cases e⟩
 | rt=>exact ⟨_,rfl,fun a s' e=>by cases e⟩
 | ok a s1=>
  obtain ⟨⟨g1,g2,g3,g4⟩,_⟩:=h2 a s1 rfl;refine ⟨_,rfl,fun a s' e=>?_⟩;cases e;exact ⟨⟨⟨g1.o0,g1.o1,g1.bk,g1.lb,g1.vl,g1.hn,g1.vw⟩,g2,g3,g4⟩,hp,trivial⟩
theorem O3 {β:Type}{k:Nat->LM β}{Q:β->Nat->Prop}{v':Bool}(hV:∀ f st,∃ l,vis f st=some l/\l.length<=25)(h:∀ a K,L<=K->a < K->TT vars v v' (k a) K H n m Q):TT vars v v' (QO vis vars k) L H n m Q:=fun s hv hL hh hp=>(tB (vV hV) h) s hv hL hh hp
theorem Zn (hV:∀ f st,∃ l,vis f st=some l/\l.length<=25)(hn:n<=1000000):TT vars true true (Py vis vars) L H n n q0:=tB Vj fun d _ _ _=>O3 hV fun next K1 h1 hN=>O3 hV fun fault K2 h2 hF=>tB (Qv (by omega) hn) fun _ K3 h3 _=>
 tB (zJ (by omega) (by simp)) fun _ K4 h4 _=>tB FY fun _ K5 h5 _=>tB (Rj (by omega)) fun _ K6 h6 _=>NZ (by omega)
theorem Xq {β:Type}{i:Int}{k:iA->LM β}{Q:β->Nat->Prop}{v':Bool}(h:∀ x,x.a<=8->TT vars v v' (k x) L H n m Q):TT vars v v' (Sm vars i k) L H n m Q:=fun s hv hL hh hp=>by
 unfold Sm;split
 · exact ⟨_,rfl,fun a s' e=>by cases e⟩
 · rename_i x hx;obtain ⟨l,hl,hx⟩:=bs hx;exact h x (hv.vw l hl x (vS (ix?_at hx))) s hv hL hh hp
theorem TN {β:Type}{i:Int}{k:Int->LM β}{Q:β->Nat->Prop}{v':Bool}(h:∀ n',TT vars v v' (k n') L H n m Q):TT vars v v' (PG i k) L H n m Q:=fun s hv hL hh hp=>h _ s hv hL hh hp
theorem SY (hV:∀ f st,∃ l,vis f st=some l/\l.length<=25){ex:jD->LM Unit}{x:jD}(hn:n<=100000)(h:∀ y ∈ x.a,TT vars true true (ex y) L H n (n+1) q0):TT vars true true (JG vis vars ex x) L H n (n+1) q0:=
 tB (DN h) fun _ K0 h0 _=>tB Vj fun _ _ _ _=>tB Bu fun _ _ _ _=>tB GN fun _ K1 h1 _=>Xq fun _ _=>tB Bu fun _ _ _ _=>tB GN fun _ _ _ _=>tB GN fun _ K2 h2 _=>
 O3 hV fun next K3 h3 hN=>O3 hV fun fault K4 h4 hF=>tB (zJ (by omega) (by simp)) fun _ K5 h5 _=>tB (Qv (by omega) (by omega)) fun _ K6 h6 _=>tB FY fun _ K7 h7 _=>tB (Rj (by omega)) fun _ K8 h8 _=>NZ (by omega)
def XD:Nat→jD→Prop
 | 0,_=>False
 | d+1,e=>∀ y ∈ e.a,XD d y
theorem IQ (hV:∀ f st,∃ l,vis f st=some l∧l.length≤25):∀ (fu d:Nat)(e:jD)(L H n:Nat),XD d e→d≤fu→n+d≤100000→TT vars true true (lexpr vis vars fu e) L H n (n+1) q0
 | 0,0,_,_,_,_,h,_,_=>h.elim
 | 0,d+1,_,_,_,_,_,h,_=>by omega
 | fu+1,0,_,_,_,_,h,_,_=>h.elim
 | fu+1,d+1,e,L,H,n,h,hd,hn=>by
  have ih:∀ (L n:Nat),n+d<=100000->∀ y ∈ e.a,TT vars true true (lexpr vis vars fu y) L H n (n+1) q0:=fun L n hn y hy=>IQ hV fu d y L H n (h y hy) (by omega) hn;unfold lexpr;refine sj (fun _=>tB Bu fun _ _ _ _=>F8 (by omega)) fun _=>sj (fun _ s hv hL hh hp=>?_) fun _=>sj (fun _=>tB (SY hV (by omega) (ih _ n (by omega))) fun _ _ _ _=>tB Jf fun _ _ _ _=>TN fun _=>tB GN fun _ _ _ _=>F8 (by omega)) fun _=>
   sj (fun _=>tB (tB Bu fun _ _ _ _=>F8 (by omega)) fun _ _ _ _=>tB (DN (ih _ (n+1) (by omega))) fun _ _ _ _=>H8 (by omega)) fun _=>sj (fun _=>tB (DN (ih _ n (by omega))) fun _ _ _ _=>tB (tB Bu fun _ _ _ _=>F8 (by omega)) fun _ _ _ _=>H8 (by omega)) fun _=>
   tB (DN (ih _ n (by omega))) fun _ _ _ _=>tB (adD (ih _ (n+1) (by omega))) fun _ _ _ _=>tB (sj (fun _=>Zn hV (by omega)) fun _=>yj (Q:=q0) (fun _ _=>trivial) (nD _)) fun _ _ _ _=>H8 (by omega)
  obtain ⟨vs,hvs⟩:=Option.isSome_iff_exists.1 (hv.vl rfl);rw [hvs];exact F8 (by omega) s hv hL hh hp
end
section
variable {vis:Int->Int->Option (List Int)}{vars:List (List iA)}{v:Bool}{L H n m fu d:Nat}
abbrev FU (vis:Int->Int->Option (List Int)):Prop:=∀ f st,∃ l,vis f st=some l/\l.length<=25
theorem TT.wk {α:Type}{c:LM α}{v v':Bool}{L L' H H' n m n' m':Nat}{Q:α->Nat->Prop}(h:TT vars v v' c L H n m Q)(h1:L<=L')(h2:H'<=H)(h3:n'<=n)(h4:m<=m'):TT vars v v' c L' H' n' m' Q:=fun s hv hL hh hp=>by obtain ⟨q,hq,k⟩:=h s hv (by omega) (by omega) (by omega);exact ⟨q,hq,fun a s' e=>⟨(k a s' e).1,by have:=(k a s' e).2.1;omega,(k a s' e).2.2⟩⟩
theorem RJ (hV:FU vis)(hd:d≤fu):∀ (l:List jD)(L n:Nat),(∀ y ∈ l,XD d y)→n+l.length+d≤100000→TT vars true true (He vis vars fu l) L H n (n+l.length) q0
 | [],_,_,_,_=>yj (fun _ _=>trivial) (nD _)
 | x :: l,L,n,h,hn=>tB (IQ hV fu d x L H n (h x (Ca ..)) hd (by simp at hn;omega)) fun _ K hK _=>(RJ hV hd l K (n+1) (fun y hy=>h y (yO _ hy)) (by simp at hn;omega)).wk (nD _) (nD _) (nD _) (by simp;omega)
theorem I6 (hV:FU vis){e:jD}(h:XD d e)(hd:d<=fu)(hn:n+d<=100000):TT vars true true (lvalue vis vars fu e) L H n n q0:=tB (IQ hV fu d e L H n h hd hn) fun _ _ _ _=>Jf
theorem R9 {i:Int}:∀ {L k:Nat}{j:Int},TT vars true true (DF i k j) L H n n q0
 | _,0,_=>yj (fun _ _=>trivial) (nD _)
 | _,k+1,j=>tB Bu fun _ _ _ _=>tB IB fun _ _ _ _=>R9
theorem Tz {x:jC}:TT vars true true (Bw vars x) L H n n q0:=Xq fun y hy=>sj (fun _=>TN fun _=>MC (by simp)) fun _=>by rw [kQ (by omega)];exact R9
theorem VB (hV:FU vis){t e:jD}(ht:XD d t)(he:XD d e)(hd:d<=fu)(hn:n+1+d<=100000):TT vars true true (Ez vis vars fu t e) L H n n q0:=by
 refine sj (fun _=>?_) fun _=>tB (I6 hV he hd (by omega)) fun _ _ _ _=>tB (sj (fun _=>GN) fun _=>yj (Q:=q0) (fun _ _=>trivial) (nD _)) fun _ _ _ _=>IB;refine tB (SY hV (by omega) fun y hy=>?_) fun _ _ _ _=>tB (IQ hV fu d e _ H (n+1) he hd hn) fun _ _ _ _=>tB Jf fun _ _ _ _=>tB Jf fun _ _ _ _=>TN fun _=>MC (by simp);cases d with
 | zero=>exact ht.elim
 | succ d=>exact IQ hV fu d y _ H n (ht y hy) (by omega) (by omega)
theorem aat (hV:FU vis){x:jC}(h:∀ y ∈ x.a,XD d y)(hl:x.a.length<=5000)(hd:d<=fu)(hn:n+5000+d<=100000):TT vars true true (FQ vis vars fu x) L H n n q0:=
 tB (RJ hV hd x.a L n h (by omega)) fun _ K hK _ s hv hL hh hp=>by have:=(tB (vV (v:=true) (vars:=vars) (L:=K) (H:=H) (n:=0) (stm:=x.n) hV) fun next K1 h1 hN=>tB (zJ hN (l:=[]) (by simp)) fun e K2 h2 _=>XL fun h K3 h3=>tB (Jv (t:=⟨3,0,x.h,s.pend,⟨e,h⟩⟩)) fun _ K4 h4 _=>tB (wF (i:=next) (k:=1) (by omega)) fun _ _ _ _=>Yd) { s with pend:=[] } ⟨hv.o0,hv.o1,hv.bk,hv.lb,hv.vl,hv.hn,hv.vw⟩ hL hh (nD _);obtain ⟨q,hq,k⟩:=this;exact ⟨q,hq,fun a s' e=>⟨(k a s' e).1,by have:=(k a s' e).2.1;omega,trivial⟩⟩
theorem El {st:jC→LM Unit}:∀ {l:List jC}{L:Nat},(∀ x ∈ l,∀ L,TT vars true true (st x) L H n n q0)→TT vars true true (rA st l) L H n n q0
 | [],_,_=>yj (fun _ _=>trivial) (nD _)
 | x :: l,L,h=>fun s hv hL hh hp=>by
  rw [rA];dsimp only;split
  · exact (tB (h x (Ca ..) L) fun _ K hK _=>El fun y hy=>h y (yO _ hy)) s hv hL hh hp
  · exact yj (Q:=q0) (fun _ _=>trivial) (nD _) s hv hL hh hp
theorem Om {i:Nat}(hi:i < L):TT vars true true (xW i) L H n n q0:=fun s hv hL hh hp=>by
 obtain ⟨t,ht⟩:∃ t,s.labs[i]?=some t:=⟨_,List.getElem?_eq_getElem (by omega)⟩;unfold xW;rw [ht,Option.bind_some];split
 · exact wF hi s hv hL hh hp
 · exact yj (Q:=q0) (fun _ _=>trivial) (nD _) s hv hL hh hp
theorem Wz (hV:FU vis){st:jC->LM Unit}{x:jC}(ha:∀ y ∈ x.a,XD d y)(hd:d<=fu)(hn:n+d<=100000)(hb:∀ y ∈ x.d,∀ L,TT vars true true (st y) L H n n q0)(he:∀ y ∈ x.i,∀ L,TT vars true true (st y) L H n n q0):TT vars true true (Dz vis vars st fu x) L H n n q0:=
 tB (DN fun y hy=>I6 hV (ha y hy) hd hn) fun c K0 h0 _=>tB (vV hV) fun body K1 h1 hB=>tB (vV hV) fun behind K2 h2 hN=>tB (sj (fun _=>yj (Q:=fun a K=>a < K) (fun K hK=>by omega) (nD _)) fun _=>vV hV) fun other K3 h3 hO=>
 tB (zJ (by omega) (by simp)) fun yes K4 h4 _=>tB (zJ (by omega) (by simp)) fun no K5 h5 _=>tB FY fun _ K6 h6 _=>tB (wF (by omega)) fun _ K7 h7 _=>tB (El hb) fun _ K8 h8 _=>tB (Gb (by omega)) fun _ K9 h9 _=>
 tB (sj (fun _=>yj (Q:=q0) (fun _ _=>trivial) (nD _)) fun _=>tB (wF (by omega)) fun _ K10 h10 _=>tB (El he) fun _ K11 h11 _=>Gb (by omega)) fun _ K12 h12 _=>Om (by omega)
theorem ZI (hV:FU vis){st:jC->LM Unit}{x:jC}(ha:∀ y ∈ x.a,XD d y)(hd:d<=fu)(hn:n+d<=100000)(hb:∀ y ∈ x.d,∀ L,TT vars true true (st y) L H n n q0):TT vars true true (JW vis vars st fu x) L H n n q0:=
 tB (vV hV) fun head K0 h0 hH=>tB (vV hV) fun body K1 h1 hB=>tB (vV hV) fun behind K2 h2 hN=>tB (Gb (by omega)) fun _ K3 h3 _=>tB (wF (by omega)) fun _ K4 h4 _=>tB UO fun _ K5 h5 _=>tB (DN fun y hy=>I6 hV (ha y hy) hd hn) fun c K6 h6 _=>
 tB (zJ (by omega) (by simp)) fun yes K7 h7 _=>tB (zJ (by omega) (by simp)) fun no K8 h8 _=>tB FY fun _ K9 h9 _=>tB (wF (by omega)) fun _ K10 h10 _=>tB (El hb) fun _ K11 h11 _=>tB (Gb (by omega)) fun _ K12 h12 _=>wF (by omega)
theorem aco (hV:FU vis){st:jC->LM Unit}{x:jC}(hH:H<=1000000)(hb:∀ y ∈ x.d,∀ L,TT vars true true (st y) L (H+1) n n q0)(he:∀ y ∈ x.i,∀ L,TT vars true true (st y) L H n n q0):TT vars true true (QE vis vars st x) L H n n q0:=
 tB (vV hV) fun h K0 h0 hh0=>tB (vV hV) fun behind K1 h1 hN s hv hL hh hp=>by
  have hrest:TT vars true true (xL behind |>.bind fun _ s=>s.labs[h]?.bind fun t=>((if 0<=t.1 then ou h 1 |>.bind fun _=>vB (x.f,0) 0 |>.bind fun _=>rA st x.i |>.bind fun _=>xL behind else oL ()) |>.bind fun _=>xW behind) s) K1 H n n q0:=
   tB (Gb hN) fun _ K2 h2 _ s hv hL hh hp=>by obtain ⟨t,ht⟩:∃ t,s.labs[h]?=some t:=⟨_,List.getElem?_eq_getElem (by omega)⟩;rw [ht,Option.bind_some];exact (tB (sj (fun _=>tB (wF (by omega)) fun _ K3 h3 _=>tB IB fun _ K4 h4 _=>tB (El he) fun _ K5 h5 _=>Gb (by omega)) fun _=>yj (Q:=q0) (fun _ _=>trivial) (nD _)) fun _ K6 h6 _=>Om (by omega)) s hv hL hh hp
  obtain ⟨q,hq,k⟩:=El (L:=K1) hb { s with hnd:=s.hnd ++ [h] } ⟨hv.o0,hv.o1,hv.bk,hv.lb,hv.vl,fun y hy=>by
   obtain hy | hy:=qg.1 hy
   · exact hv.hn y hy
   · rw [List.mem_singleton.1 hy];show h < s.labs.length;omega,hv.vw⟩ hL (by simp;omega) hp
  have e1:LH h s=some (.ok () { s with hnd:=s.hnd ++ [h] }):=by unfold LH;rw [kQ (by omega)]
  unfold LM.bind;rw [e1];show ∃ q,Option.bind (rA st x.d _) _=some q/\_;rw [hq];cases q with
  | lim=>exact ⟨_,rfl,fun a s' e=>by cases e⟩
  | rt=>exact ⟨_,rfl,fun a s' e=>by cases e⟩
  | ok a s1=>
   obtain ⟨⟨g1,g2,g3,g4⟩,g5,_⟩:=k a s1 rfl;have e2:LK s1=some (.ok () { s1 with hnd:=s.hnd }):=by unfold LK;rw [kQ (by rw [g4];simp),g4];simp
   show ∃ q,Option.bind (LK s1) _=some q/\_;rw [e2];obtain ⟨q2,hq2,k2⟩:=hrest { s1 with hnd:=s.hnd } ⟨g1.o0,g1.o1,g1.bk,g1.lb,g1.vl,fun y hy=>Nat.lt_of_lt_of_le (hv.hn y hy) g2,g1.vw⟩ (sO hL g2) hh g5;refine ⟨q2,hq2,fun b s2 e=>?_⟩;obtain ⟨⟨m1,m2,m3,m4⟩,m5,_⟩:=k2 b s2 e;exact ⟨⟨m1,sO g2 m2,m3.trans g3,m4⟩,m5,trivial⟩
def SD (d:Nat):Nat→jC→Prop
 | 0,_=>False
 | k+1,x=>(∀ y ∈ x.e,XD d y)/\(x.a.length<=5000/\∀ y ∈ x.a,XD d y)/\(∀ y ∈ x.d,SD d k y)/\∀ y ∈ x.i,SD d k y
theorem PV (hV:FU vis)(hn:n+5001+d≤100000):∀ (fu k:Nat)(x:jC)(L H:Nat),SD d k x→k+d≤fu→H+k≤1000000→TT vars true true (vD vis vars fu x) L H n n q0
 | 0,0,_,_,_,h,_,_=>h.elim
 | 0,k+1,_,_,_,_,h,_=>by omega
 | fu+1,0,_,_,_,h,_,_=>h.elim
 | fu+1,k+1,x,L,H,h,hk,hH=>fun s hv hL hh hp=>by
  obtain ⟨ht,⟨hl,ha⟩,hb,he⟩:=h;have hS:∀ y ∈ x.d,∀ L H,H+k<=1000000->TT vars true true (vD vis vars fu y) L H n n q0:=fun y hy L H hH=>PV hV hn fu k y L H (hb y hy) (by omega) hH;have hE:∀ y ∈ x.i,∀ L H,H+k<=1000000->TT vars true true (vD vis vars fu y) L H n n q0:=fun y hy L H hH=>PV hV hn fu k y L H (he y hy) (by omega) hH
  have key:TT vars true true (if x.b=5 then JW vis vars (vD vis vars fu) fu x
   else I9 |>.bind fun _=>
    if x.b=1 then Bw vars x
    else if x.b=2 then zG x.e fun t=>zG x.a fun e=>Ez vis vars fu t e
    else if x.b=3 then FQ vis vars fu x |>.bind fun _=>match x.e with
     | []=>oL ()
     | t :: _=>vB (xP t) 0
    else if x.b=4 then Dz vis vars (vD vis vars fu) fu x
    else if x.b=6 then (if x.k≠be then FQ vis vars fu x |>.bind fun _=>EK 0 else zG x.a (lvalue vis vars fu) |>.bind EK)
    else if x.b=7 then zG x.a (lvalue vis vars fu) |>.bind xA
    else if x.b=8 then QE vis vars (vD vis vars fu) x
    else if x.b=9 then zG x.a (lvalue vis vars fu) |>.bind fun v=>lop [⟨18,0,v,0,0,0,0,0,tY⟩]
    else if x.b=10 then uy 0 |>.bind EK
    else oL ()) L H n n q0:=by
   have hv:∀ K,TT vars true true (zG x.a (lvalue vis vars fu)) K H n n q0:=fun K=>DN fun y hy=>I6 hV (ha y hy) (by omega) (by omega);have hc:∀ K,TT vars true true (FQ vis vars fu x) K H n n q0:=fun K=>aat hV ha hl (by omega) (by omega);refine sj (fun _=>ZI hV ha (by omega) (by omega) fun y hy L=>hS y hy L H (by omega)) fun _=>tB UO fun _ K1 h1 _=>?_;refine sj (fun _=>Tz) fun _=>sj (fun _=>DN fun t htm=>DN fun y hy=>VB hV (ht t htm) (ha y hy) (by omega) (by omega)) fun _=>sj (fun _=>tB (hc _) fun _ K2 h2 _=>?_) fun _=>
    sj (fun _=>Wz hV ha (by omega) (by omega) (fun y hy L=>hS y hy L H (by omega)) fun y hy L=>hE y hy L H (by omega)) fun _=>sj (fun _=>sj (fun _=>tB (hc _) fun _ _ _ _=>PE) fun _=>tB (hv _) fun _ _ _ _=>PE) fun _=>
    sj (fun _=>tB (hv _) fun _ _ _ _=>Rs) fun _=>sj (fun _=>aco hV (by omega) (fun y hy L=>hS y hy L (H+1) (by omega)) fun y hy L=>hE y hy L H (by omega)) fun _=>sj (fun _=>tB (hv _) fun _ _ _ _=>MC (by simp)) fun _=>
    sj (fun _=>tB Bu fun _ _ _ _=>PE) fun _=>yj (fun _ _=>trivial) (nD _)
   cases x.e with
   | nil=>exact yj (fun _ _=>trivial) (nD _)
   | cons t l=>exact IB
  exact key { s with stmt:=x.n } ⟨hv.o0,hv.o1,hv.bk,hv.lb,hv.vl,hv.hn,hv.vw⟩ hL hh hp
end
section
variable {vis:Int->Int->Option (List Int)}{fu d k:Nat}
theorem Qj:∀ (l:List iA)(i:Nat)(s:Lw),s.objs.length+l.length≤1000000→∃ q,Fh l i s=some q∧∀ a s',q=.ok a s'→(∀ x ∈ l,x.a≤8)∧∃ om ob,s'={ s with omap:=om,objs:=ob }
 | [],_,s,_=>⟨_,rfl,fun a s' e=>by
  cases e;exact ⟨fun x hx=>by (cases hx),_,_,rfl⟩⟩
 | v :: l,i,s,h=>by
  simp only [uM] at h;rw [Fh];dsimp only;by_cases c:8 < v.a
  · rw [lF c];exact ⟨_,rfl,fun a s' e=>by cases e⟩
  rw [kQ c];have hx:(∀ x ∈ l,x.a<=8)->∀ x ∈ v :: l,x.a<=8:=fun hl x hx=>by
    obtain rfl | hx:=nM.1 hx
    · omega
    · exact hl x hx
  by_cases c3:v.b=3
  · rw [lF c3,FE (by simp;omega),Option.bind_some];obtain ⟨q,hq,k⟩:=Qj l (i+1) { s with omap:=yt s.omap i s.objs.length,objs:=s.objs ++ [⟨0,i,v.a⟩] } (by simp;omega);refine ⟨q,hq,fun a s' e=>?_⟩;obtain ⟨k1,om,ob,k2⟩:=k a s' e;exact ⟨hx k1,om,ob,k2⟩
  · rw [kQ c3];obtain ⟨q,hq,k⟩:=Qj l (i+1) s (by omega);refine ⟨q,hq,fun a s' e=>?_⟩;obtain ⟨k1,om,ob,k2⟩:=k a s' e;exact ⟨hx k1,om,ob,k2⟩
abbrev adN (f:Nat)(fn:kC):Lw:=⟨f,fn.a.length,[],[⟨-1,-1,f⟩],[],[],0,0,false,0,none,[],[],0,[]⟩
theorem ad4 {src:jW}{f:Nat}(hV:FU vis)(hF:∀ fn,src.a.b[f]?=some fn->∀ x ∈ fn.d,SD d k x)(hvs:∀ vs ∈ src.c,vs.length<=1000)(hfu:k+d<=fu)(hd:5001+d<=100000)(hk:k<=1000000):∃ q,Rl vis src fu (Po f)=some q:=by
 unfold Rl;have hix:∀ {α:Type}{l:List α},ix? l ((f:Nat):Int)=l[f]?:=fun {α l}=>by unfold ix?;rw [kQ (by omega),ET]
 show ∃ q,(match ix? src.a.b ((f:Nat):Int) with
  | none=>_
  | some fn=>_)=some q
 rw [hix];cases hfn:src.a.b[f]? with
 | none=>exact ⟨_,rfl⟩
 | some fn=>
 dsimp only;show ∃ q,(match ix? src.c ((f:Nat):Int) with
  | none=>_
  | some vs=>_)=some q
 rw [hix];cases hv:src.c[f]? with
 | none=>exact ⟨_,rfl⟩
 | some vs=>
 dsimp only;obtain ⟨q,hq,h⟩:=Qj vs 0 (adN f fn) (by show 0+vs.length<=1000000;have:=hvs vs (vS hv);omega);unfold LM.bind;show ∃ q,Option.bind (Fh vs 0 (adN f fn)) _=some q;rw [hq];cases q with
 | lim=>exact ⟨_,rfl⟩
 | rt=>exact ⟨_,rfl⟩
 | ok a s=>
 obtain ⟨h1,om,ob,rfl⟩:=h a s rfl;have key:TT src.c false true (zG fn.d fun x=>sM vis src.c x.n |>.bind fun e=>wQ e |>.bind fun _=>ou e 0 |>.bind fun _=>rA (vD vis src.c fu) fn.d) 0 0 0 0 q0:=
  DN fun x hx=>tB (vV hV) fun e K1 _ hE=>tB (Oz hE) fun _ K2 h2 _=>tB (wF (by omega)) fun _ K3 h3 _=>El fun y hy L=>PV hV (by omega) fu k y L 0 (hF fn hfn y hy) hfu (by omega)
 obtain ⟨q,hq,_⟩:=key { adN f fn with omap:=om,objs:=ob } ⟨vP _,by show (0:Int)<=6000;omega,fun b hb=>(by cases hb),fun t ht=>(by cases ht),fun h=>(by cases h),fun h hh=>(by cases hh),fun l hl x hx=>by
  have hl:ix? src.c ((f:Nat):Int)=some l:=hl;rw [hix,hv] at hl;cases hl;exact h1 x hx⟩ (nD _) (nD _) (nD _)
 exact ⟨q,hq⟩
theorem U7 {src:jW}(hV:FU vis)(hF:∀ fn ∈ src.a.b,∀ x ∈ fn.d,SD d k x)(hvs:∀ vs ∈ src.c,vs.length≤1000)(hfu:k+d≤fu)(hd:5001+d≤100000)(hk:k≤1000000):∀ (n f:Nat)(acc:List nI),acc.length+n≤1000000→∃ r,Gu vis src fu n f acc=some r
 | 0,f,acc,_=>⟨_,rfl⟩
 | n+1,f,acc,h=>by
  rw [Gu];obtain ⟨q,hq⟩:=ad4 (f:=f) hV (fun fn hfn=>hF fn (vS hfn)) hvs hfu hd hk;rw [hq,Option.bind_some];cases q with
  | lim=>exact ⟨_,rfl⟩
  | rt=>exact ⟨_,rfl⟩
  | ok a s=>
   dsimp only;rw [FE (by simp;omega),Option.bind_some];exact U7 hV hF hvs hfu hd hk n (f+1) _ (by simp;omega)
end
theorem P9 {fu:Nat}{b:Int}:∀ (l:List iA)(k:Nat)(a:List Int),a.length+l.length≤25→∃ r,kS fu b l k a=some (.go r)∧r.length≤25
 | [],_,a,h=>⟨a,rfl,by simpa using h⟩
 | x :: l,k,a,h=>by
  simp only [uM] at h;rw [kS];split
  · split
    · rw [FE (by simp;omega),Option.bind_some];exact P9 l (k+1) _ (by simp;omega)
    · exact P9 l (k+1) a (by omega)
  · exact P9 l (k+1) a (by omega)
theorem abR {fu:Nat}{src:jW}(h:∀ vs ∈ src.c,vs.length<=25):FU (jS fu src):=fun f st=>by
 unfold jS;split
 · exact ⟨[],rfl,by simp⟩
 split
 · exact ⟨[],rfl,by simp⟩
 obtain ⟨vs,hvs⟩:∃ vs,src.c[f.toNat]?=some vs:=⟨_,List.getElem?_eq_getElem (by omega)⟩;have hix:ix src.c f=some vs:=by unfold ix;rw [kQ (by omega)];exact hvs
 obtain ⟨r,hr,hl⟩:=P9 (fu:=fu) (b:=st) vs 0 [] (by have:=h vs (vS hvs);simpa using this);rw [hix,Option.bind_some,hr];exact ⟨r,rfl,hl⟩
structure Szs (src:jW)(d k:Nat):Prop where
 fs:src.a.b.length<=1000000
 vs:∀ vs ∈ src.c,vs.length<=25
 sd:∀ fn ∈ src.a.b,∀ x ∈ fn.d,SD d k x
theorem aan {src:jW}{fu d k:Nat}(h:Szs src d k)(hfu:k+d<=fu)(hd:d<=50000)(hk:k<=1000000):∃ r,vH fu src=some r:=by obtain ⟨r,hr⟩:=U7 (fu:=fu) (abR (fu:=fu) h.vs) h.sd (fun vs hv=>sO (h.vs vs hv) (by decide)) hfu (by omega) hk src.a.b.length 0 [] (by have:=h.fs;simpa using this);exact ⟨_,by unfold vH YM;rw [hr];rfl⟩
theorem Xm:∀ (n:Nat)(e:jD),CK n e→XD n e
 | 0,_,h=>h.elim
 | n+1,e,h=>fun y hy=>Xm n y (h.2 y hy)
theorem Yk:∀ (n:Nat)(x:jC),Ry n x→SD 5000 n x
 | 0,_,h=>h.elim
 | n+1,x,h=>⟨fun y hy=>Xm _ y (h.1 y hy),⟨h.2.1.1,fun y hy=>Xm _ y (h.2.1.2 y hy)⟩,fun y hy=>Yk n y (h.2.2.1 y hy),fun y hy=>Yk n y (h.2.2.2.1 y hy)⟩
structure Gs7 (s:jW):Prop where
 ci:CI s
 sw:adZ s
 st:s.b.length<=200
 fs:s.a.b.length<=5000
theorem Gs7.szs {s:jW}(h:Gs7 s):Szs s 5000 10:=⟨by have:=h.fs;omega,fun V hV=>by have:=h.ci.vn V hV;omega,fun fn hfn x hx=>Yk 10 x (h.ci.fx fn hfn x hx)⟩
theorem Uz:yw 10100=some true:=by kernel_rfl
section
variable {fu:Nat}
theorem abX {d:Int}{p:kC}:∀ (t:Nat){b:Int}{h:List jX}{i j k:Int}{c:List kC}{l:List (List iA)}{m:List jR}{o:List Int}{r:Int × List jX × Int × Int × Int × List kC × List (List iA) × List jR × List Int},
  nZ fu d p t b h i j k c l m o=some (.go r)->r.2.2.2.2.2.1=c
 | 0,_,_,_,_,_,_,_,_,_,_,z=>by cases z
 | t+1,_,_,_,_,_,_,_,_,_,_,z=>by
  rw [nZ] at z;obtain ⟨_,z⟩|⟨_,z⟩:=jI z
  · obtain ⟨_,_,z⟩:=bs z;obtain ⟨_,z⟩|⟨_,z⟩:=jI z
    · obtain ⟨a,ha,z⟩:=bs z;have:=abX t z;rw [this,(sK (by decide) ha).1.out]
    · exact abX t z
  · cases z;rfl
theorem ae5 {k:List kC}:∀ (o:Nat){a:Int}{c:List jX}{d e f:Int}{b:List kC}{h:List (List iA)}{i:List jR}{j:List Int}{r:Int × List jX × Int × Int × Int × List kC × List (List iA) × List jR × List Int},
  0<=a->a<=8->oM fu k o a c d e f b h i j=some (.go r)->r.2.2.2.2.1=0->k.length<=8/\r.2.2.2.2.2.1=b
 | 0,_,_,_,_,_,_,_,_,_,_,_,_,z,_=>by cases z
 | o+1,a,_,_,_,_,_,_,_,_,_,h0,h8,z,y=>by
  rw [oM] at z;obtain ⟨_,z⟩|⟨c,z⟩:=jI z
  · obtain ⟨H,_,z⟩:=bs z;obtain ⟨v,hv,z⟩:=bs z;cases v with
    | out o=>cases z
    | go s=>
     obtain ⟨a1,a2,a3,a4,a5,a6,a7,a8⟩:=s;replace z:=gi z;simp only [pl] at z;obtain ⟨v,hv3,z2⟩:=bs z;clear z;cases v with
     | out o=>cases z2
     | go s=>
      obtain ⟨b1,b2,b3,b4,b5,b6,b7,b8,b9⟩:=s;have z3:=gi z2;clear z2;simp only [pl] at z3;have k3:=aas _ hv3 (adV o z3 y);have k4:=abX _ hv3;have hw:wr (a+1)=a+1:=l8 (by omega) (by omega);rw [hw] at z3;unfold uJ at hv;obtain ⟨_,hv⟩|⟨c,hv⟩:=jI hv
      · obtain ⟨_,ha,hv⟩:=bs hv;cases hv;exact absurd k3 (sK (by decide) ha).2
      · cases hv;have ih:=ae5 o (by omega) (by omega) z3 y;exact ⟨ih.1,ih.2.trans k4⟩
  · cases z;exact ⟨by omega,rfl⟩
theorem aa1 (hf:5002<=fu){S S':fV}(h1:S.a.a.a.length<=5000)(h2:∀ u ∈ S.a.a.a,u.a.length<=5000)(h3:S.a.a.b.length<=5000)(h:tF fu S=some S')(e:S'.e=0):S.a.a.b.length<=8:=by
 have hs:=((KL hf h1 h2 h3).of' h).out;unfold tF at h;obtain ⟨v,hv,h⟩:=bs h;have k0:=(Ej (O:=fun _=>False) hf h1 _ 0 S (by omega) h2 .rfl').of' hv;cases v with
 | out o=>exact k0.elim
 | go s=>
  obtain ⟨a1,a2,a3,a4,a5,a6,a7,a8⟩:=s;replace k0:EN S ⟨⟨⟨a1,a5⟩,a6,a7⟩,a2,a8,a3,a4⟩:=k0;replace h:=gi h;simp only [pl] at h;obtain ⟨v,hv2,h⟩:=bs h;have hfs:a5=S.a.a.b:=congrArg (fun z=>z.a.b) k0.out;cases v with
  | out o=>
   subst hfs;exact ((Eh (O:=fun _=>False) hf h3 fu 0 ⟨⟨⟨a1,_⟩,a6,a7⟩,a2,a8,a3,a4⟩ (vP _) (by omega) (by omega) k0).of' hv2).elim
  | go s=>
   obtain ⟨b1,b2,b3,b4,b5,b6,b7,b8,b9⟩:=s;replace h:=gi h;simp only [pl] at h;cases h;rw [<-hfs];exact (ae5 fu (by omega) (by omega) hv2 e).1
theorem ZG {p:jV}(hf:5002<=fu)(hp:VG 5000 p){s:jW}{ln:Int}(h:qj fu p=some (s,ln,0)):p.b.length<=8:=by
 unfold qj at h;obtain ⟨r,hr,h⟩:=bs h;obtain ⟨_,rfl⟩:=pY hr;obtain ⟨S,hS,h⟩:=bs h;obtain ⟨v,hv,h⟩:=bs h;cases v with
 | out o=>exact (KM _ _ _ _ _ _ _ _ _ _ hv).elim
 | go r=>
  have he:=M8 fu hv;obtain ⟨j,a',b',c',d',e',vs',g',h'⟩:=r;replace h:=gi h;simp only [pl] at h;obtain ⟨c,h⟩|⟨c,h⟩:=jI h
  · cases h;exact absurd rfl c
  · have:=aa1 hf (S:=⟨⟨⟨p.a,[] ++ p.b⟩,[],[]⟩,0,[],0,0⟩) hp.recs hp.fields hp.e hS (he (Decidable.not_not.1 c));simpa using this
end
theorem X3 {V:List iA}{v:Int}{p:Pc}(h:p ∈ G7 V v):∃ x,ix? V v=some x/\x.b≠3/\∃ i:Nat,i < x.a.toNat/\p=(v,(i:Int)):=by
 unfold G7 at h;split at h
 · cases h
 rename_i x hx;split at h
 · cases h
 rename_i hk;obtain ⟨i,h1,h2⟩:=List.mem_map.1 h;exact ⟨x,hx,hk,i,List.mem_range.1 h1,h2.symm⟩
theorem Qw {R:List jX}{x:iA}(h:VO R x)(h4:∀ u ∈ R,u.a.length<=4)(hk:x.b≠3):x.a<=4:=by
 obtain ⟨_,h⟩|⟨_,r,hr,h⟩|⟨h,_⟩:=h
 · omega
 · have:=h4 r (by obtain ⟨q,_,hq⟩:=kU hr;exact vS hq);omega
 · exact absurd h hk
theorem WZ {R:List jX}{V:List iA}(hv:∀ x ∈ V,VO R x)(h4:∀ u ∈ R,u.a.length<=4)(v:Int):(G7 V v).length<=4:=by
 unfold G7;split
 · simp
 rename_i x hx;split
 · simp
 rename_i hk;have:=Qw (hv x (vS (ix?_at hx))) h4 hk;simp;omega
theorem QT {R:List jX}{V:List iA}(hv:∀ x ∈ V,VO R x)(h4:∀ u ∈ R,u.a.length≤4):∀ O:List Int,(pG V O).length≤4 * O.length
 | []=>by simp [pG]
 | v :: O=>by have:=WZ hv h4 v;have:=QT hv h4 O;simp [pG];omega
theorem aeP {R:List jX}{E:En}(hv:∀ x ∈ E.V,VO R x)(h4:∀ u ∈ R,u.a.length<=4)(hl:E.V.length<=24):Zq E:=by
 refine ⟨fun O p hp=>?_,fun i=>?_⟩
 · obtain ⟨v,_,hp⟩:=Pj.1 hp;obtain ⟨x,hx,hk,j,hj,rfl⟩:=X3 hp;obtain ⟨a1,a2,a3⟩:=ix?_nat hx;have:=Qw (hv x (vS a3)) h4 hk;exact ⟨⟨a1,by dsimp only;omega⟩,by dsimp only;omega,by dsimp only;omega⟩
 · have:=QT hv h4 (yg i E.V 0);have:=Te (i:=i) E.V 0;omega
theorem Xh {R:List jX}{E:En}(hv:∀ x ∈ E.V,VO R x)(hom:∀ (j:Nat) v,E.V[j]?=some v→v.b=3→∃ n,pE E.om (j:Int)=some n∧0≤n∧n < (E.ob.length:Int)){O:List Int}:∀ (n:Nat){e:jD},CK n e→RX E.V e→EO O e→XG E O e
 | 0,_,h,_,_=>h.elim
 | n+1,e,h,hr,ho=>by
  obtain ⟨⟨_,h1,h2,h3⟩,hk⟩:=h;cases hr with
  | mk r1 r2=>
  cases ho with
  | mk o1 o2=>
  refine .mk ⟨h1,h2⟩ h3 (fun c=>?_) (fun c=>?_) fun y hy=>Xh hv hom n (hk y hy) (r2 y hy) (o2 y hy)
  · obtain ⟨v,e1,e2,e3⟩:=r1 (by omega);have hx:ix? E.V e.f=some v:=e1;refine Pj.2 ⟨e.f,o1 (by omega),?_⟩;unfold G7;rw [hx];dsimp only;rw [kQ (by omega)];unfold xP;by_cases c2:e.e=2
    · rw [lF c2];obtain ⟨g1,g2⟩:=e3 c2;exact List.mem_map.2 ⟨e.d.toNat,List.mem_range.2 (by omega),by rw [Int.toNat_of_nonneg g1]⟩
    · rw [kQ c2];obtain ⟨_,z⟩|⟨z,_⟩|⟨z,_⟩:=hv v (vS (ix?_at hx))
      · exact List.mem_map.2 ⟨0,List.mem_range.2 (by rw [z];decide),rfl⟩
      · omega
      · omega
  · obtain ⟨v,e1,e2,_⟩:=r1 (by omega);have hx:ix? E.V e.f=some v:=e1;obtain ⟨a1,a2,a3⟩:=ix?_nat hx;obtain ⟨n,b1,b2⟩:=hom _ v a3 (by omega);exact ⟨⟨v,hx⟩,n,by rw [Int.toNat_of_nonneg a1] at b1;exact b1,b2⟩
theorem aei {K:List jR}{Ps:List Nat}{R:List jX}{f:Int}{E:En}(hP:E.Ps=Ps)(hK:K.length<=200)(hv:∀ x ∈ E.V,VO R x)(hom:∀ (j:Nat) v,E.V[j]?=some v->v.b=3->∃ n,pE E.om (j:Int)=some n/\0<=n/\n < (E.ob.length:Int)){O:List Int}{l:List jC}{a b:Nat}(h:Sc E.V O l a b):∀ {a' b':Nat},SW K E.V Ps f l a' b'->(∀ x ∈ l,∃ n,Ry n x)->SG E O l:=by
 induction h with
 | nil=>exact fun _ _=>.nil
 | @cons O x l a c d b id vi ea et bo el nx i1 i2 i3=>
  intro a' b' hw hx;obtain ⟨n,hn⟩:=hx x (.head _);cases n with
  | zero=>exact hn.elim
  | succ n=>
  obtain ⟨n1,⟨n2,n3⟩,n4,n5,y1,y2,y3,y4⟩:=hn;cases hw with
  | cons id2 kd tg ar de tr ca ct bo2 el2 nx2=>
  have hlt:=ku kd;refine .cons (by rw [id];exact vi) ⟨by omega,by omega⟩ (fun y hy=>Xh hv hom 5000 (n3 y hy) (ar y hy) (ea y hy)) (fun y hy=>Xh hv hom 5000 (n1 y hy) (tg y hy) (et y hy)) (fun k1=>?_) (fun g1 g2 g3 g4 c=>y2 g1 g2 g3 g4 (by rw [c];rfl)) (fun k2 c=>y3 k2 (by rw [c];rfl)) y4 ct (fun g=>?_) y1 (fun k8=>?_) (i1 bo2 fun y hy=>⟨n,n4 y hy⟩) (i2 el2 fun y hy=>⟨n,n5 y hy⟩) (i3 nx2 fun y hy=>hx y (.tail _ hy))
  · obtain ⟨v,e1⟩:=de k1;have hxv:ix? E.V x.f=some v:=e1;obtain ⟨a1,a2,a3⟩:=ix?_nat hxv;refine ⟨v,hxv,fun k3=>?_⟩;obtain ⟨m,b1,b2⟩:=hom _ v a3 k3;exact ⟨m,by rw [Int.toNat_of_nonneg a1] at b1;exact b1,b2⟩
  · have e1:ix? Ps x.h=some x.a.length:=ca g;obtain ⟨a1,a2,a3⟩:=ix?_nat e1;exact ⟨a1,by rw [hP];exact a3⟩
  · obtain ⟨v,e1,e2,_⟩:=tr k8;have hxv:ix? E.V x.f=some v:=e1;refine ⟨v,hxv,e2,?_⟩;obtain z | z | z:=hv v (vS (ix?_at hxv))
    · exact z.2
    · omega
    · omega
theorem Vf {R:List jX}{V:List iA}(hv:∀ x ∈ V,VO R x):∀ n:Nat,(∀ i:Nat,i < n→∃ v,V[i]?=some v∧v.b=1)→(pG V (mW n)).length=n
 | 0,_=>rfl
 | n+1,h=>by
  obtain ⟨v,h1,h2⟩:=h n (by omega);rw [<-Ch,IW,F9,Vf hv n fun i hi=>h i (by omega)];have hx:ix? V (n:Int)=some v:=by unfold ix?;rw [kQ (by omega),ET];exact h1
  have:(pG V [(n:Int)]).length=1:=by
   simp only [pG,EW];unfold G7;rw [hx];dsimp only;rw [kQ (by omega)];obtain ⟨_,z⟩|⟨z,_⟩|⟨z,_⟩:=hv v (vS h1)
   · rw [z];rfl
   · omega
   · omega
  rw [this]
theorem aa6 {s:jW}{vis:Int->Int->Option (List Int)}(hg:Gs7 s)(hsc:aaf s)(hvi:∀ (j:Nat) V st,s.c[j]?=some V->vis (j:Int) st=some (yg st V 0))(k:Nat)(fn:kC)(hfn:s.a.b[k]?=some fn):∃ V,Fg vis s (zW s.a.b) k fn V/\fn.a.length<=4/\V.length<=24/\∀ x ∈ V,VO s.a.a x:=by
 obtain ⟨V,hV,hp4,a,b,hS⟩:=hsc k fn hfn;obtain ⟨B,_,_,hB⟩:=hg.sw.2.1;obtain ⟨V',hV',hvo,hW,hp,hen⟩:=hB k fn hfn;rw [hV] at hV';cases hV';have h24:V.length<=24:=by have:=hg.ci.vn V (vS hV);omega
 exact ⟨V,⟨hV,⟨fun st=>hvi k V st hV,by unfold ix?;rw [kQ (by omega),ET];exact hV⟩,fun ob om=>aeP hvo hg.sw.2.2 h24,fun om hom=>⟨_,aei (E:=⟨V,k,wK V 0,om,zW s.a.b,fn.a.length,fn.a.length,[⟨-1,-1,k⟩]⟩) rfl hg.st hvo hom hS hW fun x hx=>⟨10,hg.ci.fx fn (vS hfn) x hx⟩,Vf hvo _ hp⟩,hen⟩,hp4,h24,hvo⟩
structure WT (Ps:List Nat)(f:Nat)(c:nI):Prop where
 pa:0<=c.a/\c.a<=4
 bl:1<=c.b.length/\c.b.length<=400
 so:Bd c.b<=6000
 p0:∃ b,c.b[0]?=some b/\b.a=c.a
 ct:c.d=[⟨-1,-1,f⟩]
 ol:c.c.length<=64
 oo:∀ o ∈ c.c,o.c=0/\(0<=o.f/\o.f < 24)/\1<=o.a/\o.a<=8
 op:c.c.Pairwise fun a b=>a.f < b.f
 bk:∀ b ∈ c.b,(0<=b.a/\b.a<=999)/\∃ n,n<=9999/\DZ c.c.length b.a b.c n/\Tq Ps (EdC c.b n) n b.b
def Zv (m:sW):Prop:=m.b.length<=8/\∀ (f:Nat) c,m.b[f]?=some c->WT (m.b.map fun c=>c.a.toNat) f c
open Classical in
noncomputable def Du (fu:Nat)(m:sW):Option Int:=if Zv m then some 0 else none
theorem Rk {R:List jX}:∀ {l:List iA}{i:Nat},(∀ x ∈ l,VO R x)→(wK l i).length≤l.length∧(∀ o ∈ wK l i,o.c=0∧((i:Int)≤o.f∧o.f < ((i+l.length:Nat):Int))∧1≤o.a∧o.a≤8)∧(wK l i).Pairwise fun a b=>a.f < b.f
 | [],i,_=>⟨nD _,fun o h=>(by cases h),.nil⟩
 | v :: l,i,h=>by
  obtain ⟨h1,h2,h3⟩:=Rk (l:=l) (i:=i+1) fun x hx=>h x (.tail _ hx);unfold wK;by_cases c:v.b=3
  · rw [lF c];refine ⟨by simp;omega,fun o ho=>?_,Cr.2 ⟨fun o ho=>?_,h3⟩⟩
    · obtain rfl | ho:=nM.1 ho
      · obtain ⟨z,_⟩|⟨z,_⟩|⟨_,z⟩:=h v (.head _)
        · omega
        · omega
        · exact ⟨rfl,⟨by dsimp only;omega,by simp;omega⟩,by dsimp only;omega,by dsimp only;omega⟩
      · obtain ⟨g1,g2,g3⟩:=h2 o ho;exact ⟨g1,⟨by omega,by have:=g2.2;simp only [uM];omega⟩,g3⟩
    · have:=(h2 o ho).2.1.1;dsimp only;omega
  · rw [kQ c];exact ⟨by simp;omega,fun o ho=>by obtain ⟨g1,g2,g3⟩:=h2 o ho;exact ⟨g1,⟨by omega,by have:=g2.2;simp only [uM];omega⟩,g3⟩,h3⟩
def Rs' (src:jW)(Ps:List Nat)(res:List nI):Prop:=∀ (k:Nat) c,res[k]?=some c->∃ fn V,src.a.b[k]?=some fn/\src.c[k]?=some V/\abm Ps V k fn.a.length c
theorem YJ {vis:Int→Int→Option (List Int)}{src:jW}{fu:Nat}{Ps:List Nat}(hX:∀ (k:Nat) fn,src.a.b[k]?=some fn→∃ V,Fg vis src Ps k fn V){res:List nI}{er:Int}:∀ (n f:Nat)(acc:List nI),acc.length=f→f+n=src.a.b.length→Rs' src Ps acc→Gu vis src fu n f acc=some (res,er)→
  (er=0/\res.length=src.a.b.length/\Rs' src Ps res)\/(er=5/\res=[])
 | 0,f,acc,hl,hf,ha,e=>by cases e;exact .inl ⟨rfl,by omega,ha⟩
 | n+1,f,acc,hl,hf,ha,e=>by
  rw [Gu] at e;obtain ⟨lo,hlo,e⟩:=bs e;obtain ⟨fn,hfn⟩:=lZ (l:=src.a.b) (k:=f) (by omega);obtain ⟨V,hV⟩:=hX f fn hfn;have q:=aeC hfn hV hlo;cases lo with
  | lim=>cases e;exact .inr ⟨rfl,rfl⟩
  | rt=>exact q.elim
  | ok u s=>
  obtain ⟨acc2,hacc,e⟩:=bs e;rw [CQ hacc] at e;refine YJ hX n (f+1) _ (by simp [hl]) (by omega) (fun k c hc=>?_) e;by_cases hk:k < acc.length
  · rw [zQ hk] at hc;exact ha k c hc
  · have hk2:k=f:=by have:=(List.getElem?_eq_some_iff.1 hc).1;simp at this;omega
    subst hk2;rw [<-hl,EX (nD _),Nat.sub_self] at hc;cases hc;exact ⟨fn,V,hfn,hV.va,q⟩
section
variable {vis:Int->Int->Option (List Int)}{vars:List (List iA)}{F:List Nat}{fu:Nat}
inductive XS:jC→Prop
 | mk {x:jC} (a:∀ y ∈ x.a,XO y) (t:∀ y ∈ x.e,XO y) (b:∀ y ∈ x.d,XS y) (e:∀ y ∈ x.i,XS y):XS x
theorem XS.a {x:jC}(h:XS x):∀ y ∈ x.a,XO y:=by cases h;assumption
theorem XS.t {x:jC}(h:XS x):∀ y ∈ x.e,XO y:=by cases h;assumption
theorem XS.b {x:jC}(h:XS x):∀ y ∈ x.d,XS y:=by cases h;assumption
theorem XS.e {x:jC}(h:XS x):∀ y ∈ x.i,XS y:=by cases h;assumption
variable {st:jC->LM Unit}
end
def kO (o:yB):Pc:=(o.f,o.d)
def kl (a b:yB):Prop:=a.f < b.f\/a.f=b.f/\a.d < b.d
theorem WU {a b:yB}(h:kl a b):kO a≠kO b:=fun c=>by have h1:a.f=b.f:=congrArg Prod.fst c;have h2:a.d=b.d:=congrArg Prod.snd c;unfold kl at h;omega
theorem afS {a b c:yB}(h:kl a b)(k:kl b c):kl a c:=by
 unfold kl at *
 omega
structure CI' (pre out:List yB):Prop where
 so:out.Pairwise kl
 el:∀ o ∈ out,o.c=0/\pE (G8 pre) (kO o)=some o.a.a
 al:∀ p v,pE (G8 pre) p=some v->∃ o ∈ out,kO o=p
 ln:out.length<=pre.length
theorem IC {α:Type}{a b:List α}(h:a.length+b.length<=1000000000):app a b=some (a ++ b):=by unfold app;rw [lF h]
theorem CI'.step {pre out:List yB}{o:yB}{j d:Nat}(h:CI' pre out)(hk:o.b=21)(ho:o.c=0)(hj:j<=out.length)(h1:∀ x ∈ out.take j,kl x o)(h2:∀ x ∈ out.drop d,kl o x)(hd:d=j\/d=j+1/\∃ x,out[j]?=some x/\kO x=kO o):CI' (pre ++ [o]) (out.take j ++ [o] ++ out.drop d):=by
 have hlat:G8 (pre ++ [o])=yt (G8 pre) (kO o) o.a.a:=by rw [VX,abV,lF hk];rfl
 have hm:∀ x ∈ out.take j ++ [o] ++ out.drop d,x=o\/x ∈ out/\kO x≠kO o:=fun x hx=>by
   obtain hx | hx:=qg.1 hx
   · obtain hx | hx:=qg.1 hx
     · exact .inr ⟨List.mem_of_mem_take hx,WU (h1 x hx)⟩
     · exact .inl (List.mem_singleton.1 hx)
   · exact .inr ⟨List.mem_of_mem_drop hx,(WU (h2 x hx)).symm⟩
 refine ⟨?_,fun x hx=>?_,fun p v hp=>?_,?_⟩
 · refine List.pairwise_append.2 ⟨List.pairwise_append.2 ⟨h.so.sublist (List.take_sublist ..),List.pairwise_singleton ..,fun a ha b hb=>?_⟩,h.so.sublist (List.drop_sublist ..),fun a ha b hb=>?_⟩
   · rw [List.mem_singleton.1 hb];exact h1 a ha
   · obtain ha | ha:=qg.1 ha
     · exact afS (h1 a ha) (h2 b hb)
     · rw [List.mem_singleton.1 ha];exact h2 b hb
 · obtain rfl | ⟨hx,hne⟩:=hm x hx
   · exact ⟨ho,by rw [hlat,xK,lF rfl]⟩
   · exact ⟨(h.el x hx).1,by rw [hlat,xK,kQ hne];exact (h.el x hx).2⟩
 · rw [hlat,xK] at hp;by_cases c:p=kO o
   · exact ⟨o,by simp,c.symm⟩
   · rw [kQ c] at hp;obtain ⟨x,hx,hxp⟩:=h.al p v hp;refine ⟨x,?_,hxp⟩;rw [<-List.take_append_drop j out] at hx;obtain hx | hx:=qg.1 hx
     · simp [hx]
     · obtain rfl | ⟨rfl,y,hy,hyo⟩:=hd
       · simp [hx]
       · rw [mV hy] at hx;obtain rfl | hx:=nM.1 hx
         · exact absurd (hxp.symm.trans hyo) c
         · simp [hx]
 · have:=h.ln;simp;rcases hd with rfl | ⟨rfl,_⟩ <;> omega
end Go.Proofs.YtdkneekpdecjbaaGreat
