/- Which variables are in scope at which statement of a checked source: statements. -/
import Derived.Test.YtdkneekpdecjbaaGreatZ26
import Derived.Test.YtdkneekpdecjbaaGreatZ6
import Derived.Test.YtdkneekpdecjbaaGreatZ24
set_option linter.unusedVariables false
set_option linter.unusedSimpArgs false
namespace Go.Proofs.YtdkneekpdecjbaaGreat
open Go.RowKit Go.Fw Go.Proofs.Tryz
section
variable {fu:Nat}{f:fV->List jA->Option (List jA × fV)}{g:fV->jA->Option (jA × fV)}
theorem acr {S:fV}{x:jA}{r8:List jT}{x':jA}{S':fV}{V:List gP}(h8:x.m<=8)(h:oh fu f g S x r8=some (.out (x',S')))(hw:Wd (inS S r8) V)(e:S'.e=0) :∃ v:gP,v.e=wr ((S.a.b.length:Int)+1)/\x'.f=(V.length:Int)/\S'.a.b=r8/\S'.b=S.b ++ [(V.length:Int)]/\ix S'.a.c S.f=some (V ++ [v]):=by
 unfold oh at h;rcases jH h with ⟨hk,h⟩|⟨_,h⟩
 · obtain ⟨v,hv,h⟩:=bs h;rcases abY h8 hv with ⟨k,c,n,rfl,hvo⟩|⟨y,S2,rfl,h2⟩
   · replace h:=gi h;simp only [pl] at h;obtain ⟨⟨j,k⟩,hd,h⟩:=bs h;rw [pl] at h;cases h;obtain ⟨rfl,_,k3,k4,k5⟩:=IB hd hw e;exact ⟨_,rfl,rfl,k3,k4,k5⟩
   · cases h;exact absurd e h2
 · rcases jH h with ⟨_,h⟩|⟨_,h⟩
   · rcases jH h with ⟨_,h⟩|⟨_,h⟩
     · obtain ⟨_,_,h⟩:=bs h;rcases jH h with ⟨_,h⟩|⟨_,h⟩
       · obtain ⟨_,_,h⟩:=bs h;cases h
       · cases h
     · cases h
   · cases h
theorem afP {i:Nat}{S:fV}{V:List gP}{A:List (List gP)}(hw:Wd S V)(h:oZ fu f g (i:Int) S=some (.go A))(e:S.e=0)(h1:1<=S.a.b.length)(h2:S.a.b.length<=1000000000) :∃ V',ix A S.f=some V'/\V'.length=V.length/\(∀ n:Nat,(n:Int) ∉ [(i:Int)]->V'[n]?=V[n]?)/\∀ n:Nat,(n:Int) ∈ [(i:Int)]->∃ v w,V[n]?=some v/\V'[n]?=some w/\w.e=v.e/\w.d=(S.a.b.length:Int) - 1:=by
 unfold oZ at h;rw [lG e] at h;obtain ⟨t,ht,h⟩:=bs h;rw [hw.v] at ht;cases ht;obtain ⟨b,hb,h⟩:=bs h;obtain ⟨V',hV',h⟩:=bs h;obtain ⟨vs,hvs,h⟩:=bs h;cases h;obtain ⟨k,hk,hkl,rfl⟩:=sG hV';obtain rfl:i=k:=by omega
 rw [tq] at hb;refine ⟨_,(Ug hw hvs).1,wU,fun n hn=>zu fun z=>hn (by rw [z];exact .head _),fun n hn=>?_⟩;have hn:=List.mem_singleton.1 hn;obtain rfl:n=i:=by omega
 exact ⟨b,{ b with d:=wr ((S.a.b.length:Int) - 1) },hb,List.getElem?_set_self hkl,rfl,by unfold wr;dsimp only;rw [Ru (by omega) (by omega)]⟩
theorem Fin'.acn {VF V:List gP}{O:List Int}{v:gP}{c:Nat}(h:Fin' VF (V ++ [v]) (O ++ [(V.length:Int)]) c)(hO:∀ j ∈ O,j < (V.length:Int))(hv:v.e=(c:Int)):Fin' VF V O c:=by
 refine ⟨fun n hn=>?_,fun n hn ho=>?_,fun n w hn hw=>?_⟩
 · obtain ⟨v',w,h1,h2⟩:=h.op n (List.mem_append_left _ hn);have:=hO _ hn;rw [AL (by omega)] at h1;exact ⟨v',w,h1,h2⟩
 · rw [h.cl n (by rw [kr];omega) fun z=>?_,AL hn];rcases pX.1 z with z | z
   · exact ho z
   · have:=List.mem_singleton.1 z;omega
 · by_cases c1:n=V.length
   · subst c1;obtain ⟨v',w',h1,h2,h3,h4⟩:=h.op V.length (List.mem_append_right _ (.head _));rw [Du (mO _),Nat.sub_self] at h1;cases h1;rw [hw] at h2;cases h2;omega
   · exact h.nx n w (by rw [kr];omega) hw
theorem ae4 (hE:Eb f)(hf:Xb f)(hy:Yb' f){h' c j:Int}{d k:ByteArray}{l:Int}{m:List jB}{p:ByteArray}{t:Int}{u:List jA}{v:List jB}{w:List jA}{S0 S:fV}{V0 V:List gP}(hw:Wd S V)(k0:Uo S0 V0 S V)(os0:OS S0 V0)(ho0:S.b=S0.b)(hlt:S0.a.b.length < S.a.b.length)(hl:∀ y ∈ u,∃ n,DL 5000 n y){x':jA}{S':fV}(h:og fu f g h' c j d k l m p t u v w S=some (.out (x',S')))(e:S'.e=0) :∃ V',ix S'.a.c S.f=some V'/\Uo S0 V0 S' V'/\S'.b=S0.b/\∀ VF,Fin' VF V' S'.b S'.a.b.length->Fin' VF V S.b S.a.b.length/\Sc VF (S0.b ++ [x'.f]) x'.h S.a.b.length S'.a.b.length:=by
 unfold og at h;rcases jH h with ⟨h8,h⟩|⟨h8,h⟩
 · rcases jH h with ⟨he,h⟩|⟨he,h⟩
   · obtain ⟨B,hB,h⟩:=bs h;obtain ⟨_,rfl⟩:=qy hB;obtain ⟨⟨i,S1⟩,hd,h⟩:=bs h;rw [pl] at h;obtain ⟨⟨z,S2⟩,hz,h⟩:=bs h;rw [pl] at h;obtain ⟨q,hq,h⟩:=bs h;cases q with
     | out o=>exact (aaZ hq).elim
     | go A=>
      replace h:=gi h;cases h;have e2:S2.e=0:=e;by_cases e1:S1.e=0
      · obtain ⟨u1,_,_⟩:=Dx hd hw (.inl ⟨rfl,rfl⟩) e1;obtain ⟨rfl,f1,s1,o1,v1⟩:=IB hd hw e1;have hwl:=k0.os.sl;have os1:OS S1 (V ++ [⟨d,1,-1,1,false,(S.a.b.length:Int),0⟩]):=k0.os.decl (by rw [s1];exact mO _) o1 (by rw [s1];exact vk _) (by rw [s1];exact hwl);obtain ⟨V2,u2,_⟩:=hf _ _ _ _ _ hz u1.wd hl e2;obtain ⟨V2',a1,a2,a3,a4⟩:=hy _ _ _ _ _ hz u1.wd os1 hl e2;have hv2:=u2.v;rw [a1] at hv2;obtain rfl:V2'=V2:=JD hv2;have k1:Uo S0 V0 S1 (V ++ [⟨d,1,-1,1,false,(S.a.b.length:Int),0⟩]):=by
         refine ⟨by have:=k0.ln;rw [kr];omega,fun n hn=>?_,fun n x hn hx=>?_,by rw [s1];exact k0.st,⟨[(V.length:Int)],by rw [o1,ho0],fun j hj=>by rw [List.mem_singleton.1 hj];have:=k0.ln;omega⟩,os1⟩
         · rw [AL (Nat.lt_of_lt_of_le hn k0.ln)];exact k0.sm n hn
         · by_cases c1:n < V.length
           · rw [AL c1] at hx;exact k0.nw n x hn hx
           · have hn2:n=V.length:=by have:=ko hx;rw [kr] at this;omega
             subst hn2;rw [Du (mO _),Nat.sub_self] at hx;cases hx;dsimp only;omega
        have k2:=k1.trans a2;have hst:=a2.st;rw [s1] at hst;obtain ⟨V3,h1,h2,h3,h4⟩:=afP u2.wd hq e2 (by omega) a2.os.sl;obtain ⟨q1,q2⟩:=PK (S2:=⟨⟨S2.a.a,A,S2.a.b⟩,S2.f,S0.b,S2.c,S2.e⟩) (N:=[(V.length:Int)]) rfl os0 k2 (by rw [a3,o1,ho0]) rfl rfl (fun _=>by omega) h2 h3 h4;rw [show S2.f=S.f from u2.f.trans f1] at h1;refine ⟨V3,h1,by rw [DI,ho0];exact q1,by rw [DI,ho0],fun VF hF=>?_⟩;rw [DI,ho0] at hF;have hF2:=q2 VF hF;have hF3:Fin' VF V2' S2.b S2.a.b.length:=by rw [a3,o1,ho0];exact hF2
        have hF4:=hF3.back a2 os1;rw [o1,s1] at hF4;have hS:=a4 VF hF3;rw [o1,s1,ho0] at hS;exact ⟨hF4.acn (fun j hj=>(k0.os.lt j hj).2) rfl,hS⟩
      · exact absurd (hE _ _ _ _ hz e2) e1
   · cases h
 · cases h
theorem abG (hE:Eb f)(hf:Xb f)(hy:Yb' f):Ys' (rP fu f g):=by
 intro S x x' S' V h hw os ⟨n,hx⟩ e;cases n with
 | zero=>exact hx.elim
 | succ n=>
 obtain ⟨h1,h2,h3,h4,hsh⟩:=hx;have hbo:∀ y ∈ x.d,∃ n,DL 5000 n y:=fun y hy=>⟨n,h3.2 y hy⟩;have hel:∀ y ∈ x.h,∃ n,DL 5000 n y:=fun y hy=>⟨n,h4.2 y hy⟩;unfold rP at h;rcases jH h with ⟨_,h⟩|⟨_,h⟩
 · obtain ⟨q,hq,h⟩:=bs h;cases h;exact absurd e (tY (by decide) hq).2
 obtain ⟨r8,hr8,h⟩:=bs h;obtain ⟨hr8l,rfl⟩:=qy hr8;have hsl:S.a.b.length+1<=1000000000:=hr8l;have hw8:Wd (inS S (S.a.b ++ [⟨S.f,x.b,x.g⟩])) V:=⟨hw.v,hw.vo⟩;obtain ⟨v,hv,h⟩:=bs h;cases v with
 | out o=>
   cases h;obtain ⟨hk,V2,q,_,hx',_⟩:=VJ hsh.len hv hw8 e;obtain ⟨v,k1,k2,k3,k4,k5⟩:=acr hsh.len hv hw8 e;rw [mo (by omega) (by omega)] at k1;obtain ⟨t1,t2,t3,t4,t5⟩:=hsh.decl hk;have hl3:S'.a.b.length=S.a.b.length+1:=by rw [k3,kr]
   have hU:Uo S V S' (V ++ [v]):=by
     refine ⟨by rw [kr];omega,fun n hn=>AL hn,fun n y hn hy=>?_,by omega,⟨_,k4,fun j hj=>by rw [List.mem_singleton.1 hj];exact vk _⟩,os.decl (by omega) k4 (by rw [k1];omega) (by omega)⟩;have hn2:n=V.length:=by have:=ko hy;rw [kr] at this;omega
     subst hn2;rw [Du (mO _),Nat.sub_self] at hy;cases hy;omega
   have hk':x'.b=1:=by rw [hx'];exact hk
   have hb':x'.d=[]:=by rw [hx'];exact t3
   have he':x'.h=[]:=by rw [hx'];exact t4
   refine ⟨_,k5,hU,by rw [lG hk',k4,k2],fun VF hF=>?_⟩;refine .cons (c:=S.a.b.length+1) (d:=S.a.b.length+1) (by rw [hx']) (S9 hF hU os (by omega)) (by rw [hb'];exact .nil) (by rw [he'];exact .nil) (by rw [hl3];exact .nil)
 | go s=>
   obtain ⟨a1,a2,a3,a4,a5,a6,a7,a8⟩:=s;replace h:=gi h;simp only [pl] at h;obtain ⟨m1,m2,m3⟩:=ZX h1.1 hsh.len hv;obtain ⟨⟨T,S1⟩,hT,h⟩:=bs h;rw [pl] at h;obtain ⟨k1,k2,k3⟩:=(I6 fu).2 _ _ _ _ _ V hT (m1.wd hw8);obtain ⟨v,hv2,h⟩:=bs h;obtain ⟨S2,cl,rfl,k4,k5⟩:=acZ ((m1.trans k1).wd hw8) hv2;replace h:=gi h;simp only [pl] at h;obtain ⟨⟨A,S3⟩,hA,h⟩:=bs h;rw [pl] at h;have m4:=(m1.trans k1).trans k4;obtain ⟨k6,k7,k8⟩:=(I6 fu).2 _ _ _ _ _ V hA (m4.wd hw8);have m6:=m4.trans k6;obtain ⟨⟨B,S4⟩,hB,h⟩:=bs h;rw [pl] at h;have hst:S3.a.b.length=S.a.b.length+1:=by rw [m6.out];exact kr
   have hop:S3.b=S.b:=m6.op;have hf3:S3.f=S.f:=m6.f;have os3:OS S3 V:=os.grow (by omega) hop (by omega);have u3:Uo S V S3 V:=⟨mO _,fun _ _=>rfl,fun n y hn hy=>by have:=ko hy;omega,by omega,⟨[],by rw [hop];simp,fun j hj=>by cases hj⟩,os3⟩;obtain ⟨v,hv3,h⟩:=bs h;by_cases e4:S4.e=0
   · obtain ⟨V4,n1,_⟩:=hf _ _ _ _ _ hB (m6.wd hw8) hbo e4;obtain ⟨V4',b1,b2,b3,b4⟩:=hy _ _ _ _ _ hB (m6.wd hw8) os3 hbo e4;have hv4:=n1.v;rw [b1] at hv4;cases hv4;have u4:=u3.trans b2;have hst4:=b2.st;rw [hop] at b3;cases v with
     | go r=>
      replace h:=gi h;obtain ⟨⟨E,S5⟩,hE2,h⟩:=bs h;rw [pl] at h;cases h;obtain ⟨V5,c1,c2,c3,c4⟩:=hy _ _ _ _ _ hE2 n1.wd u4.os hel e;rw [b3] at c3;have h8:x.b≠8:=by
        rcases aa4 hE hf n1.wd hel hv3 with ⟨_,h8⟩|⟨i,z,S6,hh,_⟩
        · exact h8 e4
        · cases hh
      have hst5:=c2.st;refine ⟨V5,by rw [<-hf3,<-n1.f];exact c1,u4.trans c2,by rw [lD m2];exact c3,fun VF hF=>?_⟩;have hF4:=hF.back c2 u4.os;have hF3:=hF4;have hB4:=b4 VF hF4;rw [hop,hst] at hB4;have hC:=c4 VF hF;rw [b3] at hC;exact .cons rfl (S9 hF (u4.trans c2) os (by omega)) hB4 (by dsimp only;rw [if_neg h8];exact hC) (by dsimp only;rw [if_neg m2];exact .nil)
     | out o=>
      obtain ⟨y',S5⟩:=o;have hx8:=aa4 hE hf n1.wd hel hv3;cases h;obtain ⟨V5,c1,c2,c3,c4⟩:=ae4 hE hf hy n1.wd u4 os b3 (by omega) hel hv3 e;rcases hx8 with ⟨hh,_⟩|⟨i,z,S6,hh,h8,_⟩
      · cases hh
      cases hh;have hst5:=c2.st;refine ⟨V5,by rw [<-hf3,<-n1.f];exact c1,c2,by rw [lD m2];exact c3,fun VF hF=>?_⟩;obtain ⟨hF4,hC⟩:=c4 VF hF;have hB4:=b4 VF hF4;rw [hop,hst] at hB4;have hlt5:S.a.b.length < S'.a.b.length:=by have:=hC.le;omega
      exact .cons rfl (S9 hF c2 os hlt5) hB4 (by dsimp only;rw [if_pos h8];exact hC) (by dsimp only;rw [if_neg m2];exact .nil)
   · exfalso;unfold og at hv3;have hg2:v=.go ():=by
      rcases jH hv3 with ⟨_,hv3⟩|⟨_,hv3⟩
      · rw [lD e4] at hv3;cases hv3;rfl
      · cases hv3;rfl
     subst hg2;replace h:=gi h;obtain ⟨⟨E,S5⟩,hE2,h⟩:=bs h;rw [pl] at h;cases h;exact e4 (hE _ _ _ _ hE2 e)
end
theorem LA:∀ fu:Nat,Yb' (p9 fu)∧Ys' (vW fu)
 | 0=>⟨fun _ _ _ _ _ h=>(by cases h),fun _ _ _ _ _ h=>(by cases h)⟩
 | fu+1=>⟨YO (AV fu).2.2 (LA fu).2,abG (AV fu).1 (AV fu).2.1 (LA fu).1⟩
def OE (n:Nat):List Int:=(List.range n).map fun i:Nat=>(i:Int)
theorem Qa {n k:Nat}:(k:Int) ∈ OE n ↔ k < n:=by unfold OE;rw [List.mem_map];exact ⟨fun ⟨a,h1,h2⟩=>by have:=List.mem_range.1 h1;omega,fun h=>⟨k,List.mem_range.2 h,rfl⟩⟩
theorem U9 {n:Nat}:OE n ++ [(n:Int)]=OE (n+1):=by unfold OE;rw [List.range_succ,List.map_append];rfl
theorem VY {fu:Nat}{m:kN}:∀ (l:List ByteArray)(k:Nat)(S:fV) b1 b2 b3 b4 b5 b6 b7 b8,S.e≠0->kV fu m l k S.b S.a.a.a S.f S.c S.e S.a.a.b S.a.c S.a.b=some (.go (b1,b2,b3,b4,b5,b6,b7,b8))->b5≠0:=fun l=>by
 induction l with
 | nil=>intro k S b1 b2 b3 b4 b5 b6 b7 b8 h1 h2;cases h2;exact h1
 | cons y l ih=>
  intro k S b1 b2 b3 b4 b5 b6 b7 b8 h1 h2;rw [kV] at h2;obtain ⟨⟨j,S2⟩,h3,h2⟩:=bs h2;rw [pl] at h2;refine ih _ S2 _ _ _ _ _ _ _ _ (fun z=>?_) h2;unfold nK at h3;obtain ⟨⟨o,c⟩,_,h3⟩:=bs h3;rw [pl] at h3;obtain ⟨t,ht,h3⟩:=bs h3;rw [lG h1] at h3;cases h3;exact h1 z
theorem QJ {fu:Nat}{m:kN}:∀ (l:List ByteArray)(k:Nat)(S:fV)(V:List gP)(b1:List Int)(b2:List kg)(b3 b4 b5:Int)(b6:List kN)(b7:List (List gP))(b8:List jT),Wd S V→OS S V→S.b=OE V.length→
  kV fu m l k S.b S.a.a.a S.f S.c S.e S.a.a.b S.a.c S.a.b=some (.go (b1,b2,b3,b4,b5,b6,b7,b8))->b5=0->
  ∃ V',Wd ⟨⟨⟨b2,b6⟩,b7,b8⟩,b3,b1,b4,b5⟩ V'/\OS ⟨⟨⟨b2,b6⟩,b7,b8⟩,b3,b1,b4,b5⟩ V'/\b1=OE V'.length/\b3=S.f/\V'.length=V.length+l.length
 | [],_,S,V,_,_,_,_,_,_,_,_,hw,os,ho,h,e=>by cases h;exact ⟨V,hw,os,ho,rfl,rfl⟩
 | u :: r,k,S,V,b1,b2,b3,b4,b5,b6,b7,b8,hw,os,ho,h,e=>by
  rw [kV] at h;obtain ⟨⟨j,S1⟩,h1,h⟩:=bs h;rw [pl] at h;by_cases e1:S1.e=0
  · obtain ⟨k1,_,_⟩:=Dx h1 hw (.inl ⟨rfl,rfl⟩) e1;obtain ⟨_,f1,s1,o1,_⟩:=IB h1 hw e1;have hl1:S1.a.b.length=S.a.b.length:=by rw [s1]
    have hsl:=os.sl;obtain ⟨V',q1,q2,q3,q4,q5⟩:=QJ r _ S1 _ b1 b2 b3 b4 b5 b6 b7 b8 k1.wd (os.decl (by omega) o1 (by rw [hl1];exact vk _) (by omega)) (by rw [o1,ho,kr,U9]) h e;exact ⟨V',q1,q2,q3,q4.trans f1,by rw [q5,kr,uK];omega⟩
  · exact absurd e (VY _ _ _ _ _ _ _ _ _ _ _ e1 h)
theorem QO {fu:Nat}{S:fV}(hsl:S.a.b.length≤1000000000):∀ (l:List ByteArray)(k:Nat)(a a':List (List gP))(V:List gP),lW fu S l k a=some (.go a')→ix a S.f=some V→
  ∃ V',ix a' S.f=some V'/\V'.length=V.length/\(∀ n:Nat,n < k\/k+l.length<=n->V'[n]?=V[n]?)/\∀ n:Nat,k<=n->n < k+l.length->∃ v w,V[n]?=some v/\V'[n]?=some w/\w.e=v.e/\w.d=(S.a.b.length:Int) - 1
 | [],k,a,a',V,h,hV=>by cases h;exact ⟨V,hV,rfl,fun _ _=>rfl,fun n h1 h2=>by simp at h2;omega⟩
 | e :: r,k,a,a',V,h,hV=>by
  rw [lW] at h;obtain ⟨t,ht,h⟩:=bs h;rw [hV] at ht;cases ht;obtain ⟨b,hb,h⟩:=bs h;obtain ⟨V1,hV1,h⟩:=bs h;obtain ⟨vs,hvs,h⟩:=bs h;obtain ⟨q,hq,hql,rfl⟩:=sG hV1;obtain rfl:k=q:=by omega
  rw [tq] at hb;obtain ⟨p,hp,hpl,rfl⟩:=sG hvs;obtain ⟨V',h1,h2,h3,h4⟩:=QO hsl r _ _ a' _ h (by rw [hp,tq,Bz hpl]);rw [uK];refine ⟨V',h1,h2.trans wU,fun n hn=>?_,fun n hn1 hn2=>?_⟩
  · rw [h3 n (by omega),zu (by omega)]
  · by_cases hnk:n=k
    · subst hnk;exact ⟨b,{ b with d:=wr ((S.a.b.length:Int) - 1) },hb,by rw [h3 n (by omega)];exact List.getElem?_set_self hql,rfl,by unfold wr;dsimp only;rw [Ru (by omega) (by omega)]⟩
    · obtain ⟨v,w,z1,z2⟩:=h4 n (by omega) (by omega);rw [zu (by omega)] at z1;exact ⟨v,w,z1,z2⟩
def FS (V:List gP)(fn:kN):Prop:=∃ a b,Sc V (OE fn.a.length) fn.d a b
theorem Tm {fu:Nat}{S S':fV}{x x':kN}(h:nU fu S x=some (x',S'))(hw:Wd S [])(hsl:S.a.b.length<=1000000000)(hx:YJ 5000 x)(e:S'.e=0):S'.a.b.length<=1000000000/\∃ V',ix S'.a.c S.f=some V'/\FS V' x':=by
 unfold nU at h;rcases jH h with ⟨_,h⟩|⟨_,h⟩
 · obtain ⟨q,hq,h⟩:=bs h;cases h;exact absurd e (tY (by decide) hq).2
 obtain ⟨v,hv,h⟩:=bs h;cases v with
 | out o=>exact (Hy _ _ _ _ _ _ _ _ _ _ _ hv).elim
 | go s=>
   obtain ⟨a1,a2,a3,a4,a5,a6,a7,a8⟩:=s;replace h:=gi h;simp only [pl] at h;rcases jH h with ⟨c,h⟩|⟨c,h⟩
   · have hw0:Wd ⟨S.a,S.f,[],S.c,S.e⟩ []:=⟨hw.v,hw.vo⟩;obtain ⟨V1,k1,k2,k3,k4,k5⟩:=QJ x.a 0 ⟨S.a,S.f,[],S.c,S.e⟩ [] _ _ _ _ _ _ _ _ hw0 ⟨.nil,fun j hj=>(by cases hj),fun n v hv=>(by simp at hv),hsl⟩ rfl hv c;obtain ⟨⟨t,S2⟩,ht,h⟩:=bs h;rw [pl] at h;obtain ⟨v,hv2,h⟩:=bs h;cases v with
     | out o=>exact (Ir _ _ _ _ hv2).elim
     | go u=>
      replace h:=gi h;cases h;have hbl:∀ y ∈ x.d,∃ n,DL 5000 n y:=fun y hy=>⟨10,hx.el y hy⟩;obtain ⟨V2,n1,_⟩:=(AV fu).2.1 _ _ _ _ _ ht k1 hbl e;obtain ⟨V2',b1,b2,b3,b4⟩:=(LA fu).1 _ _ _ _ _ ht k1 k2 hbl e;have hv4:=n1.v;rw [b1] at hv4;obtain rfl:V2'=V2:=JD hv4;have hf:S2.f=S.f:=n1.f.trans k4;obtain ⟨V3,h1,h2,h3,h4⟩:=QO b2.os.sl _ _ _ _ V2' hv2 (by rw [hf,<-k4];exact b1);rw [hf] at h1;refine ⟨b2.os.sl,V3,h1,a8.length,S2.a.b.length,?_⟩;have hpl:a1=OE x.a.length:=by rw [k3,k5,xX,DV]
      dsimp only at b3 b4;rw [<-hpl];refine b4 V3 ⟨fun n hn=>?_,fun n hn ho=>?_,fun n w hn hw=>?_⟩
      · rw [b3,hpl,Qa] at hn;obtain ⟨v,w,z1,z2,z3,z4⟩:=h4 n (uN _) (by omega);exact ⟨v,w,z1,z2,z3,by omega⟩
      · rw [b3,hpl,Qa] at ho;exact h3 n (.inr (by omega))
      · have:=ko hw;omega
   · cases h;exact absurd e c
def aaY (s:jR):Prop:=∀ (k:Nat)(fn:kN),s.a.b[k]?=some fn->∃ V,s.c[k]?=some V/\FS V fn
theorem KX {fu:Nat}{p:jV}(hp:Vl 5000 p):∀ (n i:Nat)(a:List kg)(b c d:Int)(e:List kN)(vs:List (List gP))(g:List jT)(h:List Int)(j:Int)(a':List kg)(b' c' d':Int)(e':List kN)(vs':List (List gP))(g':List jT)(h':List Int),
  g.length<=1000000000->e.length=p.b.length->vs.length=i->i<=p.b.length->(∀ (k:Nat)(fn:kN),k < i->e[k]?=some fn->∃ V,vs[k]?=some V/\FS V fn)->(∀ (k:Nat),i<=k->e[k]?=p.b[k]?)->
  l8 fu p n i a b c d e vs g h=some (.go (j,a',b',c',d',e',vs',g',h'))->d'=0->aaY ⟨⟨a',e'⟩,vs',g'⟩
 | 0,_,_,_,_,_,_,_,_,_,_,_,_,_,_,_,_,_,_,_,_,_,_,_,_,h,_=>by cases h
 | n+1,i,a,b,c,d,e,vs,g,h,j,a',b',c',d',e',vs',g',h',hg,h1,h2,h3,h4,h5,hm,hd=>by
  have hlen:=hp.e;rw [l8] at hm;rcases jH hm with ⟨hi,hm⟩|⟨hi,hm⟩
  · rcases jH hm with ⟨he,hm⟩|⟨he,hm⟩
    · obtain ⟨r,hr,hm⟩:=bs hm;obtain ⟨_,rfl⟩:=qy hr;obtain ⟨fn,hfn,hm⟩:=bs hm;rw [tq] at hfn;obtain ⟨⟨fn',S'⟩,hF,hm⟩:=bs hm;rw [pl] at hm;obtain ⟨q,hq,hm⟩:=bs hm;obtain ⟨w,hw,hm⟩:=bs hm;rw [mo (by omega) (by omega)] at hm;have hwd:Wd ⟨⟨⟨a,e⟩,vs ++ [[]],g⟩,(i:Int),h,c,d⟩ []:=⟨by dsimp only;rw [tq,<-h2,List.getElem?_append_right (Nat.le_refl _),Nat.sub_self];rfl,fun x hx=>by cases hx⟩;by_cases e1:S'.e=0
      · obtain ⟨V',k1,k2,k3⟩:=Ke hF hwd (hp.el fn (vM hfn)) e1;obtain ⟨g1,V2,b1,b2⟩:=Tm hF hwd hg (hp.el fn (vM hfn)) e1;obtain ⟨q2,hq2,hql,rfl⟩:=sG hw;obtain rfl:i=q2:=by omega
        have hPF:S'.a.a.b=e:=by rw [k1.pg]
        have hvl:S'.a.c.length=i+1:=by rw [k1.vl];dsimp only;rw [kr,h2]
        rw [show ((i:Int)+1)=((i+1:Nat):Int) from by omega] at hm;refine KX hp n (i+1) _ _ _ _ _ _ _ _ j a' b' c' d' e' vs' g' h' g1 (by rw [wU,hPF];exact h1) hvl (by omega) (fun k fk hk hfk=>?_) (fun k hk=>?_) hm hd
        · rw [hPF] at hfk;by_cases hki:k=i
          · subst hki;rw [Bz (by rw [h1];omega)] at hfk;cases hfk;dsimp only at b1;rw [tq] at b1;exact ⟨V2,b1,b2⟩
          · rw [zu (by omega)] at hfk;obtain ⟨V,hV,hW⟩:=h4 k fk (by omega) hfk;have:=k1.vs k (by dsimp only;omega);dsimp only at this;exact ⟨V,by rw [this,AL (ko hV)];exact hV,hW⟩
        · rw [hPF,zu (by omega)];exact h5 k (by omega)
      · exfalso;cases n with
        | zero=>cases hm
        | succ n=>
          rw [l8] at hm;rcases jH hm with ⟨_,hm⟩|⟨_,hm⟩
          · rw [lD e1] at hm;cases hm;exact e1 hd
          · cases hm;exact e1 hd
    · cases hm;exact absurd hd he
  · cases hm;intro k fn hk;have:=ko hk;exact h4 k fn (by dsimp only at this;omega) hk
theorem YV {fu:Nat}{p:jV}(hf:5002<=fu)(hp:Vl 5000 p){s:jR}{ln:Int}(h:qY fu p=some (s,ln,0)):aaY s:=by
 unfold qY at h;obtain ⟨r,hr,h⟩:=bs h;obtain ⟨_,rfl⟩:=qy hr;obtain ⟨S,hS,h⟩:=bs h;have hs:=(Ol hf (S:=⟨⟨⟨p.a,[] ++ p.b⟩,[],[]⟩,0,[],0,0⟩) hp.recs hp.fields hp.e).of' hS;obtain ⟨v,hv,h⟩:=bs h;cases v with
 | out o=>exact (Oc _ _ _ _ _ _ _ _ _ _ hv).elim
 | go r=>
  obtain ⟨j,a',b',c',d',e',vs',g',h'⟩:=r;replace h:=gi h;simp only [pl] at h;have ho:=hs.out;rcases jH h with ⟨c,h⟩|⟨c,h⟩
  · cases h;exact absurd rfl c
  · cases h;rw [ho] at hv;exact KX hp fu 0 _ _ _ _ _ _ _ _ _ _ _ _ _ _ _ _ _ (uN _) rfl rfl (uN _) (fun k fn hk=>by omega) (fun k _=>rfl) hv (Decidable.not_not.1 c)
set_option maxRecDepth 4000
def Mm (a b:Nat)(s s':Lw):Prop:=∀ i:Int,Pp s.blocks i<=Pp s'.blocks i/\Pp s'.blocks i<=Pp s.blocks i+if (a:Int)<=i/\i < b then 1 else 0
theorem Nmk.mm {a b:Nat}{s s':Lw}(h:Nmk s s'):Mm a b s s':=fun i=>by rw [h.2 i];exact ⟨mO _,Nat.le_add_right _ _⟩
theorem Mm.trans {a b c:Nat}{s s1 s2:Lw}(hab:a<=b)(hbc:b<=c)(h:Mm a b s s1)(k:Mm b c s1 s2):Mm a c s s2:=fun i=>by have h:=h i;have k:=k i;split at h <;> split at k <;> split <;> omega
theorem Mm.wid {a b d:Nat}{s s1:Lw}(hb:b<=d)(h:Mm a b s s1):Mm a d s s1:=fun i=>by have h:=h i;split at h <;> split <;> omega
inductive Ids:List jA→Nat→Nat→Prop
 | nil (a:Nat):Ids [] a a
 | cons {x:jA} {l:List jA} {a c d b:Nat} (h:x.n=a) (h1:∀ y ∈ x.a,XO y) (h2:∀ y ∈ x.e,XO y) (s1:Ids x.d (a+1) c) (s2:Ids x.h c d) (s3:Ids l d b):Ids (x :: l) a b
theorem Ids.le {l:List jA}{a b:Nat}(h:Ids l a b):a<=b:=by
 induction h with
 | nil=>exact mO _
 | cons _ _ _ _ _ _ i1 i2 i3=>omega
section
variable {α β:Type}{c:LM α}{f:α->LM β}{a b d:Nat}
def Mk1 (a d:Nat)(s s':Lw):Prop:=s.stmt=(a:Int)->Mm a d s s'/\Pp s.blocks a+1<=Pp s'.blocks a
end
theorem k1 {f:Unit->LM Unit}{a d:Nat}(hd:a+1<=d)(k:∀ x,Qt (f x) (Mm (a+1) d)):Qt (HV.bind f) (Mk1 a d):=abz.bind k fun s s1 s2 h1 h2 hs=>by
 refine ⟨fun i=>?_,?_⟩
 · have h:=h1.2 i;have k:=h2 i;rw [hs] at h;split at h <;> split at k <;> split <;> omega
 · have h:=h1.2 a;have k:=h2 a;rw [hs,lG rfl] at h;omega
section
variable {vis:Int->Int->Option (List Int)}{vars:List (List gP)}{st:jA->LM Unit}{fu:Nat}
end
theorem Rx {n:Int}(h:0<=n)(h2:n<=1000000):wr n=n:=by unfold wr;rw [Ru (by omega) (by omega)]
structure ad1 (src:jR)(B:Nat->Nat):Prop where
 b0:B 0=0
 be:B src.a.b.length=src.b.length
 sm:src.b.length<=1000
 ids:∀ (j:Nat)(fn:kN),src.a.b[j]?=some fn->Ids fn.d (B j) (B (j+1))
 fn:∀ (j i:Nat),j < src.a.b.length->B j<=i->i < B (j+1)->∃ x,src.b[i]?=some x/\x.k=(j:Int)
theorem ad1.find {src:jR}{B:Nat→Nat}(h:ad1 src B){i:Nat}:∀ n,n≤src.a.b.length→i < B n→∃ j,j < n∧B j≤i∧i < B (j+1)
 | 0,_,hi=>by rw [h.b0] at hi;omega
 | n+1,hn,hi=>by
  by_cases c:B n<=i
  · exact ⟨n,by omega,c,hi⟩
  · obtain ⟨j,h1,h2,h3⟩:=h.find (i:=i) n (by omega) (by omega);exact ⟨j,by omega,h2,h3⟩
structure Iv (vars:List (List gP))(v:Bool)(s:Lw):Prop where
 o0:0<=s.ops
 o1:s.ops<=6000
 bk:∀ b ∈ s.blocks,(b.c.length:Int)<=s.ops
 lb:∀ t ∈ s.labs,t.2.length<=200
 vl:v=true->s.vals.isSome=true
 hn:∀ h ∈ s.hnd,h < s.labs.length
 vw:∀ vs,ix? vars s.f=some vs->∀ x ∈ vs,x.a<=8
def Go' (vars:List (List gP))(v:Bool)(s s':Lw):Prop:=Iv vars v s'/\s.labs.length<=s'.labs.length/\s'.f=s.f/\s'.hnd=s.hnd
section
variable {vars:List (List gP)}{v v' v2:Bool}{α β:Type}{c:LM α}{f:α->LM β}{L H n m p:Nat}
def TT (vars:List (List gP))(v v':Bool)(c:LM α)(L H n m:Nat)(Q:α->Nat->Prop):Prop:=∀ s,Iv vars v s->L<=s.labs.length->s.hnd.length<=H->s.pend.length<=n->∃ q,c s=some q/\∀ a s',q=.ok a s'->Go' vars v' s s'/\s'.pend.length<=m/\Q a s'.labs.length
abbrev q0:α->Nat->Prop:=fun _ _=>True
theorem tB {Q:α->Nat->Prop}{Q':β->Nat->Prop}(h:TT vars v v' c L H n m Q)(k:∀ a K,L<=K->Q a K->TT vars v' v2 (f a) K H m p Q'):TT vars v v2 (c.bind f) L H n p Q':=by
 intro s hi hl hh hp;obtain ⟨q,hq,h2⟩:=h s hi hl hh hp;unfold LM.bind;rw [hq];cases q with
 | lim=>exact ⟨_,rfl,fun a s' e=>by cases e⟩
 | rt=>exact ⟨_,rfl,fun a s' e=>by cases e⟩
 | ok a s1=>
  obtain ⟨⟨g1,g2,g3,g4⟩,g5,g6⟩:=h2 a s1 rfl;obtain ⟨q2,hq2,h3⟩:=k a _ (by omega) g6 s1 g1 (mO _) (by rw [g4];exact hh) g5;refine ⟨q2,hq2,fun b s2 e=>?_⟩;obtain ⟨⟨k1,k2,k3,k4⟩,k5,k6⟩:=h3 b s2 e;exact ⟨⟨k1,rE g2 k2,k3.trans g3,k4.trans g4⟩,k5,k6⟩
theorem xS {a:α}{Q:α->Nat->Prop}(h:∀ K,L<=K->Q a K)(hm:n<=m):TT vars v v (oD a) L H n m Q:=fun s hi hl hh hp=>⟨_,rfl,fun b s' e=>by
 cases e;exact ⟨⟨hi,mO _,rfl,rfl⟩,by omega,h _ hl⟩⟩
theorem WH {Q:α->Nat->Prop}:TT vars v v' (lrt (α:=α)) L H n m Q:=fun s _ _ _ _=>⟨_,rfl,fun b s' e=>by cases e⟩
theorem Dm {l:List β}{k:β->LM α}{Q:α->Nat->Prop}(h:∀ x ∈ l,TT vars v v' (k x) L H n m Q):TT vars v v' (yt l k) L H n m Q:=by
 cases l with
 | nil=>exact WH
 | cons x l=>exact h x (Bl ..)
theorem abE {l:List β}{k:β->LM α}{Q:α->Nat->Prop}(h:∀ x ∈ l,TT vars v v' (k x) L H n m Q):TT vars v v' (Yw l k) L H n m Q:=by
 cases l with
 | nil=>exact WH
 | cons x l=>
  cases l with
  | nil=>exact WH
  | cons y l=>exact h y (yw _ (Bl ..))
theorem rV {p:Prop}[Decidable p]{a b:LM α}{Q:α->Nat->Prop}(h:p->TT vars v v' a L H n m Q)(k:¬ p->TT vars v v' b L H n m Q):TT vars v v' (if p then a else b) L H n m Q:=by
 split
 · exact h ‹_›
 · exact k ‹_›
theorem LX {s s':Lw}(hi:Iv vars v s)(h1:s'.ops=s.ops)(h2:s'.blocks=s.blocks)(h3:s'.labs=s.labs)(h4:s'.vals=s.vals)(h5:s'.hnd=s.hnd)(h6:s'.f=s.f):Go' vars v s s':=
 ⟨⟨by rw [h1];exact hi.o0,by rw [h1];exact hi.o1,by rw [h1,h2];exact hi.bk,by rw [h3];exact hi.lb,by rw [h4];exact hi.vl,by rw [h5,h3];exact hi.hn,by rw [h6];exact hi.vw⟩,by rw [h3];exact mO _,h6,h5⟩
end
theorem Ez {α:Type}{a b:List α}(h:a.length+b.length<=1000000000):app a b=some (a ++ b):=by unfold app;rw [lG h]
section
variable {vis:Int->Int->Option (List Int)}{vars:List (List gP)}{v:Bool}{L H n:Nat}
theorem KT {l:List qm}(hl:l.length<=1000):TT vars v v (lop l) L H n n q0:=by
 intro s hi hL hh hp;unfold lop;have h0:=hi.o0;have h1:=hi.o1;have hw:wr (s.ops+l.length)=s.ops+l.length:=by unfold wr;rw [Ru (by omega) (by omega)]
 rw [hw];by_cases c:6000 < s.ops+l.length
 · rw [lG c];exact ⟨_,rfl,fun a s' e=>by cases e⟩
 rw [lD c];cases hb:ix? s.blocks s.blk with
 | none=>exact ⟨_,rfl,fun a s' e=>by cases e⟩
 | some b=>
   have hm:b ∈ s.blocks:=vM (ix?_at hb);have hbl:=hi.bk b hm;dsimp only;rw [Ez (by omega)];refine ⟨_,rfl,fun a s' e=>?_⟩;cases e;refine ⟨⟨⟨by show (0:Int)<=s.ops+l.length;omega,by show s.ops+l.length<=(6000:Int);omega,fun x hx=>?_,hi.lb,hi.vl,hi.hn,hi.vw⟩,mO _,rfl,rfl⟩,hp,trivial⟩;show (x.c.length:Int)<=s.ops+l.length;rcases Ie hx with hx | rfl
   · have:=hi.bk x hx;omega
   · simp only [Ij];omega
theorem GK {o:qm}:TT vars v v (JI o) L H n n q0:=fun s hi hL hh hp=>by have h:=tB (f:=fun (_:Unit)=>oD s.next) (KT (v:=v) (vars:=vars) (L:=L) (H:=H) (n:=n) (l:=[{ o with e:=s.next }]) (by simp)) (fun a K _ _=>xS (Q:=q0) (fun _ _=>trivial) (mO _));exact h { s with next:=wr (s.next+1) } ⟨hi.o0,hi.o1,hi.bk,hi.lb,hi.vl,hi.hn,hi.vw⟩ hL hh hp
theorem Ba {k:Int}:TT vars v v (wY k) L H n n q0:=GK
theorem FD {k:Int}(hn:n<=1000000):TT vars v v (EZ k) L H n (n+1) q0:=fun s hi hL hh hp=>by unfold EZ;rw [Ez (by simp;omega)];refine ⟨_,rfl,fun a s' e=>?_⟩;cases e;exact ⟨LX hi rfl rfl rfl rfl rfl rfl,by simp;omega,trivial⟩
theorem IV:TT vars v v Gb L H (n+1) n q0:=fun s hi hL hh hp=>by
 unfold Gb;split
 · exact ⟨_,rfl,fun a s' e=>by cases e⟩
 · refine ⟨_,rfl,fun a s' e=>?_⟩;cases e;exact ⟨LX hi rfl rfl rfl rfl rfl rfl,by simp;omega,trivial⟩
theorem Uj:TT vars v v Jo L H n n q0:=fun s hi hL hh hp=>by
 unfold Jo;split
 · exact ⟨_,rfl,fun a s' e=>by cases e⟩
 · refine ⟨_,rfl,fun a s' e=>?_⟩;cases e;exact ⟨LX hi rfl rfl rfl rfl rfl rfl,hp,trivial⟩
theorem Ii {p:Pc}{k:Int}:TT vars true true (Bc p k) L H n n q0:=fun s hi hL hh hp=>by unfold Bc;obtain ⟨l,hl⟩:=Option.isSome_iff_exists.1 (hi.vl rfl);rw [hl];obtain ⟨q,hq,h⟩:=KT (vars:=vars) (v:=true) (L:=L) (H:=H) (n:=n) (l:=[⟨21,0,0,0,0,0,p.1,p.2,⟨2,k,0⟩⟩]) (by simp) { s with vals:=some (yD l p k) } ⟨hi.o0,hi.o1,hi.bk,hi.lb,fun _=>rfl,hi.hn,hi.vw⟩ hL hh hp;exact ⟨q,hq,h⟩
theorem Xk:TT vars v v Vm L H n n q0:=fun s hi hL hh hp=>KT (l:=[⟨20,0,0,0,s.stmt,0,0,0,wD⟩]) (by simp) s hi hL hh hp
theorem Us:TT vars v v HV L H n n q0:=fun s hi hL hh hp=>KT (l:=[⟨19,0,0,0,s.stmt,0,0,0,wD⟩]) (by simp) s hi hL hh hp
theorem Tf {vs:Option (List gP)}(h:∀ l,vs=some l→∀ x ∈ l,x.a≤8):∀ (l:List Int)(acc:List Pc),acc.length+8 * l.length≤200→∃ r,Md vs l acc=some r∧∀ ps,r=some ps→ps.length≤200
 | [],acc,ha=>⟨_,rfl,fun ps e=>by cases e;simp at ha;exact ha⟩
 | k :: l,acc,ha=>by
  rw [Md];cases hx:vs.bind fun vs=>ix? vs k with
  | none=>exact ⟨_,rfl,fun ps e=>by cases e⟩
  | some x=>
   obtain ⟨l2,hl2,hx⟩:=bs hx;have hw:=h l2 hl2 x (vM (ix?_at hx));simp only [uK] at ha;dsimp only;by_cases c:x.b=3
   · rw [lG c];exact Tf h l acc (by omega)
   · rw [lD c,Ez (by simp;omega)];exact Tf h l _ (by simp;omega)
theorem vT (hV:∀ f st,∃ l,vis f st=some l/\l.length<=25){stm:Int}:TT vars v v (sH vis vars stm) L H n n fun a K=>a < K:=fun s hi hL hh hp=>by
 unfold sH;obtain ⟨l,hl,hlen⟩:=hV s.f stm;rw [hl];obtain ⟨r,hr,hps⟩:=Tf (vs:=ix? vars s.f) hi.vw l [] (by simp;omega);rw [Option.bind_some,hr];cases r with
 | none=>exact ⟨_,rfl,fun a s' e=>by cases e⟩
 | some ps=>
  refine ⟨_,rfl,fun a s' e=>?_⟩;cases e;refine ⟨⟨⟨hi.o0,hi.o1,hi.bk,fun t ht=>?_,hi.vl,fun h hh=>?_,hi.vw⟩,by simp,rfl,rfl⟩,hp,by simp⟩
  · rcases pX.1 ht with ht | ht
    · exact hi.lb t ht
    · rw [List.mem_singleton.1 ht];exact hps ps rfl
  · have:=hi.hn h hh;simp;omega
theorem Nv {i:Nat}(hi0:i < L):TT vars v v (xG i) L H n n q0:=fun s hi hL hh hp=>by
 unfold xG;obtain ⟨t,ht⟩:∃ t,s.labs[i]?=some t:=⟨_,List.getElem?_eq_getElem (by omega)⟩;rw [ht];dsimp only [Option.bind_some];split
 · refine ⟨_,rfl,fun a s' e=>?_⟩;cases e;exact ⟨LX hi rfl rfl rfl rfl rfl rfl,hp,trivial⟩
 split
 · exact ⟨_,rfl,fun a s' e=>by cases e⟩
 refine ⟨_,rfl,fun a s' e=>?_⟩;cases e;refine ⟨⟨⟨hi.o0,hi.o1,fun b hb=>?_,fun x hx=>?_,hi.vl,fun h hh=>?_,hi.vw⟩,by simp,rfl,rfl⟩,hp,trivial⟩
 · rcases pX.1 hb with hb | hb
   · exact hi.bk b hb
   · rw [List.mem_singleton.1 hb];exact hi.o0
 · rcases Ie hx with hx | rfl
   · exact hi.lb x hx
   · exact hi.lb t (vM ht)
 · have:=hi.hn h hh;simpa using this
end
section
variable {vis:Int->Int->Option (List Int)}{vars:List (List gP)}{v:Bool}{L H n m:Nat}
theorem y5 {i:Nat}{l:List Int}(hi:i < L)(hl:l.length<=10):TT vars true true (vY i l) L H n n fun e _=>e.a.length<=300:=
 tB (Nv hi) fun _ K hK _ s hv hL hh hp=>by obtain ⟨t,ht⟩:∃ t,s.labs[i]?=some t:=⟨_,List.getElem?_eq_getElem (by omega)⟩;obtain ⟨vs,hvs⟩:=Option.isSome_iff_exists.1 (hv.vl rfl);have:=hv.lb t (vM ht);rw [ht,Option.bind_some,hvs,Option.bind_some,Ez (by simp;omega)];refine ⟨_,rfl,fun a s' e=>?_⟩;cases e;exact ⟨LX hv rfl rfl rfl rfl rfl rfl,hp,by simp;omega⟩
theorem PX:∀ {L:Nat}{l:List Pc}{k:Int}{i:Nat},TT vars true true (EU l k i) L H n n q0
 | _,[],_,_=>xS (fun _ _=>trivial) (mO _)
 | _,p :: l,k,i=>tB Ii fun _ K hK _=>PX
theorem WO {s:Lw}{b b':mP}{k:Int}(h:∀ b ∈ s.blocks,(b.c.length:Int)<=s.ops)(hb:ix? s.blocks k=some b)(hE:b'.c=b.c):∀ x ∈ s.blocks.set k.toNat b',(x.c.length:Int)<=s.ops:=fun x hx=>by
 rcases Ie hx with hx | rfl
 · exact h x hx
 · rw [hE];exact h b (vM (ix?_at hb))
theorem vV {i:Nat}{k:Int}(hi:i < L):TT vars v true (oV i k) L H n n q0:=fun s hv hL hh hp=>by
 obtain ⟨t,ht⟩:∃ t,s.labs[i]?=some t:=⟨_,List.getElem?_eq_getElem (by omega)⟩;unfold oV;rw [ht,Option.bind_some];dsimp only;split
 · exact ⟨_,rfl,fun a s' e=>by cases e⟩
 split
 · exact ⟨_,rfl,fun a s' e=>by cases e⟩
 rename_i b hb;exact (tB (PX (L:=L) (H:=H) (n:=n)) fun _ K hK _ s hv hL hh hp=>⟨_,rfl,fun a s' e=>by
   cases e;exact ⟨LX hv rfl rfl rfl rfl rfl rfl,by simp;omega,trivial⟩⟩) { s with blk:=t.1,opn:=true,next:=_,blocks:=s.blocks.set t.1.toNat { b with a:=_ },vals:=some [] } ⟨hv.o0,hv.o1,WO hv.bk hb rfl,hv.lb,fun _=>rfl,hv.hn,hv.vw⟩ hL hh hp
theorem I9 {t:x9}:TT vars v v (lend t) L H n n q0:=fun s hv hL hh hp=>by
 unfold lend;split
 · exact ⟨_,rfl,fun a s' e=>by cases e⟩
 rename_i b hb;refine ⟨_,rfl,fun a s' e=>?_⟩;cases e;exact ⟨⟨⟨hv.o0,hv.o1,WO hv.bk hb rfl,hv.lb,hv.vl,hv.hn,hv.vw⟩,mO _,rfl,rfl⟩,hp,trivial⟩
theorem Fy {i:Nat}(hi:i < L):TT vars true true (wR i) L H n n q0:=fun s hv hL hh hp=>by
 unfold wR;split
 · exact (tB (y5 hi (by simp)) fun _ K hK _=>I9) s hv hL hh hp
 · exact xS (Q:=q0) (fun _ _=>trivial) (mO _) s hv hL hh hp
theorem OY {k:Int}:TT vars v v (Ei k) L H n n q0:=I9
theorem Fq {k:Int}{a b:ug}:TT vars v v (CK k a b) L H n n q0:=I9
theorem Qr {k:Int}:TT vars true true (xR k) L H n n q0:=fun s hv hL hh hp=>by
 unfold xR;split
 · rename_i h hh2;exact (tB (y5 (L:=s.labs.length) (hv.hn h (List.mem_of_getLast? hh2)) (by simp)) fun _ K hK _=>I9) s hv (mO _) hh hp
 · exact I9 s hv hL hh hp
theorem Vq {k:ug->LM Unit}(h:∀ e K,L<=K->TT vars true true (k e) K H n m q0):TT vars true true (ET k) L H n m q0:=fun s hv hL hh hp=>by
 unfold ET;split
 · rename_i h' hh2;exact (tB (y5 (L:=s.labs.length) (hv.hn h' (List.mem_of_getLast? hh2)) (by simp)) fun e K hK _=>h e K (by omega)) s hv (mO _) hh hp
 · exact h _ L (mO _) s hv hL hh hp
theorem GJ {k:Int}(hn:n<=1000000):TT vars v v (BZ k) L H (n+2) (n+1) q0:=tB IV fun _ _ _ _=>tB IV fun _ _ _ _=>tB GK fun _ _ _ _=>FD hn
theorem PI {i:Nat}(hi:i < L)(hn:n<=1000000):TT vars true true (Lm i) L H n n q0:=tB (y5 hi (by simp)) fun e K hK he s hv hL hh hp=>by rw [Ez (by omega)];refine ⟨_,rfl,fun a s' e=>?_⟩;cases e;exact ⟨LX hv rfl rfl rfl rfl rfl rfl,hp,trivial⟩
theorem Ny {i:Nat}(hi:i < L):TT vars v true (Ik i) L H n n q0:=tB (vV hi) fun _ _ _ _=>Xk
theorem QD {i:Nat}{k:Int}(hi:i < L):TT vars v true (GR i k) L H n n q0:=fun s hv hL hh hp=>by
 have h:=tB (vV (vars:=vars) (v:=v) (L:=L) (H:=H) (n:=0) (k:=0) hi) fun _ _ _ _=>tB Xk fun _ _ _ _=>tB (Ba (k:=k)) fun c _ _ _=>Qr (k:=c);obtain ⟨q,hq,h2⟩:=h { s with pend:=[] } ⟨hv.o0,hv.o1,hv.bk,hv.lb,hv.vl,hv.hn,hv.vw⟩ hL hh (mO _);have hb:GR i k s=q.then fun _ s'=>some (.ok () { s' with pend:=s.pend }):=by
  have e:((oV i 0 |>.bind fun _=>Vm |>.bind fun _=>wY k |>.bind fun c=>xR c).bind fun _ s'=>some (.ok () { s' with pend:=s.pend })) { s with pend:=[] }=q.then fun _ s'=>some (.ok () { s' with pend:=s.pend }):=by show Option.bind _ _=_;rw [hq];rfl
  rw [<-e];have hba:∀ {α β γ:Type}{mm:LM α}{k:α->LM β}{j:β->LM γ},(mm.bind k).bind j=mm.bind fun a=>(k a).bind j:=fun {α β γ mm k j}=>funext fun s=>by
   unfold LM.bind;cases mm s with
   | none=>rfl
   | some q=>cases q <;> rfl
  rw [hba,show (fun a=>LM.bind (Vm.bind fun _=>(wY k).bind fun c=>xR c) fun _ s'=>some (Lo.ok () { s' with pend:=s.pend }))=fun (_:Unit)=>Vm.bind fun _=>(wY k).bind fun c=>(xR c).bind fun _ s'=>some (.ok () { s' with pend:=s.pend }) from funext fun _=>by rw [hba];congr 1;exact funext fun _=>hba];rfl
 rw [hb];cases q with
 | lim=>exact ⟨_,rfl,fun a s' e=>by cases e⟩
 | rt=>exact ⟨_,rfl,fun a s' e=>by cases e⟩
 | ok a s1=>
  obtain ⟨⟨g1,g2,g3,g4⟩,_⟩:=h2 a s1 rfl;refine ⟨_,rfl,fun a s' e=>?_⟩;cases e;exact ⟨⟨⟨g1.o0,g1.o1,g1.bk,g1.lb,g1.vl,g1.hn,g1.vw⟩,g2,g3,g4⟩,hp,trivial⟩
theorem O4 {β:Type}{k:Nat->LM β}{Q:β->Nat->Prop}{v':Bool}(hV:∀ f st,∃ l,vis f st=some l/\l.length<=25)(h:∀ a K,L<=K->a < K->TT vars v v' (k a) K H n m Q):TT vars v v' (QE vis vars k) L H n m Q:=fun s hv hL hh hp=>(tB (vT hV) h) s hv hL hh hp
theorem WA (hV:∀ f st,∃ l,vis f st=some l/\l.length<=25)(hn:n<=1000000):TT vars true true (OZ vis vars) L H n n q0:=tB Uj fun d _ _ _=>O4 hV fun next K1 h1 hN=>O4 hV fun fault K2 h2 hF=>tB (PI (by omega) hn) fun _ K3 h3 _=>
 tB (y5 (by omega) (by simp)) fun _ K4 h4 _=>tB Fq fun _ K5 h5 _=>tB (QD (by omega)) fun _ K6 h6 _=>Ny (by omega)
theorem Xn {β:Type}{i:Int}{k:gP->LM β}{Q:β->Nat->Prop}{v':Bool}(h:∀ x,x.a<=8->TT vars v v' (k x) L H n m Q):TT vars v v' (NJ vars i k) L H n m Q:=fun s hv hL hh hp=>by
 unfold NJ;split
 · exact ⟨_,rfl,fun a s' e=>by cases e⟩
 · rename_i x hx;obtain ⟨l,hl,hx⟩:=bs hx;exact h x (hv.vw l hl x (vM (ix?_at hx))) s hv hL hh hp
theorem Td {β:Type}{i:Int}{k:Int->LM β}{Q:β->Nat->Prop}{v':Bool}(h:∀ n',TT vars v v' (k n') L H n m Q):TT vars v v' (Rh i k) L H n m Q:=fun s hv hL hh hp=>h _ s hv hL hh hp
theorem PL (hV:∀ f st,∃ l,vis f st=some l/\l.length<=25){ex:jB->LM Unit}{x:jB}(hn:n<=100000)(h:∀ y ∈ x.a,TT vars true true (ex y) L H n (n+1) q0):TT vars true true (IQ vis vars ex x) L H n (n+1) q0:=
 tB (Dm h) fun _ K0 h0 _=>tB Uj fun _ _ _ _=>tB Ba fun _ _ _ _=>tB GK fun _ K1 h1 _=>Xn fun _ _=>tB Ba fun _ _ _ _=>tB GK fun _ _ _ _=>tB GK fun _ K2 h2 _=>
 O4 hV fun next K3 h3 hN=>O4 hV fun fault K4 h4 hF=>tB (y5 (by omega) (by simp)) fun _ K5 h5 _=>tB (PI (by omega) (by omega)) fun _ K6 h6 _=>tB Fq fun _ K7 h7 _=>tB (QD (by omega)) fun _ K8 h8 _=>Ny (by omega)
def XD:Nat→jB→Prop
 | 0,_=>False
 | d+1,e=>∀ y ∈ e.a,XD d y
theorem G8 (hV:∀ f st,∃ l,vis f st=some l∧l.length≤25):∀ (fu d:Nat)(e:jB)(L H n:Nat),XD d e→d≤fu→n+d≤100000→TT vars true true (lexpr vis vars fu e) L H n (n+1) q0
 | 0,0,_,_,_,_,h,_,_=>h.elim
 | 0,d+1,_,_,_,_,_,h,_=>by omega
 | fu+1,0,_,_,_,_,h,_,_=>h.elim
 | fu+1,d+1,e,L,H,n,h,hd,hn=>by
  have ih:∀ (L n:Nat),n+d<=100000->∀ y ∈ e.a,TT vars true true (lexpr vis vars fu y) L H n (n+1) q0:=fun L n hn y hy=>G8 hV fu d y L H n (h y hy) (by omega) hn;unfold lexpr;refine rV (fun _=>tB Ba fun _ _ _ _=>FD (by omega)) fun _=>rV (fun _ s hv hL hh hp=>?_) fun _=>rV (fun _=>tB (PL hV (by omega) (ih _ n (by omega))) fun _ _ _ _=>tB IV fun _ _ _ _=>Td fun _=>tB GK fun _ _ _ _=>FD (by omega)) fun _=>
   rV (fun _=>tB (tB Ba fun _ _ _ _=>FD (by omega)) fun _ _ _ _=>tB (Dm (ih _ (n+1) (by omega))) fun _ _ _ _=>GJ (by omega)) fun _=>rV (fun _=>tB (Dm (ih _ n (by omega))) fun _ _ _ _=>tB (tB Ba fun _ _ _ _=>FD (by omega)) fun _ _ _ _=>GJ (by omega)) fun _=>
   tB (Dm (ih _ n (by omega))) fun _ _ _ _=>tB (abE (ih _ (n+1) (by omega))) fun _ _ _ _=>tB (rV (fun _=>WA hV (by omega)) fun _=>xS (Q:=q0) (fun _ _=>trivial) (mO _)) fun _ _ _ _=>GJ (by omega)
  obtain ⟨vs,hvs⟩:=Option.isSome_iff_exists.1 (hv.vl rfl);rw [hvs];exact FD (by omega) s hv hL hh hp
end
section
variable {vis:Int->Int->Option (List Int)}{vars:List (List gP)}{v:Bool}{L H n m fu d:Nat}
abbrev EO (vis:Int->Int->Option (List Int)):Prop:=∀ f st,∃ l,vis f st=some l/\l.length<=25
theorem TT.wk {α:Type}{c:LM α}{v v':Bool}{L L' H H' n m n' m':Nat}{Q:α->Nat->Prop}(h:TT vars v v' c L H n m Q)(h1:L<=L')(h2:H'<=H)(h3:n'<=n)(h4:m<=m'):TT vars v v' c L' H' n' m' Q:=fun s hv hL hh hp=>by obtain ⟨q,hq,k⟩:=h s hv (by omega) (by omega) (by omega);exact ⟨q,hq,fun a s' e=>⟨(k a s' e).1,by have:=(k a s' e).2.1;omega,(k a s' e).2.2⟩⟩
theorem PE (hV:EO vis)(hd:d≤fu):∀ (l:List jB)(L n:Nat),(∀ y ∈ l,XD d y)→n+l.length+d≤100000→TT vars true true (Gj vis vars fu l) L H n (n+l.length) q0
 | [],_,_,_,_=>xS (fun _ _=>trivial) (mO _)
 | x :: l,L,n,h,hn=>tB (G8 hV fu d x L H n (h x (Bl ..)) hd (by simp at hn;omega)) fun _ K hK _=>(PE hV hd l K (n+1) (fun y hy=>h y (yw _ hy)) (by simp at hn;omega)).wk (mO _) (mO _) (mO _) (by simp;omega)
theorem H8 (hV:EO vis){e:jB}(h:XD d e)(hd:d<=fu)(hn:n+d<=100000):TT vars true true (lvalue vis vars fu e) L H n n q0:=tB (G8 hV fu d e L H n h hd hn) fun _ _ _ _=>IV
theorem Qi {i:Int}:∀ {L k:Nat}{j:Int},TT vars true true (EA i k j) L H n n q0
 | _,0,_=>xS (fun _ _=>trivial) (mO _)
 | _,k+1,j=>tB Ba fun _ _ _ _=>tB Ii fun _ _ _ _=>Qi
theorem Si {x:jA}:TT vars true true (AZ vars x) L H n n q0:=Xn fun y hy=>rV (fun _=>Td fun _=>KT (by simp)) fun _=>by rw [lD (by omega)];exact Qi
theorem UR (hV:EO vis){t e:jB}(ht:XD d t)(he:XD d e)(hd:d<=fu)(hn:n+1+d<=100000):TT vars true true (Ea vis vars fu t e) L H n n q0:=by
 refine rV (fun _=>?_) fun _=>tB (H8 hV he hd (by omega)) fun _ _ _ _=>tB (rV (fun _=>GK) fun _=>xS (Q:=q0) (fun _ _=>trivial) (mO _)) fun _ _ _ _=>Ii;refine tB (PL hV (by omega) fun y hy=>?_) fun _ _ _ _=>tB (G8 hV fu d e _ H (n+1) he hd hn) fun _ _ _ _=>tB IV fun _ _ _ _=>tB IV fun _ _ _ _=>Td fun _=>KT (by simp);cases d with
 | zero=>exact ht.elim
 | succ d=>exact G8 hV fu d y _ H n (ht y hy) (by omega) (by omega)
theorem Yz (hV:EO vis){x:jA}(h:∀ y ∈ x.a,XD d y)(hl:x.a.length<=5000)(hd:d<=fu)(hn:n+5000+d<=100000):TT vars true true (EF vis vars fu x) L H n n q0:=
 tB (PE hV hd x.a L n h (by omega)) fun _ K hK _ s hv hL hh hp=>by have:=(tB (vT (v:=true) (vars:=vars) (L:=K) (H:=H) (n:=0) (stm:=x.n) hV) fun next K1 h1 hN=>tB (y5 hN (l:=[]) (by simp)) fun e K2 h2 _=>Vq fun h K3 h3=>tB (I9 (t:=⟨3,0,x.i,s.pend,⟨e,h⟩⟩)) fun _ K4 h4 _=>tB (vV (i:=next) (k:=1) (by omega)) fun _ _ _ _=>Xk) { s with pend:=[] } ⟨hv.o0,hv.o1,hv.bk,hv.lb,hv.vl,hv.hn,hv.vw⟩ hL hh (mO _);obtain ⟨q,hq,k⟩:=this;exact ⟨q,hq,fun a s' e=>⟨(k a s' e).1,by have:=(k a s' e).2.1;omega,trivial⟩⟩
theorem DT {st:jA→LM Unit}:∀ {l:List jA}{L:Nat},(∀ x ∈ l,∀ L,TT vars true true (st x) L H n n q0)→TT vars true true (uy st l) L H n n q0
 | [],_,_=>xS (fun _ _=>trivial) (mO _)
 | x :: l,L,h=>fun s hv hL hh hp=>by
  rw [uy];dsimp only;split
  · exact (tB (h x (Bl ..) L) fun _ K hK _=>DT fun y hy=>h y (yw _ hy)) s hv hL hh hp
  · exact xS (Q:=q0) (fun _ _=>trivial) (mO _) s hv hL hh hp
theorem Nu {i:Nat}(hi:i < L):TT vars true true (xP i) L H n n q0:=fun s hv hL hh hp=>by
 obtain ⟨t,ht⟩:∃ t,s.labs[i]?=some t:=⟨_,List.getElem?_eq_getElem (by omega)⟩;unfold xP;rw [ht,Option.bind_some];split
 · exact vV hi s hv hL hh hp
 · exact xS (Q:=q0) (fun _ _=>trivial) (mO _) s hv hL hh hp
theorem UK (hV:EO vis){st:jA->LM Unit}{x:jA}(ha:∀ y ∈ x.a,XD d y)(hd:d<=fu)(hn:n+d<=100000)(hb:∀ y ∈ x.d,∀ L,TT vars true true (st y) L H n n q0)(he:∀ y ∈ x.h,∀ L,TT vars true true (st y) L H n n q0):TT vars true true (CQ vis vars st fu x) L H n n q0:=
 tB (Dm fun y hy=>H8 hV (ha y hy) hd hn) fun c K0 h0 _=>tB (vT hV) fun body K1 h1 hB=>tB (vT hV) fun behind K2 h2 hN=>tB (rV (fun _=>xS (Q:=fun a K=>a < K) (fun K hK=>by omega) (mO _)) fun _=>vT hV) fun other K3 h3 hO=>
 tB (y5 (by omega) (by simp)) fun yes K4 h4 _=>tB (y5 (by omega) (by simp)) fun no K5 h5 _=>tB Fq fun _ K6 h6 _=>tB (vV (by omega)) fun _ K7 h7 _=>tB (DT hb) fun _ K8 h8 _=>tB (Fy (by omega)) fun _ K9 h9 _=>
 tB (rV (fun _=>xS (Q:=q0) (fun _ _=>trivial) (mO _)) fun _=>tB (vV (by omega)) fun _ K10 h10 _=>tB (DT he) fun _ K11 h11 _=>Fy (by omega)) fun _ K12 h12 _=>Nu (by omega)
theorem Zl (hV:EO vis){st:jA->LM Unit}{x:jA}(ha:∀ y ∈ x.a,XD d y)(hd:d<=fu)(hn:n+d<=100000)(hb:∀ y ∈ x.d,∀ L,TT vars true true (st y) L H n n q0):TT vars true true (Js vis vars st fu x) L H n n q0:=
 tB (vT hV) fun head K0 h0 hH=>tB (vT hV) fun body K1 h1 hB=>tB (vT hV) fun behind K2 h2 hN=>tB (Fy (by omega)) fun _ K3 h3 _=>tB (vV (by omega)) fun _ K4 h4 _=>tB Us fun _ K5 h5 _=>tB (Dm fun y hy=>H8 hV (ha y hy) hd hn) fun c K6 h6 _=>
 tB (y5 (by omega) (by simp)) fun yes K7 h7 _=>tB (y5 (by omega) (by simp)) fun no K8 h8 _=>tB Fq fun _ K9 h9 _=>tB (vV (by omega)) fun _ K10 h10 _=>tB (DT hb) fun _ K11 h11 _=>tB (Fy (by omega)) fun _ K12 h12 _=>vV (by omega)
theorem aby (hV:EO vis){st:jA->LM Unit}{x:jA}(hH:H<=1000000)(hb:∀ y ∈ x.d,∀ L,TT vars true true (st y) L (H+1) n n q0)(he:∀ y ∈ x.h,∀ L,TT vars true true (st y) L H n n q0):TT vars true true (Qc vis vars st x) L H n n q0:=
 tB (vT hV) fun h K0 h0 hh0=>tB (vT hV) fun behind K1 h1 hN s hv hL hh hp=>by
  have hrest:TT vars true true (wR behind |>.bind fun _ s=>s.labs[h]?.bind fun t=>((if 0<=t.1 then oV h 1 |>.bind fun _=>Bc (x.f,0) 0 |>.bind fun _=>uy st x.h |>.bind fun _=>wR behind else oD ()) |>.bind fun _=>xP behind) s) K1 H n n q0:=
   tB (Fy hN) fun _ K2 h2 _ s hv hL hh hp=>by obtain ⟨t,ht⟩:∃ t,s.labs[h]?=some t:=⟨_,List.getElem?_eq_getElem (by omega)⟩;rw [ht,Option.bind_some];exact (tB (rV (fun _=>tB (vV (by omega)) fun _ K3 h3 _=>tB Ii fun _ K4 h4 _=>tB (DT he) fun _ K5 h5 _=>Fy (by omega)) fun _=>xS (Q:=q0) (fun _ _=>trivial) (mO _)) fun _ K6 h6 _=>Nu (by omega)) s hv hL hh hp
  obtain ⟨q,hq,k⟩:=DT (L:=K1) hb { s with hnd:=s.hnd ++ [h] } ⟨hv.o0,hv.o1,hv.bk,hv.lb,hv.vl,fun y hy=>by
   rcases pX.1 hy with hy | hy
   · exact hv.hn y hy
   · rw [List.mem_singleton.1 hy];show h < s.labs.length;omega,hv.vw⟩ hL (by simp;omega) hp
  have e1:Kv h s=some (.ok () { s with hnd:=s.hnd ++ [h] }):=by unfold Kv;rw [lD (by omega)]
  unfold LM.bind;rw [e1];show ∃ q,Option.bind (uy st x.d _) _=some q/\_;rw [hq];cases q with
  | lim=>exact ⟨_,rfl,fun a s' e=>by cases e⟩
  | rt=>exact ⟨_,rfl,fun a s' e=>by cases e⟩
  | ok a s1=>
   obtain ⟨⟨g1,g2,g3,g4⟩,g5,_⟩:=k a s1 rfl;have e2:KL s1=some (.ok () { s1 with hnd:=s.hnd }):=by unfold KL;rw [lD (by rw [g4];simp),g4];simp
   show ∃ q,Option.bind (KL s1) _=some q/\_;rw [e2];obtain ⟨q2,hq2,k2⟩:=hrest { s1 with hnd:=s.hnd } ⟨g1.o0,g1.o1,g1.bk,g1.lb,g1.vl,fun y hy=>Nat.lt_of_lt_of_le (hv.hn y hy) g2,g1.vw⟩ (rE hL g2) hh g5;refine ⟨q2,hq2,fun b s2 e=>?_⟩;obtain ⟨⟨m1,m2,m3,m4⟩,m5,_⟩:=k2 b s2 e;exact ⟨⟨m1,rE g2 m2,m3.trans g3,m4⟩,m5,trivial⟩
def SD (d:Nat):Nat→jA→Prop
 | 0,_=>False
 | k+1,x=>(∀ y ∈ x.e,XD d y)/\(x.a.length<=5000/\∀ y ∈ x.a,XD d y)/\(∀ y ∈ x.d,SD d k y)/\∀ y ∈ x.h,SD d k y
theorem Ph (hV:EO vis)(hn:n+5001+d≤100000):∀ (fu k:Nat)(x:jA)(L H:Nat),SD d k x→k+d≤fu→H+k≤1000000→TT vars true true (xY vis vars fu x) L H n n q0
 | 0,0,_,_,_,h,_,_=>h.elim
 | 0,k+1,_,_,_,_,h,_=>by omega
 | fu+1,0,_,_,_,h,_,_=>h.elim
 | fu+1,k+1,x,L,H,h,hk,hH=>fun s hv hL hh hp=>by
  obtain ⟨ht,⟨hl,ha⟩,hb,he⟩:=h;have hS:∀ y ∈ x.d,∀ L H,H+k<=1000000->TT vars true true (xY vis vars fu y) L H n n q0:=fun y hy L H hH=>Ph hV hn fu k y L H (hb y hy) (by omega) hH;have hE:∀ y ∈ x.h,∀ L H,H+k<=1000000->TT vars true true (xY vis vars fu y) L H n n q0:=fun y hy L H hH=>Ph hV hn fu k y L H (he y hy) (by omega) hH
  have key:TT vars true true (if x.b=5 then Js vis vars (xY vis vars fu) fu x
   else HV |>.bind fun _=>
    if x.b=1 then AZ vars x
    else if x.b=2 then yt x.e fun t=>yt x.a fun e=>Ea vis vars fu t e
    else if x.b=3 then EF vis vars fu x |>.bind fun _=>match x.e with
     | []=>oD ()
     | t :: _=>Bc (BG t) 0
    else if x.b=4 then CQ vis vars (xY vis vars fu) fu x
    else if x.b=6 then (if x.k≠be then EF vis vars fu x |>.bind fun _=>Ei 0 else yt x.a (lvalue vis vars fu) |>.bind Ei)
    else if x.b=7 then yt x.a (lvalue vis vars fu) |>.bind xR
    else if x.b=8 then Qc vis vars (xY vis vars fu) x
    else if x.b=9 then yt x.a (lvalue vis vars fu) |>.bind fun v=>lop [⟨18,0,v,0,0,0,0,0,wD⟩]
    else if x.b=10 then wY 0 |>.bind Ei
    else oD ()) L H n n q0:=by
   have hv:∀ K,TT vars true true (yt x.a (lvalue vis vars fu)) K H n n q0:=fun K=>Dm fun y hy=>H8 hV (ha y hy) (by omega) (by omega);have hc:∀ K,TT vars true true (EF vis vars fu x) K H n n q0:=fun K=>Yz hV ha hl (by omega) (by omega);refine rV (fun _=>Zl hV ha (by omega) (by omega) fun y hy L=>hS y hy L H (by omega)) fun _=>tB Us fun _ K1 h1 _=>?_;refine rV (fun _=>Si) fun _=>rV (fun _=>Dm fun t htm=>Dm fun y hy=>UR hV (ht t htm) (ha y hy) (by omega) (by omega)) fun _=>rV (fun _=>tB (hc _) fun _ K2 h2 _=>?_) fun _=>
    rV (fun _=>UK hV ha (by omega) (by omega) (fun y hy L=>hS y hy L H (by omega)) fun y hy L=>hE y hy L H (by omega)) fun _=>rV (fun _=>rV (fun _=>tB (hc _) fun _ _ _ _=>OY) fun _=>tB (hv _) fun _ _ _ _=>OY) fun _=>
    rV (fun _=>tB (hv _) fun _ _ _ _=>Qr) fun _=>rV (fun _=>aby hV (by omega) (fun y hy L=>hS y hy L (H+1) (by omega)) fun y hy L=>hE y hy L H (by omega)) fun _=>rV (fun _=>tB (hv _) fun _ _ _ _=>KT (by simp)) fun _=>
    rV (fun _=>tB Ba fun _ _ _ _=>OY) fun _=>xS (fun _ _=>trivial) (mO _)
   cases x.e with
   | nil=>exact xS (fun _ _=>trivial) (mO _)
   | cons t l=>exact Ii
  exact key { s with stmt:=x.n } ⟨hv.o0,hv.o1,hv.bk,hv.lb,hv.vl,hv.hn,hv.vw⟩ hL hh hp
end
section
variable {vis:Int->Int->Option (List Int)}{fu d k:Nat}
theorem OH:∀ (l:List gP)(i:Nat)(s:Lw),s.objs.length+l.length≤1000000→∃ q,Eh l i s=some q∧∀ a s',q=.ok a s'→(∀ x ∈ l,x.a≤8)∧∃ om ob,s'={ s with omap:=om,objs:=ob }
 | [],_,s,_=>⟨_,rfl,fun a s' e=>by
  cases e;exact ⟨fun x hx=>by (cases hx),_,_,rfl⟩⟩
 | v :: l,i,s,h=>by
  simp only [uK] at h;rw [Eh];dsimp only;by_cases c:8 < v.a
  · rw [lG c];exact ⟨_,rfl,fun a s' e=>by cases e⟩
  rw [lD c];have hx:(∀ x ∈ l,x.a<=8)->∀ x ∈ v :: l,x.a<=8:=fun hl x hx=>by
    rcases oM.1 hx with rfl | hx
    · omega
    · exact hl x hx
  by_cases c3:v.b=3
  · rw [lG c3,Ez (by simp;omega),Option.bind_some];obtain ⟨q,hq,k⟩:=OH l (i+1) { s with omap:=yD s.omap i s.objs.length,objs:=s.objs ++ [⟨0,i,v.a⟩] } (by simp;omega);refine ⟨q,hq,fun a s' e=>?_⟩;obtain ⟨k1,om,ob,k2⟩:=k a s' e;exact ⟨hx k1,om,ob,k2⟩
  · rw [lD c3];obtain ⟨q,hq,k⟩:=OH l (i+1) s (by omega);refine ⟨q,hq,fun a s' e=>?_⟩;obtain ⟨k1,om,ob,k2⟩:=k a s' e;exact ⟨hx k1,om,ob,k2⟩
abbrev abH (f:Nat)(fn:kN):Lw:=⟨f,fn.a.length,[],[⟨-1,-1,f⟩],[],[],0,0,false,0,none,[],[],0,[]⟩
theorem abL {src:jR}{f:Nat}(hV:EO vis)(hF:∀ fn,src.a.b[f]?=some fn->∀ x ∈ fn.d,SD d k x)(hvs:∀ vs ∈ src.c,vs.length<=1000)(hfu:k+d<=fu)(hd:5001+d<=100000)(hk:k<=1000000):∃ q,Ob vis src fu (Ms f)=some q:=by
 unfold Ob;have hix:∀ {α:Type}{l:List α},ix? l ((f:Nat):Int)=l[f]?:=fun {α l}=>by unfold ix?;rw [lD (by omega),FJ]
 show ∃ q,(match ix? src.a.b ((f:Nat):Int) with
  | none=>_
  | some fn=>_)=some q
 rw [hix];cases hfn:src.a.b[f]? with
 | none=>exact ⟨_,rfl⟩
 | some fn=>
 dsimp only;show ∃ q,(match ix? src.c ((f:Nat):Int) with
  | none=>_
  | some vs=>_)=some q
 rw [hix];cases hv:src.c[f]? with
 | none=>exact ⟨_,rfl⟩
 | some vs=>
 dsimp only;obtain ⟨q,hq,h⟩:=OH vs 0 (abH f fn) (by show 0+vs.length<=1000000;have:=hvs vs (vM hv);omega);unfold LM.bind;show ∃ q,Option.bind (Eh vs 0 (abH f fn)) _=some q;rw [hq];cases q with
 | lim=>exact ⟨_,rfl⟩
 | rt=>exact ⟨_,rfl⟩
 | ok a s=>
 obtain ⟨h1,om,ob,rfl⟩:=h a s rfl;have key:TT src.c false true (yt fn.d fun x=>sH vis src.c x.n |>.bind fun e=>xG e |>.bind fun _=>oV e 0 |>.bind fun _=>uy (xY vis src.c fu) fn.d) 0 0 0 0 q0:=
  Dm fun x hx=>tB (vT hV) fun e K1 _ hE=>tB (Nv hE) fun _ K2 h2 _=>tB (vV (by omega)) fun _ K3 h3 _=>DT fun y hy L=>Ph hV (by omega) fu k y L 0 (hF fn hfn y hy) hfu (by omega)
 obtain ⟨q,hq,_⟩:=key { abH f fn with omap:=om,objs:=ob } ⟨vk _,by show (0:Int)<=6000;omega,fun b hb=>(by cases hb),fun t ht=>(by cases ht),fun h=>(by cases h),fun h hh=>(by cases hh),fun l hl x hx=>by
  have hl:ix? src.c ((f:Nat):Int)=some l:=hl;rw [hix,hv] at hl;cases hl;exact h1 x hx⟩ (mO _) (mO _) (mO _)
 exact ⟨q,hq⟩
theorem Un {src:jR}(hV:EO vis)(hF:∀ fn ∈ src.a.b,∀ x ∈ fn.d,SD d k x)(hvs:∀ vs ∈ src.c,vs.length≤1000)(hfu:k+d≤fu)(hd:5001+d≤100000)(hk:k≤1000000):∀ (n f:Nat)(acc:List p8),acc.length+n≤1000000→∃ r,FU vis src fu n f acc=some r
 | 0,f,acc,_=>⟨_,rfl⟩
 | n+1,f,acc,h=>by
  rw [FU];obtain ⟨q,hq⟩:=abL (f:=f) hV (fun fn hfn=>hF fn (vM hfn)) hvs hfu hd hk;rw [hq,Option.bind_some];cases q with
  | lim=>exact ⟨_,rfl⟩
  | rt=>exact ⟨_,rfl⟩
  | ok a s=>
   dsimp only;rw [Ez (by simp;omega),Option.bind_some];exact Un hV hF hvs hfu hd hk n (f+1) _ (by simp;omega)
end
theorem Pj {fu:Nat}{b:Int}:∀ (l:List gP)(k:Nat)(a:List Int),a.length+l.length≤25→∃ r,kJ fu b l k a=some (.go r)∧r.length≤25
 | [],_,a,h=>⟨a,rfl,by simpa using h⟩
 | x :: l,k,a,h=>by
  simp only [uK] at h;rw [kJ];split
  · split
    · rw [Ez (by simp;omega),Option.bind_some];exact Pj l (k+1) _ (by simp;omega)
    · exact Pj l (k+1) a (by omega)
  · exact Pj l (k+1) a (by omega)
theorem aa6 {fu:Nat}{src:jR}(h:∀ vs ∈ src.c,vs.length<=25):EO (jI fu src):=fun f st=>by
 unfold jI;split
 · exact ⟨[],rfl,by simp⟩
 split
 · exact ⟨[],rfl,by simp⟩
 obtain ⟨vs,hvs⟩:∃ vs,src.c[f.toNat]?=some vs:=⟨_,List.getElem?_eq_getElem (by omega)⟩;have hix:ix src.c f=some vs:=by unfold ix;rw [lD (by omega)];exact hvs
 obtain ⟨r,hr,hl⟩:=Pj (fu:=fu) (b:=st) vs 0 [] (by have:=h vs (vM hvs);simpa using this);rw [hix,Option.bind_some,hr];exact ⟨r,rfl,hl⟩
structure Szs (src:jR)(d k:Nat):Prop where
 fs:src.a.b.length<=1000000
 vs:∀ vs ∈ src.c,vs.length<=25
 sd:∀ fn ∈ src.a.b,∀ x ∈ fn.d,SD d k x
theorem Zq {src:jR}{fu d k:Nat}(h:Szs src d k)(hfu:k+d<=fu)(hd:d<=50000)(hk:k<=1000000):∃ r,uS fu src=some r:=by obtain ⟨r,hr⟩:=Un (fu:=fu) (aa6 (fu:=fu) h.vs) h.sd (fun vs hv=>rE (h.vs vs hv) (by decide)) hfu (by omega) hk src.a.b.length 0 [] (by have:=h.fs;simpa using this);exact ⟨_,by unfold uS WX;rw [hr];rfl⟩
end Go.Proofs.YtdkneekpdecjbaaGreat
