/- Expressions: the interpreter of the specification computes what evM says. -/
import Derived.Test.YtfglbdkfnphjgaaGreatZ23
set_option linter.unusedVariables false
set_option maxRecDepth 4000
set_option maxHeartbeats 12800000
set_option linter.unusedSimpArgs false
namespace Go.Proofs.YtfglbdkfnphjgaaGreat
open Go.RowKit Go.Fw Go.Proofs.Tryz
theorem Xw:jH prog 99:=⟨_,func99,by kernel_rfl,by kernel_rfl⟩
theorem Ut:jH prog 100:=⟨_,func100,by kernel_rfl,by kernel_rfl⟩
theorem PZ:jH prog 101:=⟨_,func101,by kernel_rfl,by kernel_rfl⟩
theorem Qu:jH prog 114:=⟨_,func114,by kernel_rfl,by kernel_rfl⟩
theorem Ry {α β:Type}{q:Pn α}{f:α->Option (Pn β)}{p:Pn β}(h:q.then f=some p)(hp:Eg p):Eg q:=by
 cases q with
 | ok a=>trivial
 | uP t=>trivial
 | err t=>cases h;exact hp.elim
 | rt=>cases h;exact hp.elim
theorem UJ {op x y:Int}(h:Eg (CR op x y)):6<=op/\op<=17:=by
 by_cases hr:6<=op/\op<=17
 · exact hr
 · unfold CR at h;rw [jR (by omega),jR (by omega),jR (by omega),jR (by omega),jR (by omega),jR (by omega),jR (by omega),jR (by omega),jR (by omega),jR (by omega),jR (by omega),jR (by omega)] at h;exact h.elim
theorem Jf {T:TypeId}{x:vV}{g:qx}{w:World}{k r j:Nat}{l:List Int}(h:(It.vY T x g).p w)(hr:x.R[k]?=some r)(hl:g.ws[k]?=some l)(hj:j < l.length):w.cell? ⟨r,0+j * 1,none⟩=some (V (Vb g.ws (k,j))):=by obtain ⟨r',hr',hB,_⟩:=It.tO h hl;rw [hr] at hr';obtain rfl:=vK hr';rw [Bh,Nat.mul_one];refine hB.cell ?_;simp only [List.getElem?_toArray,BR,Vb];rw [List.getElem?_eq_getElem hj];simp [Gb,hl,hj]
def CEr (evf:List (List Int)->jA->Option (Pn Int)):Prop:=∀ {w:World}{A:Nat->Prop}{R:Rn}{m:BX}{n k h o:Nat}{v:Int}{x:vV}{g:qx}{e:jA}{a:Option Addr}{c:Nat}{p:Pn Int},Pre w A [iM R m n k h o 0 v,uw x g] [.l a c e.a]->OX e->evf g.ws e=some p->Eg p-> Calls prog 101 #[Pt R.rb,Pt x.b,.agg (cE e a c).toArray] w (pU fun r w'=>∃ v',Bx w w' A (lH [iM R m n k h o 0 v,uw x g]) [iM R m n k h o 0 v',uw x g] []/\((∃ n,p=.ok n/\r=.tuple #[V n,.bool true])\/(∃ z,p=.uP v'/\r=.tuple #[V z,.bool false])))
def CVr (evf:List (List Int)->jA->Option (Pn Int)):Prop:=∀ {w:World}{A:Nat->Prop}{R:Rn}{m:BX}{n k h o:Nat}{v:Int}{x:vV}{g:qx}{es:List jA}{a:Option Addr}{c:Nat}{p:Pn (List Int)},Pre w A [iM R m n k h o 0 v,uw x g] [.l a c es]->(∀ e ∈ es,OX e)->zq (evf g.ws) es []=some p->Eg p-> Calls prog 100 #[Pt R.rb,Pt x.b,.slice a es.length c] w (pU fun r w'=>∃ v',(∃ ns A1 c1,p=.ok ns/\r=.tuple #[.slice A1 ns.length c1,.bool true]/\Bx w w' A (lH [iM R m n k h o 0 v,uw x g]) [iM R m n k h o 0 v',uw x g] [.l A1 c1 ns])\/(p=.uP v'/\r=.tuple #[sn,.bool false]/\Bx w w' A (lH [iM R m n k h o 0 v,uw x g]) [iM R m n k h o 0 v',uw x g] []))
def CIr (evf:List (List Int)->jA->Option (Pn Int)):Prop:=∀ {w:World}{A:Nat->Prop}{R:Rn}{m:BX}{n k h o:Nat}{v:Int}{x:vV}{g:qx}{e:jA}{a:Option Addr}{c i:Nat}{l:List Int}{y:jA}{r0:List jA}{p:Pn Int},Pre w A [iM R m n k h o 0 v,uw x g] [.l a c e.a]->OX y->e.g=(i:Int)->g.ws[i]?=some l->e.a=y :: r0->evf g.ws y=some p->Eg p-> Calls prog 99 #[Pt R.rb,Pt x.b,.agg (cE e a c).toArray] w (pU fun r w'=>∃ v',Bx w w' A (lH [iM R m n k h o 0 v,uw x g]) [iM R m n k h o 0 v',uw x g] []/\((∃ j:Nat,p=.ok (j:Int)/\j < l.length/\r=.tuple #[V (j:Int),.bool true])\/(∃ z,r=.tuple #[V z,.bool false]/\(p=.uP v'\/∃ n,p=.ok n/\(n < 0\/(l.length:Int)<=n)/\v'=2))))
theorem Nv {ef:List (List Int)->jA->Option (Pn Int)}(hE:CEr ef):CVr ef:=by
 intro w A R m n k h o v x g es a c p hP ha hm hq;have b:=hP.bx;clear hP;generalize hG:lH _=G at b ⊢;refine cf func100 rfl ?_;refine lG [(0,Pt R.rb),(1,Pt x.b),(2,.slice a es.length c)] ⟨rfl,rfl,rfl,trivial⟩ fun av=>?_;have hbd:=(b.dl 0 rfl).bd;replace b:=b.Cy Int 3;refine goC b ?_
 refine kK (fun aw f w'=>∃ (t:Nat)(acc:List Int)(a1:Option Addr)(c1:Nat)(cs:List (List Value))(v:Int),aw=es.length - t∧t≤es.length∧
     Has f [(0,Pt R.rb),(1,Pt x.b),(8,.slice a1 acc.length c1),(13,.slice a es.length c),(14,V (es.length:Int)),(15,V (t:Int))]/\
     Bx w w' A G [.own w.heap.size a1 c1 3 (Rp.sz Int) cs,iM R m n k h o 0 v,uw x g] [.els cs acc,.l a c es]/\zq (ef g.ws) (es.drop t) acc=some p)
   es.length ⟨0,[],none,0,[],v,rfl,uy _,⟨rfl,rfl,rfl,rfl,rfl,rfl,trivial⟩,b,hm⟩ ?_
 clear b hm;rintro aw f w1 ⟨t,acc,a1,c1,cs,v,rfl,ht,hf,b,hm⟩ J hJ;obtain ⟨av,rfl⟩:=mJ _ _ hf;clear hf;refine goC b ?_;refine ou rfl (fun h=>?_) (fun h=>?_)
 · obtain ⟨y,hy⟩:=lZ (l:=es) (k:=t) (by omega);rw [mD hy,zq] at hm;obtain ⟨q,h1,hm⟩:=bs hm;refine goC b ?_;refine Ti b 1 rfl hy rfl rfl rfl fun a2 c2 b=>?_;refine su b (jT jW) fun w2 b9 b=>?_;refine lD (oM b 0 (cE y a2 c2) rfl jW rfl rfl) fun w3 b=>?_;refine goC b ?_;refine kr (l7 (cE y a2 c2) mq jW rfl (b.bk 0 rfl)) ?_;refine pW (l6 PZ rfl) (hE (b.pr [2,3] [0,1] [0] rfl) (ha y (wC hy)) h1 (Ry hm hq)) ?_;rintro _ w4 ⟨v',hK,hr⟩;replace b:=b.cn [2,3] [0,1] hK;rcases hr with ⟨n1,rfl,rfl⟩|⟨z,rfl,rfl⟩
   · obtain ⟨acc2,h2,hm⟩:=bs hm;refine kr (xw (.tuple #[V n1,.bool true]) rfl) ?_;refine goC b ?_;refine nW (jO b [[V n1]] ([n1]:List Int) (yR rfl) rfl rfl (by decide) ⟨rfl,trivial⟩) ?_;rintro _ w5 ⟨b5,rfl,b⟩;refine nW (kR b 4 2 rfl rfl ru ny rfl (by decide) (by decide) (oH _) rfl rfl (b.AR 0 0 rfl rfl) h2) ?_;rintro _ w6 ⟨a4,c4,cs4,rfl,b⟩;refine goC b ?_;refine hJ (es.length - (t+1)) _ _ (by omega) ⟨t+1,acc2,a4,c4,cs4,v',rfl,by omega,⟨rfl,rfl,rfl,rfl,rfl,congrArg V (Px (by omega)),trivial⟩,b.ad [4,1,2] [2,3],hm⟩
   · cases hm;refine kr (xw (.tuple #[V z,.bool false]) rfl) ?_;refine goC b ?_;refine kH ?_;refine ng (fn:=f100) rfl (kL rfl) (kL rfl) ?_;exact ⟨v',.inr ⟨rfl,rfl,(b.arr [0,1] rfl).dp []⟩⟩
 · have:t=es.length:=by omega
   subst this;rw [lW,zq] at hm;obtain rfl:=sm hm;refine goC b ?_;refine uS ?_;refine goC b ?_;refine kH ?_;refine ng (fn:=f100) rfl (kL rfl) (kL rfl) ?_;exact ⟨v,.inl ⟨acc,a1,c1,rfl,rfl,(b.Ob 0 0 rfl rfl).ad [0,1] [0]⟩⟩
theorem NJ {ef:List (List Int)->jA->Option (Pn Int)}(hE:CEr ef):CIr ef:=by
 intro w A R m n k h o v x g e a c i l y r0 p hP ha hi hl hA hm hq;have b:=hP.bx;clear hP;generalize hG:lH _=G at b ⊢;refine cf func99 rfl ?_;refine lG [(0,Pt R.rb),(1,Pt x.b),(2,.agg (cE e a c).toArray)] ⟨rfl,rfl,rfl,trivial⟩ fun av=>?_;refine go ?_;refine su b (uK rfl) fun w1 b5 b=>?_;refine goC b ?_;refine Ti b 0 rfl (show e.a[0]?=some y by rw [hA];rfl) rfl rfl rfl fun a2 c2 b=>?_;refine pW (l6 PZ rfl) (hE (b.pr [1,2] [0] [0] rfl) ha hm hq) ?_;rintro _ w2 ⟨v',hK,hr⟩;replace b:=b.cn [1,2] [0] hK;rcases hr with ⟨n1,rfl,rfl⟩|⟨z,rfl,rfl⟩
 · refine kr (xw (.tuple #[V n1,.bool true]) rfl) ?_;refine goC b ?_;obtain ⟨r1,hr,_,h5,_⟩:=It.tO (b.at 1 rfl) hl;refine Es b (fun _=>True) lF (by kernel_rfl) fun m=>?_;replace b:=m.1;refine pF 0 r (kV r) m (pF 1 r (kV r) m (pF 2 r (mi r) m (pF 3 r (qC r r) m (pF 4 r (kV r) m ?_))));by_cases hn:n1 < 0
   · rw [qF hn];refine jY 5 r (by kernel_rfl) r (sF m) (jY 6 r (by kernel_rfl) r (sF m) (jY 7 r (by kernel_rfl) r (sF m) (jY 8 r (by kernel_rfl) r (sF m) (jY 9 r (by kernel_rfl) r (sF m) (jY 10 r (by kernel_rfl) r (sF m) (jY 11 r (by kernel_rfl) r (sF m) (jY 12 r (by kernel_rfl) r (sF m) (jY 13 r (by kernel_rfl) r (sF m) (jY 14 r (by kernel_rfl) r (sF m) (jY 15 r (by kernel_rfl) r (sF m) (pF 16 r (kP r r) m (pF 17 r (kP r r) m (hD ?_)))))))))))));refine goC b ?_;refine lD (t_n b 0 [V 2] rfl ny rfl rfl) fun w3 b=>?_;refine goC b ?_;refine kH ?_;refine ng (fn:=f99) rfl (kL rfl) (kL rfl) ?_;exact ⟨2,(b.arr [0,1] rfl).dp [],.inr ⟨n1,rfl,.inr ⟨n1,rfl,.inl hn,rfl⟩⟩⟩
   rw [oz hn];refine pF 5 r (mi r) m (pF 6 r (oF r) m (pF 7 r (xn r) m (pF 8 r (yG r r) m (uF 9 r (fun h=>yK r (It.o9 (h.1.at 1 r)) r r) m (pF 10 r (yG r r) m (uF 11 r (fun h=>yK r (h.1.bk 2 r) r r) m (pF 12 r (AV i h5 underlying93 xg r r hi (jU hl)) m (uF 13 r (fun h=>jV (a:=⟨nE x.A,ow x.A+i * 1,none⟩) underlying22 r r (uW (h.1.at 1 r) hr hl)) m (pF 14 r (lT underlying22 r) m (pF 15 r (CF r r) m (pF 16 r (ko r r) m (pF 17 r (kP r r) m (hD ?_)))))))))))));refine ou rfl (fun hn2=>?_) (fun hn2=>?_)
   · refine goC b ?_;refine lD (t_n b 0 [V 2] rfl ny rfl rfl) fun w3 b=>?_;refine goC b ?_;refine kH ?_;refine ng (fn:=f99) rfl (kL rfl) (kL rfl) ?_;exact ⟨2,(b.arr [0,1] rfl).dp [],.inr ⟨n1,rfl,.inr ⟨n1,rfl,.inr hn2,rfl⟩⟩⟩
   · refine goC b ?_;refine kH ?_;refine ng (fn:=f99) rfl (kL rfl) (kL rfl) ?_;obtain ⟨j,rfl⟩:∃ j:Nat,n1=(j:Int):=⟨n1.toNat,by omega⟩;exact ⟨v',(b.arr [0,1] rfl).dp [],.inl ⟨j,rfl,by omega,rfl⟩⟩
 · refine kr (xw (.tuple #[V z,.bool false]) rfl) ?_;refine goC b ?_;refine Es b (fun _=>True) lF (by kernel_rfl) fun m=>?_;replace b:=m.1;refine pF 0 r (kV r) m (pF 1 r (kV r) m (jY 2 r (by kernel_rfl) r (sF m) (jY 3 r (by kernel_rfl) r (sF m) (jY 4 r (by kernel_rfl) r (sF m) (jY 5 r (by kernel_rfl) r (sF m) (jY 6 r (by kernel_rfl) r (sF m) (jY 7 r (by kernel_rfl) r (sF m) (jY 8 r (by kernel_rfl) r (sF m) (jY 9 r (by kernel_rfl) r (sF m) (jY 10 r (by kernel_rfl) r (sF m) (jY 11 r (by kernel_rfl) r (sF m) (jY 12 r (by kernel_rfl) r (sF m) (jY 13 r (by kernel_rfl) r (sF m) (jY 14 r (by kernel_rfl) r (sF m) (jY 15 r (by kernel_rfl) r (sF m) (jY 16 r (by kernel_rfl) r (sF m) (pF 17 r (ko r r) m (hD ?_))))))))))))))))));refine goC b ?_;refine kH ?_;refine ng (fn:=f99) rfl (kL rfl) (kL rfl) ?_;exact ⟨v',(b.arr [0,1] rfl).dp [],.inr ⟨z,rfl,.inl rfl⟩⟩
theorem app1 (n:Int):app ([]:List Int) [n]=some [n]:=by unfold app;simp
theorem ad4 (n k:Int):app [n] [k]=some [n,k]:=by unfold app;simp
theorem WK {fu:Nat}{ws:List (List Int)}{e:jA}{p:Pn Int}(hm:xD (fu+1) ws e=some p)(hq:Eg p)(ha:OX e)(h:¬ (e.e=0\/e.e=1\/e.e=2\/e.e=3)) :∃ q,zq (xD fu ws) e.a []=some q/\Eg q/\((∃ t,q=.uP t/\p=.uP t)\/(∃ n,e.e=4/\q=.ok [n]/\p=.ok (wr (0 - n)))\/(∃ n,e.e=5/\q=.ok [n]/\p=.ok (Bl (decide (n=0))))\/(∃ n k,e.e≠4/\e.e≠5/\q=.ok [n,k]/\p=CR e.e n k)):=by
 have hl:=ha.h h;rw [xD,jR (by omega),jR (by omega)] at hm;by_cases h4:e.e=4
 · rw [kg h4] at hm;rw [kg (.inl h4)] at hl;obtain ⟨y,hA⟩:=List.length_eq_one_iff.1 hl;rw [hA] at hm ⊢;obtain ⟨q,h1,hm⟩:=bs hm;rw [zq,h1];cases q with
   | ok n=>cases hm;exact ⟨.ok [n],by simp only [Option.bind_some,Pn.then,app1,zq],trivial,.inr (.inl ⟨n,h4,rfl,rfl⟩)⟩
   | uP t=>cases hm;exact ⟨.uP t,rfl,trivial,.inl ⟨t,rfl,rfl⟩⟩
   | err t=>cases hm;exact hq.elim
   | rt=>cases hm;exact hq.elim
 rw [jR h4] at hm;by_cases h5:e.e=5
 · rw [kg h5] at hm;rw [kg (.inr h5)] at hl;obtain ⟨y,hA⟩:=List.length_eq_one_iff.1 hl;rw [hA] at hm ⊢;obtain ⟨q,h1,hm⟩:=bs hm;rw [zq,h1];cases q with
   | ok n=>cases hm;exact ⟨.ok [n],by simp only [Option.bind_some,Pn.then,app1,zq],trivial,.inr (.inr (.inl ⟨n,h5,rfl,rfl⟩))⟩
   | uP t=>cases hm;exact ⟨.uP t,rfl,trivial,.inl ⟨t,rfl,rfl⟩⟩
   | err t=>cases hm;exact hq.elim
   | rt=>cases hm;exact hq.elim
 rw [jR h5] at hm;rw [jR (by omega)] at hl;obtain ⟨y,z,hA⟩:∃ y z,e.a=[y,z]:=by
   cases h1:e.a with
   | nil=>rw [h1] at hl;cases hl
   | cons y l=>cases l with
    | nil=>rw [h1] at hl;cases hl
    | cons z l=>cases l with
     | nil=>exact ⟨y,z,rfl⟩
     | cons=>rw [h1] at hl;simp at hl
 rw [hA] at hm ⊢;obtain ⟨q,h1,hm⟩:=bs hm;rw [zq,h1];cases q with
 | ok n=>
   obtain ⟨q,h2,hm⟩:=bs hm;simp only [Option.bind_some,Pn.then,app1];rw [zq,h2];cases q with
   | ok k=>cases hm;exact ⟨.ok [n,k],by simp only [Option.bind_some,Pn.then,ad4,zq],trivial,.inr (.inr (.inr ⟨n,k,h4,h5,rfl,rfl⟩))⟩
   | uP t=>cases hm;exact ⟨.uP t,rfl,trivial,.inl ⟨t,rfl,rfl⟩⟩
   | err t=>cases hm;exact hq.elim
   | rt=>cases hm;exact hq.elim
 | uP t=>cases hm;exact ⟨.uP t,rfl,trivial,.inl ⟨t,rfl,rfl⟩⟩
 | err t=>cases hm;exact hq.elim
 | rt=>cases hm;exact hq.elim
theorem Wh {fu:Nat}(hE:CEr (xD fu)):CEr (xD (fu+1)):=by
 intro w A R m n k h o v x g e a c p hP ha hm hq;have b:=hP.bx;clear hP;generalize hG:lH _=G at b ⊢;refine cf func101 rfl ?_;refine lG [(0,Pt R.rb),(1,Pt x.b),(2,.agg (cE e a c).toArray)] ⟨rfl,rfl,rfl,trivial⟩ fun av=>?_;refine go ?_;refine su b (uK rfl) fun w1 b5 b=>?_;refine goC b ?_;refine ou rfl (fun h0=>?_) (fun h0=>?_)
 · rw [xD,kg h0] at hm;cases hm;refine goC b ?_;exact kH (ng (fn:=f101) rfl (kL rfl) (kL rfl) ⟨v,(b.arr [1,2] rfl).dp [],.inl ⟨_,rfl,rfl⟩⟩)
 refine go ?_;by_cases hw:e.e=1\/e.e=2\/e.e=3
 · rw [xD,jR h0,kg hw] at hm;obtain ⟨q,h1,hm⟩:=bs hm;obtain ⟨i,l,hi,hl,hk⟩:=MF h1 (Ry hm hq);obtain ⟨r1,hr,_,h5,_⟩:=It.tO (b.at 2 rfl) hl;rcases hk with ⟨h2,j,hj,hjl,rfl⟩|⟨h3,y,r0,p1,hA,hp1,hq1,hk⟩|⟨h2,h3,hjl,rfl⟩
   · cases hm;rw [oz (by omega:¬ e.e=1)];refine go ?_;rw [qF h2];refine go ?_;refine Es b (fun _=>True) lF (by kernel_rfl) fun m=>?_;replace b:=m.1;refine pF 0 r (oF r) m (pF 1 r (xn r) m (pF 2 r (yG r r) m (uF 3 r (fun h=>yK r (It.o9 (h.1.at 2 r)) r r) m (pF 4 r (yG r r) m (uF 5 r (fun h=>yK r (h.1.bk 0 r) r r) m (pF 6 r (AV i h5 underlying93 xg r r hi (jU hl)) m (uF 7 r (fun h=>jV (a:=⟨nE x.A,ow x.A+i * 1,none⟩) underlying22 r r (uW (h.1.at 2 r) hr hl)) m ?_)))))));refine pF 8 r (yG r r) m (uF 9 r (fun h=>yK r (h.1.bk 0 r) r r) m (pF 10 r (xIdx j underlying22 ny r r hj hjl) m (uF 11 r (fun h=>jV (a:=⟨r1,0+j * 1,none⟩) underlying3 r r (Jf (h.1.at 2 r) hr hl hjl)) m (pF 12 r (Kv r) m (pF 13 r (kD r) m (hD ?_))))));refine go ?_;exact kH (ng (fn:=f101) rfl (kL rfl) (kL rfl) ⟨v,(b.arr [1,2] rfl).dp [],.inl ⟨_,rfl,rfl⟩⟩)
   · rw [oz (by omega:¬ e.e=1)];refine go ?_;rw [oz (by omega:¬ e.e=2)];refine go ?_;rw [qF h3];refine goC b ?_;refine kr (l7 (cE e a c) mq jW rfl (b.bk 0 rfl)) ?_;refine pW (l6 Xw rfl) (NJ hE (b.pr [1,2] [0] [0] rfl) (ha.k y (by rw [hA];exact Bn ..)) hi hl hA hp1 hq1) ?_;rintro _ w2 ⟨v',hK,hz⟩;replace b:=b.cn [1,2] [0] hK;rcases hz with ⟨j,rfl,hjl,rfl⟩|⟨z,rfl,hz⟩
     · have hq2:q=.ok (i,j):=by
         rcases hk with ⟨t,h,_⟩|⟨n2,h,hb,_⟩|⟨j2,h,_,hq2⟩
         · cases h
         · cases h;omega
         · have:j=j2:=by have:=Pn.ok.inj h;omega
           subst this;exact hq2
       subst hq2;cases hm;refine kr (xw (.tuple #[V (j:Int),.bool true]) rfl) ?_;refine goC b ?_;refine Es b (fun _=>True) lF (by kernel_rfl) fun m=>?_;replace b:=m.1;refine pF 0 r (oF r) m (pF 1 r (xn r) m (pF 2 r (yG r r) m (uF 3 r (fun h=>yK r (It.o9 (h.1.at 1 r)) r r) m (pF 4 r (yG r r) m (uF 5 r (fun h=>yK r (h.1.bk 2 r) r r) m (pF 6 r (AV i h5 underlying93 xg r r hi (jU hl)) m (uF 7 r (fun h=>jV (a:=⟨nE x.A,ow x.A+i * 1,none⟩) underlying22 r r (uW (h.1.at 1 r) hr hl)) m ?_)))))));refine pF 8 r (mi r) m (pF 9 r (xIdx j underlying22 ny r r r hjl) m (uF 10 r (fun h=>jV (a:=⟨r1,0+j * 1,none⟩) underlying3 r r (Jf (h.1.at 1 r) hr hl hjl)) m (pF 11 r (Kv r) m (pF 12 r (kD r) m (hD ?_)))));refine go ?_;exact kH (ng (fn:=f101) rfl (kL rfl) (kL rfl) ⟨v',(b.arr [0,1] rfl).dp [],.inl ⟨_,rfl,rfl⟩⟩)
     · have hp:p=.uP v':=by
         rcases hk with ⟨t,h,hq2⟩|⟨n2,h,hb,hq2⟩|⟨j2,h,_,hq2⟩
         · subst hq2;cases hm;rcases hz with hz | ⟨n3,hz,_⟩
           · rw [h] at hz;exact hz
           · rw [h] at hz;cases hz
         · subst hq2;cases hm;rcases hz with hz | ⟨n3,hz,_,rfl⟩
           · rw [h] at hz;cases hz
           · rfl
         · rcases hz with hz | ⟨n3,hz,hb,_⟩
           · rw [h] at hz;cases hz
           · rw [h] at hz;cases hz;omega
       subst hp;refine kr (xw (.tuple #[V z,.bool false]) rfl) ?_;refine goC b ?_;exact kH (ng (fn:=f101) rfl (kL rfl) (kL rfl) ⟨v',(b.arr [0,1] rfl).dp [],.inr ⟨_,rfl,rfl⟩⟩)
   · cases hm;rw [qF (by omega:e.e=1)];refine go ?_;refine Es b (fun _=>True) lF (by kernel_rfl) fun m=>?_;replace b:=m.1;refine pF 0 r (oF r) m (pF 1 r (xn r) m (pF 2 r (yG r r) m (uF 3 r (fun h=>yK r (It.o9 (h.1.at 2 r)) r r) m (pF 4 r (yG r r) m (uF 5 r (fun h=>yK r (h.1.bk 0 r) r r) m (pF 6 r (AV i h5 underlying93 xg r r hi (jU hl)) m (uF 7 r (fun h=>jV (a:=⟨nE x.A,ow x.A+i * 1,none⟩) underlying22 r r (uW (h.1.at 2 r) hr hl)) m ?_)))))));refine pF 8 r (xIdx 0 underlying22 ny r r r hjl) m (uF 9 r (fun h=>jV (a:=⟨r1,0+0 * 1,none⟩) underlying3 r r (Jf (h.1.at 2 r) hr hl hjl)) m (pF 10 r (Kv r) m (pF 11 r (kD r) m (hD ?_))));refine go ?_;exact kH (ng (fn:=f101) rfl (kL rfl) (kL rfl) ⟨v,(b.arr [1,2] rfl).dp [],.inl ⟨_,rfl,rfl⟩⟩)
 obtain ⟨q,h1,hq1,hk⟩:=WK hm hq ha (by omega);clear hm;rw [oz (by omega:¬ e.e=1)];refine go ?_;rw [oz (by omega:¬ e.e=2)];refine go ?_;rw [oz (by omega:¬ e.e=3)];refine goC b ?_;refine pW (l6 Ut rfl) (Nv hE (b.pr [1,2] [0] [0] rfl) ha.k h1 hq1) ?_;rintro _ w2 ⟨v',hz⟩;rcases hz with ⟨ns,A1,c1,rfl,rfl,hK⟩|⟨rfl,rfl,hK⟩
 · replace b:=b.cn [1,2] [0] hK;refine kr (xw (.tuple #[.slice A1 ns.length c1,.bool true]) rfl) ?_;refine goC b ?_;rcases hk with ⟨t,h,_⟩|⟨n1,h4,h,rfl⟩|⟨n1,h5,h,rfl⟩|⟨n1,n2,h4,h5,h,rfl⟩
   · cases h
   · cases h;rw [qF h4];refine goC b ?_;refine kr (kY ru ny rfl rfl rfl (b.dl 0 rfl) (show ([n1]:List Int)[0]?=some n1 from rfl)) (kr (jV underlying3 rfl rfl ((uo (ds:=[V n1]) (b.dl 0 rfl) (show ([n1]:List Int)[0]?=some n1 from rfl) (fun _ h=>h)) 0 _ rfl)) ?_);refine go ?_;exact kH (ng (fn:=f101) rfl (kL rfl) (kL rfl) ⟨v',(b.arr [0,1] rfl).dp [],.inl ⟨_,rfl,rfl⟩⟩)
   · cases h;rw [oz (by omega:¬ e.e=4)];refine go ?_;rw [qF h5];refine goC b ?_;refine kr (kY ru ny rfl rfl rfl (b.dl 0 rfl) (show ([n1]:List Int)[0]?=some n1 from rfl)) (kr (jV underlying3 rfl rfl ((uo (ds:=[V n1]) (b.dl 0 rfl) (show ([n1]:List Int)[0]?=some n1 from rfl) (fun _ h=>h)) 0 _ rfl)) ?_);refine pW (l6 Qu rfl) (GL (op:=16) (n:=Bl (decide (n1=0))) (by decide) rfl) ?_;rintro _ w3 ⟨rfl,rfl⟩;refine go ?_;exact kH (ng (fn:=f101) rfl (kL rfl) (kL rfl) ⟨v',(b.arr [0,1] rfl).dp [],.inl ⟨_,rfl,rfl⟩⟩)
   · cases h;have hrg:=UJ hq;rw [oz h4];refine go ?_;rw [oz h5];refine go ?_;have hg0:([n1,n2]:List Int)[0]?=some n1:=rfl;have hg1:([n1,n2]:List Int)[1]?=some n2:=rfl;refine qR (fun f w'=>w'=w2/\Has f [(0,Pt R.rb),(1,Pt x.b),(5,Pt b5),(10,.slice A1 2 c1),(90,.bool (decide (e.e=9\/e.e=10)))]) (fun J hJ=>?_) ?_
     · by_cases h9:e.e=9
       · rw [qF h9];refine go ?_;exact hJ _ _ ⟨rfl,rfl,rfl,rfl,rfl,congrArg Value.bool (qF (.inl h9)).symm,trivial⟩
       · rw [oz h9];refine go ?_;exact hJ _ _ ⟨rfl,rfl,rfl,rfl,rfl,congrArg Value.bool (decide_eq_decide.2 ⟨.inr,fun z=>z.resolve_left h9⟩),trivial⟩
     rintro f w' ⟨rfl,hf⟩;obtain ⟨av,rfl⟩:=mJ _ _ hf;clear hf;have fin:∀ (av:Fr),¬ ((e.e=9\/e.e=10)/\n2=0)->True:=fun _ _=>trivial;refine go ?_;by_cases hd:e.e=9\/e.e=10
     · rw [qF hd];refine goC b ?_;refine kr (kY ru ny rfl rfl rfl (b.dl 0 rfl) hg1) (kr (jV underlying3 rfl rfl ((uo (ds:=[V n2]) (b.dl 0 rfl) hg1 (fun _ h=>h)) 0 _ rfl)) ?_);refine go ?_;by_cases hz:n2=0
       · rw [qF hz];have hb:CR e.e n1 n2=.uP 1:=by
           unfold CR;rw [jR (by omega),jR (by omega),jR (by omega)];by_cases h9:e.e=9
           · rw [kg h9,kg hz]
           · rw [jR h9,kg (hd.resolve_left h9),kg hz]
         rw [hb];refine goC b ?_;refine lD (t_n b 0 [V 1] rfl ny rfl rfl) fun w3 b=>?_;refine goC b ?_;exact kH (ng (fn:=f101) rfl (kL rfl) (kL rfl) ⟨1,(b.arr [0,1] rfl).dp [],.inr ⟨_,rfl,rfl⟩⟩)
       rw [oz hz];obtain ⟨r1,hr1⟩:∃ r1,CR e.e n1 n2=.ok r1:=by
         unfold CR;rw [jR (by omega),jR (by omega),jR (by omega)];by_cases h9:e.e=9
         · rw [kg h9,jR hz];exact ⟨_,rfl⟩
         · rw [jR h9,kg (hd.resolve_left h9),jR hz];exact ⟨_,rfl⟩
       refine go ?_;refine Es b (fun _=>True) lF (by kernel_rfl) fun m=>?_;replace b:=m.1;refine pF 0 r (yG r r) m (uF 1 r (fun h=>yK r (h.1.bk 2 r) r r) m (pF 2 r (wY r r) m (pF 3 r (mK r) m (pF 4 r (kY ru ny r r r (b.dl 0 r) hg0) m (uF 5 r (fun h=>jV underlying3 r r ((uo (ds:=[V n1]) (h.1.dl 0 r) hg0 (fun _ h=>h)) 0 _ r)) m (pF 6 r (mK r) m (pF 7 r (kY ru ny r r r (b.dl 0 r) hg1) m (uF 8 r (fun h=>jV underlying3 r r ((uo (ds:=[V n2]) (h.1.dl 0 r) hg1 (fun _ h=>h)) 0 _ r)) m ?_))))))));refine hO 9 (oc r r (ec Qu r) (GL (op:=e.e) (by unfold wr;rw [Pj (n:=e.e - 6) (by omega) (by omega),Pj (by omega) (by omega)];omega) hr1) ?_);rintro _ w3 ⟨rfl,rfl⟩;refine ⟨sF m,pF 10 r (Kv r) m (pF 11 r (kD r) m (hD ?_))⟩;refine go ?_;exact kH (ng (fn:=f101) rfl (kL rfl) (kL rfl) ⟨v',(b.arr [0,1] rfl).dp [],.inl ⟨_,hr1,rfl⟩⟩)
     rw [oz hd];obtain ⟨r1,hr1⟩:∃ r1,CR e.e n1 n2=.ok r1:=by
       cases hb:CR e.e n1 n2 with
       | ok r1=>exact ⟨r1,rfl⟩
       | uP t=>
         unfold CR at hb;rw [jR (fun z=>hd (.inl z)),jR (fun z=>hd (.inr z))] at hb;repeat (first | (split at hb;(first | cases hb | skip))|cases hb)
       | err t=>rw [hb] at hq;exact hq.elim
       | rt=>rw [hb] at hq;exact hq.elim
     refine go ?_;refine Es b (fun _=>True) lF (by kernel_rfl) fun m=>?_;replace b:=m.1;refine pF 0 r (yG r r) m (uF 1 r (fun h=>yK r (h.1.bk 2 r) r r) m (pF 2 r (wY r r) m (pF 3 r (mK r) m (pF 4 r (kY ru ny r r r (b.dl 0 r) hg0) m (uF 5 r (fun h=>jV underlying3 r r ((uo (ds:=[V n1]) (h.1.dl 0 r) hg0 (fun _ h=>h)) 0 _ r)) m (pF 6 r (mK r) m (pF 7 r (kY ru ny r r r (b.dl 0 r) hg1) m (uF 8 r (fun h=>jV underlying3 r r ((uo (ds:=[V n2]) (h.1.dl 0 r) hg1 (fun _ h=>h)) 0 _ r)) m ?_))))))));refine hO 9 (oc r r (ec Qu r) (GL (op:=e.e) (by unfold wr;rw [Pj (n:=e.e - 6) (by omega) (by omega),Pj (by omega) (by omega)];omega) hr1) ?_);rintro _ w3 ⟨rfl,rfl⟩;refine ⟨sF m,pF 10 r (Kv r) m (pF 11 r (kD r) m (hD ?_))⟩;refine go ?_;exact kH (ng (fn:=f101) rfl (kL rfl) (kL rfl) ⟨v',(b.arr [0,1] rfl).dp [],.inl ⟨_,hr1,rfl⟩⟩)
 · replace b:=b.cn [1,2] [0] hK;refine kr (xw (.tuple #[sn,.bool false]) rfl) ?_;refine goC b ?_;rcases hk with ⟨t,h,rfl⟩|⟨n1,h4,h,rfl⟩|⟨n1,h5,h,rfl⟩|⟨n1,n2,h4,h5,h,rfl⟩
   · cases h;exact kH (ng (fn:=f101) rfl (kL rfl) (kL rfl) ⟨v',(b.arr [0,1] rfl).dp [],.inr ⟨_,rfl,rfl⟩⟩)
   all_goals cases h
theorem WJ:∀ fu,CEr (xD fu)
 | 0=>by intro _ _ h;cases h
 | fu+1=>Wh (WJ fu)
theorem adV (fu:Nat):CIr (xD fu):=NJ (WJ fu)
theorem adM (fu:Nat):CVr (xD fu):=Nv (WJ fu)
theorem I6 {fu:Nat}{i:Int}:∀ (r:List jy)(k:Nat)(acc:List Int),oD fu i r k acc=lg fu i r k acc
 | [],k,acc=>rfl
 | x :: r,k,acc=>by rw [oD,lg,I6 r,funext fun a=>I6 r (k+1) a]
theorem S9 {fu:Nat}{s:jL}{f i:Int}:zL fu s f i=jD fu s f i:=by unfold zL jD;simp only [I6]
section
variable {ρ:Operand->Value}{w:World}{d:Option Nat}{ty:TypeId}{pos:String}{af:Array Edge}{g:Option (Nat × Bool)}{x y z:Operand}{n m:Int}{A B:Option Addr}{k c k2 c2:Nat}
theorem Vw (h:ρ x=Vi n)(h3:ρ z=.slice B k2 c2):Yl prog ρ (.build 65 #[(0,x),(2,z)]) d ty pos af g w (.agg #[Vi n,sn,.slice B k2 c2]):=by
 have e:(Instr.build 65 #[(0,Vi n),(2,.slice B k2 c2)]).run prog w=.ok (.agg #[Vi n,sn,.slice B k2 c2]) w:=by kernel_rfl
 simp [Yl,execOp,h,h3,e]
theorem Tq {b:Bool}(h:ρ x=.bool b):(execOp ρ ⟨d,.buildSlice 63 1 #[(0,x)],ty,pos,af,g⟩).run prog w=.ok (.value (.slice (some ⟨w.heap.size,0,none⟩) 1 1)) (w.alloc (.cells #[.bool b] 4)):=by
 have e:(Instr.buildSlice 63 1 #[(0,.bool b)]).run prog w=.ok (.slice (some ⟨w.heap.size,0,none⟩) 1 1) (w.alloc (.cells #[.bool b] 4)):=by kernel_rfl
 simp [execOp,h,e]
end
theorem abN:jH prog 98:=⟨_,func98,by kernel_rfl,by kernel_rfl⟩
theorem UQ {fu:Nat}{w:World}{A:Nat->Prop}{rb:Nat}{x:vV}{g:qx}{s:Vf}{src:jL}{tl:List Value}{fr:nK}(hP:Pre w A [] (aaN s src))(hr:nS w rb 76 (Kc s src ++ tl).toArray)(ha:(uw x g).p w)(hm:YX (jD fu src) g=some fr):Calls prog 98 #[Pt rb,Pt x.b] w (pU fun v w'=>∃ A1 c1,v=.agg #[V fr.j,V fr.a,.slice A1 fr.c.length c1]/\Bx w w' A (lH []) [] [.l A1 c1 fr.c]):=by
 have b:=hP.bx;clear hP;unfold YX at hm;obtain ⟨vs,hv,hm⟩:=bs hm;rw [<-S9] at hv;refine cf func98 rfl ?_;refine lG [(0,Pt rb),(1,Pt x.b)] ⟨rfl,rfl,trivial⟩ fun av=>?_;have hE:∀ u,Ext w u->nS u rb 76 (Kc s src ++ tl).toArray/\(uw x g).p u:=fun u e=>⟨nS.ext hr e,yS ha e⟩;refine go ?_;refine su b (jT CP) fun w1 b4 b=>?_;refine go ?_;refine Es b (fun u=>nS u rb 76 (Kc s src ++ tl).toArray/\(uw x g).p u) (hE _ b.ex.drew) (by kernel_rfl) fun m=>?_;replace b:=m.1;refine pF 0 r (oF r) m (pF 1 r (xn r) m (pF 2 r (yG r r) m (uF 3 r (fun h=>yK r (It.o9 h.2.2) r r) m (pF 4 r (oF r) m (pF 5 r (xn r) m (pF 6 r (yG r r) m (uF 7 r (fun h=>yK r (It.o9 h.2.2) r r) m (pF 8 r (ND r r) m ?_))))))));refine hO 9 (oo r r (nD b (jT CP)) ?_);rintro _ w2 ⟨b5,rfl,b⟩;refine ⟨sF ⟨b.tl,hE _ b.ex⟩,hO 10 (os r r (oM b 0 [V g.f,V g.st,sn] r CP r r) fun w3 b=>⟨sF ⟨b.tl,hE _ b.ex⟩,hD ?_⟩)⟩;refine goC b ?_;refine Es b (fun u=>nS u rb 76 (Kc s src ++ tl).toArray/\(uw x g).p u) (hE _ b.ex.drew) (by kernel_rfl) fun m=>?_;replace b:=m.1;refine pF 0 r (oF r) m (pF 1 r (xn r) m (pF 2 r (yG r r) m (uF 3 r (fun h=>l7 (Kc s src) Du xL r h.2.1) m (pF 4 r (oF r) m (pF 5 r (xn r) m (pF 6 r (yG r r) m (uF 7 r (fun h=>yK r (It.o9 h.2.2) r r) m (pF 8 r (oF r) m (pF 9 r (xn r) m (pF 10 r (yG r r) m (uF 11 r (fun h=>yK r (It.o9 h.2.2) r r) m (pF 14 r (mi r) m ?_))))))))))));have hsz:=b.rM.size;refine hO 12 (oc r r (ec YG r) (IV fu (b.pr [] [0,1] [0,1,2,3] r) hv) ?_);rintro _ w4 ⟨A1,c1,cs1,rfl,hK⟩;replace b:=b.cn [] [0,1] hK;refine ⟨sF ⟨(b.tl).dp [1,2,3,4],hE _ b.ex⟩,pF 13 r (lT underlying22 r) ⟨(b.tl).dp [1,2,3,4],hE _ b.ex⟩ (hD ?_)⟩;have hbd:=(b.de 0 rfl).len;replace b:=b.rb 0 w.heap.size rfl hsz;replace b:=b.fz 0 0 rfl rfl;have hbd:=(b.dl 0 rfl).bd;obtain ⟨sv,hsv,hm⟩:=bs hm;obtain rfl:=sm hm;clear m
 replace b:=b.Cy qO 65;refine goC b ?_
 refine kK (fun aw f w'=>∃ (t:Nat)(acc:List qO)(a1:Option Addr)(c2:Nat)(cs:List (List Value)),aw=vs.length - t∧t≤vs.length∧
     Has f [(0,Pt rb),(1,Pt x.b),(4,Pt b4),(5,Pt b5),(30,.slice A1 vs.length c1),(31,V (vs.length:Int)),(32,V (t:Int))]/\
     Bx w w' A (lH []) [.own w.heap.size a1 c2 65 (Rp.sz qO) cs,.box b5 62 #[V g.f,V g.st,.slice a1 acc.length c2],.box b4 62 #[V 0,V 0,sn]] [.els cs acc,.l A1 c1 vs]/\SE g.ws (vs.drop t) acc=some sv)
   vs.length ⟨0,[],none,0,[],rfl,uy _,⟨rfl,rfl,rfl,rfl,rfl,rfl,rfl,trivial⟩,b.dp [0,1],hsv⟩ ?_
 clear b hsv;rintro aw f w1 ⟨t,acc,a1,c2,cs,rfl,ht,hf,b,hm⟩ J hJ;obtain ⟨av,rfl⟩:=mJ _ _ hf;clear hf;refine goC b ?_;refine ou rfl (fun h=>?_) (fun h=>?_)
 · obtain ⟨v,hv'⟩:=lZ (l:=vs) (k:=t) (by omega);rw [mD hv',SE] at hm;obtain ⟨row,h1,hm⟩:=bs hm;obtain ⟨k,hk,hrow⟩:=RA h1;obtain ⟨acc2,h2,hm⟩:=bs hm;have h8:row.length<=8:=(hE _ b.ex).2.2.2.2.2.2.2.2 row (wC hrow);refine goC b ?_;refine kr (kY ru ny rfl rfl rfl (b.dl 1 rfl) hv') (kr (jV underlying3 rfl rfl ((uo (ds:=[V v]) (b.dl 1 rfl) hv' (fun _ h=>h)) 0 _ rfl)) ?_);refine goC b ?_;refine nW (jO b [] ([]:List Int) FZ rfl rfl (by decide) lF) ?_;rintro _ w2 ⟨b7,rfl,b⟩;refine goC b ?_;refine gL rfl (It.o9 (hE _ b.ex).2) rfl rfl ?_;refine goC b ?_;refine aaV (hE _ b.ex).2 hrow rfl rfl hk fun r0 hr0 hB=>?_;have happ:app ([]:List Int) row=some row:=by unfold app;rw [kg (by simp;omega)];rfl
   refine nW (kR b 0 0 rfl rfl ru ny rfl (by decide) (by decide) (oH _) rfl rfl (by
     obtain ⟨ds,h3,h4⟩:=(NA hB h8).els;exact ⟨ds,MU h3,h4⟩) happ) ?_
   rintro _ w3 ⟨a5,c5,cs5,rfl,b⟩;refine kr (Vw rfl rfl) ?_;refine su b (jT HZ) fun w4 b8 b=>?_;refine lD (oM b 0 [V v,sn,.slice a5 row.length c5] rfl HZ rfl rfl) fun w5 b=>?_;replace b:=b.fz 1 0 rfl rfl;replace b:=b.Cy Bool 4;refine goC b ?_
   refine kK (fun aw f w'=>∃ (i:Nat)(a6:Option Addr)(c6:Nat)(cs6:List (List Value)),aw=row.length - i∧i≤row.length∧Has f [(0,Pt rb),(1,Pt x.b),(4,Pt b4),(5,Pt b5),(8,Pt b8),(30,.slice A1 vs.length c1),(31,V (vs.length:Int)),(32,V (t:Int)),(49,V (row.length:Int)),(50,V (i:Int))]∧
     Bx w w' A (lH []) [.own w.heap.size a6 c6 4 (Rp.sz Bool) cs6,.box b8 65 #[V v,.slice a6 (List.replicate i true).length c6,.slice a5 row.length c5],.own w.heap.size a1 c2 65 (Rp.sz qO) cs,.box b5 62 #[V g.f,V g.st,.slice a1 acc.length c2],.box b4 62 #[V 0,V 0,sn]] [.els cs6 (List.replicate i true),.l a5 c5 row,.els cs acc,.l A1 c1 vs]) row.length
     ⟨0,none,0,[],rfl,uy _,⟨rfl,rfl,rfl,rfl,rfl,rfl,rfl,rfl,rfl,rfl,trivial⟩,b⟩ ?_
   clear b;rintro aw f w4 ⟨i,a6,c6,cs6,rfl,hi,hf,b⟩ J3 hJ3;obtain ⟨av,rfl⟩:=mJ _ _ hf;clear hf;refine goC b ?_;refine ou rfl (fun hlt=>?_) (fun hlt=>?_)
   · refine goC b ?_;refine nW (jO b [[.bool true]] ([true]:List Bool) (Tq rfl) rfl rfl (by decide) ⟨rfl,trivial⟩) ?_;rintro _ w5 ⟨b9,rfl,b⟩;have happ:app (List.replicate i true) [true]=some (List.replicate (i+1) true):=by unfold app;rw [kg (by simp;omega),<-List.replicate_succ']
     refine nW (kR b 1 1 rfl rfl underlying63 Pz rfl (by decide) (by decide) (oH _) rfl rfl (b.AR 0 0 rfl rfl) happ) ?_;rintro _ w6 ⟨a7,c7,cs7,rfl,b⟩;refine goC b ?_;refine lD (t_n b 2 [.slice a7 (List.replicate (i+1) true).length c7] rfl aaL rfl rfl) fun w7 b=>?_;refine goC b ?_;exact hJ3 (row.length - (i+1)) _ _ (by omega) ⟨i+1,a7,c7,cs7,rfl,by omega,⟨rfl,rfl,rfl,rfl,rfl,rfl,rfl,rfl,rfl,congrArg V (Px (by omega)),trivial⟩,b.ad [1,2,3,4,5] [1,2,3,4]⟩
   · obtain rfl:i=row.length:=by omega
     refine goC b ?_;refine uS ?_;replace b:=b.fz 0 0 rfl rfl;refine goC b ?_;refine kr (l7 [V v,.slice a6 (List.replicate row.length true).length c6,.slice a5 row.length c5] underlying65 HZ rfl (b.bk 0 rfl)) ?_;refine nW (jO b [[V v,.slice a6 (List.replicate row.length true).length c6,.slice a5 row.length c5]] ([⟨v,List.replicate row.length true,row⟩]:List qO) (OU rfl) rfl rfl (by decide) ⟨qO.inn ⟨_,_,_,_,rfl,b.dl 0 rfl,b.dl 1 rfl⟩,trivial⟩) ?_;rintro _ w5 ⟨b6,rfl,b⟩;refine nW (kR b 2 3 rfl rfl underlying60 HZ rfl (by decide) (by decide) (oH _) rfl rfl (b.AR 0 0 rfl rfl) h2) ?_;rintro _ w6 ⟨a7,c7,cs7,rfl,b⟩;refine goC b ?_;refine lD (t_n b 3 [.slice a7 acc2.length c7] rfl YA rfl rfl) fun w7 b=>?_;refine goC b ?_;exact hJ (vs.length - (t+1)) _ _ (by omega) ⟨t+1,acc2,a7,c7,cs7,rfl,by omega,⟨rfl,rfl,rfl,rfl,rfl,rfl,congrArg V (Px (by omega)),trivial⟩,b.ad [2,3,4] [3,4],hm⟩
 · obtain rfl:t=vs.length:=by omega
   rw [lW,SE] at hm;obtain rfl:=sm hm;refine goC b ?_;refine uS ?_;refine goC b ?_;refine kr (l7 [V g.f,V g.st,.slice a1 acc.length c2] PX CP rfl (b.bk 1 rfl)) ?_;refine lD (oM b 2 [V g.f,V g.st,.slice a1 acc.length c2] rfl CP rfl rfl) fun w2 b=>?_;refine goC b ?_;exact kH (jC rfl (vC rfl underlying62 rfl CP rfl (b.bk 2 rfl)) ⟨a1,c2,rfl,(b.Ob 0 0 rfl rfl).ad [] [0]⟩)
abbrev Mar (R:Rn)(m:BX)(ptrs:List Nat)(hist:List kC)(out:List Int)(e v:Int):List It:=
 [iM R m ptrs.length (window hist R.fr R.mo).length hist.length out.length e v,.own R.B m.lA m.lC 101 1 (ptrs.map fun b=>[Pt b]),.own R.B m.eA m.eC 59 (Rp.sz kC) m.ec,.own R.B m.oA m.oC 3 (Rp.sz Int) m.oc]
theorem aay {ρ:Operand->Value}{w:World}{d:Option Nat}{ty:TypeId}{pos:String}{af:Array Edge}{g:Option (Nat × Bool)}:Yl prog ρ (.build 59 #[]) d ty pos af g w (.agg #[sn]):=by
 have e:(Instr.build 59 #[]).run prog w=.ok (.agg #[sn]) w:=by kernel_rfl
 simp [Yl,execOp,e]
theorem RG:TI prog 101 (.pointer none) 1 8:=oW (by kernel_rfl)
theorem XT:jH prog 76:=⟨_,func76,by kernel_rfl,by kernel_rfl⟩
theorem UU {w:World}{G:Nat->Prop}{x:vV}{g:qx}{xs:List vV}{gs:List qx}{ptrs:List Nat}(hl:EH w G xs gs)(hp:ptrs=(xs.map (·.b)).reverse ++ [x.b]){k:Nat}(hk:k < ptrs.length) :∃ y g2,(g :: gs)[ptrs.length - (k+1)]?=some g2/\ptrs[k]?=some y.b/\∀ w',IG G w w'->(uw x g).p w'->(uw y g2).p w':=by
 have hlen:ptrs.length=gs.length+1:=by rw [hp,Dk,List.length_reverse,xR,hl.len];rfl
 have e:ptrs=((x :: xs).map (·.b)).reverse:=by rw [hp];simp
 have hpk:ptrs[k]?=((x :: xs).map (·.b))[ptrs.length - (k+1)]?:=by
  conv=>lhs;rw [e]
  rw [List.getElem?_reverse (by rw [<-List.length_reverse,<-e];exact hk)]
  congr 1
  rw [e];simp
 rw [hpk];have hj:ptrs.length - (k+1) < gs.length+1:=by omega
 generalize ptrs.length - (k+1)=q at hj ⊢;cases q with
 | zero=>exact ⟨x,g,rfl,rfl,fun w' _ h=>h⟩
 | succ q=>
  obtain ⟨g2,hg⟩:=lZ (l:=gs) (k:=q) (by omega);obtain ⟨y,hy,_⟩:=hl.get hg;refine ⟨y,g2,by simpa using hg,by simp [hy],fun w' hc _=>?_⟩;obtain ⟨y',hy',hy2⟩:=(zx.mv' hc (fun b _ h=>h) hl).get hg;rw [hy] at hy';exact vK hy' ▸ hy2
theorem UD {fu:Nat}{w:World}{A:Nat->Prop}{R:Rn}{m:BX}{ptrs:List Nat}{x:vV}{s s':Sg}{xs:List vV}{gs:List qx}{id v:Int}{p:Pn Unit}(hP:Pre w A (Mar R m ptrs s.hist s.out 0 v ++ [uw x s.a]) (oV R m s.hist s.out))(hl:EH w (lH (Mar R m ptrs s.hist s.out 0 v ++ [uw x s.a])) xs gs)(hB:R.B<=w.heap.size)(hp:ptrs=(xs.map (·.b)).reverse ++ [x.b])(hn:ptrs.length<=20)(hst:R.st<=5000)(hmo:R.mo<=100)(hm:event (jD fu R.src) R.st gs s id=some (p,s')) :Calls prog 76 #[Pt R.rb,Pt x.b,V id] w (pU fun r w'=>∃ m' e,Bx w w' A (lH (Mar R m ptrs s.hist s.out 0 v ++ [uw x s.a])) (Mar R m' ptrs s'.hist s'.out e v ++ [uw x s'.a]) (oV R m' s'.hist s'.out)/\((p=.ok ()/\r=.bool true/\e=0)\/(p=.err e/\r=.bool false))):=by
 have b:=hP.bx;clear hP;generalize hG:lH (Mar R m ptrs s.hist s.out 0 v ++ [uw x s.a])=G at b hl ⊢;refine cf func76 rfl ?_;refine lG [(0,Pt R.rb),(1,Pt x.b),(2,V id)] ⟨rfl,rfl,rfl,trivial⟩ fun av=>?_;refine go ?_;refine Es b (fun _=>True) lF (by kernel_rfl) fun m1=>?_;replace b:=m1.1;refine pF 0 r (oF r) m1 (pF 1 r (xn r) m1 (pF 2 r (yG r r) m1 (uF 3 r (fun h=>yK r (h.1.bk 0 r) r r) m1 (pF 4 r (oF r) m1 (pF 5 r (xn r) m1 (pF 6 r (yG r r) m1 (uF 7 r (fun h=>yK r (h.1.bk 0 r) r r) m1 (pF 8 r (CF r r) m1 (hD ?_)))))))));unfold event at hm;refine ou rfl (fun h=>?_) (fun h=>?_)
 · rw [kg (by omega)] at hm;obtain ⟨rfl,rfl⟩:=sK (sm hm);refine goC b ?_;refine lD (t_n b 0 [V 13] rfl MB rfl rfl) fun w2 b=>?_;refine go ?_;exact kH (jC rfl (kL rfl) ⟨m,13,b,.inr ⟨rfl,rfl⟩⟩)
 rw [jR (by omega)] at hm;obtain ⟨fs,hfs,hm⟩:=bs hm;obtain ⟨rfl,rfl⟩:=sK (sm hm);refine goC b ?_;refine lD (Ru b 4 rfl rfl rfl) fun w2 b=>?_;dsimp only [Mar,List.cons_append,List.nil_append,List.set] at b;refine go ?_;refine Es b (fun _=>True) lF (by kernel_rfl) fun m1=>?_;replace b:=m1.1;refine pF 0 r (oF r) m1 (pF 1 r (xn r) m1 (pF 2 r (yG r r) m1 (uF 3 r (fun h=>yK r (h.1.bk 0 r) r r) m1 (pF 4 r (oF r) m1 (pF 5 r (xn r) m1 (pF 6 r (yG r r) m1 (uF 7 r (fun h=>yK r (h.1.bk 0 r) r r) m1 (pF 8 r (CF r r) m1 (pF 9 r (kV r) m1 ?_)))))))));by_cases hw:(R.fr:Int)<=(s.hist.length:Int)
 case neg=>
   rw [oz hw];refine jY 10 r (by kernel_rfl) r (sF m1) (jY 11 r (by kernel_rfl) r (sF m1) (jY 12 r (by kernel_rfl) r (sF m1) (jY 13 r (by kernel_rfl) r (sF m1) (jY 14 r (by kernel_rfl) r (sF m1) (jY 15 r (by kernel_rfl) r (sF m1) (jY 16 r (by kernel_rfl) r (sF m1) (jY 17 r (by kernel_rfl) r (sF m1) (jY 18 r (by kernel_rfl) r (sF m1) (jY 19 r (by kernel_rfl) r (sF m1) (pF 20 r (ko r r) m1 (hD ?_)))))))))));refine goC b ?_;refine lD (t_n b 0 [V (wr ((s.hist.length:Int)+1))] rfl ny rfl rfl) fun w3 b=>?_;rw [Px (by omega)] at b;refine go ?_;refine kH (jC rfl (kL rfl) ⟨m,0,?_,.inl ⟨rfl,rfl,rfl⟩⟩);dsimp only [Mar,oV,iM,cM];rw [Fq (.inl (by omega)),Dk,Gx];exact b
 rw [qF hw];refine pF 10 r (oF r) m1 (pF 11 r (xn r) m1 (pF 12 r (yG r r) m1 (uF 13 r (fun h=>yK r (h.1.bk 0 r) r r) m1 (pF 14 r (lT underlying40 r) m1 (pF 15 r (oF r) m1 (pF 16 r (xn r) m1 (pF 17 r (yG r r) m1 (uF 18 r (fun h=>yK r (h.1.bk 0 r) r r) m1 (pF 19 r (qC r r) m1 (pF 20 r (kP r r) m1 (hD ?_)))))))))));refine ou rfl (fun hw2=>?_) (fun hw2=>?_)
 case refine_2=>
   refine goC b ?_;refine lD (t_n b 0 [V (wr ((s.hist.length:Int)+1))] rfl ny rfl rfl) fun w3 b=>?_;rw [Px (by omega)] at b;refine go ?_;refine kH (jC rfl (kL rfl) ⟨m,0,?_,.inl ⟨rfl,rfl,rfl⟩⟩);dsimp only [Mar,oV,iM,cM];rw [Fq (.inr (by omega)),Dk,Gx];exact b
 clear m1;refine go ?_;refine kr aay ?_;refine su b (jT E5) fun w4 b7 b=>?_;refine lD (oM b 0 [sn] rfl E5 rfl rfl) fun w5 b=>?_;replace b:=b.Cy nK 62;refine goC b ?_
 refine kK (fun aw f w'=>∃ (k:Nat)(acc:List nK)(fa:Option Addr)(fc:Nat)(fcs:List (List Value)),aw=k∧k≤ptrs.length∧
    Has f [(0,Pt R.rb),(7,Pt b7),(8,V ((k:Int) - 1))]/\
    Bx w w' A G (.own w.heap.size fa fc 62 (Rp.sz nK) fcs :: .box b7 59 #[.slice fa acc.length fc] :: (Mar R m ptrs s.hist s.out 0 v ++ [uw x ⟨s.a.f,id,s.a.ws⟩])) (.els fcs acc :: oV R m s.hist s.out)/\VN (jD fu R.src) (((⟨s.a.f,id,s.a.ws⟩:qx) :: gs).drop (ptrs.length - k)) acc=some fs)
   ptrs.length ⟨ptrs.length,[],none,0,[],rfl,oH _,⟨rfl,rfl,congrArg V (by unfold wr;rw [Pj (by omega) (by omega)]),trivial⟩,b,by rw [Nat.sub_self];exact hfs⟩ ?_
 clear b hfs;rintro k f w6 ⟨_,acc,fa,fc,fcs,rfl,hk,hf,b,hacc⟩ J hJ;obtain ⟨av,rfl⟩:=mJ _ _ hf;clear hf;refine goC b ?_;refine ou rfl (fun h0=>?_) (fun h0=>?_)
 · obtain ⟨k,rfl⟩:∃ k',k=k'+1:=⟨k - 1,by omega⟩;obtain ⟨y,g2,hg2,hy,hw7⟩:=UU (g:=⟨s.a.f,id,s.a.ws⟩) hl hp (k:=k) (by omega);rw [mD hg2,VN,show ptrs.length - (k+1)+1=ptrs.length - k by omega] at hacc;obtain ⟨fr,hfr,hacc⟩:=bs hacc;obtain ⟨acc2,hac2,hacc⟩:=bs hacc;have hc:∀ u,Bx w u A G (Mar R m ptrs s.hist s.out 0 v ++ [uw x ⟨s.a.f,id,s.a.ws⟩]) (oV R m s.hist s.out)->m.lA=some ⟨nE m.lA,ow m.lA,none⟩/\u.cell? ⟨nE m.lA,ow m.lA+k * 1,none⟩=some (Pt y.b):=fun u hu=>by have ho:=hu.bo 1 rfl;rw [xR,FC] at ho;have h3:=D5 ho (k:=k) (v:=Pt y.b) (by rw [BR,hy];rfl);exact ⟨h3.1,by rw [Nat.mul_one];exact h3.2.1⟩
   refine go ?_;refine ql (fun u=>Bx w u A G (Mar R m ptrs s.hist s.out 0 v ++ [uw x ⟨s.a.f,id,s.a.ws⟩]) (oV R m s.hist s.out)) (fun u=>nS u b7 59 #[.slice fa acc.length fc]) [14] (by kernel_rfl) ?_;replace b:=b.drew;have m1:=b.ad [2,3,4,5,6] [1,2,3,4,5,6];have m2:nS w6.drew b7 59 #[.slice fa acc.length fc]:=b.bk 1 rfl;refine pL 0 r (yG r r) m1 m2 (tS 15 1 r (fun _ h=>yK r h r r) (kJ m1 m2) (pL 2 r (oF r) m1 m2 (pL 3 r (oF r) m1 m2 (pL 4 r (xn r) m1 m2 (pL 5 r (yG r r) m1 m2 (tU 6 r (fun _ h=>yK r (h.bk 0 r) r r) (kJ m1 m2) (pL 7 r (mi r) m1 m2 ?_)))))));refine pL 8 r (AV k (hc _ m1).1 underlying74 RG r r (by omega) (by omega)) m1 m2 (tU 9 r (fun _ h=>jV (a:=⟨nE m.lA,ow m.lA+k * 1,none⟩) underlying101 r r (hc _ h).2) (kJ m1 m2) ?_);refine hO 10 (oc r r (ec abN r) (UQ (b.pr [] [0,1,2,3,4,5,6] [3,4,5,6] r) (b.bk 2 r) (hw7 _ b.rM (b.at 6 r)) hfr) ?_);rintro _ w7 ⟨A1,c1,rfl,hK⟩;replace b:=b.cn [] [0,1,2,3,4,5,6] hK;refine ⟨kJ (b.ad [2,3,4,5,6] [2,3,4,5,6,7]) (b.bk 1 rfl),?_⟩;refine hO 11 (oo r r (jO b [[V fr.j,V fr.a,.slice A1 fr.c.length c1]] ([fr]:List nK) (Pw r) r r (by decide) ⟨nK.inn ⟨_,_,rfl,b.dl 0 rfl⟩,trivial⟩) ?_);rintro _ w8 ⟨b8,rfl,b⟩;refine ⟨kJ (b.ad [3,4,5,6,7] [3,4,5,6,7,8]) (b.bk 2 rfl),?_⟩;refine hO 12 (oo r r (kR b 1 2 r r underlying57 CP r (by decide) (by decide) (oH _) r r (b.AR 0 0 r r) hac2) ?_);rintro _ w9 ⟨fa2,fc2,fcs2,rfl,b⟩;refine ⟨kJ (b.ad [3,4,5,6,7] [3,4,5,6,7,8]) (b.bk 2 rfl),pL 13 r (yG r r) (b.ad [3,4,5,6,7] [3,4,5,6,7,8]) (b.bk 2 rfl) ?_⟩;refine hO 14 (os r r (oM b 2 [.slice fa2 acc2.length fc2] r Yn r r) ?_);intro w10 b;refine ⟨sy 14 (b.ad [3,4,5,6,7] [3,4,5,6,7,8]),hD ?_⟩;refine goC b ?_
   exact hJ k _ _ (by omega) ⟨k,acc2,fa2,fc2,fcs2,rfl,by omega,⟨rfl,rfl,congrArg V (by unfold wr;rw [Pj (by omega) (by omega)];omega),trivial⟩,b.ad [1,2,3,4,5,6,7] [2,3,4,5,6,7,8],hacc⟩
 · obtain rfl:k=0:=by omega
   have hlen:ptrs.length=gs.length+1:=by rw [hp,Dk,List.length_reverse,xR,hl.len];rfl
   rw [Nat.sub_zero,List.drop_eq_nil_of_le (by rw [hlen];exact oH _)] at hacc;obtain rfl:=sm hacc;refine goC b ?_;refine uS ?_;refine go ?_;replace b:=b.fz 0 0 rfl rfl;have hap:app (window s.hist R.fr R.mo) [(⟨acc⟩:kC)]=some (window s.hist R.fr R.mo ++ [⟨acc⟩]):=by
    unfold app
    rw [kg (by have:(window s.hist R.fr R.mo).length≤R.mo:=(by unfold window;rw [yM];exact Nat.min_le_left ..);simp only [Gx];omega)]
   refine ql (fun _=>True) (fun u=>nS u b7 59 #[.slice fa acc.length fc]/\nS u R.rb 76 (cM R m ptrs.length (window s.hist R.fr R.mo).length s.hist.length s.out.length 0 v).toArray) [10] (by kernel_rfl) ?_;replace b:=b.drew;have m2:nS w6.drew b7 59 #[.slice fa acc.length fc]/\nS w6.drew R.rb 76 (cM R m ptrs.length (window s.hist R.fr R.mo).length s.hist.length s.out.length 0 v).toArray:=⟨b.bk 0 rfl,b.bk 1 rfl⟩;refine pL 0 r (oF r) lF m2 (pL 1 r (oF r) lF m2 (pL 2 r (xn r) lF m2 (pL 3 r (yG r r) lF m2 (tS 12 4 r (fun _ h=>yK r h.2 r r) (kJ lF m2) (tS 12 5 r (fun _ h=>l7 [.slice fa acc.length fc] Z7 E5 r h.1) (kJ lF m2) ?_)))));refine hO 6 (oo r r (jO b [[.slice fa acc.length fc]] ([⟨acc⟩]:List kC) (Ow r) r r (by decide) ⟨kC.inn ⟨_,_,rfl,b.dl 0 rfl⟩,trivial⟩) ?_);rintro _ w7 ⟨b5,rfl,b⟩;refine ⟨kJ lF ⟨b.bk 1 rfl,b.bk 2 rfl⟩,?_⟩;refine hO 7 (oo r r (kR b 4 2 r r underlying40 E5 r (by decide) (by decide) hB r r (b.AR 0 0 r r) hap) ?_);rintro _ w8 ⟨a4,c4,cs4,rfl,b⟩;refine ⟨kJ lF ⟨b.bk 1 rfl,b.bk 2 rfl⟩,pL 8 r (xn r) lF ⟨b.bk 1 rfl,b.bk 2 rfl⟩ (pL 9 r (yG r r) lF ⟨b.bk 1 rfl,b.bk 2 rfl⟩ ?_)⟩;refine hO 10 (os r r (t_n b 2 [.slice a4 (window s.hist R.fr R.mo ++ [(⟨acc⟩:kC)]).length c4] r Qt r r) fun w9 b=>⟨sy 10 lF,hD ?_⟩);refine goC b ?_;refine lD (t_n b 2 [V (wr ((s.hist.length:Int)+1))] rfl ny rfl rfl) fun w10 b=>?_;rw [Px (by omega)] at b;refine go ?_;refine kH (jC rfl (kL rfl) ⟨{ m with eA:=a4,eC:=c4,ec:=cs4 },0,?_,.inl ⟨rfl,rfl,rfl⟩⟩);dsimp only [Mar,oV,iM,cM];rw [QZ (by omega) (by omega),show (s.hist ++ [(⟨acc⟩:kC)]).length=s.hist.length+1 from by simp];exact (b.arr [2,3,4,5,6] rfl).dp [2,3,4,5,6,7]
end Go.Proofs.YtfglbdkfnphjgaaGreat
