/- Expressions: the interpreter of the specification computes what evM says. -/
import Derived.Test.YtfglbdkfnphjgaaGreatZ23
set_option linter.unusedVariables false
set_option maxRecDepth 4000
set_option maxHeartbeats 12800000
namespace Go.Proofs.YtfglbdkfnphjgaaGreat
open Go.RowKit Go.Fw Go.Proofs.Tryz
theorem VZ:jH prog 99:=⟨_,func99,by kernel_rfl,by kernel_rfl⟩
theorem Ro:jH prog 100:=⟨_,func100,by kernel_rfl,by kernel_rfl⟩
theorem O1:jH prog 101:=⟨_,func101,by kernel_rfl,by kernel_rfl⟩
theorem OV:jH prog 114:=⟨_,func114,by kernel_rfl,by kernel_rfl⟩
theorem Qb {α β:Type} {q:Pn α} {f:α->Option (Pn β)} {p:Pn β} (h:q.then f=some p) (hp:Eg p):Eg q:=by
 cases q with
 | ok a=>trivial
 | tV t=>trivial
 | err t=>cases h;exact hp.elim
 | rt=>cases h;exact hp.elim
theorem Rl {op x y:Int} (h:Eg (BG op x y)):6<=op/\op<=17:=by
 by_cases hr:6<=op/\op<=17
 · exact hr
 · unfold BG at h;rw [if_neg (by omega),if_neg (by omega),if_neg (by omega),if_neg (by omega),if_neg (by omega),if_neg (by omega),if_neg (by omega),if_neg (by omega),if_neg (by omega),if_neg (by omega),if_neg (by omega),if_neg (by omega)] at h;exact h.elim
theorem H7 {T:TypeId} {x:vg} {g:pQ} {w:World} {k r j:Nat} {l:List Int} (h:(It.uY T x g).p w) (hr:x.R[k]?=some r) (hl:g.ws[k]?=some l) (hj:j < l.length):w.cell? ⟨r,0+j * 1,none⟩=some (V (T9 g.ws (k,j))):=by obtain ⟨r',hr',hB,_⟩:=It.sN h hl;rw [hr] at hr';obtain rfl:=Option.some.inj hr';rw [Nat.zero_add,Nat.mul_one];refine hB.cell ?_;simp only [List.getElem?_toArray,List.getElem?_map,T9];rw [List.getElem?_eq_getElem hj];simp [List.getD_eq_getElem?_getD,hl,hj]
def CEr (evf:List (List Int)->jA->Option (Pn Int)):Prop:=∀ {w:World} {A:Nat->Prop} {R:Rn} {m:AQ} {n k h o:Nat} {v:Int} {x:vg} {g:pQ} {e:jA} {a:Option Addr} {c:Nat} {p:Pn Int},Pre w A [iM R m n k h o 0 v,sW x g] [.l a c e.a]->Nk e->evf g.ws e=some p->Eg p-> Calls prog 101 #[Pt R.rb,Pt x.b,.agg (cE e a c).toArray] w (pz fun r w'=>∃ v',Bx w w' A (lD [iM R m n k h o 0 v,sW x g]) [iM R m n k h o 0 v',sW x g] []/\((∃ n,p=.ok n/\r=.tuple #[V n,.bool true])\/(∃ z,p=.tV v'/\r=.tuple #[V z,.bool false])))
def CVr (evf:List (List Int)->jA->Option (Pn Int)):Prop:=∀ {w:World} {A:Nat->Prop} {R:Rn} {m:AQ} {n k h o:Nat} {v:Int} {x:vg} {g:pQ} {es:List jA} {a:Option Addr} {c:Nat} {p:Pn (List Int)},Pre w A [iM R m n k h o 0 v,sW x g] [.l a c es]->(∀ e ∈ es,Nk e)->yu (evf g.ws) es []=some p->Eg p-> Calls prog 100 #[Pt R.rb,Pt x.b,.slice a es.length c] w (pz fun r w'=>∃ v',(∃ ns A1 c1,p=.ok ns/\r=.tuple #[.slice A1 ns.length c1,.bool true]/\Bx w w' A (lD [iM R m n k h o 0 v,sW x g]) [iM R m n k h o 0 v',sW x g] [.l A1 c1 ns])\/(p=.tV v'/\r=.tuple #[sn,.bool false]/\Bx w w' A (lD [iM R m n k h o 0 v,sW x g]) [iM R m n k h o 0 v',sW x g] []))
def CIr (evf:List (List Int)->jA->Option (Pn Int)):Prop:=∀ {w:World} {A:Nat->Prop} {R:Rn} {m:AQ} {n k h o:Nat} {v:Int} {x:vg} {g:pQ} {e:jA} {a:Option Addr} {c i:Nat} {l:List Int} {y:jA} {r0:List jA} {p:Pn Int},Pre w A [iM R m n k h o 0 v,sW x g] [.l a c e.a]->Nk y->e.g=(i:Int)->g.ws[i]?=some l->e.a=y :: r0->evf g.ws y=some p->Eg p-> Calls prog 99 #[Pt R.rb,Pt x.b,.agg (cE e a c).toArray] w (pz fun r w'=>∃ v',Bx w w' A (lD [iM R m n k h o 0 v,sW x g]) [iM R m n k h o 0 v',sW x g] []/\((∃ j:Nat,p=.ok (j:Int)/\j < l.length/\r=.tuple #[V (j:Int),.bool true])\/(∃ z,r=.tuple #[V z,.bool false]/\(p=.tV v'\/∃ n,p=.ok n/\(n < 0\/(l.length:Int)<=n)/\v'=2))))
theorem MJ {ef:List (List Int)->jA->Option (Pn Int)} (hE:CEr ef):CVr ef:=by
 intro w A R m n k h o v x g es a c p hP ha hm hq;have b:=hP.bx;clear hP;generalize hG:lD _=G at b ⊢;refine cf func100 rfl ?_;refine lu [(0,Pt R.rb),(1,Pt x.b),(2,.slice a es.length c)] ⟨rfl,rfl,rfl,trivial⟩ fun av=>?_;have hbd:=(b.dl 0 rfl).bd;replace b:=b.Bv Int 3;refine goC b ?_
 refine kI (fun aw f w'=>∃ (t:Nat) (acc:List Int) (a1:Option Addr) (c1:Nat) (cs:List (List Value)) (v:Int),aw=es.length - t∧t≤es.length∧
     Has f [(0,Pt R.rb),(1,Pt x.b),(8,.slice a1 acc.length c1),(13,.slice a es.length c),(14,V (es.length:Int)),(15,V (t:Int))]/\
     Bx w w' A G [.own w.heap.size a1 c1 3 (Rp.sz Int) cs,iM R m n k h o 0 v,sW x g] [.els cs acc,.l a c es]/\yu (ef g.ws) (es.drop t) acc=some p)
   es.length ⟨0,[],none,0,[],v,rfl,Nat.zero_le _,⟨rfl,rfl,rfl,rfl,rfl,rfl,trivial⟩,b,hm⟩ ?_
 clear b hm;rintro aw f w1 ⟨t,acc,a1,c1,cs,v,rfl,ht,hf,b,hm⟩ J hJ;obtain ⟨av,rfl⟩:=mE _ _ hf;clear hf;refine goC b ?_;refine nS rfl (fun h=>?_) (fun h=>?_)
 · obtain ⟨y,hy⟩:=lT (l:=es) (k:=t) (by omega);rw [l8 hy,yu] at hm;obtain ⟨q,h1,hm⟩:=bs hm;refine goC b ?_;refine QV b 1 rfl hy rfl rfl rfl fun a2 c2 b=>?_;refine rE b (jX jR) fun w2 b9 b=>?_;refine lq (nZ b 0 (cE y a2 c2) rfl jR rfl rfl) fun w3 b=>?_;refine goC b ?_;refine jZ (lY (cE y a2 c2) l6 jR rfl (b.bk 0 rfl)) ?_;refine oO (lW O1 rfl) (hE (b.pr [2,3] [0,1] [0] rfl) (ha y (List.mem_of_getElem? hy)) h1 (Qb hm hq)) ?_;rintro _ w4 ⟨v',hK,hr⟩;replace b:=b.cn [2,3] [0,1] hK;rcases hr with ⟨n1,rfl,rfl⟩|⟨z,rfl,rfl⟩
   · obtain ⟨acc2,h2,hm⟩:=bs hm;refine jZ (wh (.tuple #[V n1,.bool true]) rfl) ?_;refine goC b ?_;refine nM (jN b [[V n1]] ([n1]:List Int) (zo rfl) rfl rfl (by decide) ⟨rfl,trivial⟩) ?_;rintro _ w5 ⟨b5,rfl,b⟩;refine nM (kN b 4 2 rfl rfl qH mV rfl (by decide) (by decide) (Nat.le_refl _) rfl rfl (b.zL 0 0 rfl rfl) h2) ?_;rintro _ w6 ⟨a4,c4,cs4,rfl,b⟩;refine goC b ?_;refine hJ (es.length - (t+1)) _ _ (by omega) ⟨t+1,acc2,a4,c4,cs4,v',rfl,by omega,⟨rfl,rfl,rfl,rfl,rfl,congrArg V (NZ (by omega)),trivial⟩,b.ad [4,1,2] [2,3],hm⟩
   · cases hm;refine jZ (wh (.tuple #[V z,.bool false]) rfl) ?_;refine goC b ?_;refine kD ?_;refine mR (fn:=f100) rfl (kH rfl) (kH rfl) ?_;exact ⟨v',.inr ⟨rfl,rfl,(b.arr [0,1] rfl).dp []⟩⟩
 · have:t=es.length:=by omega
   subst this;rw [lM,yu] at hm;obtain rfl:=sm hm;refine goC b ?_;refine uy ?_;refine goC b ?_;refine kD ?_;refine mR (fn:=f100) rfl (kH rfl) (kH rfl) ?_;exact ⟨v,.inl ⟨acc,a1,c1,rfl,rfl,(b.QY 0 0 rfl rfl).ad [0,1] [0]⟩⟩
theorem MF {ef:List (List Int)->jA->Option (Pn Int)} (hE:CEr ef):CIr ef:=by
 intro w A R m n k h o v x g e a c i l y r0 p hP ha hi hl hA hm hq;have b:=hP.bx;clear hP;generalize hG:lD _=G at b ⊢;refine cf func99 rfl ?_;refine lu [(0,Pt R.rb),(1,Pt x.b),(2,.agg (cE e a c).toArray)] ⟨rfl,rfl,rfl,trivial⟩ fun av=>?_;refine go ?_;refine rE b (tO rfl) fun w1 b5 b=>?_;refine goC b ?_;refine QV b 0 rfl (show e.a[0]?=some y by rw [hA];rfl) rfl rfl rfl fun a2 c2 b=>?_;refine oO (lW O1 rfl) (hE (b.pr [1,2] [0] [0] rfl) ha hm hq) ?_;rintro _ w2 ⟨v',hK,hr⟩;replace b:=b.cn [1,2] [0] hK;rcases hr with ⟨n1,rfl,rfl⟩|⟨z,rfl,rfl⟩
 · refine jZ (wh (.tuple #[V n1,.bool true]) rfl) ?_;refine goC b ?_;obtain ⟨r1,hr,_,h5,_⟩:=It.sN (b.at 1 rfl) hl;refine CZ b (fun _=>True) trivial (by kernel_rfl) fun m=>?_;replace b:=m.1;refine pF 0 r (kQ r) m (pF 1 r (kQ r) m (pF 2 r (mi r) m (pF 3 r (qp r r) m (pF 4 r (kQ r) m ?_))));by_cases hn:n1 < 0
   · rw [decide_eq_true hn];refine jT 5 r (by kernel_rfl) r (sF m) (jT 6 r (by kernel_rfl) r (sF m) (jT 7 r (by kernel_rfl) r (sF m) (jT 8 r (by kernel_rfl) r (sF m) (jT 9 r (by kernel_rfl) r (sF m) (jT 10 r (by kernel_rfl) r (sF m) (jT 11 r (by kernel_rfl) r (sF m) (jT 12 r (by kernel_rfl) r (sF m) (jT 13 r (by kernel_rfl) r (sF m) (jT 14 r (by kernel_rfl) r (sF m) (jT 15 r (by kernel_rfl) r (sF m) (pF 16 r (kF r r) m (pF 17 r (kF r r) m (hD ?_)))))))))))));refine goC b ?_;refine lq (t_n b 0 [V 2] rfl mV rfl rfl) fun w3 b=>?_;refine goC b ?_;refine kD ?_;refine mR (fn:=f99) rfl (kH rfl) (kH rfl) ?_;exact ⟨2,(b.arr [0,1] rfl).dp [],.inr ⟨n1,rfl,.inr ⟨n1,rfl,.inl hn,rfl⟩⟩⟩
   rw [decide_eq_false hn];refine pF 5 r (mi r) m (pF 6 r (nW r) m (pF 7 r (xn r) m (pF 8 r (yG r r) m (uF 9 r (fun h=>yK r (It.oF (h.1.at 1 r)) r r) m (pF 10 r (yG r r) m (uF 11 r (fun h=>yK r (h.1.bk 2 r) r r) m (pF 12 r (zG i h5 underlying93 vW r r hi (jW hl)) m (uF 13 r (fun h=>jS (a:=⟨mX x.A,nU x.A+i * 1,none⟩) underlying22 r r (uh (h.1.at 1 r) hr hl)) m (pF 14 r (lK underlying22 r) m (pF 15 r (BF r r) m (pF 16 r (jY r r) m (pF 17 r (kF r r) m (hD ?_)))))))))))));refine nS rfl (fun hn2=>?_) (fun hn2=>?_)
   · refine goC b ?_;refine lq (t_n b 0 [V 2] rfl mV rfl rfl) fun w3 b=>?_;refine goC b ?_;refine kD ?_;refine mR (fn:=f99) rfl (kH rfl) (kH rfl) ?_;exact ⟨2,(b.arr [0,1] rfl).dp [],.inr ⟨n1,rfl,.inr ⟨n1,rfl,.inr hn2,rfl⟩⟩⟩
   · refine goC b ?_;refine kD ?_;refine mR (fn:=f99) rfl (kH rfl) (kH rfl) ?_;obtain ⟨j,rfl⟩:∃ j:Nat,n1=(j:Int):=⟨n1.toNat,by omega⟩;exact ⟨v',(b.arr [0,1] rfl).dp [],.inl ⟨j,rfl,by omega,rfl⟩⟩
 · refine jZ (wh (.tuple #[V z,.bool false]) rfl) ?_;refine goC b ?_;refine CZ b (fun _=>True) trivial (by kernel_rfl) fun m=>?_;replace b:=m.1;refine pF 0 r (kQ r) m (pF 1 r (kQ r) m (jT 2 r (by kernel_rfl) r (sF m) (jT 3 r (by kernel_rfl) r (sF m) (jT 4 r (by kernel_rfl) r (sF m) (jT 5 r (by kernel_rfl) r (sF m) (jT 6 r (by kernel_rfl) r (sF m) (jT 7 r (by kernel_rfl) r (sF m) (jT 8 r (by kernel_rfl) r (sF m) (jT 9 r (by kernel_rfl) r (sF m) (jT 10 r (by kernel_rfl) r (sF m) (jT 11 r (by kernel_rfl) r (sF m) (jT 12 r (by kernel_rfl) r (sF m) (jT 13 r (by kernel_rfl) r (sF m) (jT 14 r (by kernel_rfl) r (sF m) (jT 15 r (by kernel_rfl) r (sF m) (jT 16 r (by kernel_rfl) r (sF m) (pF 17 r (jY r r) m (hD ?_))))))))))))))))));refine goC b ?_;refine kD ?_;refine mR (fn:=f99) rfl (kH rfl) (kH rfl) ?_;exact ⟨v',(b.arr [0,1] rfl).dp [],.inr ⟨z,rfl,.inl rfl⟩⟩
theorem app1 (n:Int):app ([]:List Int) [n]=some [n]:=by unfold app;simp
theorem ace (n k:Int):app [n] [k]=some [n,k]:=by unfold app;simp
theorem Uo {fu:Nat} {ws:List (List Int)} {e:jA} {p:Pn Int} (hm:wu (fu+1) ws e=some p) (hq:Eg p) (ha:Nk e) (h:¬ (e.e=0\/e.e=1\/e.e=2\/e.e=3)) :∃ q,yu (wu fu ws) e.a []=some q/\Eg q/\((∃ t,q=.tV t/\p=.tV t)\/(∃ n,e.e=4/\q=.ok [n]/\p=.ok (wr (0 - n)))\/(∃ n,e.e=5/\q=.ok [n]/\p=.ok (zT (decide (n=0))))\/(∃ n k,e.e≠4/\e.e≠5/\q=.ok [n,k]/\p=BG e.e n k)):=by
 have hl:=ha.h h;rw [wu,if_neg (by omega),if_neg (by omega)] at hm;by_cases h4:e.e=4
 · rw [if_pos h4] at hm;rw [if_pos (.inl h4)] at hl;obtain ⟨y,hA⟩:=List.length_eq_one_iff.1 hl;rw [hA] at hm ⊢;obtain ⟨q,h1,hm⟩:=bs hm;rw [yu,h1];cases q with
   | ok n=>cases hm;exact ⟨.ok [n],by simp only [Option.bind_some,Pn.then,app1,yu],trivial,.inr (.inl ⟨n,h4,rfl,rfl⟩)⟩
   | tV t=>cases hm;exact ⟨.tV t,rfl,trivial,.inl ⟨t,rfl,rfl⟩⟩
   | err t=>cases hm;exact hq.elim
   | rt=>cases hm;exact hq.elim
 rw [if_neg h4] at hm;by_cases h5:e.e=5
 · rw [if_pos h5] at hm;rw [if_pos (.inr h5)] at hl;obtain ⟨y,hA⟩:=List.length_eq_one_iff.1 hl;rw [hA] at hm ⊢;obtain ⟨q,h1,hm⟩:=bs hm;rw [yu,h1];cases q with
   | ok n=>cases hm;exact ⟨.ok [n],by simp only [Option.bind_some,Pn.then,app1,yu],trivial,.inr (.inr (.inl ⟨n,h5,rfl,rfl⟩))⟩
   | tV t=>cases hm;exact ⟨.tV t,rfl,trivial,.inl ⟨t,rfl,rfl⟩⟩
   | err t=>cases hm;exact hq.elim
   | rt=>cases hm;exact hq.elim
 rw [if_neg h5] at hm;rw [if_neg (by omega)] at hl;obtain ⟨y,z,hA⟩:∃ y z,e.a=[y,z]:=by
   cases h1:e.a with
   | nil=>rw [h1] at hl;cases hl
   | cons y l=>cases l with
    | nil=>rw [h1] at hl;cases hl
    | cons z l=>cases l with
     | nil=>exact ⟨y,z,rfl⟩
     | cons=>rw [h1] at hl;simp at hl
 rw [hA] at hm ⊢;obtain ⟨q,h1,hm⟩:=bs hm;rw [yu,h1];cases q with
 | ok n=>
   obtain ⟨q,h2,hm⟩:=bs hm;simp only [Option.bind_some,Pn.then,app1];rw [yu,h2];cases q with
   | ok k=>cases hm;exact ⟨.ok [n,k],by simp only [Option.bind_some,Pn.then,ace,yu],trivial,.inr (.inr (.inr ⟨n,k,h4,h5,rfl,rfl⟩))⟩
   | tV t=>cases hm;exact ⟨.tV t,rfl,trivial,.inl ⟨t,rfl,rfl⟩⟩
   | err t=>cases hm;exact hq.elim
   | rt=>cases hm;exact hq.elim
 | tV t=>cases hm;exact ⟨.tV t,rfl,trivial,.inl ⟨t,rfl,rfl⟩⟩
 | err t=>cases hm;exact hq.elim
 | rt=>cases hm;exact hq.elim
theorem UK {fu:Nat} (hE:CEr (wu fu)):CEr (wu (fu+1)):=by
 intro w A R m n k h o v x g e a c p hP ha hm hq;have b:=hP.bx;clear hP;generalize hG:lD _=G at b ⊢;refine cf func101 rfl ?_;refine lu [(0,Pt R.rb),(1,Pt x.b),(2,.agg (cE e a c).toArray)] ⟨rfl,rfl,rfl,trivial⟩ fun av=>?_;refine go ?_;refine rE b (tO rfl) fun w1 b5 b=>?_;refine goC b ?_;refine nS rfl (fun h0=>?_) (fun h0=>?_)
 · rw [wu,if_pos h0] at hm;cases hm;refine goC b ?_;exact kD (mR (fn:=f101) rfl (kH rfl) (kH rfl) ⟨v,(b.arr [1,2] rfl).dp [],.inl ⟨_,rfl,rfl⟩⟩)
 refine go ?_;by_cases hw:e.e=1\/e.e=2\/e.e=3
 · rw [wu,if_neg h0,if_pos hw] at hm;obtain ⟨q,h1,hm⟩:=bs hm;obtain ⟨i,l,hi,hl,hk⟩:=KM h1 (Qb hm hq);obtain ⟨r1,hr,_,h5,_⟩:=It.sN (b.at 2 rfl) hl;rcases hk with ⟨h2,j,hj,hjl,rfl⟩|⟨h3,y,r0,p1,hA,hp1,hq1,hk⟩|⟨h2,h3,hjl,rfl⟩
   · cases hm;rw [decide_eq_false (by omega:¬ e.e=1)];refine go ?_;rw [decide_eq_true h2];refine go ?_;refine CZ b (fun _=>True) trivial (by kernel_rfl) fun m=>?_;replace b:=m.1;refine pF 0 r (nW r) m (pF 1 r (xn r) m (pF 2 r (yG r r) m (uF 3 r (fun h=>yK r (It.oF (h.1.at 2 r)) r r) m (pF 4 r (yG r r) m (uF 5 r (fun h=>yK r (h.1.bk 0 r) r r) m (pF 6 r (zG i h5 underlying93 vW r r hi (jW hl)) m (uF 7 r (fun h=>jS (a:=⟨mX x.A,nU x.A+i * 1,none⟩) underlying22 r r (uh (h.1.at 2 r) hr hl)) m ?_)))))));refine pF 8 r (yG r r) m (uF 9 r (fun h=>yK r (h.1.bk 0 r) r r) m (pF 10 r (xIdx j underlying22 mV r r hj hjl) m (uF 11 r (fun h=>jS (a:=⟨r1,0+j * 1,none⟩) underlying3 r r (H7 (h.1.at 2 r) hr hl hjl)) m (pF 12 r (IU r) m (pF 13 r (kr r) m (hD ?_))))));refine go ?_;exact kD (mR (fn:=f101) rfl (kH rfl) (kH rfl) ⟨v,(b.arr [1,2] rfl).dp [],.inl ⟨_,rfl,rfl⟩⟩)
   · rw [decide_eq_false (by omega:¬ e.e=1)];refine go ?_;rw [decide_eq_false (by omega:¬ e.e=2)];refine go ?_;rw [decide_eq_true h3];refine goC b ?_;refine jZ (lY (cE e a c) l6 jR rfl (b.bk 0 rfl)) ?_;refine oO (lW VZ rfl) (MF hE (b.pr [1,2] [0] [0] rfl) (ha.k y (by rw [hA];exact List.mem_cons_self ..)) hi hl hA hp1 hq1) ?_;rintro _ w2 ⟨v',hK,hz⟩;replace b:=b.cn [1,2] [0] hK;rcases hz with ⟨j,rfl,hjl,rfl⟩|⟨z,rfl,hz⟩
     · have hq2:q=.ok (i,j):=by
         rcases hk with ⟨t,h,_⟩|⟨n2,h,hb,_⟩|⟨j2,h,_,hq2⟩
         · cases h
         · cases h;omega
         · have:j=j2:=by have:=Pn.ok.inj h;omega
           subst this;exact hq2
       subst hq2;cases hm;refine jZ (wh (.tuple #[V (j:Int),.bool true]) rfl) ?_;refine goC b ?_;refine CZ b (fun _=>True) trivial (by kernel_rfl) fun m=>?_;replace b:=m.1;refine pF 0 r (nW r) m (pF 1 r (xn r) m (pF 2 r (yG r r) m (uF 3 r (fun h=>yK r (It.oF (h.1.at 1 r)) r r) m (pF 4 r (yG r r) m (uF 5 r (fun h=>yK r (h.1.bk 2 r) r r) m (pF 6 r (zG i h5 underlying93 vW r r hi (jW hl)) m (uF 7 r (fun h=>jS (a:=⟨mX x.A,nU x.A+i * 1,none⟩) underlying22 r r (uh (h.1.at 1 r) hr hl)) m ?_)))))));refine pF 8 r (mi r) m (pF 9 r (xIdx j underlying22 mV r r r hjl) m (uF 10 r (fun h=>jS (a:=⟨r1,0+j * 1,none⟩) underlying3 r r (H7 (h.1.at 1 r) hr hl hjl)) m (pF 11 r (IU r) m (pF 12 r (kr r) m (hD ?_)))));refine go ?_;exact kD (mR (fn:=f101) rfl (kH rfl) (kH rfl) ⟨v',(b.arr [0,1] rfl).dp [],.inl ⟨_,rfl,rfl⟩⟩)
     · have hp:p=.tV v':=by
         rcases hk with ⟨t,h,hq2⟩|⟨n2,h,hb,hq2⟩|⟨j2,h,_,hq2⟩
         · subst hq2;cases hm;rcases hz with hz | ⟨n3,hz,_⟩
           · rw [h] at hz;exact hz
           · rw [h] at hz;cases hz
         · subst hq2;cases hm;rcases hz with hz | ⟨n3,hz,_,rfl⟩
           · rw [h] at hz;cases hz
           · rfl
         · rcases hz with hz | ⟨n3,hz,hb,_⟩
           · rw [h] at hz;cases hz
           · rw [h] at hz;cases hz;omega
       subst hp;refine jZ (wh (.tuple #[V z,.bool false]) rfl) ?_;refine goC b ?_;exact kD (mR (fn:=f101) rfl (kH rfl) (kH rfl) ⟨v',(b.arr [0,1] rfl).dp [],.inr ⟨_,rfl,rfl⟩⟩)
   · cases hm;rw [decide_eq_true (by omega:e.e=1)];refine go ?_;refine CZ b (fun _=>True) trivial (by kernel_rfl) fun m=>?_;replace b:=m.1;refine pF 0 r (nW r) m (pF 1 r (xn r) m (pF 2 r (yG r r) m (uF 3 r (fun h=>yK r (It.oF (h.1.at 2 r)) r r) m (pF 4 r (yG r r) m (uF 5 r (fun h=>yK r (h.1.bk 0 r) r r) m (pF 6 r (zG i h5 underlying93 vW r r hi (jW hl)) m (uF 7 r (fun h=>jS (a:=⟨mX x.A,nU x.A+i * 1,none⟩) underlying22 r r (uh (h.1.at 2 r) hr hl)) m ?_)))))));refine pF 8 r (xIdx 0 underlying22 mV r r r hjl) m (uF 9 r (fun h=>jS (a:=⟨r1,0+0 * 1,none⟩) underlying3 r r (H7 (h.1.at 2 r) hr hl hjl)) m (pF 10 r (IU r) m (pF 11 r (kr r) m (hD ?_))));refine go ?_;exact kD (mR (fn:=f101) rfl (kH rfl) (kH rfl) ⟨v,(b.arr [1,2] rfl).dp [],.inl ⟨_,rfl,rfl⟩⟩)
 obtain ⟨q,h1,hq1,hk⟩:=Uo hm hq ha (by omega);clear hm;rw [decide_eq_false (by omega:¬ e.e=1)];refine go ?_;rw [decide_eq_false (by omega:¬ e.e=2)];refine go ?_;rw [decide_eq_false (by omega:¬ e.e=3)];refine goC b ?_;refine oO (lW Ro rfl) (MJ hE (b.pr [1,2] [0] [0] rfl) ha.k h1 hq1) ?_;rintro _ w2 ⟨v',hz⟩;rcases hz with ⟨ns,A1,c1,rfl,rfl,hK⟩|⟨rfl,rfl,hK⟩
 · replace b:=b.cn [1,2] [0] hK;refine jZ (wh (.tuple #[.slice A1 ns.length c1,.bool true]) rfl) ?_;refine goC b ?_;rcases hk with ⟨t,h,_⟩|⟨n1,h4,h,rfl⟩|⟨n1,h5,h,rfl⟩|⟨n1,n2,h4,h5,h,rfl⟩
   · cases h
   · cases h;rw [decide_eq_true h4];refine goC b ?_;refine jZ (kV qH mV rfl rfl rfl (b.dl 0 rfl) (show ([n1]:List Int)[0]?=some n1 from rfl)) (jZ (jS underlying3 rfl rfl ((tC (ds:=[V n1]) (b.dl 0 rfl) (show ([n1]:List Int)[0]?=some n1 from rfl) (fun _ h=>h)) 0 _ rfl)) ?_);refine go ?_;exact kD (mR (fn:=f101) rfl (kH rfl) (kH rfl) ⟨v',(b.arr [0,1] rfl).dp [],.inl ⟨_,rfl,rfl⟩⟩)
   · cases h;rw [decide_eq_false (by omega:¬ e.e=4)];refine go ?_;rw [decide_eq_true h5];refine goC b ?_;refine jZ (kV qH mV rfl rfl rfl (b.dl 0 rfl) (show ([n1]:List Int)[0]?=some n1 from rfl)) (jZ (jS underlying3 rfl rfl ((tC (ds:=[V n1]) (b.dl 0 rfl) (show ([n1]:List Int)[0]?=some n1 from rfl) (fun _ h=>h)) 0 _ rfl)) ?_);refine oO (lW OV rfl) (Fg (op:=16) (n:=zT (decide (n1=0))) (by decide) rfl) ?_;rintro _ w3 ⟨rfl,rfl⟩;refine go ?_;exact kD (mR (fn:=f101) rfl (kH rfl) (kH rfl) ⟨v',(b.arr [0,1] rfl).dp [],.inl ⟨_,rfl,rfl⟩⟩)
   · cases h;have hrg:=Rl hq;rw [decide_eq_false h4];refine go ?_;rw [decide_eq_false h5];refine go ?_;have hg0:([n1,n2]:List Int)[0]?=some n1:=rfl;have hg1:([n1,n2]:List Int)[1]?=some n2:=rfl;refine qF (fun f w'=>w'=w2/\Has f [(0,Pt R.rb),(1,Pt x.b),(5,Pt b5),(10,.slice A1 2 c1),(90,.bool (decide (e.e=9\/e.e=10)))]) (fun J hJ=>?_) ?_
     · by_cases h9:e.e=9
       · rw [decide_eq_true h9];refine go ?_;exact hJ _ _ ⟨rfl,rfl,rfl,rfl,rfl,congrArg Value.bool (decide_eq_true (.inl h9)).symm,trivial⟩
       · rw [decide_eq_false h9];refine go ?_;exact hJ _ _ ⟨rfl,rfl,rfl,rfl,rfl,congrArg Value.bool (decide_eq_decide.2 ⟨.inr,fun z=>z.resolve_left h9⟩),trivial⟩
     rintro f w' ⟨rfl,hf⟩;obtain ⟨av,rfl⟩:=mE _ _ hf;clear hf;have fin:∀ (av:Fr),¬ ((e.e=9\/e.e=10)/\n2=0)->True:=fun _ _=>trivial;refine go ?_;by_cases hd:e.e=9\/e.e=10
     · rw [decide_eq_true hd];refine goC b ?_;refine jZ (kV qH mV rfl rfl rfl (b.dl 0 rfl) hg1) (jZ (jS underlying3 rfl rfl ((tC (ds:=[V n2]) (b.dl 0 rfl) hg1 (fun _ h=>h)) 0 _ rfl)) ?_);refine go ?_;by_cases hz:n2=0
       · rw [decide_eq_true hz];have hb:BG e.e n1 n2=.tV 1:=by
           unfold BG;rw [if_neg (by omega),if_neg (by omega),if_neg (by omega)];by_cases h9:e.e=9
           · rw [if_pos h9,if_pos hz]
           · rw [if_neg h9,if_pos (hd.resolve_left h9),if_pos hz]
         rw [hb];refine goC b ?_;refine lq (t_n b 0 [V 1] rfl mV rfl rfl) fun w3 b=>?_;refine goC b ?_;exact kD (mR (fn:=f101) rfl (kH rfl) (kH rfl) ⟨1,(b.arr [0,1] rfl).dp [],.inr ⟨_,rfl,rfl⟩⟩)
       rw [decide_eq_false hz];obtain ⟨r1,hr1⟩:∃ r1,BG e.e n1 n2=.ok r1:=by
         unfold BG;rw [if_neg (by omega),if_neg (by omega),if_neg (by omega)];by_cases h9:e.e=9
         · rw [if_pos h9,if_neg hz];exact ⟨_,rfl⟩
         · rw [if_neg h9,if_pos (hd.resolve_left h9),if_neg hz];exact ⟨_,rfl⟩
       refine go ?_;refine CZ b (fun _=>True) trivial (by kernel_rfl) fun m=>?_;replace b:=m.1;refine pF 0 r (yG r r) m (uF 1 r (fun h=>yK r (h.1.bk 2 r) r r) m (pF 2 r (wm r r) m (pF 3 r (mH r) m (pF 4 r (kV qH mV r r r (b.dl 0 r) hg0) m (uF 5 r (fun h=>jS underlying3 r r ((tC (ds:=[V n1]) (h.1.dl 0 r) hg0 (fun _ h=>h)) 0 _ r)) m (pF 6 r (mH r) m (pF 7 r (kV qH mV r r r (b.dl 0 r) hg1) m (uF 8 r (fun h=>jS underlying3 r r ((tC (ds:=[V n2]) (h.1.dl 0 r) hg1 (fun _ h=>h)) 0 _ r)) m ?_))))))));refine hO 9 (oc r r (ec OV r) (Fg (op:=e.e) (by unfold wr;rw [LX (n:=e.e - 6) (by omega) (by omega),LX (by omega) (by omega)];omega) hr1) ?_);rintro _ w3 ⟨rfl,rfl⟩;refine ⟨sF m,pF 10 r (IU r) m (pF 11 r (kr r) m (hD ?_))⟩;refine go ?_;exact kD (mR (fn:=f101) rfl (kH rfl) (kH rfl) ⟨v',(b.arr [0,1] rfl).dp [],.inl ⟨_,hr1,rfl⟩⟩)
     rw [decide_eq_false hd];obtain ⟨r1,hr1⟩:∃ r1,BG e.e n1 n2=.ok r1:=by
       cases hb:BG e.e n1 n2 with
       | ok r1=>exact ⟨r1,rfl⟩
       | tV t=>
         unfold BG at hb;rw [if_neg (fun z=>hd (.inl z)),if_neg (fun z=>hd (.inr z))] at hb;repeat (first | (split at hb;(first | cases hb | skip))|cases hb)
       | err t=>rw [hb] at hq;exact hq.elim
       | rt=>rw [hb] at hq;exact hq.elim
     refine go ?_;refine CZ b (fun _=>True) trivial (by kernel_rfl) fun m=>?_;replace b:=m.1;refine pF 0 r (yG r r) m (uF 1 r (fun h=>yK r (h.1.bk 2 r) r r) m (pF 2 r (wm r r) m (pF 3 r (mH r) m (pF 4 r (kV qH mV r r r (b.dl 0 r) hg0) m (uF 5 r (fun h=>jS underlying3 r r ((tC (ds:=[V n1]) (h.1.dl 0 r) hg0 (fun _ h=>h)) 0 _ r)) m (pF 6 r (mH r) m (pF 7 r (kV qH mV r r r (b.dl 0 r) hg1) m (uF 8 r (fun h=>jS underlying3 r r ((tC (ds:=[V n2]) (h.1.dl 0 r) hg1 (fun _ h=>h)) 0 _ r)) m ?_))))))));refine hO 9 (oc r r (ec OV r) (Fg (op:=e.e) (by unfold wr;rw [LX (n:=e.e - 6) (by omega) (by omega),LX (by omega) (by omega)];omega) hr1) ?_);rintro _ w3 ⟨rfl,rfl⟩;refine ⟨sF m,pF 10 r (IU r) m (pF 11 r (kr r) m (hD ?_))⟩;refine go ?_;exact kD (mR (fn:=f101) rfl (kH rfl) (kH rfl) ⟨v',(b.arr [0,1] rfl).dp [],.inl ⟨_,hr1,rfl⟩⟩)
 · replace b:=b.cn [1,2] [0] hK;refine jZ (wh (.tuple #[sn,.bool false]) rfl) ?_;refine goC b ?_;rcases hk with ⟨t,h,rfl⟩|⟨n1,h4,h,rfl⟩|⟨n1,h5,h,rfl⟩|⟨n1,n2,h4,h5,h,rfl⟩
   · cases h;exact kD (mR (fn:=f101) rfl (kH rfl) (kH rfl) ⟨v',(b.arr [0,1] rfl).dp [],.inr ⟨_,rfl,rfl⟩⟩)
   all_goals cases h
theorem UW:∀ fu,CEr (wu fu)
 | 0=>by intro _ _ h;cases h
 | fu+1=>UK (UW fu)
theorem acj (fu:Nat):CIr (wu fu):=MF (UW fu)
theorem ab2 (fu:Nat):CVr (wu fu):=MJ (UW fu)
theorem Hz {fu:Nat} {i:Int}:∀ (r:List jy) (k:Nat) (acc:List Int),nT fu i r k acc=kW fu i r k acc
 | [],k,acc=>rfl
 | x :: r,k,acc=>by rw [nT,kW,Hz r,funext fun a=>Hz r (k+1) a]
theorem QH {fu:Nat} {s:jL} {f i:Int}:yT fu s f i=jD fu s f i:=by unfold yT jD;simp only [Hz]
section
variable {ρ:Operand->Value} {w:World} {d:Option Nat} {ty:TypeId} {pos:String} {af:Array Edge} {g:Option (Nat × Bool)} {x y z:Operand} {n m:Int} {A B:Option Addr} {k c k2 c2:Nat}
theorem Tx (h:ρ x=Vi n) (h3:ρ z=.slice B k2 c2):Yl prog ρ (.build 65 #[(0,x),(2,z)]) d ty pos af g w (.agg #[Vi n,sn,.slice B k2 c2]):=by
 have e:(Instr.build 65 #[(0,Vi n),(2,.slice B k2 c2)]).run prog w=.ok (.agg #[Vi n,sn,.slice B k2 c2]) w:=by kernel_rfl
 simp [Yl,execOp,h,h3,e]
theorem TU {b:Bool} (h:ρ x=.bool b):(execOp ρ ⟨d,.buildSlice 63 1 #[(0,x)],ty,pos,af,g⟩).run prog w=.ok (.value (.slice (some ⟨w.heap.size,0,none⟩) 1 1)) (w.alloc (.cells #[.bool b] 4)):=by
 have e:(Instr.buildSlice 63 1 #[(0,.bool b)]).run prog w=.ok (.slice (some ⟨w.heap.size,0,none⟩) 1 1) (w.alloc (.cells #[.bool b] 4)):=by kernel_rfl
 simp [execOp,h,e]
end
theorem aaQ:jH prog 98:=⟨_,func98,by kernel_rfl,by kernel_rfl⟩
theorem Ub {fu:Nat} {w:World} {A:Nat->Prop} {rb:Nat} {x:vg} {g:pQ} {s:TB} {src:jL} {tl:List Value} {fr:ny} (hP:Pre w A [] (aaP s src)) (hr:nH w rb 76 (I4 s src ++ tl).toArray) (ha:(sW x g).p w) (hm:XQ (jD fu src) g=some fr):Calls prog 98 #[Pt rb,Pt x.b] w (pz fun v w'=>∃ A1 c1,v=.agg #[V fr.j,V fr.a,.slice A1 fr.c.length c1]/\Bx w w' A (lD []) [] [.l A1 c1 fr.c]):=by
 have b:=hP.bx;clear hP;unfold XQ at hm;obtain ⟨vs,hv,hm⟩:=bs hm;rw [<-QH] at hv;refine cf func98 rfl ?_;refine lu [(0,Pt rb),(1,Pt x.b)] ⟨rfl,rfl,trivial⟩ fun av=>?_;have hE:∀ u,Ext w u->nH u rb 76 (I4 s src ++ tl).toArray/\(sW x g).p u:=fun u e=>⟨nH.ext hr e,wY ha e⟩;refine go ?_;refine rE b (jX Br) fun w1 b4 b=>?_;refine go ?_;refine CZ b (fun u=>nH u rb 76 (I4 s src ++ tl).toArray/\(sW x g).p u) (hE _ b.ex.drew) (by kernel_rfl) fun m=>?_;replace b:=m.1;refine pF 0 r (nW r) m (pF 1 r (xn r) m (pF 2 r (yG r r) m (uF 3 r (fun h=>yK r (It.oF h.2.2) r r) m (pF 4 r (nW r) m (pF 5 r (xn r) m (pF 6 r (yG r r) m (uF 7 r (fun h=>yK r (It.oF h.2.2) r r) m (pF 8 r (Mx r r) m ?_))))))));refine hO 9 (oo r r (nV b (jX Br)) ?_);rintro _ w2 ⟨b5,rfl,b⟩;refine ⟨sF ⟨b.tl,hE _ b.ex⟩,hO 10 (os r r (nZ b 0 [V g.f,V g.st,sn] r Br r r) fun w3 b=>⟨sF ⟨b.tl,hE _ b.ex⟩,hD ?_⟩)⟩;refine goC b ?_;refine CZ b (fun u=>nH u rb 76 (I4 s src ++ tl).toArray/\(sW x g).p u) (hE _ b.ex.drew) (by kernel_rfl) fun m=>?_;replace b:=m.1;refine pF 0 r (nW r) m (pF 1 r (xn r) m (pF 2 r (yG r r) m (uF 3 r (fun h=>lY (I4 s src) Ch wK r h.2.1) m (pF 4 r (nW r) m (pF 5 r (xn r) m (pF 6 r (yG r r) m (uF 7 r (fun h=>yK r (It.oF h.2.2) r r) m (pF 8 r (nW r) m (pF 9 r (xn r) m (pF 10 r (yG r r) m (uF 11 r (fun h=>yK r (It.oF h.2.2) r r) m (pF 14 r (mi r) m ?_))))))))))));have hsz:=b.qW.size;refine hO 12 (oc r r (ec Xq r) (GA fu (b.pr [] [0,1] [0,1,2,3] r) hv) ?_);rintro _ w4 ⟨A1,c1,cs1,rfl,hK⟩;replace b:=b.cn [] [0,1] hK;refine ⟨sF ⟨(b.tl).dp [1,2,3,4],hE _ b.ex⟩,pF 13 r (lK underlying22 r) ⟨(b.tl).dp [1,2,3,4],hE _ b.ex⟩ (hD ?_)⟩;have hbd:=(b.de 0 rfl).len;replace b:=b.rb 0 w.heap.size rfl hsz;replace b:=b.fz 0 0 rfl rfl;have hbd:=(b.dl 0 rfl).bd;obtain ⟨sv,hsv,hm⟩:=bs hm;obtain rfl:=sm hm;clear m
 replace b:=b.Bv qc 65;refine goC b ?_
 refine kI (fun aw f w'=>∃ (t:Nat) (acc:List qc) (a1:Option Addr) (c2:Nat) (cs:List (List Value)),aw=vs.length - t∧t≤vs.length∧
     Has f [(0,Pt rb),(1,Pt x.b),(4,Pt b4),(5,Pt b5),(30,.slice A1 vs.length c1),(31,V (vs.length:Int)),(32,V (t:Int))]/\
     Bx w w' A (lD []) [.own w.heap.size a1 c2 65 (Rp.sz qc) cs,.box b5 62 #[V g.f,V g.st,.slice a1 acc.length c2],.box b4 62 #[V 0,V 0,sn]] [.els cs acc,.l A1 c1 vs]/\Qw g.ws (vs.drop t) acc=some sv)
   vs.length ⟨0,[],none,0,[],rfl,Nat.zero_le _,⟨rfl,rfl,rfl,rfl,rfl,rfl,rfl,trivial⟩,b.dp [0,1],hsv⟩ ?_
 clear b hsv;rintro aw f w1 ⟨t,acc,a1,c2,cs,rfl,ht,hf,b,hm⟩ J hJ;obtain ⟨av,rfl⟩:=mE _ _ hf;clear hf;refine goC b ?_;refine nS rfl (fun h=>?_) (fun h=>?_)
 · obtain ⟨v,hv'⟩:=lT (l:=vs) (k:=t) (by omega);rw [l8 hv',Qw] at hm;obtain ⟨row,h1,hm⟩:=bs hm;obtain ⟨k,hk,hrow⟩:=PK h1;obtain ⟨acc2,h2,hm⟩:=bs hm;have h8:row.length<=8:=(hE _ b.ex).2.2.2.2.2.2.2.2 row (List.mem_of_getElem? hrow);refine goC b ?_;refine jZ (kV qH mV rfl rfl rfl (b.dl 1 rfl) hv') (jZ (jS underlying3 rfl rfl ((tC (ds:=[V v]) (b.dl 1 rfl) hv' (fun _ h=>h)) 0 _ rfl)) ?_);refine goC b ?_;refine nM (jN b [] ([]:List Int) Ej rfl rfl (by decide) trivial) ?_;rintro _ w2 ⟨b7,rfl,b⟩;refine goC b ?_;refine gL rfl (It.oF (hE _ b.ex).2) rfl rfl ?_;refine goC b ?_;refine Zv (hE _ b.ex).2 hrow rfl rfl hk fun r0 hr0 hB=>?_;have happ:app ([]:List Int) row=some row:=by unfold app;rw [if_pos (by simp;omega)];rfl
   refine nM (kN b 0 0 rfl rfl qH mV rfl (by decide) (by decide) (Nat.le_refl _) rfl rfl (by
     obtain ⟨ds,h3,h4⟩:=(MW hB h8).els;exact ⟨ds,Kv h3,h4⟩) happ) ?_
   rintro _ w3 ⟨a5,c5,cs5,rfl,b⟩;refine jZ (Tx rfl rfl) ?_;refine rE b (jX FZ) fun w4 b8 b=>?_;refine lq (nZ b 0 [V v,sn,.slice a5 row.length c5] rfl FZ rfl rfl) fun w5 b=>?_;replace b:=b.fz 1 0 rfl rfl;replace b:=b.Bv Bool 4;refine goC b ?_
   refine kI (fun aw f w'=>∃ (i:Nat) (a6:Option Addr) (c6:Nat) (cs6:List (List Value)),aw=row.length - i∧i≤row.length∧Has f [(0,Pt rb),(1,Pt x.b),(4,Pt b4),(5,Pt b5),(8,Pt b8),(30,.slice A1 vs.length c1),(31,V (vs.length:Int)),(32,V (t:Int)),(49,V (row.length:Int)),(50,V (i:Int))]∧
     Bx w w' A (lD []) [.own w.heap.size a6 c6 4 (Rp.sz Bool) cs6,.box b8 65 #[V v,.slice a6 (List.replicate i true).length c6,.slice a5 row.length c5],.own w.heap.size a1 c2 65 (Rp.sz qc) cs,.box b5 62 #[V g.f,V g.st,.slice a1 acc.length c2],.box b4 62 #[V 0,V 0,sn]] [.els cs6 (List.replicate i true),.l a5 c5 row,.els cs acc,.l A1 c1 vs]) row.length
     ⟨0,none,0,[],rfl,Nat.zero_le _,⟨rfl,rfl,rfl,rfl,rfl,rfl,rfl,rfl,rfl,rfl,trivial⟩,b⟩ ?_
   clear b;rintro aw f w4 ⟨i,a6,c6,cs6,rfl,hi,hf,b⟩ J3 hJ3;obtain ⟨av,rfl⟩:=mE _ _ hf;clear hf;refine goC b ?_;refine nS rfl (fun hlt=>?_) (fun hlt=>?_)
   · refine goC b ?_;refine nM (jN b [[.bool true]] ([true]:List Bool) (TU rfl) rfl rfl (by decide) ⟨rfl,trivial⟩) ?_;rintro _ w5 ⟨b9,rfl,b⟩;have happ:app (List.replicate i true) [true]=some (List.replicate (i+1) true):=by unfold app;rw [if_pos (by simp;omega),<-List.replicate_succ']
     refine nM (kN b 1 1 rfl rfl underlying63 N7 rfl (by decide) (by decide) (Nat.le_refl _) rfl rfl (b.zL 0 0 rfl rfl) happ) ?_;rintro _ w6 ⟨a7,c7,cs7,rfl,b⟩;refine goC b ?_;refine lq (t_n b 2 [.slice a7 (List.replicate (i+1) true).length c7] rfl ZC rfl rfl) fun w7 b=>?_;refine goC b ?_;exact hJ3 (row.length - (i+1)) _ _ (by omega) ⟨i+1,a7,c7,cs7,rfl,by omega,⟨rfl,rfl,rfl,rfl,rfl,rfl,rfl,rfl,rfl,congrArg V (NZ (by omega)),trivial⟩,b.ad [1,2,3,4,5] [1,2,3,4]⟩
   · obtain rfl:i=row.length:=by omega
     refine goC b ?_;refine uy ?_;replace b:=b.fz 0 0 rfl rfl;refine goC b ?_;refine jZ (lY [V v,.slice a6 (List.replicate row.length true).length c6,.slice a5 row.length c5] underlying65 FZ rfl (b.bk 0 rfl)) ?_;refine nM (jN b [[V v,.slice a6 (List.replicate row.length true).length c6,.slice a5 row.length c5]] ([⟨v,List.replicate row.length true,row⟩]:List qc) (Nb rfl) rfl rfl (by decide) ⟨qc.inn ⟨_,_,_,_,rfl,b.dl 0 rfl,b.dl 1 rfl⟩,trivial⟩) ?_;rintro _ w5 ⟨b6,rfl,b⟩;refine nM (kN b 2 3 rfl rfl underlying60 FZ rfl (by decide) (by decide) (Nat.le_refl _) rfl rfl (b.zL 0 0 rfl rfl) h2) ?_;rintro _ w6 ⟨a7,c7,cs7,rfl,b⟩;refine goC b ?_;refine lq (t_n b 3 [.slice a7 acc2.length c7] rfl XK rfl rfl) fun w7 b=>?_;refine goC b ?_;exact hJ (vs.length - (t+1)) _ _ (by omega) ⟨t+1,acc2,a7,c7,cs7,rfl,by omega,⟨rfl,rfl,rfl,rfl,rfl,rfl,congrArg V (NZ (by omega)),trivial⟩,b.ad [2,3,4] [3,4],hm⟩
 · obtain rfl:t=vs.length:=by omega
   rw [lM,Qw] at hm;obtain rfl:=sm hm;refine goC b ?_;refine uy ?_;refine goC b ?_;refine jZ (lY [V g.f,V g.st,.slice a1 acc.length c2] OB Br rfl (b.bk 1 rfl)) ?_;refine lq (nZ b 2 [V g.f,V g.st,.slice a1 acc.length c2] rfl Br rfl rfl) fun w2 b=>?_;refine goC b ?_;exact kD (jB rfl (uE rfl underlying62 rfl Br rfl (b.bk 2 rfl)) ⟨a1,c2,rfl,(b.QY 0 0 rfl rfl).ad [] [0]⟩)
abbrev Mar (R:Rn) (m:AQ) (ptrs:List Nat) (hist:List ko) (out:List Int) (e v:Int):List It:=
 [iM R m ptrs.length (window hist R.fr R.mo).length hist.length out.length e v,.own R.B m.lA m.lC 101 1 (ptrs.map fun b=>[Pt b]),.own R.B m.eA m.eC 59 (Rp.sz ko) m.ec,.own R.B m.oA m.oC 3 (Rp.sz Int) m.oc]
theorem aaG {ρ:Operand->Value} {w:World} {d:Option Nat} {ty:TypeId} {pos:String} {af:Array Edge} {g:Option (Nat × Bool)}:Yl prog ρ (.build 59 #[]) d ty pos af g w (.agg #[sn]):=by
 have e:(Instr.build 59 #[]).run prog w=.ok (.agg #[sn]) w:=by kernel_rfl
 simp [Yl,execOp,e]
theorem Qa:TI prog 101 (.pointer none) 1 8:=oq (by kernel_rfl)
theorem VH:jH prog 76:=⟨_,func76,by kernel_rfl,by kernel_rfl⟩
theorem Ra {w:World} {G:Nat->Prop} {x:vg} {g:pQ} {xs:List vg} {gs:List pQ} {ptrs:List Nat} (hl:Dk w G xs gs) (hp:ptrs=(xs.map (·.b)).reverse ++ [x.b]) {k:Nat} (hk:k < ptrs.length) :∃ y g2,(g :: gs)[ptrs.length - (k+1)]?=some g2/\ptrs[k]?=some y.b/\∀ w',G6 G w w'->(sW x g).p w'->(sW y g2).p w':=by
 have hlen:ptrs.length=gs.length+1:=by rw [hp,List.length_append,List.length_reverse,List.length_map,hl.len];rfl
 have e:ptrs=((x :: xs).map (·.b)).reverse:=by rw [hp];simp
 have hpk:ptrs[k]?=((x :: xs).map (·.b))[ptrs.length - (k+1)]?:=by
  conv=>lhs;rw [e]
  rw [List.getElem?_reverse (by rw [<-List.length_reverse,<-e];exact hk)]
  congr 1
  rw [e];simp
 rw [hpk];have hj:ptrs.length - (k+1) < gs.length+1:=by omega
 generalize ptrs.length - (k+1)=q at hj ⊢;cases q with
 | zero=>exact ⟨x,g,rfl,rfl,fun w' _ h=>h⟩
 | succ q=>
  obtain ⟨g2,hg⟩:=lT (l:=gs) (k:=q) (by omega);obtain ⟨y,hy,_⟩:=hl.get hg;refine ⟨y,g2,by simpa using hg,by simp [hy],fun w' hc _=>?_⟩;obtain ⟨y',hy',hy2⟩:=(yB.mv' hc (fun b _ h=>h) hl).get hg;rw [hy] at hy';exact Option.some.inj hy' ▸ hy2
theorem TR {fu : Nat} {w : World} {A : Nat → Prop} {R : Rn} {m : AQ} {ptrs : List Nat} {x : vg} {s s' : Sg} {xs : List vg} {gs : List pQ} {id v : Int} {p : Pn Unit}
    (hP:Pre w A (Mar R m ptrs s.hist s.out 0 v ++ [sW x s.a]) (oz R m s.hist s.out)) (hl:Dk w (lD (Mar R m ptrs s.hist s.out 0 v ++ [sW x s.a])) xs gs) (hB:R.B<=w.heap.size)
    (hp:ptrs=(xs.map (·.b)).reverse ++ [x.b]) (hn:ptrs.length<=20) (hst:R.st<=5000) (hmo:R.mo<=100) (hm:event (jD fu R.src) R.st gs s id=some (p,s')) :
    Calls prog 76 #[Pt R.rb,Pt x.b,V id] w (pz fun r w'=>∃ m' e,Bx w w' A (lD (Mar R m ptrs s.hist s.out 0 v ++ [sW x s.a])) (Mar R m' ptrs s'.hist s'.out e v ++ [sW x s'.a]) (oz R m' s'.hist s'.out)/\((p=.ok ()/\r=.bool true/\e=0)\/(p=.err e/\r=.bool false))):=by
  have b:=hP.bx;clear hP;generalize hG:lD (Mar R m ptrs s.hist s.out 0 v ++ [sW x s.a])=G at b hl ⊢;refine cf func76 rfl ?_;refine lu [(0,Pt R.rb),(1,Pt x.b),(2,V id)] ⟨rfl,rfl,rfl,trivial⟩ fun av=>?_;refine go ?_;refine CZ b (fun _=>True) trivial (by kernel_rfl) fun m1=>?_;replace b:=m1.1;refine pF 0 r (nW r) m1 (pF 1 r (xn r) m1 (pF 2 r (yG r r) m1 (uF 3 r (fun h=>yK r (h.1.bk 0 r) r r) m1 (pF 4 r (nW r) m1 (pF 5 r (xn r) m1 (pF 6 r (yG r r) m1 (uF 7 r (fun h=>yK r (h.1.bk 0 r) r r) m1 (pF 8 r (BF r r) m1 (hD ?_)))))))));unfold event at hm;refine nS rfl (fun h=>?_) (fun h=>?_)
  · rw [if_pos (by omega)] at hm;obtain ⟨rfl,rfl⟩:=Prod.mk.inj (sm hm);refine goC b ?_;refine lq (t_n b 0 [V 13] rfl Kw rfl rfl) fun w2 b=>?_;refine go ?_;exact kD (jB rfl (kH rfl) ⟨m,13,b,.inr ⟨rfl,rfl⟩⟩)
  rw [if_neg (by omega)] at hm;obtain ⟨fs,hfs,hm⟩:=bs hm;obtain ⟨rfl,rfl⟩:=Prod.mk.inj (sm hm);refine goC b ?_;refine lq (Pp b 4 rfl rfl rfl) fun w2 b=>?_;dsimp only [Mar,List.cons_append,List.nil_append,List.set] at b;refine go ?_;refine CZ b (fun _=>True) trivial (by kernel_rfl) fun m1=>?_;replace b:=m1.1;refine pF 0 r (nW r) m1 (pF 1 r (xn r) m1 (pF 2 r (yG r r) m1 (uF 3 r (fun h=>yK r (h.1.bk 0 r) r r) m1 (pF 4 r (nW r) m1 (pF 5 r (xn r) m1 (pF 6 r (yG r r) m1 (uF 7 r (fun h=>yK r (h.1.bk 0 r) r r) m1 (pF 8 r (BF r r) m1 (pF 9 r (kQ r) m1 ?_)))))))));by_cases hw:(R.fr:Int)<=(s.hist.length:Int)
  case neg =>
    rw [decide_eq_false hw];refine jT 10 r (by kernel_rfl) r (sF m1) (jT 11 r (by kernel_rfl) r (sF m1) (jT 12 r (by kernel_rfl) r (sF m1) (jT 13 r (by kernel_rfl) r (sF m1) (jT 14 r (by kernel_rfl) r (sF m1) (jT 15 r (by kernel_rfl) r (sF m1) (jT 16 r (by kernel_rfl) r (sF m1) (jT 17 r (by kernel_rfl) r (sF m1) (jT 18 r (by kernel_rfl) r (sF m1) (jT 19 r (by kernel_rfl) r (sF m1) (pF 20 r (jY r r) m1 (hD ?_)))))))))));refine goC b ?_;refine lq (t_n b 0 [V (wr ((s.hist.length:Int) + 1))] rfl mV rfl rfl) fun w3 b=>?_;rw [NZ (by omega)] at b;refine go ?_;refine kD (jB rfl (kH rfl) ⟨m,0,?_,.inl ⟨rfl,rfl,rfl⟩⟩);dsimp only [Mar,oz,iM,cM];rw [Ew (.inl (by omega)),List.length_append,List.length_singleton];exact b
  rw [decide_eq_true hw];refine pF 10 r (nW r) m1 (pF 11 r (xn r) m1 (pF 12 r (yG r r) m1 (uF 13 r (fun h=>yK r (h.1.bk 0 r) r r) m1 (pF 14 r (lK underlying40 r) m1 (pF 15 r (nW r) m1 (pF 16 r (xn r) m1 (pF 17 r (yG r r) m1 (uF 18 r (fun h=>yK r (h.1.bk 0 r) r r) m1 (pF 19 r (qp r r) m1 (pF 20 r (kF r r) m1 (hD ?_)))))))))));refine nS rfl (fun hw2=>?_) (fun hw2=>?_)
  case refine_2 =>
    refine goC b ?_;refine lq (t_n b 0 [V (wr ((s.hist.length:Int) + 1))] rfl mV rfl rfl) fun w3 b=>?_;rw [NZ (by omega)] at b;refine go ?_;refine kD (jB rfl (kH rfl) ⟨m,0,?_,.inl ⟨rfl,rfl,rfl⟩⟩);dsimp only [Mar,oz,iM,cM];rw [Ew (.inr (by omega)),List.length_append,List.length_singleton];exact b
  clear m1;refine go ?_;refine jZ aaG ?_;refine rE b (jX DN) fun w4 b7 b=>?_;refine lq (nZ b 0 [sn] rfl DN rfl rfl) fun w5 b=>?_;replace b:=b.Bv ny 62;refine goC b ?_
  refine kI (fun aw f w' => ∃ (k : Nat) (acc : List ny) (fa : Option Addr) (fc : Nat) (fcs : List (List Value)), aw = k ∧ k ≤ ptrs.length ∧
      Has f [(0,Pt R.rb),(7,Pt b7),(8,V ((k:Int) - 1))] /\
      Bx w w' A G (.own w.heap.size fa fc 62 (Rp.sz ny) fcs :: .box b7 59 #[.slice fa acc.length fc] :: (Mar R m ptrs s.hist s.out 0 v ++ [sW x ⟨s.a.f,id,s.a.ws⟩])) (.els fcs acc :: oz R m s.hist s.out)/\Ui (jD fu R.src) (((⟨s.a.f,id,s.a.ws⟩:pQ) :: gs).drop (ptrs.length - k)) acc=some fs)
    ptrs.length ⟨ptrs.length,[],none,0,[],rfl,Nat.le_refl _,⟨rfl,rfl,congrArg V (by unfold wr; rw [LX (by omega) (by omega)]),trivial⟩,b,by rw [Nat.sub_self]; exact hfs⟩ ?_
  clear b hfs;rintro k f w6 ⟨_,acc,fa,fc,fcs,rfl,hk,hf,b,hacc⟩ J hJ;obtain ⟨av,rfl⟩:=mE _ _ hf;clear hf;refine goC b ?_;refine nS rfl (fun h0=>?_) (fun h0=>?_)
  · obtain ⟨k,rfl⟩:∃ k',k=k' + 1:=⟨k - 1,by omega⟩;obtain ⟨y,g2,hg2,hy,hw7⟩:=Ra (g:=⟨s.a.f,id,s.a.ws⟩) hl hp (k:=k) (by omega);rw [l8 hg2,Ui,show ptrs.length - (k + 1) + 1=ptrs.length - k by omega] at hacc;obtain ⟨fr,hfr,hacc⟩:=bs hacc;obtain ⟨acc2,hac2,hacc⟩:=bs hacc;have hc:∀ u,Bx w u A G (Mar R m ptrs s.hist s.out 0 v ++ [sW x ⟨s.a.f,id,s.a.ws⟩]) (oz R m s.hist s.out)->m.lA=some ⟨mX m.lA,nU m.lA,none⟩/\u.cell? ⟨mX m.lA,nU m.lA + k * 1,none⟩=some (Pt y.b):=fun u hu=>by
      have ho:=hu.bo 1 rfl;rw [List.length_map,Er] at ho;have h3:=Cu ho (k:=k) (v:=Pt y.b) (by rw [List.getElem?_map,hy]; rfl);exact ⟨h3.1,by rw [Nat.mul_one]; exact h3.2.1⟩
    refine go ?_;refine pG (fun u=>Bx w u A G (Mar R m ptrs s.hist s.out 0 v ++ [sW x ⟨s.a.f,id,s.a.ws⟩]) (oz R m s.hist s.out)) (fun u=>nH u b7 59 #[.slice fa acc.length fc]) [14] (by kernel_rfl) ?_;replace b:=b.drew;have m1:=b.ad [2,3,4,5,6] [1,2,3,4,5,6];have m2:nH w6.drew b7 59 #[.slice fa acc.length fc]:=b.bk 1 rfl;refine pL 0 r (yG r r) m1 m2 (tS 15 1 r (fun _ h=>yK r h r r) (kG m1 m2) (pL 2 r (nW r) m1 m2 (pL 3 r (nW r) m1 m2 (pL 4 r (xn r) m1 m2 (pL 5 r (yG r r) m1 m2 (tU 6 r (fun _ h=>yK r (h.bk 0 r) r r) (kG m1 m2) (pL 7 r (mi r) m1 m2 ?_)))))));refine pL 8 r (zG k (hc _ m1).1 underlying74 Qa r r (by omega) (by omega)) m1 m2 (tU 9 r (fun _ h=>jS (a:=⟨mX m.lA,nU m.lA + k * 1,none⟩) underlying101 r r (hc _ h).2) (kG m1 m2) ?_);refine hO 10 (oc r r (ec aaQ r) (Ub (b.pr [] [0,1,2,3,4,5,6] [3,4,5,6] r) (b.bk 2 r) (hw7 _ b.qW (b.at 6 r)) hfr) ?_);rintro _ w7 ⟨A1,c1,rfl,hK⟩;replace b:=b.cn [] [0,1,2,3,4,5,6] hK;refine ⟨kG (b.ad [2,3,4,5,6] [2,3,4,5,6,7]) (b.bk 1 rfl),?_⟩;refine hO 11 (oo r r (jN b [[V fr.j,V fr.a,.slice A1 fr.c.length c1]] ([fr]:List ny) (MK r) r r (by decide) ⟨ny.inn ⟨_,_,rfl,b.dl 0 rfl⟩,trivial⟩) ?_);rintro _ w8 ⟨b8,rfl,b⟩;refine ⟨kG (b.ad [3,4,5,6,7] [3,4,5,6,7,8]) (b.bk 2 rfl),?_⟩;refine hO 12 (oo r r (kN b 1 2 r r underlying57 Br r (by decide) (by decide) (Nat.le_refl _) r r (b.zL 0 0 r r) hac2) ?_);rintro _ w9 ⟨fa2,fc2,fcs2,rfl,b⟩;refine ⟨kG (b.ad [3,4,5,6,7] [3,4,5,6,7,8]) (b.bk 2 rfl),pL 13 r (yG r r) (b.ad [3,4,5,6,7] [3,4,5,6,7,8]) (b.bk 2 rfl) ?_⟩;refine hO 14 (os r r (nZ b 2 [.slice fa2 acc2.length fc2] r Yg r r) ?_);intro w10 b;refine ⟨sy 14 (b.ad [3,4,5,6,7] [3,4,5,6,7,8]),hD ?_⟩;refine goC b ?_
    exact hJ k _ _ (by omega) ⟨k,acc2,fa2,fc2,fcs2,rfl,by omega,⟨rfl,rfl,congrArg V (by unfold wr; rw [LX (by omega) (by omega)]; omega),trivial⟩,b.ad [1,2,3,4,5,6,7] [2,3,4,5,6,7,8],hacc⟩
  · obtain rfl:k=0:=by omega
    have hlen:ptrs.length=gs.length + 1:=by rw [hp,List.length_append,List.length_reverse,List.length_map,hl.len]; rfl
    rw [Nat.sub_zero,List.drop_eq_nil_of_le (by rw [hlen]; exact Nat.le_refl _)] at hacc;obtain rfl:=sm hacc;refine goC b ?_;refine uy ?_;refine go ?_;replace b:=b.fz 0 0 rfl rfl;have hap:app (window s.hist R.fr R.mo) [(⟨acc⟩:ko)]=some (window s.hist R.fr R.mo ++ [⟨acc⟩]):=by
      unfold app
      rw [if_pos (by have : (window s.hist R.fr R.mo).length ≤ R.mo := by unfold window; rw [List.length_take]; exact Nat.min_le_left ..
                     simp only [List.length_singleton]; omega)]
    refine pG (fun _=>True) (fun u=>nH u b7 59 #[.slice fa acc.length fc]/\nH u R.rb 76 (cM R m ptrs.length (window s.hist R.fr R.mo).length s.hist.length s.out.length 0 v).toArray) [10] (by kernel_rfl) ?_;replace b:=b.drew;have m2:nH w6.drew b7 59 #[.slice fa acc.length fc]/\nH w6.drew R.rb 76 (cM R m ptrs.length (window s.hist R.fr R.mo).length s.hist.length s.out.length 0 v).toArray:=⟨b.bk 0 rfl,b.bk 1 rfl⟩;refine pL 0 r (nW r) trivial m2 (pL 1 r (nW r) trivial m2 (pL 2 r (xn r) trivial m2 (pL 3 r (yG r r) trivial m2 (tS 12 4 r (fun _ h=>yK r h.2 r r) (kG trivial m2) (tS 12 5 r (fun _ h=>lY [.slice fa acc.length fc] Xi DN r h.1) (kG trivial m2) ?_)))));refine hO 6 (oo r r (jN b [[.slice fa acc.length fc]] ([⟨acc⟩]:List ko) (NV r) r r (by decide) ⟨ko.inn ⟨_,_,rfl,b.dl 0 rfl⟩,trivial⟩) ?_);rintro _ w7 ⟨b5,rfl,b⟩;refine ⟨kG trivial ⟨b.bk 1 rfl,b.bk 2 rfl⟩,?_⟩;refine hO 7 (oo r r (kN b 4 2 r r underlying40 DN r (by decide) (by decide) hB r r (b.zL 0 0 r r) hap) ?_);rintro _ w8 ⟨a4,c4,cs4,rfl,b⟩;refine ⟨kG trivial ⟨b.bk 1 rfl,b.bk 2 rfl⟩,pL 8 r (xn r) trivial ⟨b.bk 1 rfl,b.bk 2 rfl⟩ (pL 9 r (yG r r) trivial ⟨b.bk 1 rfl,b.bk 2 rfl⟩ ?_)⟩;refine hO 10 (os r r (t_n b 2 [.slice a4 (window s.hist R.fr R.mo ++ [(⟨acc⟩:ko)]).length c4] r Oc r r) fun w9 b=>⟨sy 10 trivial,hD ?_⟩);refine goC b ?_;refine lq (t_n b 2 [V (wr ((s.hist.length:Int) + 1))] rfl mV rfl rfl) fun w10 b=>?_;rw [NZ (by omega)] at b;refine go ?_;refine kD (jB rfl (kH rfl) ⟨{ m with eA:=a4,eC:=c4,ec:=cs4 },0,?_,.inl ⟨rfl,rfl,rfl⟩⟩);dsimp only [Mar,oz,iM,cM];rw [P5 (by omega) (by omega),show (s.hist ++ [(⟨acc⟩:ko)]).length=s.hist.length + 1 from by simp];exact (b.arr [2,3,4,5,6] rfl).dp [2,3,4,5,6,7]
end Go.Proofs.YtfglbdkfnphjgaaGreat
