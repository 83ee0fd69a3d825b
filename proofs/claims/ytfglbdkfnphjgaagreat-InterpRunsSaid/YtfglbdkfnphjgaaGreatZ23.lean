/- A statement. -/
import Derived.Test.YtfglbdkfnphjgaaGreatZ22
import Derived.Test.YtfglbdkfnphjgaaGreatZ4
import Derived.Test.YtfglbdkfnphjgaaGreatLa
set_option linter.unusedVariables false
set_option maxRecDepth 4000
set_option maxHeartbeats 12800000
set_option linter.unusedSimpArgs false
namespace Go.Proofs.YtfglbdkfnphjgaaGreat
open Go.RowKit Go.Fw Go.Proofs.Tryz
theorem Nq {fu fv:Nat}{R:Rn}(hR:PI R)(ih:CSt R (stM (jD fv R.src) R.src R.st fu)):CSt R (stM (jD fv R.src) R.src R.st (fu+1)):=by
 have hLs:CLs R (stM (jD fv R.src) R.src R.st fu):=Q7 ih;have hCl:CCl R (stM (jD fv R.src) R.src R.st fu):=RI hLs;have hTr:CTr R (stM (jD fv R.src) R.src R.st fu):=Zq hLs (Qj hLs);intro w A m ptrs x s s' xs gs y a7 c7 a10 c10 a11 c11 a12 c12 p hr0 hm;obtain ⟨hP,hl,hB,hp,hn⟩:=hr0;have b:=hP.bx;clear hP;unfold Ok Pk;generalize hG:lH (Lj R m ptrs x s)=G at b hl ⊢;refine xZ func50 rfl ?_;refine lG [(0,Pt R.rb),(1,Pt x.b),(2,.agg (cS y a7 c7 a10 c10 a11 c11 a12 c12).toArray)] ⟨rfl,rfl,rfl,trivial⟩ fun av=>?_;rw [stM] at hm;obtain ⟨⟨pe,s1⟩,he,hm⟩:=bs hm;refine Im (AX ?_);refine su b (uK rfl) fun w1 b5 b=>?_;refine goC b ?_;refine abX hR b hl hB hp hn he rfl rfl rfl (fun f ch w' m' hq hb=>?_) (fun w2 m1 hpe b=>?_)
 · cases pe with
   | ok u=>exact hq.elim
   | _=>cases hm;exact ⟨hq,[],m',by rw [vJ];exact hb⟩
 subst hpe;dsimp only at hm;clear he;refine goC b ?_;refine lG [(0,Pt R.rb),(1,Pt x.b),(5,Pt b5),(18,V y.c),(19,.bool (decide (y.c=1)))] ⟨rfl,rfl,rfl,rfl,rfl,trivial⟩ fun av=>?_;refine ou rfl (fun h=>?_) (fun h=>?_)
 · rw [kg h] at hm;refine goC b ?_;refine ql (fun u=>nS u b5 122 (cS y a7 c7 a10 c10 a11 c11 a12 c12).toArray) (fun u=>(It.act x s1.a).p u) [8] (by kernel_rfl) ?_;replace b:=b.drew;have q1:nS w2.drew b5 122 (cS y a7 c7 a10 c10 a11 c11 a12 c12).toArray:=b.bk 0 rfl;have q2:(It.act x s1.a).p w2.drew:=b.at 5 rfl;refine pL 0 r (oF r) q1 q2 (pL 1 r (xn r) q1 q2 (pL 2 r (IX r) q1 q2 (tS 9 3 r (fun _ h=>Wn r (It.o9 h) r) (kJ q1 q2) (pL 4 r (Jh r) q1 q2 (tU 5 r (fun _ h=>l3 r h r) (kJ q1 q2) ?_)))));cases hv:ix? s1.a.ws y.g with
   | none=>
     rw [hv] at hm;cases hm;refine hO 6 (OT r underlying93 r r (Cz hv) fun u w3 hw f=>⟨⟨u,zo _⟩,[],m1,?_⟩);rw [vJ];exact bor ((b.arr [1,2,3,4,5] rfl).dp [4,5,6,7,8,9]) hw
   | some row=>
   rw [hv] at hm;obtain ⟨k,hk,hrow⟩:=RA hv;obtain ⟨r0,hr0,hB0,hA0,hcell⟩:=It.tO q2 hrow;refine tS 9 6 r (fun _ h=>AV k hA0 underlying93 xg r r hk (jU hrow)) (kJ q1 q2) ?_;refine tS 9 7 r (fun _ h=>jV (a:=⟨nE x.A,ow x.A+k * 1,none⟩) underlying22 rfl r (uW h hr0 hrow)) (kJ q1 q2) ?_;refine hO 8 (oo r r (Zh b 5 r hr0 hrow r) ?_);rintro _ w3 b;refine ⟨sy 8 (b.bk 0 rfl),hD ?_⟩;cases hm;have hkn:k=y.g.toNat:=by omega
   subst hkn;refine go ?_;refine kH ?_;refine ng (fn:=f50) rfl (kL rfl) (kL rfl) ?_;exact ⟨none,rfl,rfl,m1,(b.arr [1,2,3,4,5] rfl).dp [4,5,6,7,8,9]⟩
 rw [jR h] at hm;refine goC b ?_;refine ou rfl (fun h=>?_) (fun h=>?_)
 · rw [kg h] at hm;obtain ⟨q,hq,hm⟩:=Fu hm;refine goC b ?_;refine abt b 5 0 rfl rfl hq rfl rfl (fun _ _=>rfl) (fun _ _=>rfl) (fun f ch w' hb b=>?_) (fun k o r0 row w3 α β hqk hr0 hrow ho b=>?_)
   · rcases hm with ⟨n,rfl,_⟩|⟨_,rfl,rfl⟩
     · exact hb.elim
     · exact ⟨hb.up,[],m1,by rw [vJ];exact (b.arr [1,2,3,4,5] rfl).dp [4,5,6,7,8,9]⟩
   subst hqk;rcases hm with ⟨n,hn1,hm⟩|⟨h1,_⟩;rotate_left
   · exact (h1 _ rfl).elim
   cases hn1;obtain ⟨q,hq,hm⟩:=zi hm;refine goC b ?_;refine eArg b 5 1 rfl rfl hq rfl rfl (fun _ _=>rfl) (fun _ _=>rfl) (fun f ch w' hb b=>?_) (fun n w4 α β hqn b=>?_)
   · rcases hm with ⟨n,rfl,_⟩|⟨_,rfl,rfl⟩
     · exact hb.elim
     · exact ⟨hb.up,[],m1,by rw [vJ];exact (b.arr [1,2,3,4,5] rfl).dp [4,5,6,7,8,9]⟩
   subst hqn;rcases hm with ⟨n,hn1,hm⟩|⟨h1,_⟩;rotate_left
   · exact (h1 _ rfl).elim
   cases hn1;cases hm;refine goC b ?_;refine lD (CY b 5 rfl hr0 hrow ho rfl rfl) fun w5 b=>?_;refine go ?_;refine kH ?_;refine ng (fn:=f50) rfl (kL rfl) (kL rfl) ?_;exact ⟨none,rfl,rfl,m1,(b.arr [1,2,3,4,5] rfl).dp [4,5,6,7,8,9]⟩
 rw [jR h] at hm;refine goC b ?_;refine ou rfl (fun h=>?_) (fun h=>?_)
 · rw [kg h] at hm;unfold ED at hm;obtain ⟨q,hq,hm⟩:=bs hm;refine goC b ?_;refine ql (fun u=>nS u b5 122 (cS y a7 c7 a10 c10 a11 c11 a12 c12).toArray) (fun _=>True) [] (by kernel_rfl) ?_;replace b:=b.drew;have q1:nS w2.drew b5 122 (cS y a7 c7 a10 c10 a11 c11 a12 c12).toArray:=b.bk 0 rfl;refine pF 0 r (oF r) q1 (pF 1 r (IY r) q1 (uF 2 r (fun h=>l3 r h r) q1 (pF 3 r (oF r) q1 (pF 4 r (oF r) q1 (pF 5 r (sQ r) q1 (uF 6 r (fun h=>BZ r h r) q1 ?_))))));refine hO 7 (TD r r (l6 X9 rfl) (cVal b 1 rfl hq) (fun ch w3 hb f=>?_) ?_)
   · obtain ⟨hb,b⟩:=hb;cases q with
     | ok l=>exact hb.elim
     | _=>cases hm;exact ⟨hb,[],m1,by rw [vJ];exact (b.arr [1,2,3,4,5] rfl).dp [4,5,6,7,8,9]⟩
   rintro _ w3 ⟨ns,A1,c1,rfl,rfl,b⟩;dsimp only at hm;obtain ⟨⟨q,h1,o1⟩,hq2,hm⟩:=bs hm;refine ⟨sF (b.bk 0 rfl),?_⟩;refine hO 8 (TD r r (l6 UW rfl) (aae hCl b hl hB hp hn hq2) (fun ch w4 hb f=>?_) ?_)
   · obtain ⟨hb,more,m5,b⟩:=hb;cases q with
     | ok l=>exact hb.elim
     | _=>cases hm;exact ⟨hb,more,m5,b⟩
   rintro _ w4 ⟨n,m5,rfl,rfl,b⟩;refine ⟨sF (b.bk 0 rfl),pF 9 r (Kv r) (b.bk 0 rfl) (hD ?_)⟩;dsimp only at hm;refine goC b ?_;refine ou rfl (fun h0=>?_) (fun h0=>?_)
   · rw [jR (by omega)] at hm;obtain ⟨q,hq,hm⟩:=Fu hm;refine goC b ?_;refine abt b 5 0 rfl rfl hq rfl rfl (fun _ _=>rfl) (fun _ _=>rfl) (fun f ch w' hb b=>?_) (fun k o r0 row w5 α β hqk hr0 hrow ho b=>?_)
     · rcases hm with ⟨n,rfl,_⟩|⟨_,rfl,rfl⟩
       · exact hb.elim
       · exact ⟨hb.up,[],m5,by rw [vJ];exact (b.arr [1,2,3,4,5] rfl).dp [4,5,6,7,8,9]⟩
     subst hqk;rcases hm with ⟨n,hn1,hm⟩|⟨h1,_⟩;rotate_left
     · exact (h1 _ rfl).elim
     cases hn1;cases hm;refine goC b ?_;refine lD (CY b 5 rfl hr0 hrow ho rfl rfl) fun w5 b=>?_;refine go ?_;refine kH ?_;refine ng (fn:=f50) rfl (kL rfl) (kL rfl) ?_;exact ⟨none,rfl,rfl,m5,(b.arr [1,2,3,4,5] rfl).dp [4,5,6,7,8,9]⟩
   · rw [kg (by omega)] at hm;cases hm;refine go ?_;refine kH ?_;refine ng (fn:=f50) rfl (kL rfl) (kL rfl) ?_;exact ⟨none,rfl,rfl,m5,(b.arr [1,2,3,4,5] rfl).dp [4,5,6,7,8,9]⟩
 rw [jR h] at hm;refine goC b ?_;refine ou rfl (fun h=>?_) (fun h=>?_)
 · rw [kg h] at hm;obtain ⟨q,hq,hm⟩:=zi hm;refine goC b ?_;refine eArg b 5 1 rfl rfl hq rfl rfl (fun _ _=>rfl) (fun _ _=>rfl) (fun f ch w' hb b=>?_) (fun n w4 α β hqn b=>?_)
   · rcases hm with ⟨n,rfl,_⟩|⟨_,rfl,rfl⟩
     · exact hb.elim
     · exact ⟨hb.up,[],m1,by rw [vJ];exact (b.arr [1,2,3,4,5] rfl).dp [4,5,6,7,8,9]⟩
   subst hqn;rcases hm with ⟨n,hn1,hm⟩|⟨h1,_⟩;rotate_left
   · exact (h1 _ rfl).elim
   cases hn1;refine goC b ?_;refine ou rfl (fun h0=>?_) (fun h0=>?_)
   · rw [kg h0] at hm;refine goC b ?_;refine Zf hLs b hl hB hp hn 2 hm rfl rfl rfl rfl (fun f ch w' m' more hb b=>⟨hb,more,m',b⟩) (fun o w5 m5 hpo b=>?_);refine goC b ?_;refine kH ?_;refine ng (fn:=f50) rfl (kL rfl) (kL rfl) ?_;exact ⟨o,hpo,rfl,m5,(b.arr [1,2,3,4,5] rfl).dp [4,5,6,7,8,9]⟩
   · rw [jR h0] at hm;refine goC b ?_;refine Zf hLs b hl hB hp hn 3 hm rfl rfl rfl rfl (fun f ch w' m' more hb b=>⟨hb,more,m',b⟩) (fun o w5 m5 hpo b=>?_);refine goC b ?_;refine kH ?_;refine ng (fn:=f50) rfl (kL rfl) (kL rfl) ?_;exact ⟨o,hpo,rfl,m5,(b.arr [1,2,3,4,5] rfl).dp [4,5,6,7,8,9]⟩
 rw [jR h] at hm;refine goC b ?_;refine ou rfl (fun h=>?_) (fun h=>?_)
 · rw [kg h] at hm;refine goC b ?_
   refine kK (fun aw f w'=>∃ (s2:Sg)(m2:BX),Has f [(0,Pt R.rb),(1,Pt x.b),(5,Pt b5)]∧
       Bx w w' A G (.box b5 122 (cS y a7 c7 a10 c10 a11 c11 a12 c12).toArray :: Lj R m2 ptrs x s2) (dS y a7 c7 a10 c10 a11 c11 a12 c12 ++ oV R m2 s2.hist s2.out)/\
       VP (fun s=>U1 (xD fu s.a.ws) y.a) (fun s=>EJ (stM (jD fv R.src) R.src R.st fu gs) s y.e) (fun s=>event (jD fv R.src) R.st gs s y.n) aw s2=some (p,s'))
     fu ⟨s1,m1,⟨rfl,rfl,rfl,trivial⟩,b,hm⟩ ?_
   clear b hm;rintro aw f w3 ⟨s2,m2,hf,b,hm⟩ J hJ;obtain ⟨av,rfl⟩:=mJ _ _ hf;clear hf;cases aw with
   | zero=>cases hm
   | succ aw=>
   rw [VP] at hm;obtain ⟨q,hq,hm⟩:=bs hm;refine goC b ?_;refine eArg b 5 1 rfl rfl hq rfl rfl (fun _ _=>rfl) (fun _ _=>rfl) (fun f ch w' hb b=>?_) (fun n w4 α β hqn b=>?_)
   · cases q with
     | ok n=>exact hb.elim
     | _=>cases hm;exact ⟨hb,[],m2,by rw [vJ];exact (b.arr [1,2,3,4,5] rfl).dp [4,5,6,7,8,9]⟩
   subst hqn;dsimp only at hm;refine goC b ?_;refine ou rfl (fun h0=>?_) (fun h0=>?_)
   · rw [jR h0] at hm;obtain ⟨⟨q,s3⟩,hq,hm⟩:=bs hm;refine goC b ?_;refine Zf hLs b hl hB hp hn 2 hq rfl rfl rfl rfl (fun f ch w' m' more hb b=>?_) (fun o w5 m5 hpo b=>?_)
     · cases q with
       | ok n=>exact hb.elim
       | _=>cases hm;exact ⟨hb,more,m',b⟩
     subst hpo;cases o with
     | none=>
       dsimp only at hm;refine kr (xw (.tuple #[V 0,.bool false]) rfl) ?_;obtain ⟨⟨q,s4⟩,hq,hm⟩:=bs hm;refine goC b ?_;refine abX hR b hl hB hp hn hq rfl rfl rfl (fun f ch w' m' hb b=>?_) (fun w6 m6 hpe b=>?_)
       · cases q with
         | ok u=>exact hb.elim
         | _=>cases hm;exact ⟨hb,[],m',by rw [vJ];exact b⟩
       subst hpe;dsimp only at hm;refine go ?_;exact hJ aw _ _ (by omega) ⟨s4,m6,⟨rfl,rfl,rfl,trivial⟩,b,hm⟩
     | some v=>
       cases hm;refine kr (xw (.tuple #[V v,.bool true]) rfl) ?_;refine go ?_;refine kH ?_;refine ng (fn:=f50) rfl (kL rfl) (kL rfl) ?_;exact ⟨some v,rfl,rfl,m5,(b.arr [1,2,3,4,5] rfl).dp [4,5,6,7,8,9]⟩
   · have h0:n=0:=Decidable.not_not.1 h0;rw [kg h0] at hm;cases hm;refine go ?_;refine uS ?_;refine go ?_;refine kH ?_;refine ng (fn:=f50) rfl (kL rfl) (kL rfl) ?_;exact ⟨none,rfl,rfl,m2,(b.arr [1,2,3,4,5] rfl).dp [4,5,6,7,8,9]⟩
 rw [jR h] at hm;refine goC b ?_;refine ou rfl (fun h=>?_) (fun h=>?_)
 · rw [kg h] at hm;refine goC b ?_;refine kr (Jo rfl rfl) ?_;refine go ?_;refine ou (p:=y.j≠be) rfl (fun hf=>?_) (fun hf=>?_)
   · rw [kg hf] at hm;unfold ED at hm;obtain ⟨q,hq,hm⟩:=bs hm;refine goC b ?_;refine ql (fun u=>nS u b5 122 (cS y a7 c7 a10 c10 a11 c11 a12 c12).toArray) (fun _=>True) [] (by kernel_rfl) ?_;replace b:=b.drew;have q1:nS w2.drew b5 122 (cS y a7 c7 a10 c10 a11 c11 a12 c12).toArray:=b.bk 0 rfl;refine pF 0 r (oF r) q1 (pF 1 r (IY r) q1 (uF 2 r (fun h=>l3 r h r) q1 (pF 3 r (oF r) q1 (pF 4 r (oF r) q1 (pF 5 r (sQ r) q1 (uF 6 r (fun h=>BZ r h r) q1 ?_))))));refine hO 7 (TD r r (l6 X9 rfl) (cVal b 1 rfl hq) (fun ch w3 hb f=>?_) ?_)
     · obtain ⟨hb,b⟩:=hb;cases q with
       | ok l=>exact hb.elim
       | _=>cases hm;exact ⟨hb,[],m1,by rw [vJ];exact (b.arr [1,2,3,4,5] rfl).dp [4,5,6,7,8,9]⟩
     rintro _ w3 ⟨ns,A1,c1,rfl,rfl,b⟩;dsimp only at hm;obtain ⟨⟨q,h1,o1⟩,hq2,hm⟩:=bs hm;refine ⟨sF (b.bk 0 rfl),?_⟩;refine hO 8 (TD r r (l6 UW rfl) (aae hCl b hl hB hp hn hq2) (fun ch w4 hb f=>?_) ?_)
     · obtain ⟨hb,more,m5,b⟩:=hb;cases q with
       | ok l=>exact hb.elim
       | _=>cases hm;exact ⟨hb,more,m5,b⟩
     rintro _ w4 ⟨n,m5,rfl,rfl,b⟩;refine ⟨sF (b.bk 0 rfl),pF 9 r (Kv r) (b.bk 0 rfl) (pF 10 r (kD r) (b.bk 0 rfl) (hD ?_))⟩;cases hm;refine go ?_;refine kH ?_;refine ng (fn:=f50) rfl (kL rfl) (kL rfl) ?_;exact ⟨some n,rfl,rfl,m5,(b.arr [1,2,3,4,5] rfl).dp [4,5,6,7,8,9]⟩
   · rw [jR hf] at hm;obtain ⟨q,hq,hm⟩:=zi hm;refine goC b ?_;refine eArg b 5 1 rfl rfl hq rfl rfl (fun _ _=>rfl) (fun _ _=>rfl) (fun f ch w' hb b=>?_) (fun n w4 α β hqn b=>?_)
     · rcases hm with ⟨n,rfl,_⟩|⟨_,rfl,rfl⟩
       · exact hb.elim
       · exact ⟨hb.up,[],m1,by rw [vJ];exact (b.arr [1,2,3,4,5] rfl).dp [4,5,6,7,8,9]⟩
     subst hqn;rcases hm with ⟨n,hn1,hm⟩|⟨h1,_⟩;rotate_left
     · exact (h1 _ rfl).elim
     cases hn1;cases hm;refine go ?_;refine kH ?_;refine ng (fn:=f50) rfl (kL rfl) (kL rfl) ?_;exact ⟨some n,rfl,rfl,m1,(b.arr [1,2,3,4,5] rfl).dp [4,5,6,7,8,9]⟩
 rw [jR h] at hm;refine goC b ?_;refine ou rfl (fun h=>?_) (fun h=>?_)
 · rw [kg h] at hm;obtain ⟨q,hq,hm⟩:=zi hm;refine goC b ?_;refine eArg b 5 1 rfl rfl hq rfl rfl (fun _ _=>rfl) (fun _ _=>rfl) (fun f ch w' hb b=>?_) (fun n w4 α β hqn b=>?_)
   · rcases hm with ⟨n,rfl,_⟩|⟨_,rfl,rfl⟩
     · exact hb.elim
     · exact ⟨hb.up,[],m1,by rw [vJ];exact (b.arr [1,2,3,4,5] rfl).dp [4,5,6,7,8,9]⟩
   subst hqn;rcases hm with ⟨n,hn1,hm⟩|⟨h1,_⟩;rotate_left
   · exact (h1 _ rfl).elim
   cases hn1;cases hm;refine kr (MS WA rfl) ?_;exact Cq rfl ⟨zo _,[],m1,by rw [vJ];exact (b.arr [1,2,3,4,5] rfl).dp [4,5,6,7,8,9]⟩
 rw [jR h] at hm;refine goC b ?_;refine ou rfl (fun h=>?_) (fun h=>?_)
 · rw [kg h] at hm;refine goC b ?_;refine kr (l7 (cS y a7 c7 a10 c10 a11 c11 a12 c12) lu jQ rfl (b.bk 0 rfl)) ?_;have hr:Tj w2 (Ei w A (pick _ [1,2,3,4,5] ++ pick _ [0])) R m1 ptrs x s1 xs gs (dS y a7 c7 a10 c10 a11 c11 a12 c12):=⟨b.pr [1,2,3,4,5] [0] [0,1,2,3,4,5,6,7,8,9] rfl,xQ b hl (fun it hi=>wI _ hi),q9 hB b.rM.size,hp,hn⟩;have hc:=hTr hr hm;clear hr;refine Nk (l6 acK rfl) hc (fun ch w4 hq=>?_) ?_
   · obtain ⟨hq,more,m5,hK⟩:=hq;have hb:=b.cn [1,2,3,4,5] [0] hK;exact ⟨hq,more,m5,(hb.arr [0,1,2,3,4] rfl).dp [0,1,2,3,4,5]⟩
   rintro _ w4 ⟨o,rfl,rfl,m5,hK⟩;replace b:=b.cn [1,2,3,4,5] [0] hK;refine go ?_;refine kH ?_;refine ng (fn:=f50) rfl (kL rfl) (kL rfl) ?_;exact ⟨o,rfl,rfl,m5,(b.arr [0,1,2,3,4] rfl).dp [0,1,2,3,4,5]⟩
 rw [jR h] at hm;refine goC b ?_;refine ou rfl (fun h=>?_) (fun h=>?_)
 · rw [kg h] at hm;obtain ⟨q,hq,hm⟩:=zi hm;refine goC b ?_;cases hA:y.a with
   | nil=>
     rw [hA] at hq;cases hq;rcases hm with ⟨n,h1,_⟩|⟨_,rfl,rfl⟩
     · cases h1
     refine ql (fun u=>nS u b5 122 (cS y a7 c7 a10 c10 a11 c11 a12 c12).toArray) (fun u=>nS u R.rb 69 (qo R m1 ptrs.length (window s'.hist R.fr R.mo).length s'.hist.length s'.out.length).toArray) [16] (by kernel_rfl) ?_;replace b:=b.drew;have q1:nS w2.drew b5 122 (cS y a7 c7 a10 c10 a11 c11 a12 c12).toArray:=b.bk 0 rfl;have q2:nS w2.drew R.rb 69 (qo R m1 ptrs.length (window s'.hist R.fr R.mo).length s'.hist.length s'.out.length).toArray:=b.bk 1 rfl;refine pL 0 r (oF r) q1 q2 (pL 1 r (oF r) q1 q2 (pL 2 r (xn r) q1 q2 (pL 3 r (MK r) q1 q2 (tS 17 4 r (fun _ h=>Qa r h r) (kJ q1 q2) (pL 5 r (oF r) q1 q2 (pL 6 r (oF r) q1 q2 (pL 7 r (sQ r) q1 q2 (tU 8 r (fun _ h=>BZ r h r) (kJ q1 q2) ?_))))))));refine hO 9 (OT (n:=y.a.length) (a:=a10) (c:=c10) r underlying120 r r (by rw [hA];simp) fun u w3 hw f=>⟨⟨u,zo _⟩,[],m1,?_⟩);rw [vJ];exact bor ((b.arr [1,2,3,4,5] rfl).dp [4,5,6,7,8,9]) hw
   | cons e l=>
     rw [hA] at hq;have hk:y.a[0]?=some e:=by rw [hA];rfl
     obtain ⟨cs,hre,b⟩:=b.nm 1 rfl hk;obtain ⟨a2,c2,rfl,hd⟩:=jA.out hre;replace b:=b.kF (d:=.l a2 c2 e.a) hd;refine ql (fun u=>nS u b5 122 (cS y a7 c7 a10 c10 a11 c11 a12 c12).toArray/\Cells u (nE a10) (ow a10+0 * 6) (cE e a2 c2)) (fun u=>nS u R.rb 69 (qo R m1 ptrs.length (window s1.hist R.fr R.mo).length s1.hist.length s1.out.length).toArray) [16] (by kernel_rfl) ?_;replace b:=b.drew;have q1:nS w2.drew b5 122 (cS y a7 c7 a10 c10 a11 c11 a12 c12).toArray/\Cells w2.drew (nE a10) (ow a10+0 * 6) (cE e a2 c2):=⟨b.bk 0 rfl,b.dc 1 rfl⟩;have q2:nS w2.drew R.rb 69 (qo R m1 ptrs.length (window s1.hist R.fr R.mo).length s1.hist.length s1.out.length).toArray:=b.bk 1 rfl;refine pL 0 r (oF r) q1 q2 (pL 1 r (oF r) q1 q2 (pL 2 r (xn r) q1 q2 (pL 3 r (MK r) q1 q2 (tS 17 4 r (fun _ h=>Qa r h r) (kJ q1 q2) (pL 5 r (oF r) q1 q2 (pL 6 r (oF r) q1 q2 (pL 7 r (sQ r) q1 q2 (tU 8 r (fun _ h=>BZ r h.1 r) (kJ q1 q2) ?_))))))));refine pL 9 r (kY underlying120 jW r r rfl (b.dl 3 rfl) hk) q1 q2 (tU 10 r (fun _ h=>nA (cE e a2 c2) underlying135 rfl jW r r h.2) (kJ q1 q2) ?_);refine hO 11 (TD r r (l6 Hu rfl) (KV fu (b.pr [] [] [0] rfl) (b.at 5 rfl) hq) (fun ch w3 hb f=>?_) ?_)
     · obtain ⟨hb,hx⟩:=hb;rcases hm with ⟨n,rfl,_⟩|⟨_,rfl,rfl⟩
       · exact hb.elim
       · exact ⟨hb.up,[],m1,by rw [vJ];exact (((b.ext hx).arr [1,2,3,4,5] rfl).dp [6,7,8,9,10,11])⟩
     rintro _ w3 ⟨n,rfl,rfl,hx⟩;replace b:=b.ext hx;rcases hm with ⟨n',hn1,hm⟩|⟨h1,_⟩;rotate_left
     · exact (h1 _ rfl).elim
     cases hn1;obtain ⟨o2,ho2,hm⟩:=bs hm;cases hm;refine ⟨kJ ⟨b.bk 0 rfl,b.dc 1 rfl⟩ (b.bk 1 rfl),?_⟩;refine hO 12 (oo r r (jO b [[V n]] ([n]:List Int) (yR r) r r (by decide) ⟨r,trivial⟩) ?_);rintro _ w4 ⟨b9,rfl,b⟩;refine ⟨kJ ⟨b.bk 1 rfl,b.dc 2 rfl⟩ (b.bk 2 rfl),?_⟩;refine hO 13 (oo r r (kR b 5 8 r r ru ny r (by decide) (by decide) hB r r (b.AR 0 0 r r) ho2) ?_);rintro _ w5 ⟨A2,c2',cs2,rfl,b⟩;refine ⟨kJ ⟨b.bk 1 rfl,b.dc 2 rfl⟩ (b.bk 2 rfl),pL 14 r (xn r) ⟨b.bk 1 rfl,b.dc 2 rfl⟩ (b.bk 2 rfl) (pL 15 r (MK r) ⟨b.bk 1 rfl,b.dc 2 rfl⟩ (b.bk 2 rfl) ?_)⟩;refine hO 16 (os r r (t_n b 2 [.slice A2 o2.length c2'] r xg r r) fun w6 b=>⟨sy 16 ⟨b.bk 1 rfl,b.dc 2 rfl⟩,hD ?_⟩);refine go ?_;refine kH ?_;refine ng (fn:=f50) rfl (kL rfl) (kL rfl) ?_;exact ⟨none,rfl,rfl,{ m1 with oA:=A2,oC:=c2',oc:=cs2 },(b.arr [2,3,4,5,6] rfl).dp [7,8,9,10,11,12]⟩
 rw [jR h] at hm;refine goC b ?_;refine ou rfl (fun h=>?_) (fun h=>?_)
 · rw [kg h] at hm;cases hm;refine go ?_;refine kH ?_;refine ng (fn:=f50) rfl (kL rfl) (kL rfl) ?_;exact ⟨some 0,rfl,rfl,m1,(b.arr [1,2,3,4,5] rfl).dp [4,5,6,7,8,9]⟩
 rw [jR h] at hm;cases hm;refine go ?_;refine kH ?_;refine ng (fn:=f50) rfl (kL rfl) (kL rfl) ?_;exact ⟨none,rfl,rfl,m1,(b.arr [1,2,3,4,5] rfl).dp [4,5,6,7,8,9]⟩
theorem cst {fv:Nat}{R:Rn}(hR:PI R):∀ fu,CSt R (stM (jD fv R.src) R.src R.st fu)
 | 0=>by intro _ h;cases h
 | fu+1=>Nq hR (cst hR fu)
set_option linter.unusedSimpArgs false
noncomputable section
def Ib (m:jL->Int->(List Int)->Int->Int->Int->Option ((List kC) × mU)):Prop:=∀ {A H}{x:jL}{C B D E F a b c d e f h i j k R},Pre A H [] [.l a b x.a.a,.l c d x.a.b,.l e f x.c,.l h i x.b,.l j k B]->m x C B D E F=some R-> Calls prog 9 #[.agg #[Z a x.a.a b,Z c x.a.b d,Z e x.c f,Z h x.b i],V C,Z j B k,V D,V E,V F] A (pU fun v w=>iA R fun G z=>∃ (o:OA)(p:Nat)(t:OA)(u:Nat),v=.tuple #[Z o G p,.agg #[V z.d,.bool z.b,V z.c,Z t z.a u]]/\Bx A w H (lH []) [] [.l o p G,.l t u z.a])
def M9 (m:jL->Int->(List Int)->Int->Int->Int->Option ((List kC) × mU)):Prop:=∀ {A H}{x:jL}{C B D E F a b c d e f h i j k R},Pre A H [] [.l a b x.a.a,.l c d x.a.b,.l e f x.c,.l h i x.b,.l j k B]->m x C B D E F=some R-> Calls prog 11 #[.agg #[Z a x.a.a b,Z c x.a.b d,Z e x.c f,Z h x.b i],V C,Z j B k,V D,V E,V F] A (pU fun v w=>iA R fun G z=>∃ (o:OA)(p:Nat)(t:OA)(u:Nat),v=.tuple #[Z o G p,.agg #[V z.d,.bool z.b,V z.c,Z t z.a u]]/\Bx A w H (lH []) [] [.l o p G,.l t u z.a])
end
noncomputable def lY (fu:Nat)(s:jL)(f:Int)(args:List Int)(n fr mo:Int):Option (List kC × mU):=traceM fu (jD fu s) s f args n fr mo
abbrev YD (R:Rn)(b12 b13 b14:Nat)(e:Value)(o:List Value):List It:=[.box b12 40 #[e],.box b13 43 o.toArray,.box b14 66 #[Pt R.rb]]
abbrev Tro (R:Rn)(m:BX)(hist:List kC)(out:List Int)(b12 b13 b14:Nat)(e:Int)(th:Bool)(v:Int):List It:=
 YD R b12 b13 b14 (.slice m.eA (window hist R.fr R.mo).length m.eC) [V e,.bool th,V v,.slice m.oA out.length m.oC]
def aa3 (x:Value)(v2 e:Int)(th:Bool)(v:Int):Prop:=(x=.nilIface/\e=0/\th=false/\v=v2)\/(∃ n,x=.iface 70 (V n)/\e=0/\th=true/\v=n)\/(∃ n,x=.iface 71 (V n)/\e=n/\th=false/\v=v2)\/(∃ t y,x=.iface t y/\t≠70/\t≠71/\e=4/\th=false/\v=v2)
theorem Z0 {N:Fz}{ops:Array Oper}{K:KK}{rest:List Oper}{f:Fr}{w:World}{d:Option Nat}{ty:TypeId}{pos:String}{af:Array Edge}{x:Operand}{t xt t2:TypeId}{k:IntKind}{v z:Value}{s by_:Nat}(hu:prog.underlying t=some (.int k))(hz:TI prog t z s by_)(hx:ev f x=.iface t2 v)(hne:t2≠t)(h:∀ z',pV prog N ops K rest (nU f d (.tuple #[z',.bool false])) w):pV prog N ops K (⟨d,.typeAssert x xt t true,ty,pos,af,none⟩ :: rest) f w:=by obtain ⟨z',e⟩:=aap (w:=w) (ρ:=ev f) (d:=d) (ty:=ty) (pos:=pos) (af:=af) (g:=none) (xt:=xt) hu hz hx hne;exact kr e (h z')
theorem QW {A G:Nat->Prop}{R:Rn}{m:BX}{ptrs:List Nat}{hist:List kC}{out:List Int}{X:List It}{D:List Da}{w0 w:World}{b12 b13 b14:Nat}{u:FrameMode}{v2 e:Int}{th:Bool}{v:Int}(b:Bx w0 w A G (YD R b12 b13 b14 sn [V 0,.bool false,V v2,sn] ++ (Mac R m ptrs hist out ++ X)) D)(hu:aa3 (CZ u).1 v2 e th v) :CallsD prog 19 #[Pt b13,Pt b14,Pt b12] u w (RD (CZ u).2 (fun w'=>Bx w0 w' A G (Tro R m hist out b12 b13 b14 e th v ++ (Mac R m ptrs hist out ++ X)) D) (fun _ _=>False)):=by
 refine Qz func19 rfl rfl rfl ?_;refine qR (fun f w'=>Has f [(0,Pt b13),(1,Pt b14),(2,Pt b12)]/\Bx w0 w' A G (YD R b12 b13 b14 sn [V e,.bool th,V v,sn] ++ (Mac R m ptrs hist out ++ X)) D) (fun J hJ=>?_) ?_
 · rcases hu with ⟨hx,rfl,rfl,rfl⟩|⟨n,hx,rfl,rfl,rfl⟩|⟨n,hx,rfl,rfl,rfl⟩|⟨t,y,hx,h90,h91,rfl,rfl,rfl⟩
   · rw [hx];refine pG ?_;refine Im (AX ?_);refine kr (IB underlying20 rfl rfl (.inl ⟨rfl,rfl⟩)) ?_;refine go ?_;refine kr (Te .nilIface rfl) ?_;refine go ?_;exact hJ _ _ ⟨⟨rfl,rfl,rfl,trivial⟩,b⟩
   · rw [hx];refine lG [(0,Pt b13),(1,Pt b14),(2,Pt b12),(7,.iface 70 (V v))] ⟨rfl,rfl,rfl,rfl,trivial⟩ fun av=>?_;refine pG ?_;refine Im (AX ?_);refine kr (IB underlying20 rfl rfl (.inr ⟨70,V v,rfl,rfl⟩)) ?_;refine go ?_;refine kr (YC underlying70 rfl) ?_;refine go ?_;refine kr (Rl rfl) ?_;refine lD (t_n b 1 [.bool true] rfl Pz rfl rfl) fun w1 b=>?_;refine kr (Oc rfl) ?_;refine lD (t_n b 1 [V v] rfl ny rfl rfl) fun w2 b=>?_;refine go ?_;exact hJ _ _ ⟨⟨rfl,rfl,rfl,trivial⟩,b⟩
   · rw [hx];refine lG [(0,Pt b13),(1,Pt b14),(2,Pt b12),(7,.iface 71 (V e))] ⟨rfl,rfl,rfl,rfl,trivial⟩ fun av=>?_;refine pG ?_;refine Im (AX ?_);refine kr (IB underlying20 rfl rfl (.inr ⟨71,V e,rfl,rfl⟩)) ?_;refine go ?_;refine Z0 underlying70 ZB rfl (by decide) fun z'=>?_;refine go ?_;refine kr (YC underlying71 rfl) ?_;refine go ?_;refine kr (Pg rfl) ?_;refine lD (t_n b 1 [V e] rfl MB rfl rfl) fun w1 b=>?_;refine go ?_;exact hJ _ _ ⟨⟨rfl,rfl,rfl,trivial⟩,b⟩
   · rw [hx];refine lG [(0,Pt b13),(1,Pt b14),(2,Pt b12),(7,.iface t y)] ⟨rfl,rfl,rfl,rfl,trivial⟩ fun av=>?_;refine pG ?_;refine Im (AX ?_);refine kr (IB underlying20 rfl rfl (.inr ⟨t,y,rfl,rfl⟩)) ?_;refine go ?_;refine Z0 underlying70 ZB rfl h90 fun z'=>?_;refine go ?_;refine Z0 underlying71 adW rfl h91 fun z'=>?_;refine go ?_;refine kr (Te (.iface t y) rfl) ?_;refine go ?_;refine kr (Pg rfl) ?_;refine lD (t_n b 1 [V 4] rfl MB rfl rfl) fun w1 b=>?_;refine go ?_;exact hJ _ _ ⟨⟨rfl,rfl,rfl,trivial⟩,b⟩
 rintro f w' ⟨hf,b⟩;obtain ⟨av,rfl⟩:=mJ _ _ hf;clear hf;refine ql (fun u=>nS u b14 66 #[Pt R.rb]/\nS u R.rb 69 (qo R m ptrs.length (window hist R.fr R.mo).length hist.length out.length).toArray) (fun _=>True) [] (by kernel_rfl) ?_;replace b:=b.drew;have q1:nS w'.drew b14 66 #[Pt R.rb]/\nS w'.drew R.rb 69 (qo R m ptrs.length (window hist R.fr R.mo).length hist.length out.length).toArray:=⟨b.bk 2 rfl,b.bk 3 rfl⟩;refine uF 0 r (fun h=>GD r h.1 r) q1 (pF 1 r (xn r) q1 (pF 2 r (Mt r) q1 (uF 3 r (fun h=>Sc r h.2 r) q1 (uF 4 r (fun h=>GD r h.1 r) q1 (pF 5 r (xn r) q1 (pF 6 r (MK r) q1 (uF 7 r (fun h=>Qa r h.2 r) q1 ?_)))))));refine hO 8 (os r r (t_n b 0 [.slice m.eA (window hist R.fr R.mo).length m.eC] r Qt r r) fun w2 b=>⟨sF ⟨b.bk 2 rfl,b.bk 3 rfl⟩,pF 9 r (Vl r) ⟨b.bk 2 rfl,b.bk 3 rfl⟩ ?_⟩);refine hO 10 (os r r (t_n b 1 [.slice m.oA out.length m.oC] r xg r r) fun w3 b=>⟨sF ⟨b.bk 2 rfl,b.bk 3 rfl⟩,hD ?_⟩);refine go ?_;exact b
theorem OB {P:Program}{fn:Func}{d:Deferred}{fv:Fn}{cap:Array Value}{g:FuncId}{args:Array Value}{R:Ending->World->Prop}{f:Fr}{a:Act}{w:World}{M:Fz}{R1:World->Prop}(hT:d.target=.fn fv cap)(hi:(invoke d.target d.args).run P w=.ok (.enter g args) w)(hc:CallsD P g args .returning w (RD .returning R1 (fun _ _=>False)))(h:∀ w',R1 w'->Reads P fn (fun v w'=>R (.returned v) w') f w')(ha:Fg M f a):Leaves P fn a.tmps R [d] .returning w:=by
 refine ⟨by simp,fv,cap,g,args,hT,hi,?_⟩;intro c cs hu;obtain ⟨e,u',w',fr,h1,h2,h3⟩:=hc c cs hu;refine ⟨e,u',w',fr,?_,h2,h3⟩;cases e with
 | returned v=>
  obtain ⟨rfl,h1⟩:=h1;have h:=h w' h1;unfold Reads at h;obtain ⟨v2,hv,hR⟩:=h a.tmps ha.get;exact ⟨v2,hv,hR⟩
 | panicked c=>exact h1.2.elim
 | outgrown=>exact h1.elim
theorem Vo {ρ:Operand->Value}{w:World}{d:Option Nat}{ty:TypeId}{pos:String}{af:Array Edge}{g:Option (Nat × Bool)}{x:Operand}{n:Int}(h:ρ x=V n):Yl prog ρ (.build 43 #[(0,x)]) d ty pos af g w (.agg #[V n,.bool false,V 0,sn]):=by
 have e:(Instr.build 43 #[(0,V n)]).run prog w=.ok (.agg #[V n,.bool false,V 0,sn]) w:=by kernel_rfl
 simp [Yl,execOp,h,e]
theorem aat {ρ:Operand->Value}{w:World}{d:Option Nat}{ty:TypeId}{pos:String}{af:Array Edge}{g:Option (Nat × Bool)}{x y z u:Operand}{n m k:Int}{s1 s2 s3 s4:Option Addr}{n1 n2 n3 n4 c1 c2 c3 c4:Nat}(h:ρ x=.agg #[.slice s1 n1 c1,.slice s2 n2 c2,.slice s3 n3 c3,.slice s4 n4 c4])(h1:ρ y=V n)(h2:ρ z=V m)(h3:ρ u=V k) :Yl prog ρ (.build 69 #[(0,x),(3,y),(4,z),(5,u)]) d ty pos af g w (.agg #[.slice s1 n1 c1,.slice s2 n2 c2,.slice s3 n3 c3,.slice s4 n4 c4,sn,V 0,V n,V m,V k,sn,sn]):=by
 have e:(Instr.build 69 #[(0,.agg #[.slice s1 n1 c1,.slice s2 n2 c2,.slice s3 n3 c3,.slice s4 n4 c4]),(3,V n),(4,V m),(5,V k)]).run prog w=.ok (.agg #[.slice s1 n1 c1,.slice s2 n2 c2,.slice s3 n3 c3,.slice s4 n4 c4,sn,V 0,V n,V m,V k,sn,sn]) w:=by kernel_rfl
 simp [Yl,execOp,h,h1,h2,h3,e]
def Yr (fu:Nat)(s:jL)(f:Int)(args:List Int)(n fr mo:Int)(R:List kC × mU):Prop:=
 (0<=n/\n<=5000)/\0<=fr/\(0<=mo/\mo<=100)/\(AB (stM (jD fu s) s n.toNat fu) s [] f args [] []).bind (fun (p,h,o)=>some (window h fr.toNat mo.toNat,match p with
  | .ok v=>(⟨0,false,v,o⟩:mU)
  | .uP v=>⟨0,true,v,o⟩
  | .err e=>⟨e,false,0,o⟩
  | .rt=>⟨4,false,0,o⟩))=some R
theorem QH {fu:Nat}{s:jL}{f:Int}{args:List Int}{n fr mo:Int}{R:List kC × mU}(h:lY fu s f args n fr mo=some R) :(¬ (0<=f/\f < s.a.b.length)/\R=([],⟨1,false,0,[]⟩))\/∃ k fn,f=((k:Nat):Int)/\s.a.b[k]?=some fn/\ ((¬ (args.length:Int)=fn.a.length\/n < 0\/5000 < n\/fr < 0\/mo < 0\/100 < mo)/\R=([],⟨1,false,0,[]⟩)\/(¬ (¬ (args.length:Int)=fn.a.length\/n < 0\/5000 < n\/fr < 0\/mo < 0\/100 < mo))/\Yr fu s f args n fr mo R):=by
 unfold lY traceM at h;cases hf:ix? s.a.b f with
 | none=>rw [hf] at h;exact .inl ⟨Cz hf,(sm h).symm⟩
 | some fn=>
  rw [hf] at h;obtain ⟨k,hk,hfn⟩:=RA hf;refine .inr ⟨k,fn,hk,hfn,?_⟩;rcases jB h with ⟨hc,h⟩|⟨hc,h⟩
  · exact .inl ⟨by omega,(sm h).symm⟩
  · exact .inr ⟨by omega,⟨by omega,by omega⟩,by omega,⟨by omega,by omega⟩,h⟩
theorem sG (fu:Nat):Ib (lY fu):=by
 intro w0 Y s f args n fr mo a1 c1 a2 c2 a3 c3 a4 c4 a c R hP hM;have b:=hP.bx;clear hP;generalize hG:lH []=G at b ⊢;replace hM:=QH hM;obtain ⟨ev,out⟩:=R
 have key:Calls prog 9 #[.agg #[Z a1 s.a.a c1,Z a2 s.a.b c2,Z a3 s.c c3,Z a4 s.b c4],V f,Z a args c,V n,V fr,V mo] w0
    (RP (fun v w'=>∃ o p t u,v=.tuple #[.slice o ev.length p,.agg #[V out.d,.bool out.b,V out.c,.slice t out.a.length u]]/\Bx w0 w' Y G [] [.l o p ev,.l t u out.a]) (fun _ _=>False)):=by
  refine KS func9 rfl ?_;refine QG [(0,.agg #[Z a1 s.a.a c1,Z a2 s.a.b c2,Z a3 s.c c3,Z a4 s.b c4]),(1,V f),(2,Z a args c),(3,V n),(4,V fr),(5,V mo)] ⟨rfl,rfl,rfl,rfl,rfl,rfl,trivial⟩ fun av=>?_;refine QV (AX ?_);refine su b (uK rfl) fun w1 b6 b=>?_;refine su b (jT Qt) fun w2 b12 b=>?_;refine su b (jT uX) fun w3 b13 b=>?_;refine LH ?_;have hbd:=(b.dl 4 rfl).bd;refine Zz (R:=fun f w'=>Reads prog f9 (fun v w'=>∃ o p t u,v=.tuple #[.slice o ev.length p,.agg #[V out.d,.bool out.b,V out.c,.slice t out.a.length u]]/\Bx w0 w' Y G [] [.l o p ev,.l t u out.a]) f w') (X:=fun _ _ _=>False) (V:=fun _ _ _=>False) ?_ (fun e a w q=>?_);rotate_left
  · cases e with
    | ret=>
      obtain ⟨f,h1,h2⟩:=q;show Leaves prog f9 a.tmps _ a.defers .returning w;rw [h1.dfr];unfold Reads at h2;obtain ⟨v,hv,hR⟩:=h2 a.tmps h1.get;exact ⟨v,hv,hR⟩
    | normal=>obtain ⟨f,h1,h2⟩:=q;exact h2.elim
    | exit i=>obtain ⟨f,h1,h2⟩:=q;exact h2.elim
    | panic c=>obtain ⟨f,h1,h2⟩:=q;exact h2.elim
    | _=>exact q.elim
  refine Im (qR (fun f' w'=>w'=w3/\∃ q:Bool,Has f' [(1,V f),(2,Z a args c),(3,V n),(4,V fr),(5,V mo),(6,Pt b6),(12,Pt b12),(13,Pt b13),(57,.bool q)]/\(q=true->(ev,out)=([],⟨1,false,0,[]⟩))/\(q=false->Yr fu s f args n fr mo (ev,out))) (fun J hJ=>?_) ?_)
  · refine AX ?_;have hE:¬ (0<=f/\f < s.a.b.length)->(ev,out)=([],⟨1,false,0,[]⟩):=fun h=>by
      rcases hM with ⟨_,h⟩|⟨k,fn,hk,hfn,_⟩
      · exact h
      · have:=jU hfn;omega
    refine goC b ?_;by_cases h0:f < 0
    · rw [qF h0];refine goC b ?_;exact hJ _ _ ⟨rfl,true,⟨rfl,rfl,rfl,rfl,rfl,rfl,rfl,rfl,rfl,trivial⟩,fun _=>hE (by omega),fun h=>by cases h⟩
    rw [oz h0];refine goC b ?_;by_cases h1:(s.a.b.length:Int)<=f
    · rw [qF h1];refine goC b ?_;exact hJ _ _ ⟨rfl,true,⟨rfl,rfl,rfl,rfl,rfl,rfl,rfl,rfl,rfl,trivial⟩,fun _=>hE (by omega),fun h=>by cases h⟩
    rw [oz h1];clear hE;rcases hM with ⟨h2,_⟩|⟨k,fn,rfl,hfn,hM⟩
    · exact (h2 ⟨by omega,by omega⟩).elim
    obtain ⟨cs0,hr0,b0⟩:=b.nm 1 rfl hfn;obtain ⟨a5,c5,a6,c6,rfl,h5,h6⟩:=kW.out hr0;have hE:(¬ (args.length:Int)=fn.a.length\/n < 0\/5000 < n\/fr < 0\/mo < 0\/100 < mo)->(ev,out)=([],⟨1,false,0,[]⟩):=fun h=>by
      rcases hM with ⟨_,h⟩|⟨h',_⟩
      · exact h
      · exact absurd h h'
    refine goC b ?_;refine kr (kY underlying24 oU rfl rfl rfl (b.dl 1 rfl) hfn) ?_;refine goC b ?_;refine kr (jV underlying36 rfl rfl ((b0.dc 0 rfl) 2 _ rfl)) ?_;refine goC b ?_;by_cases h2:¬ (args.length:Int)=fn.a.length
    · rw [qF (p:=(args.length:Int)≠fn.a.length) h2];refine goC b ?_;exact hJ _ _ ⟨rfl,true,⟨rfl,rfl,rfl,rfl,rfl,rfl,rfl,rfl,rfl,trivial⟩,fun _=>hE (.inl h2),fun h=>by cases h⟩
    rw [oz (p:=(args.length:Int)≠fn.a.length) h2];refine goC b ?_;by_cases h3:n < 0
    · rw [qF h3];refine goC b ?_;exact hJ _ _ ⟨rfl,true,⟨rfl,rfl,rfl,rfl,rfl,rfl,rfl,rfl,rfl,trivial⟩,fun _=>hE (by omega),fun h=>by cases h⟩
    rw [oz h3];refine goC b ?_;by_cases h4:5000 < n
    · rw [qF h4];refine goC b ?_;exact hJ _ _ ⟨rfl,true,⟨rfl,rfl,rfl,rfl,rfl,rfl,rfl,rfl,rfl,trivial⟩,fun _=>hE (by omega),fun h=>by cases h⟩
    rw [oz h4];refine goC b ?_;by_cases h5:fr < 0
    · rw [qF h5];refine goC b ?_;exact hJ _ _ ⟨rfl,true,⟨rfl,rfl,rfl,rfl,rfl,rfl,rfl,rfl,rfl,trivial⟩,fun _=>hE (by omega),fun h=>by cases h⟩
    rw [oz h5];refine goC b ?_;by_cases h6:mo < 0
    · rw [qF h6];refine goC b ?_;exact hJ _ _ ⟨rfl,true,⟨rfl,rfl,rfl,rfl,rfl,rfl,rfl,rfl,rfl,trivial⟩,fun _=>hE (by omega),fun h=>by cases h⟩
    rw [oz h6];refine goC b ?_;by_cases h7:100 < mo
    · rw [qF h7];refine goC b ?_;exact hJ _ _ ⟨rfl,true,⟨rfl,rfl,rfl,rfl,rfl,rfl,rfl,rfl,rfl,trivial⟩,fun _=>hE (by omega),fun h=>by cases h⟩
    rw [oz h7];refine goC b ?_;refine hJ _ _ ⟨rfl,false,⟨rfl,rfl,rfl,rfl,rfl,rfl,rfl,rfl,rfl,trivial⟩,fun h=>(by cases h),fun _=>?_⟩;rcases hM with ⟨h,_⟩|⟨_,h⟩
    · omega
    · exact h
  rintro f' w' ⟨rfl,q,hf,hT,hF⟩;obtain ⟨av,rfl⟩:=mJ _ _ hf;clear hf hM;cases q with
  | true=>
    obtain ⟨rfl,rfl⟩:=sK (hT rfl);refine jN rfl ?_;refine Im (AX ?_);refine kr (Vo rfl) ?_;refine lD (t_n b 1 [sn] rfl Qt rfl rfl) fun w4 b=>?_;refine lD (t_n b 0 [V 1,.bool false,V 0,sn] rfl uX rfl rfl) fun w5 b=>?_;refine LH ?_;refine kH ?_;refine ng (fn:=f9) rfl (Tf rfl (fun ρ h=>Sc h (b.bk 1 rfl) rfl) (b.bk 1 rfl)) (Tf rfl (fun ρ h=>l7 [V 1,.bool false,V 0,sn] JK uX h (b.bk 0 rfl)) (b.bk 0 rfl)) ?_;exact ⟨none,0,none,0,rfl,((b.arr [] rfl).kF (d:=.l none 0 ([]:List Int)) kX.nil).kF (d:=.l none 0 ([]:List kC)) kX.nil |>.dp [0,1]⟩
  | false=>
  refine jK rfl (Hz ?_);clear hT;obtain ⟨hn,hfr,hmo,hA⟩:=hF rfl;clear hF;obtain ⟨N,rfl⟩:∃ N:Nat,n=(N:Int):=⟨n.toNat,by omega⟩;obtain ⟨F,rfl⟩:∃ F:Nat,fr=(F:Int):=⟨fr.toNat,by omega⟩;obtain ⟨M,rfl⟩:∃ M:Nat,mo=(M:Int):=⟨mo.toNat,by omega⟩;rw [AY,AY,AY] at hA;obtain ⟨⟨p,h,o⟩,hc,hA⟩:=bs hA;dsimp only at hA;refine QV (AX ?_);refine kr (l7 [Z a1 s.a.a c1,Z a2 s.a.b c2,Z a3 s.c c3,Z a4 s.b c4] Du xL rfl (b.bk 2 rfl)) ?_;refine goC b ?_;refine kr (aat rfl rfl rfl rfl) ?_;refine su b (uK rfl) fun w4 b89 b=>?_;refine su b (jT acu) fun w5 b14 b=>?_;refine lD (t_n b 0 [Pt b89] rfl acu rfl rfl) fun w6 b=>?_;refine LH ?_;replace b:=((b.Cy kC 59).Cy Int 3).owN 92 1;replace b:=(b.arr [6,5,3,4,0,2,1] rfl).dp [1,0,2,3,4,5,6]
  let R:Rn:=⟨w0.heap.size,b89,⟨a1,c1,a2,c2,a3,c3,a4,c4⟩,s,N,F,M⟩
  let m:BX:=⟨none,0,none,0,[],none,0,[]⟩
  have hw:window ([]:List kC) F M=[]:=by simp [window]
  replace b:Bx w0 w6 Y G (YD R b12 b13 b14 sn [V 0,.bool false,V 0,sn] ++ (Mac R m [] [] [] ++ [])) (oV R m [] [] ++ [.l a c args]):=by show Bx w0 w6 Y G (YD R b12 b13 b14 sn [V 0,.bool false,V 0,sn] ++ ([.box b89 69 (qo R m 0 (window ([]:List kC) F M).length 0 0).toArray,.own R.B none 0 92 1 [],.own R.B none 0 59 (Rp.sz kC) [],.own R.B none 0 3 (Rp.sz Int) []] ++ [])) ([.els [] (window ([]:List kC) F M),.els [] ([]:List Int),.l a1 c1 s.a.a,.l a2 c2 s.a.b,.l a3 c3 s.c,.l a4 c4 s.b] ++ [.l a c args]);rw [hw];exact b
  refine QG [(1,V f),(2,Z a args c),(12,Pt b12),(13,Pt b13),(14,Pt b14)] ⟨rfl,rfl,rfl,rfl,rfl,trivial⟩ fun av2=>?_;refine UR (YO (vs:=[Pt b13,Pt b14,Pt b12]) rfl) (ab4 rfl) ?_;refine Xu (Q:=⟨fun _ _=>False,fun _ _ _=>False,fun f w'=>(f 12=Pt b12/\f 13=Pt b13)/\∃ v m',p=.ok v/\Bx w0 w' Y G (YD R b12 b13 b14 sn [V 0,.bool false,V v,sn] ++ (Mac R m' [] h o ++ [])) (oV R m' h o),
    fun f ch w'=>(f 12=Pt b12/\f 13=Pt b13)/\Pb p ch/\∃ more m',Bx w0 w' Y G (YD R b12 b13 b14 sn [V 0,.bool false,V 0,sn] ++ (Mac R m' more h o ++ [])) (oV R m' h o)⟩) ?_ ?_
  · refine Im (AX ?_);refine kr (GD rfl (b.bk 2 rfl) rfl) ?_;refine goC b ?_;have hCl:CCl R (stM (jD fu R.src) R.src R.st fu):=RI (Q7 (cst ⟨by show N<=5000;omega,by show M<=100;omega⟩ fu));have hq:=hCl (b.pr [3,4,5,6] [0,1,2] [6,0,1,2,3,4,5] rfl) (xs:=[]) (gs:=[]) lF b.rM.size rfl (uy _) hc;refine Nk (l6 UW rfl) hq (fun ch w7 hq=>?_) ?_
    · obtain ⟨hq,more,m4,hK⟩:=hq;have hb:=b.cn [3,4,5,6] [0,1,2] hK;exact ⟨⟨rfl,rfl⟩,hq,more,m4,(hb.arr [4,5,6,0,1,2,3] rfl).dp [0,1,2,3,4,5]⟩
    rintro _ w7 ⟨v,rfl,rfl,m4,hK⟩;replace b:=b.cn [3,4,5,6] [0,1,2] hK;replace b:=(b.arr [4,5,6,0,1,2,3] rfl).dp [0,1,2,3,4,5];refine kr (Oc rfl) ?_;refine lD (t_n b 1 [V v] rfl ny rfl rfl) fun w8 b=>?_;refine go ?_;refine ql (fun u=>nS u b12 40 #[sn]/\nS u b13 43 #[V 0,.bool false,V v,sn]) (fun _=>True) [] (by kernel_rfl) ?_;replace b:=b.drew;refine uF 0 r (fun h=>Sc r h.1 r) ⟨b.bk 0 rfl,b.bk 1 rfl⟩ (uF 1 r (fun h=>l7 [V 0,.bool false,V v,sn] JK uX r h.2) ⟨b.bk 0 rfl,b.bk 1 rfl⟩ ?_);refine hO 2 (os r r (t_n b 0 [sn] r Qt r r) fun w9 b=>⟨sF ⟨b.bk 0 rfl,b.bk 1 rfl⟩,?_⟩);refine hO 3 (os r r (t_n b 1 [V 0,.bool false,V v,sn] r uX r r) fun w10 b=>⟨sF ⟨b.bk 0 rfl,b.bk 1 rfl⟩,hD ?_⟩);refine go ?_;refine kH ?_;exact ⟨⟨rfl,rfl⟩,v,m4,rfl,b⟩
  · have fin:∀ {f:Fr}{w':World}{m':BX}{more:List Nat}{e v:Int}{th:Bool},f 12=Pt b12→f 13=Pt b13→(window h F M,(⟨e,th,v,o⟩:mU))=(ev,out)→Bx w0 w' Y G (Tro R m' h o b12 b13 b14 e th v ++ (Mac R m' more h o ++ [])) (oV R m' h o)→
        Reads prog f9 (fun v w'=>∃ o p t u,v=.tuple #[.slice o ev.length p,.agg #[V out.d,.bool out.b,V out.c,.slice t out.a.length u]]/\Bx w0 w' Y G [] [.l o p ev,.l t u out.a]) f w':=fun {f w' m' more e v th} h12 h13 he b=>by
      obtain ⟨rfl,rfl⟩:=sK he;refine ng (fn:=f9) rfl (Tf h12 (fun ρ h=>Sc h (b.bk 0 rfl) rfl) (b.bk 0 rfl)) (Tf h13 (fun ρ h'=>l7 [V e,.bool th,V v,.slice m'.oA o.length m'.oC] JK uX h' (b.bk 1 rfl)) (b.bk 1 rfl)) ?_;exact ⟨_,_,_,_,rfl,((b.Ob 5 0 rfl rfl).Ob 5 1 rfl rfl).ad [] [1,0]⟩
    intro e a1' w1' q;cases e with
    | normal=>obtain ⟨f,h1,h2⟩:=q;exact h2.elim
    | exit i=>obtain ⟨f,h1,h2⟩:=q;exact h2.elim
    | ret=>
      obtain ⟨f,h1,⟨h12,h13⟩,v,m',rfl,b⟩:=q;show Leaves prog f9 a1'.tmps _ a1'.defers .returning w1';rw [h1.dfr];exact OB rfl rfl (QW b (.inl ⟨rfl,rfl,rfl,rfl⟩)) (fun w2 b=>fin h12 h13 (sm hA) b) h1
    | panic ch=>
      obtain ⟨f,h1,⟨h12,h13⟩,hq,more,m',b⟩:=q;show Leaves prog f9 a1'.tmps _ a1'.defers (.panicking ch) w1';rw [h1.dfr];cases p with
      | ok v=>exact hq.elim
      | uP v=>
        obtain ⟨lc,rfl,hlc⟩:=hq;exact Bq rfl rfl hlc (QW b (.inr (.inl ⟨v,rfl,rfl,rfl,rfl⟩))) (fun w2 b=>fin h12 h13 (sm hA) b) (fun c w' h=>h.elim) h1
      | err v=>
        obtain ⟨lc,rfl,hlc⟩:=hq;exact Bq rfl rfl hlc (QW b (.inr (.inr (.inl ⟨v,rfl,rfl,rfl,rfl⟩)))) (fun w2 b=>fin h12 h13 (sm hA) b) (fun c w' h=>h.elim) h1
      | rt=>
        obtain ⟨u,lc,rfl,hlc⟩:=hq;exact Bq rfl rfl hlc (QW b (.inr (.inr (.inr ⟨_,_,rfl,by decide,by decide,rfl,rfl,rfl⟩)))) (fun w2 b=>fin h12 h13 (sm hA) b) (fun c w' h=>h.elim) h1
    | _=>exact q.elim
 exact key.mono fun e w he=>by
  cases e with
  | returned v=>exact ⟨v,rfl,he⟩
  | panicked c=>exact he.elim
  | outgrown=>exact he.elim
noncomputable section
def Jg (m:jL->Int->Int->Option (List Int)):Prop:=∀ {t:World}{A}{p:jL}{x z a b c d e f h i u},Pre t A [] [.l a b p.a.a,.l c d p.a.b,.l e f p.c,.l h i p.b]->m p x z=some u-> Calls prog 113 #[.agg #[Z a p.a.a b,Z c p.a.b d,Z e p.c f,Z h p.b i],V x,V z] t (pU fun v w=>∃ j k o,v=Z j u k/\Bx t w A (lH []) [O t.heap.size j k 3 Int o] [.els o u])
def oD (fu:Nat)(b:Int):List Gv→Nat→(List Int)→Option (Ld (List Int) ((List Int)))
 | [],_,a=>some (.go a)
 | f :: d,c,a=>
 if f.e≤b then
  if b≤f.g then
   (app a ([(c:Int)]:List Int)).bind fun e=>
   oD fu b d (c+1) e
  else
   oD fu b d (c+1) a
 else
  oD fu b d (c+1) a
def zL (fu:Nat)(c:jL)(b d:Int):Option (List Int):=if b < 0 then some ([]:List Int) else if (c.c.length:Int)<=b then some ([]:List Int) else (ix c.c b).bind fun e=>(oD fu d e 0 ([]:List Int)).bind fun f=>f.el (fun a=>some a) (fun o=>some o)
theorem IV (fu:Nat):Jg (zL fu):=by
 intro S au U x1 W A B C D E F H I r0 hP p;unfold zL at p;have e:=hP.bx;clear hP;generalize hG:lH _=G at e ⊢;refine cf func113 r ?_;refine lG [(0,.agg #[Z A U.a.a B,Z C U.a.b D,Z E U.c F,Z H U.b I]),(1,V x1),(2,V W)] ⟨r,r,r,y⟩ fun av=>?_;refine q (g (nW (nD e (uK r)) ?_));rintro _ w1 ⟨b1,rfl,e⟩;refine s (mh r) (n (q (g (s (mh r) (n (q (q (g (s (mi r) (s (qC r r) (s (kV r) ?_)))))))))));rcases iv p with ⟨X,p⟩|⟨X,p⟩
 ·rw [um X];refine jM r (jM r (jM r (jM r (jM r (s (kP r r) (n (jN r (q (g (s (mh r) (n (kH ?_))))))))))));replace e:=e.Cy Int 3;obtain rfl:=sm p;refine jC r (kL r) ?_;exact ⟨none,0,[],r,e.ad [0] [0]⟩
 rw [uO X];refine kG r (s (mi r) (kG r (s (Ck r) (kG r (s (Si r (e.bk 0 r) r) (kG r (s (lT F7 r) (kG r (s (CF r r) (s (ko r r) (n ?_)))))))))));rcases iv p with ⟨Y,p⟩|⟨Y,p⟩
 ·refine jN (bt Y) (q (g (s (mh r) (n (kH ?_)))));replace e:=e.Cy Int 3;obtain rfl:=sm p;refine jC r (kL r) ?_;exact ⟨none,0,[],r,e.ad [0] [0]⟩
 refine jK (bf Y) (wk (q (q (g (s (Ck r) (s (Si r (e.bk 0 r) r) (s (mi r) ?_)))))));obtain ⟨u,z,p⟩:=bs p;obtain ⟨k6,a0,z⟩:=kN z;obtain ⟨ab,a1,e⟩:=e.nm 2 rfl z;obtain ⟨v,x,rfl,N⟩:=a1;replace e:=e.kF (d:=.l v x u) N;refine s (kY F7 Gq r r a0 (e.dl 4 r) z) (s (jV CJ r r ((e.dc 1 r) 0 _ r)) (s (lT CJ r) (s (mi r) (n ?_))));replace e:=e.Cy Int 3;have ac:=(e.dl 1 r).bd;obtain ⟨Y8,m,p⟩:=bs p;refine qR (fun f w=>∃ j a b c,Has f [(7,Z a j b)]/\Bx S w au G [O S.heap.size a b 3 Int c] [.els c j,.l v x u]/\Ld.go j=Y8) (fun J8 a2=>?_) ?_
 ·refine pG (kK (fun aw f w=>∃ t j a b c,aw=u.length - t/\t<=u.length/\Has f [(25,V (t:Int)),(2,V W),(7,Z a j b),(23,Z v u x),(24,V (u.length:Int))]/\Bx S w au G [O S.heap.size a b 3 Int c] [.els c j,.l v x u]/\oD fu W (u.drop t) t j=some Y8) u.length ⟨0,([]:List Int),none,0,[],r,uy _,⟨r,r,r,r,r,y⟩,e.ad [0] [0,1],m⟩ ?_);clear e m;rintro aw f w ⟨t,j,a,b,c,rfl,ae,hf,e,m⟩ K8 J;obtain ⟨av,rfl⟩:=mZ hf;rcases yZ t u.length with Q | Q
  ·obtain ⟨o,K⟩:=lZ (l:=u) Q;rw [mD K,oD] at m;refine q (g (s (vI r r (by omega)) (n (q (jN r (wk (q (pG (q (g (s (mi r) (s (kY CJ za r r r (e.dl 1 r) K) (s (nA [T o.b,V o.c,V o.d,V o.a,.bool o.f,V o.e,V o.g] IW r za r r (uo (ds:=[T o.b,V o.c,V o.d,V o.a,.bool o.f,V o.e,V o.g]) (e.dl 1 r) K (fun _ h=>h))) ?_)))))))))))));refine nW (nD e (jT za)) ?_;rintro _ af ⟨ag,rfl,e⟩;refine s (xi r) (lD (tb e 0 [T o.b,V o.c,V o.d,V o.a,.bool o.f,V o.e,V o.g] r za r r r r r (show _=#[T o.b,V o.c,V o.d,V o.a,.bool o.f,V o.e,V o.g] from r)) ?_);intro ah e;try dsimp only [List.set] at e
   refine n (q (g (s (XH r) (s (l3 r (e.bk 0 r) r) (s (mi r) (s (M4 r r) (s (kV r) ?_)))))));rcases iv m with ⟨L,m⟩|⟨L,m⟩
   ·rw [um L];refine kG r (s (mi r) (kG r (s (Oz r) (kG r (s (l3 r (e.bk 0 r) r) (kG r (s (M4 r r) (s (kP r r) (n ?_)))))))));rcases iv m with ⟨M,m⟩|⟨M,m⟩
    ·refine jN (bt M) (g (s (mK r) (s (mi r) (nW (jO e [[V (t:Int)]] ([(t:Int)]:List Int) (yR r) r r (by decide) ⟨r,y⟩) ?_))));rintro _ ai ⟨aj,rfl,e⟩;obtain ⟨a3,R,m⟩:=bs m;refine nW (kR e 2 1 r r ru ny r (by decide) (by decide) (oH _) r r (e.AR 0 0 r r) R) ?_;rintro _ ak ⟨a4,a5,a6,rfl,e⟩;refine s (mh r) (n (g (s (nH r r (by omega) (by omega)) (s (mi r) (n ?_)))));exact J (u.length - (t+1)) _ _ (by omega) ⟨t+1,a3,a4,a5,a6,r,by omega,⟨r,r,r,r,r,y⟩,e.ad [2] [1,2],m⟩
    refine jK (bf M) (wk (g (s (nH r r (by omega) (by omega)) (s (mi r) (n ?_)))));exact J (u.length - (t+1)) _ _ (by omega) ⟨t+1,j,a,b,c,r,by omega,⟨r,r,r,r,r,y⟩,e.arr [1] r,m⟩
   rw [uO L];refine jM r (jM r (jM r (jM r (s (ko r r) (n (jK r (wk (g (s (nH r r (by omega) (by omega)) (s (mi r) (n ?_)))))))))));exact J (u.length - (t+1)) _ _ (by omega) ⟨t+1,j,a,b,c,r,by omega,⟨r,r,r,r,r,y⟩,e.arr [1] r,m⟩
  obtain rfl:t=u.length:=by omega
  rw [lW,oD] at m;refine q (g (s (vH r r (by omega)) (n (q (jK r (uS ?_))))));exact a2 _ _ ⟨j,a,b,c,⟨r,y⟩,e,sm m⟩
 clear e;rintro f w ⟨j,a,b,c,hf,e,a7⟩;obtain ⟨av,rfl⟩:=mZ hf;subst a7;replace p:=gi p;refine q (g (s (mK r) (s (mh r) (n (kH ?_)))));obtain rfl:=sm p;refine jC r (kL r) ?_;exact ⟨a,b,c,r,e.dp [0]⟩
end
abbrev cM (R:Rn)(m:BX)(n k h o:Nat)(e v:Int):List Value:=[.slice R.s.a1 R.src.a.a.length R.s.c1,.slice R.s.a2 R.src.a.b.length R.s.c2,.slice R.s.a3 R.src.c.length R.s.c3,.slice R.s.a4 R.src.b.length R.s.c4,V (R.st:Int),V (R.fr:Int),V (R.mo:Int),V (h:Int),.slice m.lA n m.lC,.slice m.eA k m.eC,V e,.bool false,V 0,.slice m.oA o m.oC,V v]
abbrev iM (R:Rn)(m:BX)(n k h o:Nat)(e v:Int):It:=.box R.rb 76 (cM R m n k h o e v).toArray
abbrev uw:=It.vY 103
abbrev EH:=zx 103
inductive OX:jA→Prop
 | mk {e:jA} (h:¬ (e.e=0\/e.e=1\/e.e=2\/e.e=3)->e.a.length=if e.e=4\/e.e=5 then 1 else 2) (k:∀ y ∈ e.a,OX y):OX e
theorem OX.h {e:jA}(a:OX e):¬ (e.e=0\/e.e=1\/e.e=2\/e.e=3)->e.a.length=if e.e=4\/e.e=5 then 1 else 2:=by cases a;assumption
theorem OX.k {e:jA}(a:OX e):∀ y ∈ e.a,OX y:=by cases a;assumption
def Eg {α:Type}:Pn α→Prop
 | .ok _=>True
 | .uP _=>True
 | _=>False
def Pn.vl {α:Type}:Pn α→Int→Int
 | .uP t,_=>t
 | _,v=>v
theorem GL {o op x y n:Int}{w:World}(ho:wr (o+6)=op)(hn:CR op x y=.ok n):Calls prog 114 #[V o,V x,V y] w (pU fun v w'=>v=V n/\w'=w):=by
 refine cf func114 rfl ?_;refine lG [(0,V o),(1,V x),(2,V y)] ⟨rfl,rfl,rfl,trivial⟩ fun av=>?_;refine go ?_;rw [ho];unfold CR at hn;refine ou rfl (fun h=>?_) (fun h=>?_)
 · rw [kg h] at hn;cases hn;refine go ?_;exact kH (jC rfl (kL rfl) ⟨rfl,rfl⟩)
 rw [jR h] at hn;refine go ?_;refine ou rfl (fun h=>?_) (fun h=>?_)
 · rw [kg h] at hn;cases hn;refine go ?_;exact kH (jC rfl (kL rfl) ⟨rfl,rfl⟩)
 rw [jR h] at hn;refine go ?_;refine ou rfl (fun h=>?_) (fun h=>?_)
 · rw [kg h] at hn;cases hn;refine go ?_;exact kH (jC rfl (kL rfl) ⟨rfl,rfl⟩)
 rw [jR h] at hn;refine go ?_;refine ou rfl (fun h=>?_) (fun h=>?_)
 · rw [kg h] at hn;refine go ?_;by_cases hy:y=0
   · rw [kg hy] at hn;cases hn
   rw [jR hy] at hn;cases hn;rw [oz hy];refine go ?_;refine kr (UH rfl rfl hy) ?_;refine go ?_;exact kH (jC rfl (kL rfl) ⟨rfl,rfl⟩)
 rw [jR h] at hn;refine go ?_;refine ou rfl (fun h=>?_) (fun h=>?_)
 · rw [kg h] at hn;refine go ?_;by_cases hy:y=0
   · rw [kg hy] at hn;cases hn
   rw [jR hy] at hn;cases hn;rw [oz hy];refine go ?_;refine kr (QY rfl rfl hy) ?_;refine go ?_;exact kH (jC rfl (kL rfl) ⟨rfl,rfl⟩)
 rw [jR h] at hn;refine go ?_;refine ou rfl (fun h=>?_) (fun h=>?_)
 · rw [kg h] at hn;cases hn;refine go ?_;exact kH (jC rfl (kL rfl) ⟨rfl,rfl⟩)
 rw [jR h] at hn;refine go ?_;refine ou rfl (fun h=>?_) (fun h=>?_)
 · rw [kg h] at hn;cases hn;refine go ?_;exact kH (jC rfl (kL rfl) ⟨rfl,rfl⟩)
 rw [jR h] at hn;refine go ?_;refine ou rfl (fun h=>?_) (fun h=>?_)
 · rw [kg h] at hn;cases hn;refine go ?_;exact kH (jC rfl (kL rfl) ⟨rfl,rfl⟩)
 rw [jR h] at hn;refine go ?_;have hk:∃ b:Bool,n=Bl b/\((op=14/\b=decide (x < y))\/(op≠14/\op=15/\b=decide (x<=y))\/(op≠14/\op≠15/\op=16/\b=decide (x=y))\/(op≠14/\op≠15/\op≠16/\op=17/\b=decide (x≠y))):=by
   by_cases h1:op=14
   · rw [kg h1] at hn;cases hn;exact ⟨_,rfl,.inl ⟨h1,rfl⟩⟩
   rw [jR h1] at hn;by_cases h2:op=15
   · rw [kg h2] at hn;cases hn;exact ⟨_,rfl,.inr (.inl ⟨h1,h2,rfl⟩)⟩
   rw [jR h2] at hn;by_cases h3:op=16
   · rw [kg h3] at hn;cases hn;exact ⟨_,rfl,.inr (.inr (.inl ⟨h1,h2,h3,rfl⟩))⟩
   rw [jR h3] at hn;by_cases h4:op=17
   · rw [kg h4] at hn;cases hn;exact ⟨_,rfl,.inr (.inr (.inr ⟨h1,h2,h3,h4,rfl⟩))⟩
   rw [jR h4] at hn;cases hn
 clear hn;obtain ⟨b,rfl,hk⟩:=hk;refine qR (fun f w'=>w'=w/\Has f [(7,.bool b)]) (fun J hJ=>?_) ?_
 · rcases hk with ⟨h1,rfl⟩|⟨h1,h2,rfl⟩|⟨h1,h2,h3,rfl⟩|⟨h1,h2,h3,h4,rfl⟩
   · rw [qF h1];refine go ?_;exact hJ _ _ ⟨rfl,rfl,trivial⟩
   · rw [oz h1];refine go ?_;rw [qF h2];refine go ?_;exact hJ _ _ ⟨rfl,rfl,trivial⟩
   · rw [oz h1];refine go ?_;rw [oz h2];refine go ?_;rw [qF h3];refine go ?_;exact hJ _ _ ⟨rfl,rfl,trivial⟩
   · rw [oz h1];refine go ?_;rw [oz h2];refine go ?_;rw [oz h3];refine go ?_;rw [qF h4];refine go ?_;exact hJ _ _ ⟨rfl,rfl,trivial⟩
 rintro f w1 ⟨rfl,hf⟩;obtain ⟨av,rfl⟩:=mJ _ _ hf;clear hf;refine go ?_;cases b with
 | true=>
   refine go ?_;exact kH (jC rfl (kL rfl) ⟨rfl,rfl⟩)
 | false=>
   refine go ?_;exact kH (jC rfl (kL rfl) ⟨rfl,rfl⟩)
section
variable {ρ:Operand->Value}{w:World}{d:Option Nat}{ty:TypeId}{pos:String}{af:Array Edge}{g:Option (Nat × Bool)}{x:Operand}{b o t n j:Nat}
theorem yG (h:ρ x=.pointer (some ⟨b,o,none⟩))(hj:fT t n=some j)(ht:Nat.blt t 207=true:=by exact rfl)(hn:Nat.blt n 16=true:=by exact rfl):Yl prog ρ (.fieldAddr t x n) d ty pos af g w (.pointer (some ⟨b,o+j,none⟩)):=by
 have h1:=JD ht;simp only [Dx] at h1;have h2:=List.all_eq_true.1 h1.1.1 n (List.mem_range.2 (by simpa using hn));rw [hj] at h2;dsimp only at h2;cases hf:fo t n with
 | none=>rw [hf] at h2;cases h2
 | some j'=>
  rw [hf] at h2;have hjj:j'=j:=Nat.eq_of_beq_eq_true h2;subst hjj;unfold fo at hf;cases hu:prog.underlying t with
  | none=>rw [hu] at hf;cases hf
  | some D=>
   rw [hu] at hf;cases D with
   | struct fs=>
    dsimp only at hf;cases hfs:fs[n]? with
    | none=>rw [hfs] at hf;cases hf
    | some fd=>
     rw [hfs] at hf;dsimp only at hf;cases hi:prog.info? fd.type with
     | none=>rw [hi] at hf;cases hf
     | some i=>
      rw [hi] at hf;dsimp only at hf;cases hz:i.zero with
      | none=>rw [hz] at hf;cases hf
      | some z=>
       rw [hz] at hf;cases hs:Nat.beq i.size 0 with
       | true=>rw [hs] at hf;cases hf
       | false=>
        rw [hs] at hf;have ho:fd.offset=j':=vK hf;exact UK (k:=j') hu hfs ho ⟨i,hi,hz,rfl,rfl⟩ (fun e=>by rw [e] at hs;cases hs) h
   | _=>cases hf
theorem yK {t':TypeId}{cs:Array Value}{v:Value}(h:ρ x=.pointer (some ⟨b,o,none⟩))(hb:nS w b t' cs)(hi:cs[o]?=some v)(hs:scB t=true)(ht:Nat.blt t 207=true:=by exact rfl):Yl prog ρ (.load t x) d ty pos af g w v:=by
 have h1:=JD ht;simp only [Dx] at h1;have h2:=h1.1.2;rw [hs,Bool.not_true,Bool.false_or] at h2;cases hu:prog.underlying t with
 | none=>rw [hu] at h2;cases h2
 | some D=>
  rw [hu] at h2;exact jV hu (by simpa using h2) h (hb.cell hi)
end
theorem MF {ev:jA->Option (Pn Int)}{ws:List (List Int)}{e:jA}{q:Pn (Nat × Nat)}(h:O4 ev ws e=some q)(hq:Eg q) :∃ (k:Nat)(l:List Int),e.g=(k:Int)/\ws[k]?=some l/\((e.e=2/\∃ j:Nat,e.d=(j:Int)/\j < l.length/\q=.ok (k,j))\/(e.e=3/\∃ y r p,e.a=y :: r/\ev y=some p/\Eg p/\((∃ t,p=.uP t/\q=.uP t)\/(∃ n,p=.ok n/\(n < 0\/(l.length:Int)<=n)/\q=.uP 2)\/(∃ j:Nat,p=.ok (j:Int)/\j < l.length/\q=.ok (k,j))))\/(e.e≠2/\e.e≠3/\0 < l.length/\q=.ok (k,0))):=by
 unfold O4 at h;cases hl:ix? ws e.g with
 | none=>rw [hl] at h;cases h;exact hq.elim
 | some l=>
  rw [hl] at h;obtain ⟨k,hk,hl⟩:=RA hl;refine ⟨k,l,hk,hl,?_⟩;dsimp only at h;by_cases h2:e.e=2
  · rw [kg h2] at h;by_cases hn:0<=e.d/\e.d < l.length
    · rw [kg hn] at h;cases h;exact .inl ⟨h2,e.d.toNat,by omega,by omega,by rw [hk];rfl⟩
    · rw [jR hn] at h;cases h;exact hq.elim
  rw [jR h2] at h;by_cases h3:e.e=3
  · rw [kg h3] at h;cases hA:e.a with
    | nil=>rw [hA] at h;cases h;exact hq.elim
    | cons y r=>
      rw [hA] at h;obtain ⟨p,hp,h⟩:=bs h;refine .inr (.inl ⟨h3,y,r,p,rfl,hp,?_⟩);cases p with
      | ok n=>
       refine ⟨lF,.inr ?_⟩;have h:=vK h;by_cases hn:n < 0\/(l.length:Int)<=n
       · rw [kg hn] at h;exact .inl ⟨n,rfl,hn,h.symm⟩
       · rw [jR hn] at h;refine .inr ⟨n.toNat,?_,by omega,?_⟩
         · rw [show ((n.toNat:Nat):Int)=n by omega]
         · rw [<-h,hk];rfl
      | uP t=>cases h;exact ⟨lF,.inl ⟨t,rfl,rfl⟩⟩
      | err t=>cases h;exact hq.elim
      | rt=>cases h;exact hq.elim
  rw [jR h3] at h;have h:=vK h;by_cases hl0:l=[]
  · rw [kg hl0] at h;subst h;exact hq.elim
  · rw [jR hl0] at h;exact .inr (.inr ⟨h2,h3,by cases l with | nil=>exact absurd rfl hl0 | cons=>simp,by rw [<-h,hk];rfl⟩)
end Go.Proofs.YtfglbdkfnphjgaaGreat
