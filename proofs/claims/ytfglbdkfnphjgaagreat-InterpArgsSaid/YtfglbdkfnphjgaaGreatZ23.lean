/- A statement. -/
import Derived.Test.YtfglbdkfnphjgaaGreatZ22
import Derived.Test.YtfglbdkfnphjgaaGreatZ4
import Derived.Test.YtfglbdkfnphjgaaGreatLa
set_option linter.unusedVariables false
set_option maxRecDepth 4000
set_option maxHeartbeats 12800000
namespace Go.Proofs.YtfglbdkfnphjgaaGreat
open Go.RowKit Go.Fw Go.Proofs.Tryz
theorem LU {fu fv:Nat} {R:Rn} (hR:Og R) (ih:CSt R (stM (jD fv R.src) R.src R.st fu)):CSt R (stM (jD fv R.src) R.src R.st (fu+1)):=by
 have hLs:Yw R (stM (jD fv R.src) R.src R.st fu):=PD ih;have hCl:CCl R (stM (jD fv R.src) R.src R.st fu):=PX hLs;have hTr:CTr R (stM (jD fv R.src) R.src R.st fu):=Xh hLs (N9 hLs);intro w A m ptrs x s s' xs gs y a7 c7 a10 c10 a11 c11 a12 c12 p hr0 hm;obtain ⟨hP,hl,hB,hp,hn⟩:=hr0;have b:=hP.bx;clear hP;unfold Ok Pk;generalize hG:lD (JF R m ptrs x s)=G at b hl ⊢;refine wP func50 rfl ?_;refine lu [(0,Pt R.rb),(1,Pt x.b),(2,.agg (cS y a7 c7 a10 c10 a11 c11 a12 c12).toArray)] ⟨rfl,rfl,rfl,trivial⟩ fun av=>?_;rw [stM] at hm;obtain ⟨⟨pe,s1⟩,he,hm⟩:=bs hm;refine Gg (zM ?_);refine rE b (tO rfl) fun w1 b5 b=>?_;refine goC b ?_;refine Zl hR b hl hB hp hn he rfl rfl rfl (fun f ch w' m' hq hb=>?_) (fun w2 m1 hpe b=>?_)
 · cases pe with
   | ok u=>exact hq.elim
   | _=>cases hm;exact ⟨hq,[],m',by rw [List.append_nil];exact hb⟩
 subst hpe;dsimp only at hm;clear he;refine goC b ?_;refine lu [(0,Pt R.rb),(1,Pt x.b),(5,Pt b5),(18,V y.c),(19,.bool (decide (y.c=1)))] ⟨rfl,rfl,rfl,rfl,rfl,trivial⟩ fun av=>?_;refine nS rfl (fun h=>?_) (fun h=>?_)
 · rw [if_pos h] at hm;refine goC b ?_;refine pG (fun u=>nH u b5 122 (cS y a7 c7 a10 c10 a11 c11 a12 c12).toArray) (fun u=>(It.act x s1.a).p u) [8] (by kernel_rfl) ?_;replace b:=b.drew;have q1:nH w2.drew b5 122 (cS y a7 c7 a10 c10 a11 c11 a12 c12).toArray:=b.bk 0 rfl;have q2:(It.act x s1.a).p w2.drew:=b.at 5 rfl;refine pL 0 r (nW r) q1 q2 (pL 1 r (xn r) q1 q2 (pL 2 r (Ie r) q1 q2 (tS 9 3 r (fun _ h=>Uw r (It.oF h) r) (kG q1 q2) (pL 4 r (Il r) q1 q2 (tU 5 r (fun _ h=>l3 r h r) (kG q1 q2) ?_)))));cases hv:ix? s1.a.ws y.g with
   | none=>
     rw [hv] at hm;cases hm;refine hO 6 (Nu r underlying93 r r (Bz hv) fun u w3 hw f=>⟨⟨u,yw _⟩,[],m1,?_⟩);rw [List.append_nil];exact bor ((b.arr [1,2,3,4,5] rfl).dp [4,5,6,7,8,9]) hw
   | some row=>
   rw [hv] at hm;obtain ⟨k,hk,hrow⟩:=PK hv;obtain ⟨r0,hr0,hB0,hA0,hcell⟩:=It.sN q2 hrow;refine tS 9 6 r (fun _ h=>zG k hA0 underlying93 vW r r hk (jW hrow)) (kG q1 q2) ?_;refine tS 9 7 r (fun _ h=>jS (a:=⟨mX x.A,nU x.A+k * 1,none⟩) underlying22 rfl r (uh h hr0 hrow)) (kG q1 q2) ?_;refine hO 8 (oo r r (WG b 5 r hr0 hrow r) ?_);rintro _ w3 b;refine ⟨sy 8 (b.bk 0 rfl),hD ?_⟩;cases hm;have hkn:k=y.g.toNat:=by omega
   subst hkn;refine go ?_;refine kD ?_;refine mR (fn:=f50) rfl (kH rfl) (kH rfl) ?_;exact ⟨none,rfl,rfl,m1,(b.arr [1,2,3,4,5] rfl).dp [4,5,6,7,8,9]⟩
 rw [if_neg h] at hm;refine goC b ?_;refine nS rfl (fun h=>?_) (fun h=>?_)
 · rw [if_pos h] at hm;obtain ⟨q,hq,hm⟩:=EG hm;refine goC b ?_;refine aa2 b 5 0 rfl rfl hq rfl rfl (fun _ _=>rfl) (fun _ _=>rfl) (fun f ch w' hb b=>?_) (fun k o r0 row w3 α β hqk hr0 hrow ho b=>?_)
   · rcases hm with ⟨n,rfl,_⟩|⟨_,rfl,rfl⟩
     · exact hb.elim
     · exact ⟨hb.up,[],m1,by rw [List.append_nil];exact (b.arr [1,2,3,4,5] rfl).dp [4,5,6,7,8,9]⟩
   subst hqk;rcases hm with ⟨n,hn1,hm⟩|⟨h1,_⟩;rotate_left
   · exact (h1 _ rfl).elim
   cases hn1;obtain ⟨q,hq,hm⟩:=xJ hm;refine goC b ?_;refine eArg b 5 1 rfl rfl hq rfl rfl (fun _ _=>rfl) (fun _ _=>rfl) (fun f ch w' hb b=>?_) (fun n w4 α β hqn b=>?_)
   · rcases hm with ⟨n,rfl,_⟩|⟨_,rfl,rfl⟩
     · exact hb.elim
     · exact ⟨hb.up,[],m1,by rw [List.append_nil];exact (b.arr [1,2,3,4,5] rfl).dp [4,5,6,7,8,9]⟩
   subst hqn;rcases hm with ⟨n,hn1,hm⟩|⟨h1,_⟩;rotate_left
   · exact (h1 _ rfl).elim
   cases hn1;cases hm;refine goC b ?_;refine lq (BK b 5 rfl hr0 hrow ho rfl rfl) fun w5 b=>?_;refine go ?_;refine kD ?_;refine mR (fn:=f50) rfl (kH rfl) (kH rfl) ?_;exact ⟨none,rfl,rfl,m1,(b.arr [1,2,3,4,5] rfl).dp [4,5,6,7,8,9]⟩
 rw [if_neg h] at hm;refine goC b ?_;refine nS rfl (fun h=>?_) (fun h=>?_)
 · rw [if_pos h] at hm;unfold Dl at hm;obtain ⟨q,hq,hm⟩:=bs hm;refine goC b ?_;refine pG (fun u=>nH u b5 122 (cS y a7 c7 a10 c10 a11 c11 a12 c12).toArray) (fun _=>True) [] (by kernel_rfl) ?_;replace b:=b.drew;have q1:nH w2.drew b5 122 (cS y a7 c7 a10 c10 a11 c11 a12 c12).toArray:=b.bk 0 rfl;refine pF 0 r (nW r) q1 (pF 1 r (Gq r) q1 (uF 2 r (fun h=>l3 r h r) q1 (pF 3 r (nW r) q1 (pF 4 r (nW r) q1 (pF 5 r (rM r) q1 (uF 6 r (fun h=>AU r h r) q1 ?_))))));refine hO 7 (Sc r r (lW Wy rfl) (cVal b 1 rfl hq) (fun ch w3 hb f=>?_) ?_)
   · obtain ⟨hb,b⟩:=hb;cases q with
     | ok l=>exact hb.elim
     | _=>cases hm;exact ⟨hb,[],m1,by rw [List.append_nil];exact (b.arr [1,2,3,4,5] rfl).dp [4,5,6,7,8,9]⟩
   rintro _ w3 ⟨ns,A1,c1,rfl,rfl,b⟩;dsimp only at hm;obtain ⟨⟨q,h1,o1⟩,hq2,hm⟩:=bs hm;refine ⟨sF (b.bk 0 rfl),?_⟩;refine hO 8 (Sc r r (lW TH rfl) (aa3 hCl b hl hB hp hn hq2) (fun ch w4 hb f=>?_) ?_)
   · obtain ⟨hb,more,m5,b⟩:=hb;cases q with
     | ok l=>exact hb.elim
     | _=>cases hm;exact ⟨hb,more,m5,b⟩
   rintro _ w4 ⟨n,m5,rfl,rfl,b⟩;refine ⟨sF (b.bk 0 rfl),pF 9 r (IU r) (b.bk 0 rfl) (hD ?_)⟩;dsimp only at hm;refine goC b ?_;refine nS rfl (fun h0=>?_) (fun h0=>?_)
   · rw [if_neg (by omega)] at hm;obtain ⟨q,hq,hm⟩:=EG hm;refine goC b ?_;refine aa2 b 5 0 rfl rfl hq rfl rfl (fun _ _=>rfl) (fun _ _=>rfl) (fun f ch w' hb b=>?_) (fun k o r0 row w5 α β hqk hr0 hrow ho b=>?_)
     · rcases hm with ⟨n,rfl,_⟩|⟨_,rfl,rfl⟩
       · exact hb.elim
       · exact ⟨hb.up,[],m5,by rw [List.append_nil];exact (b.arr [1,2,3,4,5] rfl).dp [4,5,6,7,8,9]⟩
     subst hqk;rcases hm with ⟨n,hn1,hm⟩|⟨h1,_⟩;rotate_left
     · exact (h1 _ rfl).elim
     cases hn1;cases hm;refine goC b ?_;refine lq (BK b 5 rfl hr0 hrow ho rfl rfl) fun w5 b=>?_;refine go ?_;refine kD ?_;refine mR (fn:=f50) rfl (kH rfl) (kH rfl) ?_;exact ⟨none,rfl,rfl,m5,(b.arr [1,2,3,4,5] rfl).dp [4,5,6,7,8,9]⟩
   · rw [if_pos (by omega)] at hm;cases hm;refine go ?_;refine kD ?_;refine mR (fn:=f50) rfl (kH rfl) (kH rfl) ?_;exact ⟨none,rfl,rfl,m5,(b.arr [1,2,3,4,5] rfl).dp [4,5,6,7,8,9]⟩
 rw [if_neg h] at hm;refine goC b ?_;refine nS rfl (fun h=>?_) (fun h=>?_)
 · rw [if_pos h] at hm;obtain ⟨q,hq,hm⟩:=xJ hm;refine goC b ?_;refine eArg b 5 1 rfl rfl hq rfl rfl (fun _ _=>rfl) (fun _ _=>rfl) (fun f ch w' hb b=>?_) (fun n w4 α β hqn b=>?_)
   · rcases hm with ⟨n,rfl,_⟩|⟨_,rfl,rfl⟩
     · exact hb.elim
     · exact ⟨hb.up,[],m1,by rw [List.append_nil];exact (b.arr [1,2,3,4,5] rfl).dp [4,5,6,7,8,9]⟩
   subst hqn;rcases hm with ⟨n,hn1,hm⟩|⟨h1,_⟩;rotate_left
   · exact (h1 _ rfl).elim
   cases hn1;refine goC b ?_;refine nS rfl (fun h0=>?_) (fun h0=>?_)
   · rw [if_pos h0] at hm;refine goC b ?_;refine WU hLs b hl hB hp hn 2 hm rfl rfl rfl rfl (fun f ch w' m' more hb b=>⟨hb,more,m',b⟩) (fun o w5 m5 hpo b=>?_);refine goC b ?_;refine kD ?_;refine mR (fn:=f50) rfl (kH rfl) (kH rfl) ?_;exact ⟨o,hpo,rfl,m5,(b.arr [1,2,3,4,5] rfl).dp [4,5,6,7,8,9]⟩
   · rw [if_neg h0] at hm;refine goC b ?_;refine WU hLs b hl hB hp hn 3 hm rfl rfl rfl rfl (fun f ch w' m' more hb b=>⟨hb,more,m',b⟩) (fun o w5 m5 hpo b=>?_);refine goC b ?_;refine kD ?_;refine mR (fn:=f50) rfl (kH rfl) (kH rfl) ?_;exact ⟨o,hpo,rfl,m5,(b.arr [1,2,3,4,5] rfl).dp [4,5,6,7,8,9]⟩
 rw [if_neg h] at hm;refine goC b ?_;refine nS rfl (fun h=>?_) (fun h=>?_)
 · rw [if_pos h] at hm;refine goC b ?_
   refine kI (fun aw f w'=>∃ (s2:Sg) (m2:AQ),Has f [(0,Pt R.rb),(1,Pt x.b),(5,Pt b5)]∧
       Bx w w' A G (.box b5 122 (cS y a7 c7 a10 c10 a11 c11 a12 c12).toArray :: JF R m2 ptrs x s2) (dS y a7 c7 a10 c10 a11 c11 a12 c12 ++ oz R m2 s2.hist s2.out)/\
       Uh (fun s=>Tg (wu fu s.a.ws) y.a) (fun s=>Dp (stM (jD fv R.src) R.src R.st fu gs) s y.e) (fun s=>event (jD fv R.src) R.st gs s y.n) aw s2=some (p,s'))
     fu ⟨s1,m1,⟨rfl,rfl,rfl,trivial⟩,b,hm⟩ ?_
   clear b hm;rintro aw f w3 ⟨s2,m2,hf,b,hm⟩ J hJ;obtain ⟨av,rfl⟩:=mE _ _ hf;clear hf;cases aw with
   | zero=>cases hm
   | succ aw=>
   rw [Uh] at hm;obtain ⟨q,hq,hm⟩:=bs hm;refine goC b ?_;refine eArg b 5 1 rfl rfl hq rfl rfl (fun _ _=>rfl) (fun _ _=>rfl) (fun f ch w' hb b=>?_) (fun n w4 α β hqn b=>?_)
   · cases q with
     | ok n=>exact hb.elim
     | _=>cases hm;exact ⟨hb,[],m2,by rw [List.append_nil];exact (b.arr [1,2,3,4,5] rfl).dp [4,5,6,7,8,9]⟩
   subst hqn;dsimp only at hm;refine goC b ?_;refine nS rfl (fun h0=>?_) (fun h0=>?_)
   · rw [if_neg h0] at hm;obtain ⟨⟨q,s3⟩,hq,hm⟩:=bs hm;refine goC b ?_;refine WU hLs b hl hB hp hn 2 hq rfl rfl rfl rfl (fun f ch w' m' more hb b=>?_) (fun o w5 m5 hpo b=>?_)
     · cases q with
       | ok n=>exact hb.elim
       | _=>cases hm;exact ⟨hb,more,m',b⟩
     subst hpo;cases o with
     | none=>
       dsimp only at hm;refine jZ (wh (.tuple #[V 0,.bool false]) rfl) ?_;obtain ⟨⟨q,s4⟩,hq,hm⟩:=bs hm;refine goC b ?_;refine Zl hR b hl hB hp hn hq rfl rfl rfl (fun f ch w' m' hb b=>?_) (fun w6 m6 hpe b=>?_)
       · cases q with
         | ok u=>exact hb.elim
         | _=>cases hm;exact ⟨hb,[],m',by rw [List.append_nil];exact b⟩
       subst hpe;dsimp only at hm;refine go ?_;exact hJ aw _ _ (by omega) ⟨s4,m6,⟨rfl,rfl,rfl,trivial⟩,b,hm⟩
     | some v=>
       cases hm;refine jZ (wh (.tuple #[V v,.bool true]) rfl) ?_;refine go ?_;refine kD ?_;refine mR (fn:=f50) rfl (kH rfl) (kH rfl) ?_;exact ⟨some v,rfl,rfl,m5,(b.arr [1,2,3,4,5] rfl).dp [4,5,6,7,8,9]⟩
   · have h0:n=0:=Decidable.not_not.1 h0;rw [if_pos h0] at hm;cases hm;refine go ?_;refine uy ?_;refine go ?_;refine kD ?_;refine mR (fn:=f50) rfl (kH rfl) (kH rfl) ?_;exact ⟨none,rfl,rfl,m2,(b.arr [1,2,3,4,5] rfl).dp [4,5,6,7,8,9]⟩
 rw [if_neg h] at hm;refine goC b ?_;refine nS rfl (fun h=>?_) (fun h=>?_)
 · rw [if_pos h] at hm;refine goC b ?_;refine jZ (IB rfl rfl) ?_;refine go ?_;refine nS (p:=y.j≠be) rfl (fun hf=>?_) (fun hf=>?_)
   · rw [if_pos hf] at hm;unfold Dl at hm;obtain ⟨q,hq,hm⟩:=bs hm;refine goC b ?_;refine pG (fun u=>nH u b5 122 (cS y a7 c7 a10 c10 a11 c11 a12 c12).toArray) (fun _=>True) [] (by kernel_rfl) ?_;replace b:=b.drew;have q1:nH w2.drew b5 122 (cS y a7 c7 a10 c10 a11 c11 a12 c12).toArray:=b.bk 0 rfl;refine pF 0 r (nW r) q1 (pF 1 r (Gq r) q1 (uF 2 r (fun h=>l3 r h r) q1 (pF 3 r (nW r) q1 (pF 4 r (nW r) q1 (pF 5 r (rM r) q1 (uF 6 r (fun h=>AU r h r) q1 ?_))))));refine hO 7 (Sc r r (lW Wy rfl) (cVal b 1 rfl hq) (fun ch w3 hb f=>?_) ?_)
     · obtain ⟨hb,b⟩:=hb;cases q with
       | ok l=>exact hb.elim
       | _=>cases hm;exact ⟨hb,[],m1,by rw [List.append_nil];exact (b.arr [1,2,3,4,5] rfl).dp [4,5,6,7,8,9]⟩
     rintro _ w3 ⟨ns,A1,c1,rfl,rfl,b⟩;dsimp only at hm;obtain ⟨⟨q,h1,o1⟩,hq2,hm⟩:=bs hm;refine ⟨sF (b.bk 0 rfl),?_⟩;refine hO 8 (Sc r r (lW TH rfl) (aa3 hCl b hl hB hp hn hq2) (fun ch w4 hb f=>?_) ?_)
     · obtain ⟨hb,more,m5,b⟩:=hb;cases q with
       | ok l=>exact hb.elim
       | _=>cases hm;exact ⟨hb,more,m5,b⟩
     rintro _ w4 ⟨n,m5,rfl,rfl,b⟩;refine ⟨sF (b.bk 0 rfl),pF 9 r (IU r) (b.bk 0 rfl) (pF 10 r (kr r) (b.bk 0 rfl) (hD ?_))⟩;cases hm;refine go ?_;refine kD ?_;refine mR (fn:=f50) rfl (kH rfl) (kH rfl) ?_;exact ⟨some n,rfl,rfl,m5,(b.arr [1,2,3,4,5] rfl).dp [4,5,6,7,8,9]⟩
   · rw [if_neg hf] at hm;obtain ⟨q,hq,hm⟩:=xJ hm;refine goC b ?_;refine eArg b 5 1 rfl rfl hq rfl rfl (fun _ _=>rfl) (fun _ _=>rfl) (fun f ch w' hb b=>?_) (fun n w4 α β hqn b=>?_)
     · rcases hm with ⟨n,rfl,_⟩|⟨_,rfl,rfl⟩
       · exact hb.elim
       · exact ⟨hb.up,[],m1,by rw [List.append_nil];exact (b.arr [1,2,3,4,5] rfl).dp [4,5,6,7,8,9]⟩
     subst hqn;rcases hm with ⟨n,hn1,hm⟩|⟨h1,_⟩;rotate_left
     · exact (h1 _ rfl).elim
     cases hn1;cases hm;refine go ?_;refine kD ?_;refine mR (fn:=f50) rfl (kH rfl) (kH rfl) ?_;exact ⟨some n,rfl,rfl,m1,(b.arr [1,2,3,4,5] rfl).dp [4,5,6,7,8,9]⟩
 rw [if_neg h] at hm;refine goC b ?_;refine nS rfl (fun h=>?_) (fun h=>?_)
 · rw [if_pos h] at hm;obtain ⟨q,hq,hm⟩:=xJ hm;refine goC b ?_;refine eArg b 5 1 rfl rfl hq rfl rfl (fun _ _=>rfl) (fun _ _=>rfl) (fun f ch w' hb b=>?_) (fun n w4 α β hqn b=>?_)
   · rcases hm with ⟨n,rfl,_⟩|⟨_,rfl,rfl⟩
     · exact hb.elim
     · exact ⟨hb.up,[],m1,by rw [List.append_nil];exact (b.arr [1,2,3,4,5] rfl).dp [4,5,6,7,8,9]⟩
   subst hqn;rcases hm with ⟨n,hn1,hm⟩|⟨h1,_⟩;rotate_left
   · exact (h1 _ rfl).elim
   cases hn1;cases hm;refine jZ (Kr Vm rfl) ?_;exact Bg rfl ⟨yw _,[],m1,by rw [List.append_nil];exact (b.arr [1,2,3,4,5] rfl).dp [4,5,6,7,8,9]⟩
 rw [if_neg h] at hm;refine goC b ?_;refine nS rfl (fun h=>?_) (fun h=>?_)
 · rw [if_pos h] at hm;refine goC b ?_;refine jZ (lY (cS y a7 c7 a10 c10 a11 c11 a12 c12) lg jQ rfl (b.bk 0 rfl)) ?_;have hr:R5 w2 (CY w A (pick _ [1,2,3,4,5] ++ pick _ [0])) R m1 ptrs x s1 xs gs (dS y a7 c7 a10 c10 a11 c11 a12 c12):=⟨b.pr [1,2,3,4,5] [0] [0,1,2,3,4,5,6,7,8,9] rfl,wI b hl (fun it hi=>List.mem_cons_of_mem _ hi),Nat.le_trans hB b.qW.size,hp,hn⟩;have hc:=hTr hr hm;clear hr;refine KE (lW aaJ rfl) hc (fun ch w4 hq=>?_) ?_
   · obtain ⟨hq,more,m5,hK⟩:=hq;have hb:=b.cn [1,2,3,4,5] [0] hK;exact ⟨hq,more,m5,(hb.arr [0,1,2,3,4] rfl).dp [0,1,2,3,4,5]⟩
   rintro _ w4 ⟨o,rfl,rfl,m5,hK⟩;replace b:=b.cn [1,2,3,4,5] [0] hK;refine go ?_;refine kD ?_;refine mR (fn:=f50) rfl (kH rfl) (kH rfl) ?_;exact ⟨o,rfl,rfl,m5,(b.arr [0,1,2,3,4] rfl).dp [0,1,2,3,4,5]⟩
 rw [if_neg h] at hm;refine goC b ?_;refine nS rfl (fun h=>?_) (fun h=>?_)
 · rw [if_pos h] at hm;obtain ⟨q,hq,hm⟩:=xJ hm;refine goC b ?_;cases hA:y.a with
   | nil=>
     rw [hA] at hq;cases hq;rcases hm with ⟨n,h1,_⟩|⟨_,rfl,rfl⟩
     · cases h1
     refine pG (fun u=>nH u b5 122 (cS y a7 c7 a10 c10 a11 c11 a12 c12).toArray) (fun u=>nH u R.rb 69 (pK R m1 ptrs.length (window s'.hist R.fr R.mo).length s'.hist.length s'.out.length).toArray) [16] (by kernel_rfl) ?_;replace b:=b.drew;have q1:nH w2.drew b5 122 (cS y a7 c7 a10 c10 a11 c11 a12 c12).toArray:=b.bk 0 rfl;have q2:nH w2.drew R.rb 69 (pK R m1 ptrs.length (window s'.hist R.fr R.mo).length s'.hist.length s'.out.length).toArray:=b.bk 1 rfl;refine pL 0 r (nW r) q1 q2 (pL 1 r (nW r) q1 q2 (pL 2 r (xn r) q1 q2 (pL 3 r (Kg r) q1 q2 (tS 17 4 r (fun _ h=>OM r h r) (kG q1 q2) (pL 5 r (nW r) q1 q2 (pL 6 r (nW r) q1 q2 (pL 7 r (rM r) q1 q2 (tU 8 r (fun _ h=>AU r h r) (kG q1 q2) ?_))))))));refine hO 9 (Nu (n:=y.a.length) (a:=a10) (c:=c10) r underlying120 r r (by rw [hA];simp) fun u w3 hw f=>⟨⟨u,yw _⟩,[],m1,?_⟩);rw [List.append_nil];exact bor ((b.arr [1,2,3,4,5] rfl).dp [4,5,6,7,8,9]) hw
   | cons e l=>
     rw [hA] at hq;have hk:y.a[0]?=some e:=by rw [hA];rfl
     obtain ⟨cs,hre,b⟩:=b.nm 1 rfl hk;obtain ⟨a2,c2,rfl,hd⟩:=jA.out hre;replace b:=b.kC (d:=.l a2 c2 e.a) hd;refine pG (fun u=>nH u b5 122 (cS y a7 c7 a10 c10 a11 c11 a12 c12).toArray/\Cells u (mX a10) (nU a10+0 * 6) (cE e a2 c2)) (fun u=>nH u R.rb 69 (pK R m1 ptrs.length (window s1.hist R.fr R.mo).length s1.hist.length s1.out.length).toArray) [16] (by kernel_rfl) ?_;replace b:=b.drew;have q1:nH w2.drew b5 122 (cS y a7 c7 a10 c10 a11 c11 a12 c12).toArray/\Cells w2.drew (mX a10) (nU a10+0 * 6) (cE e a2 c2):=⟨b.bk 0 rfl,b.dc 1 rfl⟩;have q2:nH w2.drew R.rb 69 (pK R m1 ptrs.length (window s1.hist R.fr R.mo).length s1.hist.length s1.out.length).toArray:=b.bk 1 rfl;refine pL 0 r (nW r) q1 q2 (pL 1 r (nW r) q1 q2 (pL 2 r (xn r) q1 q2 (pL 3 r (Kg r) q1 q2 (tS 17 4 r (fun _ h=>OM r h r) (kG q1 q2) (pL 5 r (nW r) q1 q2 (pL 6 r (nW r) q1 q2 (pL 7 r (rM r) q1 q2 (tU 8 r (fun _ h=>AU r h.1 r) (kG q1 q2) ?_))))))));refine pL 9 r (kV underlying120 jR r r rfl (b.dl 3 rfl) hk) q1 q2 (tU 10 r (fun _ h=>mU (cE e a2 c2) underlying135 rfl jR r r h.2) (kG q1 q2) ?_);refine hO 11 (Sc r r (lW Fy rfl) (JN fu (b.pr [] [] [0] rfl) (b.at 5 rfl) hq) (fun ch w3 hb f=>?_) ?_)
     · obtain ⟨hb,hx⟩:=hb;rcases hm with ⟨n,rfl,_⟩|⟨_,rfl,rfl⟩
       · exact hb.elim
       · exact ⟨hb.up,[],m1,by rw [List.append_nil];exact (((b.ext hx).arr [1,2,3,4,5] rfl).dp [6,7,8,9,10,11])⟩
     rintro _ w3 ⟨n,rfl,rfl,hx⟩;replace b:=b.ext hx;rcases hm with ⟨n',hn1,hm⟩|⟨h1,_⟩;rotate_left
     · exact (h1 _ rfl).elim
     cases hn1;obtain ⟨o2,ho2,hm⟩:=bs hm;cases hm;refine ⟨kG ⟨b.bk 0 rfl,b.dc 1 rfl⟩ (b.bk 1 rfl),?_⟩;refine hO 12 (oo r r (jN b [[V n]] ([n]:List Int) (zo r) r r (by decide) ⟨r,trivial⟩) ?_);rintro _ w4 ⟨b9,rfl,b⟩;refine ⟨kG ⟨b.bk 1 rfl,b.dc 2 rfl⟩ (b.bk 2 rfl),?_⟩;refine hO 13 (oo r r (kN b 5 8 r r qH mV r (by decide) (by decide) hB r r (b.zL 0 0 r r) ho2) ?_);rintro _ w5 ⟨A2,c2',cs2,rfl,b⟩;refine ⟨kG ⟨b.bk 1 rfl,b.dc 2 rfl⟩ (b.bk 2 rfl),pL 14 r (xn r) ⟨b.bk 1 rfl,b.dc 2 rfl⟩ (b.bk 2 rfl) (pL 15 r (Kg r) ⟨b.bk 1 rfl,b.dc 2 rfl⟩ (b.bk 2 rfl) ?_)⟩;refine hO 16 (os r r (t_n b 2 [.slice A2 o2.length c2'] r vW r r) fun w6 b=>⟨sy 16 ⟨b.bk 1 rfl,b.dc 2 rfl⟩,hD ?_⟩);refine go ?_;refine kD ?_;refine mR (fn:=f50) rfl (kH rfl) (kH rfl) ?_;exact ⟨none,rfl,rfl,{ m1 with oA:=A2,oC:=c2',oc:=cs2 },(b.arr [2,3,4,5,6] rfl).dp [7,8,9,10,11,12]⟩
 rw [if_neg h] at hm;refine goC b ?_;refine nS rfl (fun h=>?_) (fun h=>?_)
 · rw [if_pos h] at hm;cases hm;refine go ?_;refine kD ?_;refine mR (fn:=f50) rfl (kH rfl) (kH rfl) ?_;exact ⟨some 0,rfl,rfl,m1,(b.arr [1,2,3,4,5] rfl).dp [4,5,6,7,8,9]⟩
 rw [if_neg h] at hm;cases hm;refine go ?_;refine kD ?_;refine mR (fn:=f50) rfl (kH rfl) (kH rfl) ?_;exact ⟨none,rfl,rfl,m1,(b.arr [1,2,3,4,5] rfl).dp [4,5,6,7,8,9]⟩
theorem cst {fv:Nat} {R:Rn} (hR:Og R):∀ fu,CSt R (stM (jD fv R.src) R.src R.st fu)
 | 0=>by intro _ h;cases h
 | fu+1=>LU hR (cst hR fu)
set_option linter.unusedSimpArgs false
noncomputable section
def FU (m:jL->Int->(List Int)->Int->Int->Int->Option ((List ko) × mO)):Prop:=∀ {A H}{x:jL}{C B D E F a b c d e f h i j k R},Pre A H [] [.l a b x.a.a,.l c d x.a.b,.l e f x.c,.l h i x.b,.l j k B]->m x C B D E F=some R-> Calls prog 9 #[.agg #[Z a x.a.a b,Z c x.a.b d,Z e x.c f,Z h x.b i],V C,Z j B k,V D,V E,V F] A (pz fun v w=>iA R fun G z=>∃ (o:OA)(p:Nat)(t:OA)(u:Nat),v=.tuple #[Z o G p,.agg #[V z.d,.bool z.b,V z.c,Z t z.a u]]/\Bx A w H (lD []) [] [.l o p G,.l t u z.a])
def Kl (m:jL->Int->(List Int)->Int->Int->Int->Option ((List ko) × mO)):Prop:=∀ {A H}{x:jL}{C B D E F a b c d e f h i j k R},Pre A H [] [.l a b x.a.a,.l c d x.a.b,.l e f x.c,.l h i x.b,.l j k B]->m x C B D E F=some R-> Calls prog 11 #[.agg #[Z a x.a.a b,Z c x.a.b d,Z e x.c f,Z h x.b i],V C,Z j B k,V D,V E,V F] A (pz fun v w=>iA R fun G z=>∃ (o:OA)(p:Nat)(t:OA)(u:Nat),v=.tuple #[Z o G p,.agg #[V z.d,.bool z.b,V z.c,Z t z.a u]]/\Bx A w H (lD []) [] [.l o p G,.l t u z.a])
end
noncomputable def lS (fu:Nat) (s:jL) (f:Int) (args:List Int) (n fr mo:Int):Option (List ko × mO):=traceM fu (jD fu s) s f args n fr mo
abbrev Xg (R:Rn) (b12 b13 b14:Nat) (e:Value) (o:List Value):List It:=[.box b12 40 #[e],.box b13 43 o.toArray,.box b14 66 #[Pt R.rb]]
abbrev Tro (R:Rn) (m:AQ) (hist:List ko) (out:List Int) (b12 b13 b14:Nat) (e:Int) (th:Bool) (v:Int):List It:=
 Xg R b12 b13 b14 (.slice m.eA (window hist R.fr R.mo).length m.eC) [V e,.bool th,V v,.slice m.oA out.length m.oC]
def aax (x:Value) (v2 e:Int) (th:Bool) (v:Int):Prop:=(x=.nilIface/\e=0/\th=false/\v=v2)\/(∃ n,x=.iface 70 (V n)/\e=0/\th=true/\v=n)\/(∃ n,x=.iface 71 (V n)/\e=n/\th=false/\v=v2)\/(∃ t y,x=.iface t y/\t≠70/\t≠71/\e=4/\th=false/\v=v2)
theorem XG {N:Fz} {ops:Array Oper} {K:KK} {rest:List Oper} {f:Fr} {w:World} {d:Option Nat} {ty:TypeId} {pos:String} {af:Array Edge} {x:Operand} {t xt t2:TypeId} {k:IntKind} {v z:Value} {s by_:Nat} (hu:prog.underlying t=some (.int k)) (hz:TI prog t z s by_) (hx:ev f x=.iface t2 v) (hne:t2≠t) (h:∀ z',oV prog N ops K rest (nK f d (.tuple #[z',.bool false])) w):oV prog N ops K (⟨d,.typeAssert x xt t true,ty,pos,af,none⟩ :: rest) f w:=by obtain ⟨z',e⟩:=YE (w:=w) (ρ:=ev f) (d:=d) (ty:=ty) (pos:=pos) (af:=af) (g:=none) (xt:=xt) hu hz hx hne;exact jZ e (h z')
theorem Qc {A G:Nat->Prop} {R:Rn} {m:AQ} {ptrs:List Nat} {hist:List ko} {out:List Int} {X:List It} {D:List Da} {w0 w:World} {b12 b13 b14:Nat} {u:FrameMode} {v2 e:Int} {th:Bool} {v:Int} (b:Bx w0 w A G (Xg R b12 b13 b14 sn [V 0,.bool false,V v2,sn] ++ (Mac R m ptrs hist out ++ X)) D) (hu:aax (BL u).1 v2 e th v) :CallsD prog 19 #[Pt b13,Pt b14,Pt b12] u w (RD (BL u).2 (fun w'=>Bx w0 w' A G (Tro R m hist out b12 b13 b14 e th v ++ (Mac R m ptrs hist out ++ X)) D) (fun _ _=>False)):=by
 refine OG func19 rfl rfl rfl ?_;refine qF (fun f w'=>Has f [(0,Pt b13),(1,Pt b14),(2,Pt b12)]/\Bx w0 w' A G (Xg R b12 b13 b14 sn [V e,.bool th,V v,sn] ++ (Mac R m ptrs hist out ++ X)) D) (fun J hJ=>?_) ?_
 · rcases hu with ⟨hx,rfl,rfl,rfl⟩|⟨n,hx,rfl,rfl,rfl⟩|⟨n,hx,rfl,rfl,rfl⟩|⟨t,y,hx,h90,h91,rfl,rfl,rfl⟩
   · rw [hx];refine o9 ?_;refine Gg (zM ?_);refine jZ (Iq underlying20 rfl rfl (.inl ⟨rfl,rfl⟩)) ?_;refine go ?_;refine jZ (QJ .nilIface rfl) ?_;refine go ?_;exact hJ _ _ ⟨⟨rfl,rfl,rfl,trivial⟩,b⟩
   · rw [hx];refine lu [(0,Pt b13),(1,Pt b14),(2,Pt b12),(7,.iface 70 (V v))] ⟨rfl,rfl,rfl,rfl,trivial⟩ fun av=>?_;refine o9 ?_;refine Gg (zM ?_);refine jZ (Iq underlying20 rfl rfl (.inr ⟨70,V v,rfl,rfl⟩)) ?_;refine go ?_;refine jZ (WR underlying70 rfl) ?_;refine go ?_;refine jZ (Pw rfl) ?_;refine lq (t_n b 1 [.bool true] rfl N7 rfl rfl) fun w1 b=>?_;refine jZ (MI rfl) ?_;refine lq (t_n b 1 [V v] rfl mV rfl rfl) fun w2 b=>?_;refine go ?_;exact hJ _ _ ⟨⟨rfl,rfl,rfl,trivial⟩,b⟩
   · rw [hx];refine lu [(0,Pt b13),(1,Pt b14),(2,Pt b12),(7,.iface 71 (V e))] ⟨rfl,rfl,rfl,rfl,trivial⟩ fun av=>?_;refine o9 ?_;refine Gg (zM ?_);refine jZ (Iq underlying20 rfl rfl (.inr ⟨71,V e,rfl,rfl⟩)) ?_;refine go ?_;refine XG underlying70 Yq rfl (by decide) fun z'=>?_;refine go ?_;refine jZ (WR underlying71 rfl) ?_;refine go ?_;refine jZ (NQ rfl) ?_;refine lq (t_n b 1 [V e] rfl Kw rfl rfl) fun w1 b=>?_;refine go ?_;exact hJ _ _ ⟨⟨rfl,rfl,rfl,trivial⟩,b⟩
   · rw [hx];refine lu [(0,Pt b13),(1,Pt b14),(2,Pt b12),(7,.iface t y)] ⟨rfl,rfl,rfl,rfl,trivial⟩ fun av=>?_;refine o9 ?_;refine Gg (zM ?_);refine jZ (Iq underlying20 rfl rfl (.inr ⟨t,y,rfl,rfl⟩)) ?_;refine go ?_;refine XG underlying70 Yq rfl h90 fun z'=>?_;refine go ?_;refine XG underlying71 abF rfl h91 fun z'=>?_;refine go ?_;refine jZ (QJ (.iface t y) rfl) ?_;refine go ?_;refine jZ (NQ rfl) ?_;refine lq (t_n b 1 [V 4] rfl Kw rfl rfl) fun w1 b=>?_;refine go ?_;exact hJ _ _ ⟨⟨rfl,rfl,rfl,trivial⟩,b⟩
 rintro f w' ⟨hf,b⟩;obtain ⟨av,rfl⟩:=mE _ _ hf;clear hf;refine pG (fun u=>nH u b14 66 #[Pt R.rb]/\nH u R.rb 69 (pK R m ptrs.length (window hist R.fr R.mo).length hist.length out.length).toArray) (fun _=>True) [] (by kernel_rfl) ?_;replace b:=b.drew;have q1:nH w'.drew b14 66 #[Pt R.rb]/\nH w'.drew R.rb 69 (pK R m ptrs.length (window hist R.fr R.mo).length hist.length out.length).toArray:=⟨b.bk 2 rfl,b.bk 3 rfl⟩;refine uF 0 r (fun h=>E5 r h.1 r) q1 (pF 1 r (xn r) q1 (pF 2 r (LG r) q1 (uF 3 r (fun h=>Qy r h.2 r) q1 (uF 4 r (fun h=>E5 r h.1 r) q1 (pF 5 r (xn r) q1 (pF 6 r (Kg r) q1 (uF 7 r (fun h=>OM r h.2 r) q1 ?_)))))));refine hO 8 (os r r (t_n b 0 [.slice m.eA (window hist R.fr R.mo).length m.eC] r Oc r r) fun w2 b=>⟨sF ⟨b.bk 2 rfl,b.bk 3 rfl⟩,pF 9 r (Ud r) ⟨b.bk 2 rfl,b.bk 3 rfl⟩ ?_⟩);refine hO 10 (os r r (t_n b 1 [.slice m.oA out.length m.oC] r vW r r) fun w3 b=>⟨sF ⟨b.bk 2 rfl,b.bk 3 rfl⟩,hD ?_⟩);refine go ?_;exact b
theorem Mc {P:Program} {fn:Func} {d:Deferred} {fv:Fn} {cap:Array Value} {g:FuncId} {args:Array Value} {R:Ending->World->Prop} {f:Fr} {a:Act} {w:World} {M:Fz} {R1:World->Prop} (hT:d.target=.fn fv cap) (hi:(invoke d.target d.args).run P w=.ok (.enter g args) w) (hc:CallsD P g args .returning w (RD .returning R1 (fun _ _=>False))) (h:∀ w',R1 w'->Reads P fn (fun v w'=>R (.returned v) w') f w') (ha:DY M f a):Leaves P fn a.tmps R [d] .returning w:=by
 refine ⟨by simp,fv,cap,g,args,hT,hi,?_⟩;intro c cs hu;obtain ⟨e,u',w',fr,h1,h2,h3⟩:=hc c cs hu;refine ⟨e,u',w',fr,?_,h2,h3⟩;cases e with
 | returned v=>
  obtain ⟨rfl,h1⟩:=h1;have h:=h w' h1;unfold Reads at h;obtain ⟨v2,hv,hR⟩:=h a.tmps ha.get;exact ⟨v2,hv,hR⟩
 | panicked c=>exact h1.2.elim
 | outgrown=>exact h1.elim
theorem Uc {ρ:Operand->Value} {w:World} {d:Option Nat} {ty:TypeId} {pos:String} {af:Array Edge} {g:Option (Nat × Bool)} {x:Operand} {n:Int} (h:ρ x=V n):Yl prog ρ (.build 43 #[(0,x)]) d ty pos af g w (.agg #[V n,.bool false,V 0,sn]):=by
 have e:(Instr.build 43 #[(0,V n)]).run prog w=.ok (.agg #[V n,.bool false,V 0,sn]) w:=by kernel_rfl
 simp [Yl,execOp,h,e]
theorem YS {ρ:Operand->Value} {w:World} {d:Option Nat} {ty:TypeId} {pos:String} {af:Array Edge} {g:Option (Nat × Bool)} {x y z u:Operand} {n m k:Int} {s1 s2 s3 s4:Option Addr} {n1 n2 n3 n4 c1 c2 c3 c4:Nat} (h:ρ x=.agg #[.slice s1 n1 c1,.slice s2 n2 c2,.slice s3 n3 c3,.slice s4 n4 c4]) (h1:ρ y=V n) (h2:ρ z=V m) (h3:ρ u=V k) :Yl prog ρ (.build 69 #[(0,x),(3,y),(4,z),(5,u)]) d ty pos af g w (.agg #[.slice s1 n1 c1,.slice s2 n2 c2,.slice s3 n3 c3,.slice s4 n4 c4,sn,V 0,V n,V m,V k,sn,sn]):=by
 have e:(Instr.build 69 #[(0,.agg #[.slice s1 n1 c1,.slice s2 n2 c2,.slice s3 n3 c3,.slice s4 n4 c4]),(3,V n),(4,V m),(5,V k)]).run prog w=.ok (.agg #[.slice s1 n1 c1,.slice s2 n2 c2,.slice s3 n3 c3,.slice s4 n4 c4,sn,V 0,V n,V m,V k,sn,sn]) w:=by kernel_rfl
 simp [Yl,execOp,h,h1,h2,h3,e]
def Yv (fu:Nat) (s:jL) (f:Int) (args:List Int) (n fr mo:Int) (R:List ko × mO):Prop:=
 (0<=n/\n<=5000)/\0<=fr/\(0<=mo/\mo<=100)/\(zC (stM (jD fu s) s n.toNat fu) s [] f args [] []).bind (fun (p,h,o)=>some (window h fr.toNat mo.toNat,match p with
  | .ok v=>(⟨0,false,v,o⟩:mO)
  | .tV v=>⟨0,true,v,o⟩
  | .err e=>⟨e,false,0,o⟩
  | .rt=>⟨4,false,0,o⟩))=some R
theorem O7 {fu:Nat} {s:jL} {f:Int} {args:List Int} {n fr mo:Int} {R:List ko × mO} (h:lS fu s f args n fr mo=some R) :(¬ (0<=f/\f < s.a.b.length)/\R=([],⟨1,false,0,[]⟩))\/∃ k fn,f=((k:Nat):Int)/\s.a.b[k]?=some fn/\ ((¬ (args.length:Int)=fn.a.length\/n < 0\/5000 < n\/fr < 0\/mo < 0\/100 < mo)/\R=([],⟨1,false,0,[]⟩)\/(¬ (¬ (args.length:Int)=fn.a.length\/n < 0\/5000 < n\/fr < 0\/mo < 0\/100 < mo))/\Yv fu s f args n fr mo R):=by
 unfold lS traceM at h;cases hf:ix? s.a.b f with
 | none=>rw [hf] at h;exact .inl ⟨Bz hf,(sm h).symm⟩
 | some fn=>
  rw [hf] at h;obtain ⟨k,hk,hfn⟩:=PK hf;refine .inr ⟨k,fn,hk,hfn,?_⟩;rcases jC h with ⟨hc,h⟩|⟨hc,h⟩
  · exact .inl ⟨by omega,(sm h).symm⟩
  · exact .inr ⟨by omega,⟨by omega,by omega⟩,by omega,⟨by omega,by omega⟩,h⟩
theorem Ce (fu:Nat):FU (lS fu):=by
 intro w0 Y s f args n fr mo a1 c1 a2 c2 a3 c3 a4 c4 a c R hP hM;have b:=hP.bx;clear hP;generalize hG:lD []=G at b ⊢;replace hM:=O7 hM;obtain ⟨ev,out⟩:=R
 have key:Calls prog 9 #[.agg #[Z a1 s.a.a c1,Z a2 s.a.b c2,Z a3 s.c c3,Z a4 s.b c4],V f,Z a args c,V n,V fr,V mo] w0
    (RP (fun v w'=>∃ o p t u,v=.tuple #[.slice o ev.length p,.agg #[V out.d,.bool out.b,V out.c,.slice t out.a.length u]]/\Bx w0 w' Y G [] [.l o p ev,.l t u out.a]) (fun _ _=>False)):=by
  refine JB func9 rfl ?_;refine PN [(0,.agg #[Z a1 s.a.a c1,Z a2 s.a.b c2,Z a3 s.c c3,Z a4 s.b c4]),(1,V f),(2,Z a args c),(3,V n),(4,V fr),(5,V mo)] ⟨rfl,rfl,rfl,rfl,rfl,rfl,trivial⟩ fun av=>?_;refine Pg (zM ?_);refine rE b (tO rfl) fun w1 b6 b=>?_;refine rE b (jX Oc) fun w2 b12 b=>?_;refine rE b (jX AR) fun w3 b13 b=>?_;refine Li ?_;have hbd:=(b.dl 4 rfl).bd;refine Xj (R:=fun f w'=>Reads prog f9 (fun v w'=>∃ o p t u,v=.tuple #[.slice o ev.length p,.agg #[V out.d,.bool out.b,V out.c,.slice t out.a.length u]]/\Bx w0 w' Y G [] [.l o p ev,.l t u out.a]) f w') (X:=fun _ _ _=>False) (V:=fun _ _ _=>False) ?_ (fun e a w q=>?_);rotate_left
  · cases e with
    | ret=>
      obtain ⟨f,h1,h2⟩:=q;show Leaves prog f9 a.tmps _ a.defers .returning w;rw [h1.dfr];unfold Reads at h2;obtain ⟨v,hv,hR⟩:=h2 a.tmps h1.get;exact ⟨v,hv,hR⟩
    | normal=>obtain ⟨f,h1,h2⟩:=q;exact h2.elim
    | exit i=>obtain ⟨f,h1,h2⟩:=q;exact h2.elim
    | panic c=>obtain ⟨f,h1,h2⟩:=q;exact h2.elim
    | _=>exact q.elim
  refine Gg (qF (fun f' w'=>w'=w3/\∃ q:Bool,Has f' [(1,V f),(2,Z a args c),(3,V n),(4,V fr),(5,V mo),(6,Pt b6),(12,Pt b12),(13,Pt b13),(57,.bool q)]/\(q=true->(ev,out)=([],⟨1,false,0,[]⟩))/\(q=false->Yv fu s f args n fr mo (ev,out))) (fun J hJ=>?_) ?_)
  · refine zM ?_;have hE:¬ (0<=f/\f < s.a.b.length)->(ev,out)=([],⟨1,false,0,[]⟩):=fun h=>by
      rcases hM with ⟨_,h⟩|⟨k,fn,hk,hfn,_⟩
      · exact h
      · have:=jW hfn;omega
    refine goC b ?_;by_cases h0:f < 0
    · rw [decide_eq_true h0];refine goC b ?_;exact hJ _ _ ⟨rfl,true,⟨rfl,rfl,rfl,rfl,rfl,rfl,rfl,rfl,rfl,trivial⟩,fun _=>hE (by omega),fun h=>by cases h⟩
    rw [decide_eq_false h0];refine goC b ?_;by_cases h1:(s.a.b.length:Int)<=f
    · rw [decide_eq_true h1];refine goC b ?_;exact hJ _ _ ⟨rfl,true,⟨rfl,rfl,rfl,rfl,rfl,rfl,rfl,rfl,rfl,trivial⟩,fun _=>hE (by omega),fun h=>by cases h⟩
    rw [decide_eq_false h1];clear hE;rcases hM with ⟨h2,_⟩|⟨k,fn,rfl,hfn,hM⟩
    · exact (h2 ⟨by omega,by omega⟩).elim
    obtain ⟨cs0,hr0,b0⟩:=b.nm 1 rfl hfn;obtain ⟨a5,c5,a6,c6,rfl,h5,h6⟩:=kY.out hr0;have hE:(¬ (args.length:Int)=fn.a.length\/n < 0\/5000 < n\/fr < 0\/mo < 0\/100 < mo)->(ev,out)=([],⟨1,false,0,[]⟩):=fun h=>by
      rcases hM with ⟨_,h⟩|⟨h',_⟩
      · exact h
      · exact absurd h h'
    refine goC b ?_;refine jZ (kV underlying24 ow rfl rfl rfl (b.dl 1 rfl) hfn) ?_;refine goC b ?_;refine jZ (jS underlying36 rfl rfl ((b0.dc 0 rfl) 2 _ rfl)) ?_;refine goC b ?_;by_cases h2:¬ (args.length:Int)=fn.a.length
    · rw [decide_eq_true (p:=(args.length:Int)≠fn.a.length) h2];refine goC b ?_;exact hJ _ _ ⟨rfl,true,⟨rfl,rfl,rfl,rfl,rfl,rfl,rfl,rfl,rfl,trivial⟩,fun _=>hE (.inl h2),fun h=>by cases h⟩
    rw [decide_eq_false (p:=(args.length:Int)≠fn.a.length) h2];refine goC b ?_;by_cases h3:n < 0
    · rw [decide_eq_true h3];refine goC b ?_;exact hJ _ _ ⟨rfl,true,⟨rfl,rfl,rfl,rfl,rfl,rfl,rfl,rfl,rfl,trivial⟩,fun _=>hE (by omega),fun h=>by cases h⟩
    rw [decide_eq_false h3];refine goC b ?_;by_cases h4:5000 < n
    · rw [decide_eq_true h4];refine goC b ?_;exact hJ _ _ ⟨rfl,true,⟨rfl,rfl,rfl,rfl,rfl,rfl,rfl,rfl,rfl,trivial⟩,fun _=>hE (by omega),fun h=>by cases h⟩
    rw [decide_eq_false h4];refine goC b ?_;by_cases h5:fr < 0
    · rw [decide_eq_true h5];refine goC b ?_;exact hJ _ _ ⟨rfl,true,⟨rfl,rfl,rfl,rfl,rfl,rfl,rfl,rfl,rfl,trivial⟩,fun _=>hE (by omega),fun h=>by cases h⟩
    rw [decide_eq_false h5];refine goC b ?_;by_cases h6:mo < 0
    · rw [decide_eq_true h6];refine goC b ?_;exact hJ _ _ ⟨rfl,true,⟨rfl,rfl,rfl,rfl,rfl,rfl,rfl,rfl,rfl,trivial⟩,fun _=>hE (by omega),fun h=>by cases h⟩
    rw [decide_eq_false h6];refine goC b ?_;by_cases h7:100 < mo
    · rw [decide_eq_true h7];refine goC b ?_;exact hJ _ _ ⟨rfl,true,⟨rfl,rfl,rfl,rfl,rfl,rfl,rfl,rfl,rfl,trivial⟩,fun _=>hE (by omega),fun h=>by cases h⟩
    rw [decide_eq_false h7];refine goC b ?_;refine hJ _ _ ⟨rfl,false,⟨rfl,rfl,rfl,rfl,rfl,rfl,rfl,rfl,rfl,trivial⟩,fun h=>(by cases h),fun _=>?_⟩;rcases hM with ⟨h,_⟩|⟨_,h⟩
    · omega
    · exact h
  rintro f' w' ⟨rfl,q,hf,hT,hF⟩;obtain ⟨av,rfl⟩:=mE _ _ hf;clear hf hM;cases q with
  | true=>
    obtain ⟨rfl,rfl⟩:=Prod.mk.inj (hT rfl);refine jM rfl ?_;refine Gg (zM ?_);refine jZ (Uc rfl) ?_;refine lq (t_n b 1 [sn] rfl Oc rfl rfl) fun w4 b=>?_;refine lq (t_n b 0 [V 1,.bool false,V 0,sn] rfl AR rfl rfl) fun w5 b=>?_;refine Li ?_;refine kD ?_;refine mR (fn:=f9) rfl (QZ rfl (fun ρ h=>Qy h (b.bk 1 rfl) rfl) (b.bk 1 rfl)) (QZ rfl (fun ρ h=>lY [V 1,.bool false,V 0,sn] Ii AR h (b.bk 0 rfl)) (b.bk 0 rfl)) ?_;exact ⟨none,0,none,0,rfl,((b.arr [] rfl).kC (d:=.l none 0 ([]:List Int)) kU.nil).kC (d:=.l none 0 ([]:List ko)) kU.nil |>.dp [0,1]⟩
  | false=>
  refine jJ rfl (FN ?_);clear hT;obtain ⟨hn,hfr,hmo,hA⟩:=hF rfl;clear hF;obtain ⟨N,rfl⟩:∃ N:Nat,n=(N:Int):=⟨n.toNat,by omega⟩;obtain ⟨F,rfl⟩:∃ F:Nat,fr=(F:Int):=⟨fr.toNat,by omega⟩;obtain ⟨M,rfl⟩:∃ M:Nat,mo=(M:Int):=⟨mo.toNat,by omega⟩;rw [Int.toNat_natCast,Int.toNat_natCast,Int.toNat_natCast] at hA;obtain ⟨⟨p,h,o⟩,hc,hA⟩:=bs hA;dsimp only at hA;refine Pg (zM ?_);refine jZ (lY [Z a1 s.a.a c1,Z a2 s.a.b c2,Z a3 s.c c3,Z a4 s.b c4] Ch wK rfl (b.bk 2 rfl)) ?_;refine goC b ?_;refine jZ (YS rfl rfl rfl rfl) ?_;refine rE b (tO rfl) fun w4 b89 b=>?_;refine rE b (jX abb) fun w5 b14 b=>?_;refine lq (t_n b 0 [Pt b89] rfl abb rfl rfl) fun w6 b=>?_;refine Li ?_;replace b:=((b.Bv ko 59).Bv Int 3).owN 92 1;replace b:=(b.arr [6,5,3,4,0,2,1] rfl).dp [1,0,2,3,4,5,6]
  let R:Rn:=⟨w0.heap.size,b89,⟨a1,c1,a2,c2,a3,c3,a4,c4⟩,s,N,F,M⟩
  let m:AQ:=⟨none,0,none,0,[],none,0,[]⟩
  have hw:window ([]:List ko) F M=[]:=by simp [window]
  replace b:Bx w0 w6 Y G (Xg R b12 b13 b14 sn [V 0,.bool false,V 0,sn] ++ (Mac R m [] [] [] ++ [])) (oz R m [] [] ++ [.l a c args]):=by show Bx w0 w6 Y G (Xg R b12 b13 b14 sn [V 0,.bool false,V 0,sn] ++ ([.box b89 69 (pK R m 0 (window ([]:List ko) F M).length 0 0).toArray,.own R.B none 0 92 1 [],.own R.B none 0 59 (Rp.sz ko) [],.own R.B none 0 3 (Rp.sz Int) []] ++ [])) ([.els [] (window ([]:List ko) F M),.els [] ([]:List Int),.l a1 c1 s.a.a,.l a2 c2 s.a.b,.l a3 c3 s.c,.l a4 c4 s.b] ++ [.l a c args]);rw [hw];exact b
  refine PN [(1,V f),(2,Z a args c),(12,Pt b12),(13,Pt b13),(14,Pt b14)] ⟨rfl,rfl,rfl,rfl,rfl,trivial⟩ fun av2=>?_;refine SV (X7 (vs:=[Pt b13,Pt b14,Pt b12]) rfl) (aal rfl) ?_;refine Vz (Q:=⟨fun _ _=>False,fun _ _ _=>False,fun f w'=>(f 12=Pt b12/\f 13=Pt b13)/\∃ v m',p=.ok v/\Bx w0 w' Y G (Xg R b12 b13 b14 sn [V 0,.bool false,V v,sn] ++ (Mac R m' [] h o ++ [])) (oz R m' h o),
    fun f ch w'=>(f 12=Pt b12/\f 13=Pt b13)/\Pb p ch/\∃ more m',Bx w0 w' Y G (Xg R b12 b13 b14 sn [V 0,.bool false,V 0,sn] ++ (Mac R m' more h o ++ [])) (oz R m' h o)⟩) ?_ ?_
  · refine Gg (zM ?_);refine jZ (E5 rfl (b.bk 2 rfl) rfl) ?_;refine goC b ?_;have hCl:CCl R (stM (jD fu R.src) R.src R.st fu):=PX (PD (cst ⟨by show N<=5000;omega,by show M<=100;omega⟩ fu));have hq:=hCl (b.pr [3,4,5,6] [0,1,2] [6,0,1,2,3,4,5] rfl) (xs:=[]) (gs:=[]) trivial b.qW.size rfl (Nat.zero_le _) hc;refine KE (lW TH rfl) hq (fun ch w7 hq=>?_) ?_
    · obtain ⟨hq,more,m4,hK⟩:=hq;have hb:=b.cn [3,4,5,6] [0,1,2] hK;exact ⟨⟨rfl,rfl⟩,hq,more,m4,(hb.arr [4,5,6,0,1,2,3] rfl).dp [0,1,2,3,4,5]⟩
    rintro _ w7 ⟨v,rfl,rfl,m4,hK⟩;replace b:=b.cn [3,4,5,6] [0,1,2] hK;replace b:=(b.arr [4,5,6,0,1,2,3] rfl).dp [0,1,2,3,4,5];refine jZ (MI rfl) ?_;refine lq (t_n b 1 [V v] rfl mV rfl rfl) fun w8 b=>?_;refine go ?_;refine pG (fun u=>nH u b12 40 #[sn]/\nH u b13 43 #[V 0,.bool false,V v,sn]) (fun _=>True) [] (by kernel_rfl) ?_;replace b:=b.drew;refine uF 0 r (fun h=>Qy r h.1 r) ⟨b.bk 0 rfl,b.bk 1 rfl⟩ (uF 1 r (fun h=>lY [V 0,.bool false,V v,sn] Ii AR r h.2) ⟨b.bk 0 rfl,b.bk 1 rfl⟩ ?_);refine hO 2 (os r r (t_n b 0 [sn] r Oc r r) fun w9 b=>⟨sF ⟨b.bk 0 rfl,b.bk 1 rfl⟩,?_⟩);refine hO 3 (os r r (t_n b 1 [V 0,.bool false,V v,sn] r AR r r) fun w10 b=>⟨sF ⟨b.bk 0 rfl,b.bk 1 rfl⟩,hD ?_⟩);refine go ?_;refine kD ?_;exact ⟨⟨rfl,rfl⟩,v,m4,rfl,b⟩
  · have fin:∀ {f:Fr} {w':World} {m':AQ} {more:List Nat} {e v:Int} {th:Bool},f 12=Pt b12→f 13=Pt b13→(window h F M,(⟨e,th,v,o⟩:mO))=(ev,out)→Bx w0 w' Y G (Tro R m' h o b12 b13 b14 e th v ++ (Mac R m' more h o ++ [])) (oz R m' h o)→
        Reads prog f9 (fun v w'=>∃ o p t u,v=.tuple #[.slice o ev.length p,.agg #[V out.d,.bool out.b,V out.c,.slice t out.a.length u]]/\Bx w0 w' Y G [] [.l o p ev,.l t u out.a]) f w':=fun {f w' m' more e v th} h12 h13 he b=>by
      obtain ⟨rfl,rfl⟩:=Prod.mk.inj he;refine mR (fn:=f9) rfl (QZ h12 (fun ρ h=>Qy h (b.bk 0 rfl) rfl) (b.bk 0 rfl)) (QZ h13 (fun ρ h'=>lY [V e,.bool th,V v,.slice m'.oA o.length m'.oC] Ii AR h' (b.bk 1 rfl)) (b.bk 1 rfl)) ?_;exact ⟨_,_,_,_,rfl,((b.QY 5 0 rfl rfl).QY 5 1 rfl rfl).ad [] [1,0]⟩
    intro e a1' w1' q;cases e with
    | normal=>obtain ⟨f,h1,h2⟩:=q;exact h2.elim
    | exit i=>obtain ⟨f,h1,h2⟩:=q;exact h2.elim
    | ret=>
      obtain ⟨f,h1,⟨h12,h13⟩,v,m',rfl,b⟩:=q;show Leaves prog f9 a1'.tmps _ a1'.defers .returning w1';rw [h1.dfr];exact Mc rfl rfl (Qc b (.inl ⟨rfl,rfl,rfl,rfl⟩)) (fun w2 b=>fin h12 h13 (sm hA) b) h1
    | panic ch=>
      obtain ⟨f,h1,⟨h12,h13⟩,hq,more,m',b⟩:=q;show Leaves prog f9 a1'.tmps _ a1'.defers (.panicking ch) w1';rw [h1.dfr];cases p with
      | ok v=>exact hq.elim
      | tV v=>
        obtain ⟨lc,rfl,hlc⟩:=hq;exact Av rfl rfl hlc (Qc b (.inr (.inl ⟨v,rfl,rfl,rfl,rfl⟩))) (fun w2 b=>fin h12 h13 (sm hA) b) (fun c w' h=>h.elim) h1
      | err v=>
        obtain ⟨lc,rfl,hlc⟩:=hq;exact Av rfl rfl hlc (Qc b (.inr (.inr (.inl ⟨v,rfl,rfl,rfl,rfl⟩)))) (fun w2 b=>fin h12 h13 (sm hA) b) (fun c w' h=>h.elim) h1
      | rt=>
        obtain ⟨u,lc,rfl,hlc⟩:=hq;exact Av rfl rfl hlc (Qc b (.inr (.inr (.inr ⟨_,_,rfl,by decide,by decide,rfl,rfl,rfl⟩)))) (fun w2 b=>fin h12 h13 (sm hA) b) (fun c w' h=>h.elim) h1
    | _=>exact q.elim
 exact key.mono fun e w he=>by
  cases e with
  | returned v=>exact ⟨v,rfl,he⟩
  | panicked c=>exact he.elim
  | outgrown=>exact he.elim
noncomputable section
def Gu (m:jL->Int->Int->Option (List Int)):Prop:=∀ {t:World}{A}{p:jL}{x z a b c d e f h i u},Pre t A [] [.l a b p.a.a,.l c d p.a.b,.l e f p.c,.l h i p.b]->m p x z=some u-> Calls prog 113 #[.agg #[Z a p.a.a b,Z c p.a.b d,Z e p.c f,Z h p.b i],V x,V z] t (pz fun v w=>∃ j k o,v=Z j u k/\Bx t w A (lD []) [O t.heap.size j k 3 Int o] [.els o u])
def nT (fu:Nat)(b:Int):List Gv→Nat→(List Int)→Option (Ld (List Int) ((List Int)))
 | [],_,a=>some (.go a)
 | f :: d,c,a=>
 if f.e≤b then
  if b≤f.g then
   (app a ([(c:Int)]:List Int)).bind fun e=>
   nT fu b d (c+1) e
  else
   nT fu b d (c+1) a
 else
  nT fu b d (c+1) a
def yT (fu:Nat)(c:jL) (b:Int)(d:Int):Option (List Int):=if b < 0 then some ([]:List Int) else if (c.c.length:Int)<=b then some ([]:List Int) else (ix c.c b).bind fun e=>(nT fu d e 0 ([]:List Int)).bind fun f=>f.el (fun a=>some a) (fun o=>some o)
theorem GA (fu:Nat):Gu (yT fu):=by
 intro S au U x1 W A B C D E F H I r0 hP p;unfold yT at p;have e:=hP.bx;clear hP;generalize hG:lD _=G at e ⊢;refine cf func113 r ?_;refine lu [(0,.agg #[Z A U.a.a B,Z C U.a.b D,Z E U.c F,Z H U.b I]),(1,V x1),(2,V W)] ⟨r,r,r,y⟩ fun av=>?_;refine q (g (nM (nV e (tO r)) ?_));rintro _ w1 ⟨b1,rfl,e⟩;refine s (nk r) (n (q (g (s (nk r) (n (q (q (g (s (mi r) (s (qp r r) (s (kQ r) ?_)))))))))));rcases iv p with ⟨X,p⟩|⟨X,p⟩
 ·rw [sQ X];refine jK r (jK r (jK r (jK r (jK r (s (kF r r) (n (jM r (q (g (s (nk r) (n (kD ?_))))))))))));replace e:=e.Bv Int 3;obtain rfl:=sm p;refine jB r (kH r) ?_;exact ⟨none,0,[],r,e.ad [0] [0]⟩
 rw [tF X];refine ku r (s (mi r) (ku r (s (Bb r) (ku r (s (Qu r (e.bk 0 r) r) (ku r (s (lK Es r) (ku r (s (BF r r) (s (jY r r) (n ?_)))))))))));rcases iv p with ⟨Y,p⟩|⟨Y,p⟩
 ·refine jM (bt Y) (q (g (s (nk r) (n (kD ?_)))));replace e:=e.Bv Int 3;obtain rfl:=sm p;refine jB r (kH r) ?_;exact ⟨none,0,[],r,e.ad [0] [0]⟩
 refine jJ (bf Y) (wk (q (q (g (s (Bb r) (s (Qu r (e.bk 0 r) r) (s (mi r) ?_)))))));obtain ⟨u,z,p⟩:=bs p;obtain ⟨k6,a0,z⟩:=kK z;obtain ⟨ab,a1,e⟩:=e.nm 2 rfl z;obtain ⟨v,x,rfl,N⟩:=a1;replace e:=e.kC (d:=.l v x u) N;refine s (kV Es EJ r r a0 (e.dl 4 r) z) (s (jS Bw r r ((e.dc 1 r) 0 _ r)) (s (lK Bw r) (s (mi r) (n ?_))));replace e:=e.Bv Int 3;have ac:=(e.dl 1 r).bd;obtain ⟨Y8,m,p⟩:=bs p;refine qF (fun f w=>∃ j a b c,Has f [(7,Z a j b)]/\Bx S w au G [O S.heap.size a b 3 Int c] [.els c j,.l v x u]/\Ld.go j=Y8) (fun J8 a2=>?_) ?_
 ·refine o9 (kI (fun aw f w=>∃ t j a b c,aw=u.length - t/\t<=u.length/\Has f [(25,V (t:Int)),(2,V W),(7,Z a j b),(23,Z v u x),(24,V (u.length:Int))]/\Bx S w au G [O S.heap.size a b 3 Int c] [.els c j,.l v x u]/\nT fu W (u.drop t) t j=some Y8) u.length ⟨0,([]:List Int),none,0,[],r,Nat.zero_le _,⟨r,r,r,r,r,y⟩,e.ad [0] [0,1],m⟩ ?_);clear e m;rintro aw f w ⟨t,j,a,b,c,rfl,ae,hf,e,m⟩ K8 J;obtain ⟨av,rfl⟩:=mY hf;rcases Nat.lt_or_ge t u.length with Q | Q
  ·obtain ⟨o,K⟩:=lT (l:=u) Q;rw [l8 K,nT] at m;refine q (g (s (uK r r (by omega)) (n (q (jM r (wk (q (o9 (q (g (s (mi r) (s (kV Bw xR r r r (e.dl 1 r) K) (s (mU [T o.b,V o.c,V o.d,V o.a,.bool o.f,V o.e,V o.g] H6 r xR r r (tC (ds:=[T o.b,V o.c,V o.d,V o.a,.bool o.f,V o.e,V o.g]) (e.dl 1 r) K (fun _ h=>h))) ?_)))))))))))));refine nM (nV e (jX xR)) ?_;rintro _ af ⟨ag,rfl,e⟩;refine s (xi r) (lq (tb e 0 [T o.b,V o.c,V o.d,V o.a,.bool o.f,V o.e,V o.g] r xR r r r r r (show _=#[T o.b,V o.c,V o.d,V o.a,.bool o.f,V o.e,V o.g] from r)) ?_);intro ah e;try dsimp only [List.set] at e
   refine n (q (g (s (VJ r) (s (l3 r (e.bk 0 r) r) (s (mi r) (s (Ja r r) (s (kQ r) ?_)))))));rcases iv m with ⟨L,m⟩|⟨L,m⟩
   ·rw [sQ L];refine ku r (s (mi r) (ku r (s (Nf r) (ku r (s (l3 r (e.bk 0 r) r) (ku r (s (Ja r r) (s (kF r r) (n ?_)))))))));rcases iv m with ⟨M,m⟩|⟨M,m⟩
    ·refine jM (bt M) (g (s (mH r) (s (mi r) (nM (jN e [[V (t:Int)]] ([(t:Int)]:List Int) (zo r) r r (by decide) ⟨r,y⟩) ?_))));rintro _ ai ⟨aj,rfl,e⟩;obtain ⟨a3,R,m⟩:=bs m;refine nM (kN e 2 1 r r qH mV r (by decide) (by decide) (Nat.le_refl _) r r (e.zL 0 0 r r) R) ?_;rintro _ ak ⟨a4,a5,a6,rfl,e⟩;refine s (nk r) (n (g (s (ng r r (by omega) (by omega)) (s (mi r) (n ?_)))));exact J (u.length - (t+1)) _ _ (by omega) ⟨t+1,a3,a4,a5,a6,r,by omega,⟨r,r,r,r,r,y⟩,e.ad [2] [1,2],m⟩
    refine jJ (bf M) (wk (g (s (ng r r (by omega) (by omega)) (s (mi r) (n ?_)))));exact J (u.length - (t+1)) _ _ (by omega) ⟨t+1,j,a,b,c,r,by omega,⟨r,r,r,r,r,y⟩,e.arr [1] r,m⟩
   rw [tF L];refine jK r (jK r (jK r (jK r (s (jY r r) (n (jJ r (wk (g (s (ng r r (by omega) (by omega)) (s (mi r) (n ?_)))))))))));exact J (u.length - (t+1)) _ _ (by omega) ⟨t+1,j,a,b,c,r,by omega,⟨r,r,r,r,r,y⟩,e.arr [1] r,m⟩
  obtain rfl:t=u.length:=by omega
  rw [lM,nT] at m;refine q (g (s (uJ r r (by omega)) (n (q (jJ r (uy ?_))))));exact a2 _ _ ⟨j,a,b,c,⟨r,y⟩,e,sm m⟩
 clear e;rintro f w ⟨j,a,b,c,hf,e,a7⟩;obtain ⟨av,rfl⟩:=mY hf;subst a7;replace p:=gi p;refine q (g (s (mH r) (s (nk r) (n (kD ?_)))));obtain rfl:=sm p;refine jB r (kH r) ?_;exact ⟨a,b,c,r,e.dp [0]⟩
end
abbrev cM (R:Rn) (m:AQ) (n k h o:Nat) (e v:Int):List Value:=[.slice R.s.a1 R.src.a.a.length R.s.c1,.slice R.s.a2 R.src.a.b.length R.s.c2,.slice R.s.a3 R.src.c.length R.s.c3,.slice R.s.a4 R.src.b.length R.s.c4,V (R.st:Int),V (R.fr:Int),V (R.mo:Int),V (h:Int),.slice m.lA n m.lC,.slice m.eA k m.eC,V e,.bool false,V 0,.slice m.oA o m.oC,V v]
abbrev iM (R:Rn) (m:AQ) (n k h o:Nat) (e v:Int):It:=.box R.rb 76 (cM R m n k h o e v).toArray
abbrev sW:=It.uY 103
abbrev Dk:=yB 103
inductive Nk:jA→Prop
 | mk {e:jA} (h:¬ (e.e=0\/e.e=1\/e.e=2\/e.e=3)->e.a.length=if e.e=4\/e.e=5 then 1 else 2) (k:∀ y ∈ e.a,Nk y):Nk e
theorem Nk.h {e:jA} (a:Nk e):¬ (e.e=0\/e.e=1\/e.e=2\/e.e=3)->e.a.length=if e.e=4\/e.e=5 then 1 else 2:=by cases a;assumption
theorem Nk.k {e:jA} (a:Nk e):∀ y ∈ e.a,Nk y:=by cases a;assumption
def Eg {α:Type}:Pn α→Prop
 | .ok _=>True
 | .tV _=>True
 | _=>False
def Pn.vl {α:Type}:Pn α→Int→Int
 | .tV t,_=>t
 | _,v=>v
theorem Fg {o op x y n:Int} {w:World} (ho:wr (o+6)=op) (hn:BG op x y=.ok n):Calls prog 114 #[V o,V x,V y] w (pz fun v w'=>v=V n/\w'=w):=by
 refine cf func114 rfl ?_;refine lu [(0,V o),(1,V x),(2,V y)] ⟨rfl,rfl,rfl,trivial⟩ fun av=>?_;refine go ?_;rw [ho];unfold BG at hn;refine nS rfl (fun h=>?_) (fun h=>?_)
 · rw [if_pos h] at hn;cases hn;refine go ?_;exact kD (jB rfl (kH rfl) ⟨rfl,rfl⟩)
 rw [if_neg h] at hn;refine go ?_;refine nS rfl (fun h=>?_) (fun h=>?_)
 · rw [if_pos h] at hn;cases hn;refine go ?_;exact kD (jB rfl (kH rfl) ⟨rfl,rfl⟩)
 rw [if_neg h] at hn;refine go ?_;refine nS rfl (fun h=>?_) (fun h=>?_)
 · rw [if_pos h] at hn;cases hn;refine go ?_;exact kD (jB rfl (kH rfl) ⟨rfl,rfl⟩)
 rw [if_neg h] at hn;refine go ?_;refine nS rfl (fun h=>?_) (fun h=>?_)
 · rw [if_pos h] at hn;refine go ?_;by_cases hy:y=0
   · rw [if_pos hy] at hn;cases hn
   rw [if_neg hy] at hn;cases hn;rw [decide_eq_false hy];refine go ?_;refine jZ (RL rfl rfl hy) ?_;refine go ?_;exact kD (jB rfl (kH rfl) ⟨rfl,rfl⟩)
 rw [if_neg h] at hn;refine go ?_;refine nS rfl (fun h=>?_) (fun h=>?_)
 · rw [if_pos h] at hn;refine go ?_;by_cases hy:y=0
   · rw [if_pos hy] at hn;cases hn
   rw [if_neg hy] at hn;cases hn;rw [decide_eq_false hy];refine go ?_;refine jZ (P6 rfl rfl hy) ?_;refine go ?_;exact kD (jB rfl (kH rfl) ⟨rfl,rfl⟩)
 rw [if_neg h] at hn;refine go ?_;refine nS rfl (fun h=>?_) (fun h=>?_)
 · rw [if_pos h] at hn;cases hn;refine go ?_;exact kD (jB rfl (kH rfl) ⟨rfl,rfl⟩)
 rw [if_neg h] at hn;refine go ?_;refine nS rfl (fun h=>?_) (fun h=>?_)
 · rw [if_pos h] at hn;cases hn;refine go ?_;exact kD (jB rfl (kH rfl) ⟨rfl,rfl⟩)
 rw [if_neg h] at hn;refine go ?_;refine nS rfl (fun h=>?_) (fun h=>?_)
 · rw [if_pos h] at hn;cases hn;refine go ?_;exact kD (jB rfl (kH rfl) ⟨rfl,rfl⟩)
 rw [if_neg h] at hn;refine go ?_;have hk:∃ b:Bool,n=zT b/\((op=14/\b=decide (x < y))\/(op≠14/\op=15/\b=decide (x<=y))\/(op≠14/\op≠15/\op=16/\b=decide (x=y))\/(op≠14/\op≠15/\op≠16/\op=17/\b=decide (x≠y))):=by
   by_cases h1:op=14
   · rw [if_pos h1] at hn;cases hn;exact ⟨_,rfl,.inl ⟨h1,rfl⟩⟩
   rw [if_neg h1] at hn;by_cases h2:op=15
   · rw [if_pos h2] at hn;cases hn;exact ⟨_,rfl,.inr (.inl ⟨h1,h2,rfl⟩)⟩
   rw [if_neg h2] at hn;by_cases h3:op=16
   · rw [if_pos h3] at hn;cases hn;exact ⟨_,rfl,.inr (.inr (.inl ⟨h1,h2,h3,rfl⟩))⟩
   rw [if_neg h3] at hn;by_cases h4:op=17
   · rw [if_pos h4] at hn;cases hn;exact ⟨_,rfl,.inr (.inr (.inr ⟨h1,h2,h3,h4,rfl⟩))⟩
   rw [if_neg h4] at hn;cases hn
 clear hn;obtain ⟨b,rfl,hk⟩:=hk;refine qF (fun f w'=>w'=w/\Has f [(7,.bool b)]) (fun J hJ=>?_) ?_
 · rcases hk with ⟨h1,rfl⟩|⟨h1,h2,rfl⟩|⟨h1,h2,h3,rfl⟩|⟨h1,h2,h3,h4,rfl⟩
   · rw [decide_eq_true h1];refine go ?_;exact hJ _ _ ⟨rfl,rfl,trivial⟩
   · rw [decide_eq_false h1];refine go ?_;rw [decide_eq_true h2];refine go ?_;exact hJ _ _ ⟨rfl,rfl,trivial⟩
   · rw [decide_eq_false h1];refine go ?_;rw [decide_eq_false h2];refine go ?_;rw [decide_eq_true h3];refine go ?_;exact hJ _ _ ⟨rfl,rfl,trivial⟩
   · rw [decide_eq_false h1];refine go ?_;rw [decide_eq_false h2];refine go ?_;rw [decide_eq_false h3];refine go ?_;rw [decide_eq_true h4];refine go ?_;exact hJ _ _ ⟨rfl,rfl,trivial⟩
 rintro f w1 ⟨rfl,hf⟩;obtain ⟨av,rfl⟩:=mE _ _ hf;clear hf;refine go ?_;cases b with
 | true=>
   refine go ?_;exact kD (jB rfl (kH rfl) ⟨rfl,rfl⟩)
 | false=>
   refine go ?_;exact kD (jB rfl (kH rfl) ⟨rfl,rfl⟩)
section
variable {ρ:Operand->Value} {w:World} {d:Option Nat} {ty:TypeId} {pos:String} {af:Array Edge} {g:Option (Nat × Bool)} {x:Operand} {b o t n j:Nat}
theorem yG (h:ρ x=.pointer (some ⟨b,o,none⟩)) (hj:fT t n=some j) (ht:Nat.blt t 207=true:=by exact rfl) (hn:Nat.blt n 16=true:=by exact rfl):Yl prog ρ (.fieldAddr t x n) d ty pos af g w (.pointer (some ⟨b,o+j,none⟩)):=by
 have h1:=Gl ht;simp only [Bool.and_eq_true] at h1;have h2:=List.all_eq_true.1 h1.1.1 n (List.mem_range.2 (by simpa using hn));rw [hj] at h2;dsimp only at h2;cases hf:fo t n with
 | none=>rw [hf] at h2;cases h2
 | some j'=>
  rw [hf] at h2;have hjj:j'=j:=Nat.eq_of_beq_eq_true h2;subst hjj;unfold fo at hf;cases hu:prog.underlying t with
  | none=>rw [hu] at hf;cases hf
  | some D=>
   rw [hu] at hf;cases D with
   | struct fs=>
    dsimp only at hf;cases hfs:fs[n]? with
    | none=>rw [hfs] at hf;cases hf
    | some fd=>
     rw [hfs] at hf;dsimp only at hf;cases hi:prog.info? fd.type with
     | none=>rw [hi] at hf;cases hf
     | some i=>
      rw [hi] at hf;dsimp only at hf;cases hz:i.zero with
      | none=>rw [hz] at hf;cases hf
      | some z=>
       rw [hz] at hf;cases hs:Nat.beq i.size 0 with
       | true=>rw [hs] at hf;cases hf
       | false=>
        rw [hs] at hf;have ho:fd.offset=j':=Option.some.inj hf;exact TW (k:=j') hu hfs ho ⟨i,hi,hz,rfl,rfl⟩ (fun e=>by rw [e] at hs;cases hs) h
   | _=>cases hf
theorem yK {t':TypeId} {cs:Array Value} {v:Value} (h:ρ x=.pointer (some ⟨b,o,none⟩)) (hb:nH w b t' cs) (hi:cs[o]?=some v) (hs:scB t=true) (ht:Nat.blt t 207=true:=by exact rfl):Yl prog ρ (.load t x) d ty pos af g w v:=by
 have h1:=Gl ht;simp only [Bool.and_eq_true] at h1;have h2:=h1.1.2;rw [hs,Bool.not_true,Bool.false_or] at h2;cases hu:prog.underlying t with
 | none=>rw [hu] at h2;cases h2
 | some D=>
  rw [hu] at h2;exact jS hu (by simpa using h2) h (hb.cell hi)
end
theorem KM {ev:jA->Option (Pn Int)} {ws:List (List Int)} {e:jA} {q:Pn (Nat × Nat)} (h:M7 ev ws e=some q) (hq:Eg q) :∃ (k:Nat) (l:List Int),e.g=(k:Int)/\ws[k]?=some l/\((e.e=2/\∃ j:Nat,e.d=(j:Int)/\j < l.length/\q=.ok (k,j))\/(e.e=3/\∃ y r p,e.a=y :: r/\ev y=some p/\Eg p/\((∃ t,p=.tV t/\q=.tV t)\/(∃ n,p=.ok n/\(n < 0\/(l.length:Int)<=n)/\q=.tV 2)\/(∃ j:Nat,p=.ok (j:Int)/\j < l.length/\q=.ok (k,j))))\/(e.e≠2/\e.e≠3/\0 < l.length/\q=.ok (k,0))):=by
 unfold M7 at h;cases hl:ix? ws e.g with
 | none=>rw [hl] at h;cases h;exact hq.elim
 | some l=>
  rw [hl] at h;obtain ⟨k,hk,hl⟩:=PK hl;refine ⟨k,l,hk,hl,?_⟩;dsimp only at h;by_cases h2:e.e=2
  · rw [if_pos h2] at h;by_cases hn:0<=e.d/\e.d < l.length
    · rw [if_pos hn] at h;cases h;exact .inl ⟨h2,e.d.toNat,by omega,by omega,by rw [hk];rfl⟩
    · rw [if_neg hn] at h;cases h;exact hq.elim
  rw [if_neg h2] at h;by_cases h3:e.e=3
  · rw [if_pos h3] at h;cases hA:e.a with
    | nil=>rw [hA] at h;cases h;exact hq.elim
    | cons y r=>
      rw [hA] at h;obtain ⟨p,hp,h⟩:=bs h;refine .inr (.inl ⟨h3,y,r,p,rfl,hp,?_⟩);cases p with
      | ok n=>
       refine ⟨trivial,.inr ?_⟩;have h:=Option.some.inj h;by_cases hn:n < 0\/(l.length:Int)<=n
       · rw [if_pos hn] at h;exact .inl ⟨n,rfl,hn,h.symm⟩
       · rw [if_neg hn] at h;refine .inr ⟨n.toNat,?_,by omega,?_⟩
         · rw [show ((n.toNat:Nat):Int)=n by omega]
         · rw [<-h,hk];rfl
      | tV t=>cases h;exact ⟨trivial,.inl ⟨t,rfl,rfl⟩⟩
      | err t=>cases h;exact hq.elim
      | rt=>cases h;exact hq.elim
  rw [if_neg h3] at h;have h:=Option.some.inj h;by_cases hl0:l=[]
  · rw [if_pos hl0] at h;subst h;exact hq.elim
  · rw [if_neg hl0] at h;exact .inr (.inr ⟨h2,h3,by cases l with | nil=>exact absurd rfl hl0 | cons=>simp,by rw [<-h,hk];rfl⟩)
end Go.Proofs.YtfglbdkfnphjgaaGreat
