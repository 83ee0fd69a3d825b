/- A statement. -/
import Derived.Test.YtfglbdkfnphjgaaZ23
import Derived.Test.YtfglbdkfnphjgaaZ5
import Derived.Test.YtfglbdkfnphjgaaLa
set_option linter.unusedVariables false
set_option maxRecDepth 4000
set_option maxHeartbeats 12800000
namespace Go.Proofs.Ytfglbdkfnphjgaa
open Go.RowKit Go.Fw
theorem Ju {fu fv:Nat} {R:Rn} (hR:U6 R) (ih:YD R (stM (jJ fv R.src) R.src R.st fu)):YD R (stM (jJ fv R.src) R.src R.st (fu+1)):=by
 have hLs:VZ R (stM (jJ fv R.src) R.src R.st fu):=Nc ih
 have hCl:YH R (stM (jJ fv R.src) R.src R.st fu):=ND hLs
 have hTr:Z6 R (stM (jJ fv R.src) R.src R.st fu):=UQ hLs (MB hLs)
 intro w A m ptrs x s s' xs gs y a7 c7 a10 c10 a11 c11 a12 c12 p hr0 hm
 obtain ⟨hP,hl,hB,hp,hn⟩:=hr0
 have b:=hP.bx
 clear hP
 unfold Ok Pk
 generalize hG:lT (Ih R m ptrs x s)=G at b hl ⊢
 refine vX Try.func75 rfl ?_
 refine lK [(0,Pt R.rb),(1,Pt x.b),(2,.agg (cS y a7 c7 a10 c10 a11 c11 a12 c12).toArray)] ⟨rfl,rfl,rfl,trivial⟩ fun av=>?_
 rw [stM] at hm
 obtain ⟨⟨pe,s1⟩,he,hm⟩:=bs hm
 refine Jb (zW ?_)
 refine tu b (y5 rfl) fun w1 b5 b=>?_
 refine goC b ?_
 refine XT hR b hl hB hp hn he rfl rfl rfl (fun f ch w' m' hq hb=>?_) (fun w2 m1 hpe b=>?_)
 · cases pe with
   | ok u=>exact hq.elim
   | _=>cases hm;exact ⟨hq,[],m',by rw [List.append_nil];exact hb⟩
 subst hpe
 dsimp only at hm
 clear he
 refine goC b ?_
 refine lK [(0,Pt R.rb),(1,Pt x.b),(5,Pt b5),(18,V y.c),(19,.bool (decide (y.c=1)))] ⟨rfl,rfl,rfl,rfl,rfl,trivial⟩ fun av=>?_
 refine qF rfl (fun h=>?_) (fun h=>?_)
 · rw [if_pos h] at hm
   refine goC b ?_
   refine uW (fun u=>nA u b5 111 (cS y a7 c7 a10 c10 a11 c11 a12 c12).toArray) (fun u=>(It.act x s1.a).p u) [8] (by kernel_rfl) ?_
   replace b:=b.drew
   have q1:nA w2.drew b5 111 (cS y a7 c7 a10 c10 a11 c11 a12 c12).toArray:=b.bk 0 rfl
   have q2:(It.act x s1.a).p w2.drew:=b.at 5 rfl
   refine pL 0 r (vP r) q1 q2 (pL 1 r (xn r) q1 q2 (pL 2 r (Dl r) q1 q2 (tS 9 3 r (fun _ h=>Nr r (It.zh h) r) (mI q1 q2) (pL 4 r (Nh r) q1 q2 (tU 5 r (fun _ h=>JX r h r) (mI q1 q2) ?_)))))
   cases hv:ix? s1.a.ws y.g with
   | none=>
     rw [hv] at hm
     cases hm
     refine hO 6 (Lg r Try.underlying118 r r (Am hv) fun u w3 hw f=>⟨⟨u,xE _⟩,[],m1,?_⟩)
     rw [List.append_nil]
     exact YF ((b.arr [1,2,3,4,5] rfl).dp [4,5,6,7,8,9]) hw
   | some row=>
   rw [hv] at hm
   obtain ⟨k,hk,hrow⟩:=Ua hv
   obtain ⟨r0,hr0,hB0,hA0,hcell⟩:=It.zN q2 hrow
   refine tS 9 6 r (fun _ h=>Lm k hA0 Try.underlying118 AZ r r hk (kI hrow)) (mI q1 q2) ?_
   refine tS 9 7 r (fun _ h=>jT (a:=⟨nS x.A,pE x.A+k * 1,none⟩) Try.underlying22 rfl r (FD h hr0 hrow)) (mI q1 q2) ?_
   refine hO 8 (oo r r (U4 b 5 r hr0 hrow r) ?_)
   rintro _ w3 b
   refine ⟨sy 8 (b.bk 0 rfl),hD ?_⟩
   cases hm
   have hkn:k=y.g.toNat:=by omega
   subst hkn
   refine go ?_
   refine kT ?_
   refine qj (fn:=Try.f75) rfl (lq rfl) (lq rfl) ?_
   exact ⟨none,rfl,rfl,m1,(b.arr [1,2,3,4,5] rfl).dp [4,5,6,7,8,9]⟩
 rw [if_neg h] at hm
 refine goC b ?_
 refine qF rfl (fun h=>?_) (fun h=>?_)
 · rw [if_pos h] at hm
   obtain ⟨q,hq,hm⟩:=Kq hm
   refine goC b ?_
   refine Xq b 5 0 rfl rfl hq rfl rfl (fun _ _=>rfl) (fun _ _=>rfl) (fun f ch w' hb b=>?_) (fun k o r0 row w3 α β hqk hr0 hrow ho b=>?_)
   · rcases hm with ⟨n,rfl,_⟩|⟨_,rfl,rfl⟩
     · exact hb.elim
     · exact ⟨hb.up,[],m1,by rw [List.append_nil];exact (b.arr [1,2,3,4,5] rfl).dp [4,5,6,7,8,9]⟩
   subst hqk
   rcases hm with ⟨n,hn1,hm⟩|⟨h1,_⟩
   rotate_left
   · exact (h1 _ rfl).elim
   cases hn1
   obtain ⟨q,hq,hm⟩:=Dy hm
   refine goC b ?_
   refine eArg b 5 1 rfl rfl hq rfl rfl (fun _ _=>rfl) (fun _ _=>rfl) (fun f ch w' hb b=>?_) (fun n w4 α β hqn b=>?_)
   · rcases hm with ⟨n,rfl,_⟩|⟨_,rfl,rfl⟩
     · exact hb.elim
     · exact ⟨hb.up,[],m1,by rw [List.append_nil];exact (b.arr [1,2,3,4,5] rfl).dp [4,5,6,7,8,9]⟩
   subst hqn
   rcases hm with ⟨n,hn1,hm⟩|⟨h1,_⟩
   rotate_left
   · exact (h1 _ rfl).elim
   cases hn1
   cases hm
   refine goC b ?_
   refine lg (JO b 5 rfl hr0 hrow ho rfl rfl) fun w5 b=>?_
   refine go ?_
   refine kT ?_
   refine qj (fn:=Try.f75) rfl (lq rfl) (lq rfl) ?_
   exact ⟨none,rfl,rfl,m1,(b.arr [1,2,3,4,5] rfl).dp [4,5,6,7,8,9]⟩
 rw [if_neg h] at hm
 refine goC b ?_
 refine qF rfl (fun h=>?_) (fun h=>?_)
 · rw [if_pos h] at hm
   unfold CZ at hm
   obtain ⟨q,hq,hm⟩:=bs hm
   refine goC b ?_
   refine uW (fun u=>nA u b5 111 (cS y a7 c7 a10 c10 a11 c11 a12 c12).toArray) (fun _=>True) [] (by kernel_rfl) ?_
   replace b:=b.drew
   have q1:nA w2.drew b5 111 (cS y a7 c7 a10 c10 a11 c11 a12 c12).toArray:=b.bk 0 rfl
   refine pF 0 r (vP r) q1 (pF 1 r (NK r) q1 (uF 2 r (fun h=>JX r h r) q1 (pF 3 r (vP r) q1 (pF 4 r (vP r) q1 (pF 5 r (CS r) q1 (uF 6 r (fun h=>Nz r h r) q1 ?_))))))
   refine hO 7 (O1 r r (ql OW rfl) (cVal b 1 rfl hq) (fun ch w3 hb f=>?_) ?_)
   · obtain ⟨hb,b⟩:=hb
     cases q with
     | ok l=>exact hb.elim
     | _=>cases hm;exact ⟨hb,[],m1,by rw [List.append_nil];exact (b.arr [1,2,3,4,5] rfl).dp [4,5,6,7,8,9]⟩
   rintro _ w3 ⟨ns,A1,c1,rfl,rfl,b⟩
   dsimp only at hm
   obtain ⟨⟨q,h1,o1⟩,hq2,hm⟩:=bs hm
   refine ⟨sF (b.bk 0 rfl),?_⟩
   refine hO 8 (O1 r r (ql OT rfl) (XA hCl b hl hB hp hn hq2) (fun ch w4 hb f=>?_) ?_)
   · obtain ⟨hb,more,m5,b⟩:=hb
     cases q with
     | ok l=>exact hb.elim
     | _=>cases hm;exact ⟨hb,more,m5,b⟩
   rintro _ w4 ⟨n,m5,rfl,rfl,b⟩
   refine ⟨sF (b.bk 0 rfl),pF 9 r (Pg r) (b.bk 0 rfl) (hD ?_)⟩
   dsimp only at hm
   refine goC b ?_
   refine qF rfl (fun h0=>?_) (fun h0=>?_)
   · rw [if_neg (by omega)] at hm
     obtain ⟨q,hq,hm⟩:=Kq hm
     refine goC b ?_
     refine Xq b 5 0 rfl rfl hq rfl rfl (fun _ _=>rfl) (fun _ _=>rfl) (fun f ch w' hb b=>?_) (fun k o r0 row w5 α β hqk hr0 hrow ho b=>?_)
     · rcases hm with ⟨n,rfl,_⟩|⟨_,rfl,rfl⟩
       · exact hb.elim
       · exact ⟨hb.up,[],m5,by rw [List.append_nil];exact (b.arr [1,2,3,4,5] rfl).dp [4,5,6,7,8,9]⟩
     subst hqk
     rcases hm with ⟨n,hn1,hm⟩|⟨h1,_⟩
     rotate_left
     · exact (h1 _ rfl).elim
     cases hn1
     cases hm
     refine goC b ?_
     refine lg (JO b 5 rfl hr0 hrow ho rfl rfl) fun w5 b=>?_
     refine go ?_
     refine kT ?_
     refine qj (fn:=Try.f75) rfl (lq rfl) (lq rfl) ?_
     exact ⟨none,rfl,rfl,m5,(b.arr [1,2,3,4,5] rfl).dp [4,5,6,7,8,9]⟩
   · rw [if_pos (by omega)] at hm
     cases hm
     refine go ?_
     refine kT ?_
     refine qj (fn:=Try.f75) rfl (lq rfl) (lq rfl) ?_
     exact ⟨none,rfl,rfl,m5,(b.arr [1,2,3,4,5] rfl).dp [4,5,6,7,8,9]⟩
 rw [if_neg h] at hm
 refine goC b ?_
 refine qF rfl (fun h=>?_) (fun h=>?_)
 · rw [if_pos h] at hm
   obtain ⟨q,hq,hm⟩:=Dy hm
   refine goC b ?_
   refine eArg b 5 1 rfl rfl hq rfl rfl (fun _ _=>rfl) (fun _ _=>rfl) (fun f ch w' hb b=>?_) (fun n w4 α β hqn b=>?_)
   · rcases hm with ⟨n,rfl,_⟩|⟨_,rfl,rfl⟩
     · exact hb.elim
     · exact ⟨hb.up,[],m1,by rw [List.append_nil];exact (b.arr [1,2,3,4,5] rfl).dp [4,5,6,7,8,9]⟩
   subst hqn
   rcases hm with ⟨n,hn1,hm⟩|⟨h1,_⟩
   rotate_left
   · exact (h1 _ rfl).elim
   cases hn1
   refine goC b ?_
   refine qF rfl (fun h0=>?_) (fun h0=>?_)
   · rw [if_pos h0] at hm
     refine goC b ?_
     refine Vq hLs b hl hB hp hn 2 hm rfl rfl rfl rfl (fun f ch w' m' more hb b=>⟨hb,more,m',b⟩) (fun o w5 m5 hpo b=>?_)
     refine goC b ?_
     refine kT ?_
     refine qj (fn:=Try.f75) rfl (lq rfl) (lq rfl) ?_
     exact ⟨o,hpo,rfl,m5,(b.arr [1,2,3,4,5] rfl).dp [4,5,6,7,8,9]⟩
   · rw [if_neg h0] at hm
     refine goC b ?_
     refine Vq hLs b hl hB hp hn 3 hm rfl rfl rfl rfl (fun f ch w' m' more hb b=>⟨hb,more,m',b⟩) (fun o w5 m5 hpo b=>?_)
     refine goC b ?_
     refine kT ?_
     refine qj (fn:=Try.f75) rfl (lq rfl) (lq rfl) ?_
     exact ⟨o,hpo,rfl,m5,(b.arr [1,2,3,4,5] rfl).dp [4,5,6,7,8,9]⟩
 rw [if_neg h] at hm
 refine goC b ?_
 refine qF rfl (fun h=>?_) (fun h=>?_)
 · rw [if_pos h] at hm
   refine goC b ?_
   refine kM (fun aw f w'=>∃ (s2:Sg) (m2:Fa),Has f [(0,Pt R.rb),(1,Pt x.b),(5,Pt b5)]∧
       Bx w w' A G (.box b5 111 (cS y a7 c7 a10 c10 a11 c11 a12 c12).toArray :: Ih R m2 ptrs x s2) (dS y a7 c7 a10 c10 a11 c11 a12 c12 ++ tZ R m2 s2.hist s2.out)∧
       TM (fun s=>YB (CG fu s.a.ws) y.a) (fun s=>Gy (stM (jJ fv R.src) R.src R.st fu gs) s y.e) (fun s=>event (jJ fv R.src) R.st gs s y.n) aw s2=some (p,s'))
     fu ⟨s1,m1,⟨rfl,rfl,rfl,trivial⟩,b,hm⟩ ?_
   clear b hm
   rintro aw f w3 ⟨s2,m2,hf,b,hm⟩ J hJ
   obtain ⟨av,rfl⟩:=iA _ _ hf
   clear hf
   cases aw with
   | zero=>cases hm
   | succ aw=>
   rw [TM] at hm
   obtain ⟨q,hq,hm⟩:=bs hm
   refine goC b ?_
   refine eArg b 5 1 rfl rfl hq rfl rfl (fun _ _=>rfl) (fun _ _=>rfl) (fun f ch w' hb b=>?_) (fun n w4 α β hqn b=>?_)
   · cases q with
     | ok n=>exact hb.elim
     | _=>cases hm;exact ⟨hb,[],m2,by rw [List.append_nil];exact (b.arr [1,2,3,4,5] rfl).dp [4,5,6,7,8,9]⟩
   subst hqn
   dsimp only at hm
   refine goC b ?_
   refine qF rfl (fun h0=>?_) (fun h0=>?_)
   · rw [if_neg h0] at hm
     obtain ⟨⟨q,s3⟩,hq,hm⟩:=bs hm
     refine goC b ?_
     refine Vq hLs b hl hB hp hn 2 hq rfl rfl rfl rfl (fun f ch w' m' more hb b=>?_) (fun o w5 m5 hpo b=>?_)
     · cases q with
       | ok n=>exact hb.elim
       | _=>cases hm;exact ⟨hb,more,m',b⟩
     subst hpo
     cases o with
     | none=>
       dsimp only at hm
       refine kU (GR (.tuple #[V 0,.bool false]) rfl) ?_
       obtain ⟨⟨q,s4⟩,hq,hm⟩:=bs hm
       refine goC b ?_
       refine XT hR b hl hB hp hn hq rfl rfl rfl (fun f ch w' m' hb b=>?_) (fun w6 m6 hpe b=>?_)
       · cases q with
         | ok u=>exact hb.elim
         | _=>cases hm;exact ⟨hb,[],m',by rw [List.append_nil];exact b⟩
       subst hpe
       dsimp only at hm
       refine go ?_
       exact hJ aw _ _ (by omega) ⟨s4,m6,⟨rfl,rfl,rfl,trivial⟩,b,hm⟩
     | some v=>
       cases hm
       refine kU (GR (.tuple #[V v,.bool true]) rfl) ?_
       refine go ?_
       refine kT ?_
       refine qj (fn:=Try.f75) rfl (lq rfl) (lq rfl) ?_
       exact ⟨some v,rfl,rfl,m5,(b.arr [1,2,3,4,5] rfl).dp [4,5,6,7,8,9]⟩
   · have h0:n=0:=Decidable.not_not.1 h0
     rw [if_pos h0] at hm
     cases hm
     refine go ?_
     refine tT ?_
     refine go ?_
     refine kT ?_
     refine qj (fn:=Try.f75) rfl (lq rfl) (lq rfl) ?_
     exact ⟨none,rfl,rfl,m2,(b.arr [1,2,3,4,5] rfl).dp [4,5,6,7,8,9]⟩
 rw [if_neg h] at hm
 refine goC b ?_
 refine qF rfl (fun h=>?_) (fun h=>?_)
 · rw [if_pos h] at hm
   refine goC b ?_
   refine kU (Jh rfl rfl) ?_
   refine go ?_
   refine qF (p:=y.j≠be) rfl (fun hf=>?_) (fun hf=>?_)
   · rw [if_pos hf] at hm
     unfold CZ at hm
     obtain ⟨q,hq,hm⟩:=bs hm
     refine goC b ?_
     refine uW (fun u=>nA u b5 111 (cS y a7 c7 a10 c10 a11 c11 a12 c12).toArray) (fun _=>True) [] (by kernel_rfl) ?_
     replace b:=b.drew
     have q1:nA w2.drew b5 111 (cS y a7 c7 a10 c10 a11 c11 a12 c12).toArray:=b.bk 0 rfl
     refine pF 0 r (vP r) q1 (pF 1 r (NK r) q1 (uF 2 r (fun h=>JX r h r) q1 (pF 3 r (vP r) q1 (pF 4 r (vP r) q1 (pF 5 r (CS r) q1 (uF 6 r (fun h=>Nz r h r) q1 ?_))))))
     refine hO 7 (O1 r r (ql OW rfl) (cVal b 1 rfl hq) (fun ch w3 hb f=>?_) ?_)
     · obtain ⟨hb,b⟩:=hb
       cases q with
       | ok l=>exact hb.elim
       | _=>cases hm;exact ⟨hb,[],m1,by rw [List.append_nil];exact (b.arr [1,2,3,4,5] rfl).dp [4,5,6,7,8,9]⟩
     rintro _ w3 ⟨ns,A1,c1,rfl,rfl,b⟩
     dsimp only at hm
     obtain ⟨⟨q,h1,o1⟩,hq2,hm⟩:=bs hm
     refine ⟨sF (b.bk 0 rfl),?_⟩
     refine hO 8 (O1 r r (ql OT rfl) (XA hCl b hl hB hp hn hq2) (fun ch w4 hb f=>?_) ?_)
     · obtain ⟨hb,more,m5,b⟩:=hb
       cases q with
       | ok l=>exact hb.elim
       | _=>cases hm;exact ⟨hb,more,m5,b⟩
     rintro _ w4 ⟨n,m5,rfl,rfl,b⟩
     refine ⟨sF (b.bk 0 rfl),pF 9 r (Pg r) (b.bk 0 rfl) (pF 10 r (kC r) (b.bk 0 rfl) (hD ?_))⟩
     cases hm
     refine go ?_
     refine kT ?_
     refine qj (fn:=Try.f75) rfl (lq rfl) (lq rfl) ?_
     exact ⟨some n,rfl,rfl,m5,(b.arr [1,2,3,4,5] rfl).dp [4,5,6,7,8,9]⟩
   · rw [if_neg hf] at hm
     obtain ⟨q,hq,hm⟩:=Dy hm
     refine goC b ?_
     refine eArg b 5 1 rfl rfl hq rfl rfl (fun _ _=>rfl) (fun _ _=>rfl) (fun f ch w' hb b=>?_) (fun n w4 α β hqn b=>?_)
     · rcases hm with ⟨n,rfl,_⟩|⟨_,rfl,rfl⟩
       · exact hb.elim
       · exact ⟨hb.up,[],m1,by rw [List.append_nil];exact (b.arr [1,2,3,4,5] rfl).dp [4,5,6,7,8,9]⟩
     subst hqn
     rcases hm with ⟨n,hn1,hm⟩|⟨h1,_⟩
     rotate_left
     · exact (h1 _ rfl).elim
     cases hn1
     cases hm
     refine go ?_
     refine kT ?_
     refine qj (fn:=Try.f75) rfl (lq rfl) (lq rfl) ?_
     exact ⟨some n,rfl,rfl,m1,(b.arr [1,2,3,4,5] rfl).dp [4,5,6,7,8,9]⟩
 rw [if_neg h] at hm
 refine goC b ?_
 refine qF rfl (fun h=>?_) (fun h=>?_)
 · rw [if_pos h] at hm
   obtain ⟨q,hq,hm⟩:=Dy hm
   refine goC b ?_
   refine eArg b 5 1 rfl rfl hq rfl rfl (fun _ _=>rfl) (fun _ _=>rfl) (fun f ch w' hb b=>?_) (fun n w4 α β hqn b=>?_)
   · rcases hm with ⟨n,rfl,_⟩|⟨_,rfl,rfl⟩
     · exact hb.elim
     · exact ⟨hb.up,[],m1,by rw [List.append_nil];exact (b.arr [1,2,3,4,5] rfl).dp [4,5,6,7,8,9]⟩
   subst hqn
   rcases hm with ⟨n,hn1,hm⟩|⟨h1,_⟩
   rotate_left
   · exact (h1 _ rfl).elim
   cases hn1
   cases hm
   refine kU (I6 Ri rfl) ?_
   exact zU rfl ⟨xE _,[],m1,by rw [List.append_nil];exact (b.arr [1,2,3,4,5] rfl).dp [4,5,6,7,8,9]⟩
 rw [if_neg h] at hm
 refine goC b ?_
 refine qF rfl (fun h=>?_) (fun h=>?_)
 · rw [if_pos h] at hm
   refine goC b ?_
   refine kU (ng (cS y a7 c7 a10 c10 a11 c11 a12 c12) lW jQ rfl (b.bk 0 rfl)) ?_
   have hr:Qh w2 (CJ w A (pick _ [1,2,3,4,5] ++ pick _ [0])) R m1 ptrs x s1 xs gs (dS y a7 c7 a10 c10 a11 c11 a12 c12):=⟨b.pr [1,2,3,4,5] [0] [0,1,2,3,4,5,6,7,8,9] rfl,AL b hl (fun it hi=>List.mem_cons_of_mem _ hi),Nat.le_trans hB b.rD.size,hp,hn⟩
   have hc:=hTr hr hm
   clear hr
   refine Jg (ql TW rfl) hc (fun ch w4 hq=>?_) ?_
   · obtain ⟨hq,more,m5,hK⟩:=hq
     have hb:=b.cn [1,2,3,4,5] [0] hK
     exact ⟨hq,more,m5,(hb.arr [0,1,2,3,4] rfl).dp [0,1,2,3,4,5]⟩
   rintro _ w4 ⟨o,rfl,rfl,m5,hK⟩
   replace b:=b.cn [1,2,3,4,5] [0] hK
   refine go ?_
   refine kT ?_
   refine qj (fn:=Try.f75) rfl (lq rfl) (lq rfl) ?_
   exact ⟨o,rfl,rfl,m5,(b.arr [0,1,2,3,4] rfl).dp [0,1,2,3,4,5]⟩
 rw [if_neg h] at hm
 refine goC b ?_
 refine qF rfl (fun h=>?_) (fun h=>?_)
 · rw [if_pos h] at hm
   obtain ⟨q,hq,hm⟩:=Dy hm
   refine goC b ?_
   cases hA:y.a with
   | nil=>
     rw [hA] at hq
     cases hq
     rcases hm with ⟨n,h1,_⟩|⟨_,rfl,rfl⟩
     · cases h1
     refine uW (fun u=>nA u b5 111 (cS y a7 c7 a10 c10 a11 c11 a12 c12).toArray) (fun u=>nA u R.rb 89 (oP R m1 ptrs.length (window s'.hist R.fr R.mo).length s'.hist.length s'.out.length).toArray) [16] (by kernel_rfl) ?_
     replace b:=b.drew
     have q1:nA w2.drew b5 111 (cS y a7 c7 a10 c10 a11 c11 a12 c12).toArray:=b.bk 0 rfl
     have q2:nA w2.drew R.rb 89 (oP R m1 ptrs.length (window s'.hist R.fr R.mo).length s'.hist.length s'.out.length).toArray:=b.bk 1 rfl
     refine pL 0 r (vP r) q1 q2 (pL 1 r (vP r) q1 q2 (pL 2 r (xn r) q1 q2 (pL 3 r (IJ r) q1 q2 (tS 17 4 r (fun _ h=>VN r h r) (mI q1 q2) (pL 5 r (vP r) q1 q2 (pL 6 r (vP r) q1 q2 (pL 7 r (CS r) q1 q2 (tU 8 r (fun _ h=>Nz r h r) (mI q1 q2) ?_))))))))
     refine hO 9 (Lg (n:=y.a.length) (a:=a10) (c:=c10) r Try.underlying109 r r (by rw [hA];simp) fun u w3 hw f=>⟨⟨u,xE _⟩,[],m1,?_⟩)
     rw [List.append_nil]
     exact YF ((b.arr [1,2,3,4,5] rfl).dp [4,5,6,7,8,9]) hw
   | cons e l=>
     rw [hA] at hq
     have hk:y.a[0]?=some e:=by rw [hA];rfl
     obtain ⟨cs,hre,b⟩:=b.nm 1 rfl hk
     obtain ⟨a2,c2,rfl,hd⟩:=jB.out hre
     replace b:=b.ku (d:=.l a2 c2 e.a) hd
     refine uW (fun u=>nA u b5 111 (cS y a7 c7 a10 c10 a11 c11 a12 c12).toArray∧Cells u (nS a10) (pE a10+0 * 6) (cE e a2 c2)) (fun u=>nA u R.rb 89 (oP R m1 ptrs.length (window s1.hist R.fr R.mo).length s1.hist.length s1.out.length).toArray) [16] (by kernel_rfl) ?_
     replace b:=b.drew
     have q1:nA w2.drew b5 111 (cS y a7 c7 a10 c10 a11 c11 a12 c12).toArray∧Cells w2.drew (nS a10) (pE a10+0 * 6) (cE e a2 c2):=⟨b.bk 0 rfl,b.dc 1 rfl⟩
     have q2:nA w2.drew R.rb 89 (oP R m1 ptrs.length (window s1.hist R.fr R.mo).length s1.hist.length s1.out.length).toArray:=b.bk 1 rfl
     refine pL 0 r (vP r) q1 q2 (pL 1 r (vP r) q1 q2 (pL 2 r (xn r) q1 q2 (pL 3 r (IJ r) q1 q2 (tS 17 4 r (fun _ h=>VN r h r) (mI q1 q2) (pL 5 r (vP r) q1 q2 (pL 6 r (vP r) q1 q2 (pL 7 r (CS r) q1 q2 (tU 8 r (fun _ h=>Nz r h.1 r) (mI q1 q2) ?_))))))))
     refine pL 9 r (kW Try.underlying109 jU r r rfl (b.dl 3 rfl) hk) q1 q2 (tU 10 r (fun _ h=>nN (cE e a2 c2) Try.underlying138 rfl jU r r h.2) (mI q1 q2) ?_)
     refine hO 11 (O1 r r (ql Bn rfl) (Ij fu (b.pr [] [] [0] rfl) (b.at 5 rfl) hq) (fun ch w3 hb f=>?_) ?_)
     · obtain ⟨hb,hx⟩:=hb
       rcases hm with ⟨n,rfl,_⟩|⟨_,rfl,rfl⟩
       · exact hb.elim
       · exact ⟨hb.up,[],m1,by rw [List.append_nil];exact (((b.ext hx).arr [1,2,3,4,5] rfl).dp [6,7,8,9,10,11])⟩
     rintro _ w3 ⟨n,rfl,rfl,hx⟩
     replace b:=b.ext hx
     rcases hm with ⟨n',hn1,hm⟩|⟨h1,_⟩
     rotate_left
     · exact (h1 _ rfl).elim
     cases hn1
     obtain ⟨o2,ho2,hm⟩:=bs hm
     cases hm
     refine ⟨mI ⟨b.bk 0 rfl,b.dc 1 rfl⟩ (b.bk 1 rfl),?_⟩
     refine hO 12 (oo r r (jP b [[V n]] ([n]:List Int) (Ah r) r r (by decide) ⟨r,trivial⟩) ?_)
     rintro _ w4 ⟨b9,rfl,b⟩
     refine ⟨mI ⟨b.bk 1 rfl,b.dc 2 rfl⟩ (b.bk 2 rfl),?_⟩
     refine hO 13 (oo r r (kP b 5 8 r r ug nO r (by decide) (by decide) hB r r (b.zP 0 0 r r) ho2) ?_)
     rintro _ w5 ⟨A2,c2',cs2,rfl,b⟩
     refine ⟨mI ⟨b.bk 1 rfl,b.dc 2 rfl⟩ (b.bk 2 rfl),pL 14 r (xn r) ⟨b.bk 1 rfl,b.dc 2 rfl⟩ (b.bk 2 rfl) (pL 15 r (IJ r) ⟨b.bk 1 rfl,b.dc 2 rfl⟩ (b.bk 2 rfl) ?_)⟩
     refine hO 16 (os r r (t_n b 2 [.slice A2 o2.length c2'] r AZ r r) fun w6 b=>⟨sy 16 ⟨b.bk 1 rfl,b.dc 2 rfl⟩,hD ?_⟩)
     refine go ?_
     refine kT ?_
     refine qj (fn:=Try.f75) rfl (lq rfl) (lq rfl) ?_
     exact ⟨none,rfl,rfl,{ m1 with oA:=A2,oC:=c2',oc:=cs2 },(b.arr [2,3,4,5,6] rfl).dp [7,8,9,10,11,12]⟩
 rw [if_neg h] at hm
 refine goC b ?_
 refine qF rfl (fun h=>?_) (fun h=>?_)
 · rw [if_pos h] at hm
   cases hm
   refine go ?_
   refine kT ?_
   refine qj (fn:=Try.f75) rfl (lq rfl) (lq rfl) ?_
   exact ⟨some 0,rfl,rfl,m1,(b.arr [1,2,3,4,5] rfl).dp [4,5,6,7,8,9]⟩
 rw [if_neg h] at hm
 cases hm
 refine go ?_
 refine kT ?_
 refine qj (fn:=Try.f75) rfl (lq rfl) (lq rfl) ?_
 exact ⟨none,rfl,rfl,m1,(b.arr [1,2,3,4,5] rfl).dp [4,5,6,7,8,9]⟩
theorem cst {fv:Nat} {R:Rn} (hR:U6 R):∀ fu,YD R (stM (jJ fv R.src) R.src R.st fu)
 | 0=>by
  intro _ h
  cases h
 | fu+1=>Ju hR (cst hR fu)
end Go.Proofs.Ytfglbdkfnphjgaa
set_option linter.unusedVariables false
set_option maxHeartbeats 12800000
set_option linter.unusedSimpArgs false
set_option maxRecDepth 4000
namespace Go.Proofs.Ytfglbdkfnphjgaa
open Go.RowKit Go.Fw
noncomputable section
def Ew (m:jO→Int→(List Int)→Int→Int→Int→Option ((List kR) × rG)):Prop:=∀ {A:World} {H:Nat→Prop} {x:jO} {C:Int} {B:(List Int)} {D:Int} {E:Int} {F:Int} {a:Option Addr} {b:Nat} {c:Option Addr} {d:Nat} {e:Option Addr} {f:Nat} {h:Option Addr} {i:Nat} {j:Option Addr} {k:Nat} {R:(List kR) × rG},Pre A H [] [.l a b x.a.a,.l c d x.a.b,.l e f x.c,.l h i x.b,.l j k B]→m x C B D E F=some R→
 Calls Try.prog 17 #[.agg #[Z a x.a.a b,Z c x.a.b d,Z e x.c f,Z h x.b i],V C,Z j B k,V D,V E,V F] A (qW fun v w=>jy R fun G z=>∃ (o:OA)(p:Nat)(t:OA)(u:Nat),v=.tuple #[Z o G p,.agg #[V z.d,.bool z.b,V z.c,Z t z.a u]]∧Bx A w H (lT []) [] [.l o p G,.l t u z.a])
end
end Go.Proofs.Ytfglbdkfnphjgaa
set_option linter.unusedVariables false
set_option maxRecDepth 4000
set_option maxHeartbeats 12800000
namespace Go.Proofs.Ytfglbdkfnphjgaa
open Go.RowKit Go.Fw
noncomputable def oz (fu:Nat) (s:jO) (f:Int) (args:List Int) (n fr mo:Int):Option (List kR × rG):=traceM fu (jJ fu s) s f args n fr mo
abbrev VR (R:Rn) (b12 b13 b14:Nat) (e:Value) (o:List Value):List It:=[.box b12 36 #[e],.box b13 39 o.toArray,.box b14 86 #[Pt R.rb]]
abbrev ZR (R:Rn) (m:Fa) (hist:List kR) (out:List Int) (b12 b13 b14:Nat) (e:Int) (th:Bool) (v:Int):List It:=
 VR R b12 b13 b14 (.slice m.eA (window hist R.fr R.mo).length m.eC) [V e,.bool th,V v,.slice m.oA out.length m.oC]
def Xc (x:Value) (v2 e:Int) (th:Bool) (v:Int):Prop:=
 (x=.nilIface∧e=0∧th=false∧v=v2) ∨ (∃ n,x=.iface 90 (V n)∧e=0∧th=true∧v=n) ∨ (∃ n,x=.iface 91 (V n)∧e=n∧th=false∧v=v2) ∨ (∃ t y,x=.iface t y∧t≠90∧t≠91∧e=4∧th=false∧v=v2)
theorem VI {N:Fz} {ops:Array Oper} {K:KK} {rest:List Oper} {f:Fr} {w:World} {d:Option Nat} {ty:TypeId} {pos:String} {af:Array Edge} {x:Operand} {t xt t2:TypeId} {k:IntKind} {v z:Value} {s by_:Nat} (hu:Try.prog.underlying t=some (.int k)) (hz:TI Try.prog t z s by_) (hx:ev f x=.iface t2 v) (hne:t2≠t)
  (h:∀ z',oG Try.prog N ops K rest (ny f d (.tuple #[z',.bool false])) w):oG Try.prog N ops K (⟨d,.typeAssert x xt t true,ty,pos,af,none⟩ :: rest) f w:=by
 obtain ⟨z',e⟩:=Wo (w:=w) (ρ:=ev f) (d:=d) (ty:=ty) (pos:=pos) (af:=af) (g:=none) (xt:=xt) hu hz hx hne
 exact kU e (h z')
theorem M8 {A G:Nat→Prop} {R:Rn} {m:Fa} {ptrs:List Nat} {hist:List kR} {out:List Int} {X:List It} {D:List Da} {w0 w:World} {b12 b13 b14:Nat} {u:FrameMode} {v2 e:Int} {th:Bool} {v:Int}
   (b:Bx w0 w A G (VR R b12 b13 b14 sn [V 0,.bool false,V v2,sn] ++ (Mac R m ptrs hist out ++ X)) D) (hu:Xc (AQ u).1 v2 e th v) :
   CallsD Try.prog 38 #[Pt b13,Pt b14,Pt b12] u w (RD (AQ u).2 (fun w'=>Bx w0 w' A G (ZR R m hist out b12 b13 b14 e th v ++ (Mac R m ptrs hist out ++ X)) D) (fun _ _=>False)):=by
 refine M4 Try.func38 rfl rfl rfl ?_
 refine oq (fun f w'=>Has f [(0,Pt b13),(1,Pt b14),(2,Pt b12)]∧Bx w0 w' A G (VR R b12 b13 b14 sn [V e,.bool th,V v,sn] ++ (Mac R m ptrs hist out ++ X)) D) (fun J hJ=>?_) ?_
 · rcases hu with ⟨hx,rfl,rfl,rfl⟩|⟨n,hx,rfl,rfl,rfl⟩|⟨n,hx,rfl,rfl,rfl⟩|⟨t,y,hx,h90,h91,rfl,rfl,rfl⟩
   · rw [hx]
     refine oM ?_
     refine Jb (zW ?_)
     refine kU (Gx Try.underlying20 rfl rfl (.inl ⟨rfl,rfl⟩)) ?_
     refine go ?_
     refine kU (Oe .nilIface rfl) ?_
     refine go ?_
     exact hJ _ _ ⟨⟨rfl,rfl,rfl,trivial⟩,b⟩
   · rw [hx]
     refine lK [(0,Pt b13),(1,Pt b14),(2,Pt b12),(7,.iface 90 (V v))] ⟨rfl,rfl,rfl,rfl,trivial⟩ fun av=>?_
     refine oM ?_
     refine Jb (zW ?_)
     refine kU (Gx Try.underlying20 rfl rfl (.inr ⟨90,V v,rfl,rfl⟩)) ?_
     refine go ?_
     refine kU (Un Try.underlying90 rfl) ?_
     refine go ?_
     refine kU (TT rfl) ?_
     refine lg (t_n b 1 [.bool true] rfl OM rfl rfl) fun w1 b=>?_
     refine kU (O7 rfl) ?_
     refine lg (t_n b 1 [V v] rfl nO rfl rfl) fun w2 b=>?_
     refine go ?_
     exact hJ _ _ ⟨⟨rfl,rfl,rfl,trivial⟩,b⟩
   · rw [hx]
     refine lK [(0,Pt b13),(1,Pt b14),(2,Pt b12),(7,.iface 91 (V e))] ⟨rfl,rfl,rfl,rfl,trivial⟩ fun av=>?_
     refine oM ?_
     refine Jb (zW ?_)
     refine kU (Gx Try.underlying20 rfl rfl (.inr ⟨91,V e,rfl,rfl⟩)) ?_
     refine go ?_
     refine VI Try.underlying90 Vk rfl (by decide) fun z'=>?_
     refine go ?_
     refine kU (Un Try.underlying91 rfl) ?_
     refine go ?_
     refine kU (Qf rfl) ?_
     refine lg (t_n b 1 [V e] rfl Mi rfl rfl) fun w1 b=>?_
     refine go ?_
     exact hJ _ _ ⟨⟨rfl,rfl,rfl,trivial⟩,b⟩
   · rw [hx]
     refine lK [(0,Pt b13),(1,Pt b14),(2,Pt b12),(7,.iface t y)] ⟨rfl,rfl,rfl,rfl,trivial⟩ fun av=>?_
     refine oM ?_
     refine Jb (zW ?_)
     refine kU (Gx Try.underlying20 rfl rfl (.inr ⟨t,y,rfl,rfl⟩)) ?_
     refine go ?_
     refine VI Try.underlying90 Vk rfl h90 fun z'=>?_
     refine go ?_
     refine VI Try.underlying91 YS rfl h91 fun z'=>?_
     refine go ?_
     refine kU (Oe (.iface t y) rfl) ?_
     refine go ?_
     refine kU (Qf rfl) ?_
     refine lg (t_n b 1 [V 4] rfl Mi rfl rfl) fun w1 b=>?_
     refine go ?_
     exact hJ _ _ ⟨⟨rfl,rfl,rfl,trivial⟩,b⟩
 rintro f w' ⟨hf,b⟩
 obtain ⟨av,rfl⟩:=iA _ _ hf
 clear hf
 refine uW (fun u=>nA u b14 86 #[Pt R.rb]∧nA u R.rb 89 (oP R m ptrs.length (window hist R.fr R.mo).length hist.length out.length).toArray) (fun _=>True) [] (by kernel_rfl) ?_
 replace b:=b.drew
 have q1:nA w'.drew b14 86 #[Pt R.rb]∧nA w'.drew R.rb 89 (oP R m ptrs.length (window hist R.fr R.mo).length hist.length out.length).toArray:=⟨b.bk 2 rfl,b.bk 3 rfl⟩
 refine uF 0 r (fun h=>DX r h.1 r) q1 (pF 1 r (xn r) q1 (pF 2 r (Ji r) q1 (uF 3 r (fun h=>NZ r h.2 r) q1 (uF 4 r (fun h=>DX r h.1 r) q1 (pF 5 r (xn r) q1 (pF 6 r (IJ r) q1 (uF 7 r (fun h=>VN r h.2 r) q1 ?_)))))))
 refine hO 8 (os r r (t_n b 0 [.slice m.eA (window hist R.fr R.mo).length m.eC] r Oh r r) fun w2 b=>⟨sF ⟨b.bk 2 rfl,b.bk 3 rfl⟩,pF 9 r (Xl r) ⟨b.bk 2 rfl,b.bk 3 rfl⟩ ?_⟩)
 refine hO 10 (os r r (t_n b 1 [.slice m.oA out.length m.oC] r AZ r r) fun w3 b=>⟨sF ⟨b.bk 2 rfl,b.bk 3 rfl⟩,hD ?_⟩)
 refine go ?_
 exact b
theorem KC {P:Program} {fn:Func} {d:Deferred} {fv:Fn} {cap:Array Value} {g:FuncId} {args:Array Value} {R:Ending→World→Prop} {f:Fr} {a:Act} {w:World} {M:Fz} {R1:World→Prop}
  (hT:d.target=.fn fv cap) (hi:(invoke d.target d.args).run P w=.ok (.enter g args) w) (hc:CallsD P g args .returning w (RD .returning R1 (fun _ _=>False)))
  (h:∀ w',R1 w'→Reads P fn (fun v w'=>R (.returned v) w') f w') (ha:Co M f a):Leaves P fn a.tmps R [d] .returning w:=by
 refine ⟨by simp,fv,cap,g,args,hT,hi,?_⟩
 intro c cs hu
 obtain ⟨e,u',w',fr,h1,h2,h3⟩:=hc c cs hu
 refine ⟨e,u',w',fr,?_,h2,h3⟩
 cases e with
 | returned v=>
  obtain ⟨rfl,h1⟩:=h1
  have h:=h w' h1
  unfold Reads at h
  obtain ⟨v2,hv,hR⟩:=h a.tmps ha.get
  exact ⟨v2,hv,hR⟩
 | panicked c=>exact h1.2.elim
 | outgrown=>exact h1.elim
theorem Vg {ρ:Operand→Value} {w:World} {d:Option Nat} {ty:TypeId} {pos:String} {af:Array Edge} {g:Option (Nat × Bool)} {x:Operand} {n:Int} (h:ρ x=V n):Yl Try.prog ρ (.build 39 #[(0,x)]) d ty pos af g w (.agg #[V n,.bool false,V 0,sn]):=by
 have e:(Instr.build 39 #[(0,V n)]).run Try.prog w=.ok (.agg #[V n,.bool false,V 0,sn]) w:=by kernel_rfl
 simp [Yl,execOp,h,e]
theorem XV {ρ:Operand→Value} {w:World} {d:Option Nat} {ty:TypeId} {pos:String} {af:Array Edge} {g:Option (Nat × Bool)} {x y z u:Operand} {n m k:Int} {s1 s2 s3 s4:Option Addr} {n1 n2 n3 n4 c1 c2 c3 c4:Nat} (h:ρ x=.agg #[.slice s1 n1 c1,.slice s2 n2 c2,.slice s3 n3 c3,.slice s4 n4 c4]) (h1:ρ y=V n) (h2:ρ z=V m) (h3:ρ u=V k) :
  Yl Try.prog ρ (.build 89 #[(0,x),(3,y),(4,z),(5,u)]) d ty pos af g w (.agg #[.slice s1 n1 c1,.slice s2 n2 c2,.slice s3 n3 c3,.slice s4 n4 c4,sn,V 0,V n,V m,V k,sn,sn]):=by
 have e:(Instr.build 89 #[(0,.agg #[.slice s1 n1 c1,.slice s2 n2 c2,.slice s3 n3 c3,.slice s4 n4 c4]),(3,V n),(4,V m),(5,V k)]).run Try.prog w=.ok (.agg #[.slice s1 n1 c1,.slice s2 n2 c2,.slice s3 n3 c3,.slice s4 n4 c4,sn,V 0,V n,V m,V k,sn,sn]) w:=by kernel_rfl
 simp [Yl,execOp,h,h1,h2,h3,e]
def WE (fu:Nat) (s:jO) (f:Int) (args:List Int) (n fr mo:Int) (R:List kR × rG):Prop:=
 (0≤n∧n≤5000)∧0≤fr∧(0≤mo∧mo≤100)∧(BO (stM (jJ fu s) s n.toNat fu) s [] f args [] []).bind (fun (p,h,o)=>some (window h fr.toNat mo.toNat,match p with
  | .ok v=>(⟨0,false,v,o⟩:rG)
  | .Eu v=>⟨0,true,v,o⟩
  | .err e=>⟨e,false,0,o⟩
  | .rt=>⟨4,false,0,o⟩))=some R
theorem Sw {fu:Nat} {s:jO} {f:Int} {args:List Int} {n fr mo:Int} {R:List kR × rG} (h:oz fu s f args n fr mo=some R) :
  (¬ (0≤f∧f < s.a.b.length)∧R=([],⟨1,false,0,[]⟩)) ∨ ∃ k fn,f=((k:Nat):Int)∧s.a.b[k]?=some fn∧
    ((¬ (args.length:Int)=fn.a.length ∨ n < 0 ∨ 5000 < n ∨ fr < 0 ∨ mo < 0 ∨ 100 < mo)∧R=([],⟨1,false,0,[]⟩) ∨ (¬ (¬ (args.length:Int)=fn.a.length ∨ n < 0 ∨ 5000 < n ∨ fr < 0 ∨ mo < 0 ∨ 100 < mo))∧WE fu s f args n fr mo R):=by
 unfold oz traceM at h
 cases hf:ix? s.a.b f with
 | none=>rw [hf] at h;exact .inl ⟨Am hf,(sm h).symm⟩
 | some fn=>
  rw [hf] at h
  obtain ⟨k,hk,hfn⟩:=Ua hf
  refine .inr ⟨k,fn,hk,hfn,?_⟩
  rcases jS h with ⟨hc,h⟩|⟨hc,h⟩
  · exact .inl ⟨by omega,(sm h).symm⟩
  · exact .inr ⟨by omega,⟨by omega,by omega⟩,by omega,⟨by omega,by omega⟩,h⟩
theorem tq (fu:Nat):Ew (oz fu):=by
 intro w0 Y s f args n fr mo a1 c1 a2 c2 a3 c3 a4 c4 a c R hP hM
 have b:=hP.bx
 clear hP
 generalize hG:lT []=G at b ⊢
 replace hM:=Sw hM
 obtain ⟨ev,out⟩:=R
 have key:Calls Try.prog 17 #[.agg #[Z a1 s.a.a c1,Z a2 s.a.b c2,Z a3 s.c c3,Z a4 s.b c4],V f,Z a args c,V n,V fr,V mo] w0
    (RP (fun v w'=>∃ o p t u,v=.tuple #[.slice o ev.length p,.agg #[V out.d,.bool out.b,V out.c,.slice t out.a.length u]]∧Bx w0 w' Y G [] [.l o p ev,.l t u out.a]) (fun _ _=>False)):=by
  refine Ie Try.func17 rfl ?_
  refine M9 [(0,.agg #[Z a1 s.a.a c1,Z a2 s.a.b c2,Z a3 s.c c3,Z a4 s.b c4]),(1,V f),(2,Z a args c),(3,V n),(4,V fr),(5,V mo)] ⟨rfl,rfl,rfl,rfl,rfl,rfl,trivial⟩ fun av=>?_
  refine Nv (zW ?_)
  refine tu b (y5 rfl) fun w1 b6 b=>?_
  refine tu b (jV Oh) fun w2 b12 b=>?_
  refine tu b (jV BL) fun w3 b13 b=>?_
  refine LZ ?_
  have hbd:=(b.dl 4 rfl).bd
  refine Ug (R:=fun f w'=>Reads Try.prog Try.f17 (fun v w'=>∃ o p t u,v=.tuple #[.slice o ev.length p,.agg #[V out.d,.bool out.b,V out.c,.slice t out.a.length u]]∧Bx w0 w' Y G [] [.l o p ev,.l t u out.a]) f w') (X:=fun _ _ _=>False) (V:=fun _ _ _=>False) ?_ (fun e a w q=>?_)
  rotate_left
  · cases e with
    | ret=>
      obtain ⟨f,h1,h2⟩:=q
      show Leaves Try.prog Try.f17 a.tmps _ a.defers .returning w
      rw [h1.dfr]
      unfold Reads at h2
      obtain ⟨v,hv,hR⟩:=h2 a.tmps h1.get
      exact ⟨v,hv,hR⟩
    | normal=>obtain ⟨f,h1,h2⟩:=q;exact h2.elim
    | exit i=>obtain ⟨f,h1,h2⟩:=q;exact h2.elim
    | panic c=>obtain ⟨f,h1,h2⟩:=q;exact h2.elim
    | _=>exact q.elim
  refine Jb (oq (fun f' w'=>w'=w3∧∃ q:Bool,Has f' [(1,V f),(2,Z a args c),(3,V n),(4,V fr),(5,V mo),(6,Pt b6),(12,Pt b12),(13,Pt b13),(57,.bool q)]∧(q=true→(ev,out)=([],⟨1,false,0,[]⟩))∧(q=false→WE fu s f args n fr mo (ev,out))) (fun J hJ=>?_) ?_)
  · refine zW ?_
    have hE:¬ (0≤f∧f < s.a.b.length)→(ev,out)=([],⟨1,false,0,[]⟩):=fun h=>by
      rcases hM with ⟨_,h⟩|⟨k,fn,hk,hfn,_⟩
      · exact h
      · have:=kI hfn;omega
    refine goC b ?_
    by_cases h0:f < 0
    · rw [decide_eq_true h0]
      refine goC b ?_
      exact hJ _ _ ⟨rfl,true,⟨rfl,rfl,rfl,rfl,rfl,rfl,rfl,rfl,rfl,trivial⟩,fun _=>hE (by omega),fun h=>by cases h⟩
    rw [decide_eq_false h0]
    refine goC b ?_
    by_cases h1:(s.a.b.length:Int)≤f
    · rw [decide_eq_true h1]
      refine goC b ?_
      exact hJ _ _ ⟨rfl,true,⟨rfl,rfl,rfl,rfl,rfl,rfl,rfl,rfl,rfl,trivial⟩,fun _=>hE (by omega),fun h=>by cases h⟩
    rw [decide_eq_false h1]
    clear hE
    rcases hM with ⟨h2,_⟩|⟨k,fn,rfl,hfn,hM⟩
    · exact (h2 ⟨by omega,by omega⟩).elim
    obtain ⟨cs0,hr0,b0⟩:=b.nm 1 rfl hfn
    obtain ⟨a5,c5,a6,c6,rfl,h5,h6⟩:=lI.out hr0
    have hE:(¬ (args.length:Int)=fn.a.length ∨ n < 0 ∨ 5000 < n ∨ fr < 0 ∨ mo < 0 ∨ 100 < mo)→(ev,out)=([],⟨1,false,0,[]⟩):=fun h=>by
      rcases hM with ⟨_,h⟩|⟨h',_⟩
      · exact h
      · exact absurd h h'
    refine goC b ?_
    refine kU (kW Try.underlying24 nY rfl rfl rfl (b.dl 1 rfl) hfn) ?_
    refine goC b ?_
    refine kU (jT Try.underlying70 rfl rfl ((b0.dc 0 rfl) 2 _ rfl)) ?_
    refine goC b ?_
    by_cases h2:¬ (args.length:Int)=fn.a.length
    · rw [decide_eq_true (p:=(args.length:Int)≠fn.a.length) h2]
      refine goC b ?_
      exact hJ _ _ ⟨rfl,true,⟨rfl,rfl,rfl,rfl,rfl,rfl,rfl,rfl,rfl,trivial⟩,fun _=>hE (.inl h2),fun h=>by cases h⟩
    rw [decide_eq_false (p:=(args.length:Int)≠fn.a.length) h2]
    refine goC b ?_
    by_cases h3:n < 0
    · rw [decide_eq_true h3]
      refine goC b ?_
      exact hJ _ _ ⟨rfl,true,⟨rfl,rfl,rfl,rfl,rfl,rfl,rfl,rfl,rfl,trivial⟩,fun _=>hE (by omega),fun h=>by cases h⟩
    rw [decide_eq_false h3]
    refine goC b ?_
    by_cases h4:5000 < n
    · rw [decide_eq_true h4]
      refine goC b ?_
      exact hJ _ _ ⟨rfl,true,⟨rfl,rfl,rfl,rfl,rfl,rfl,rfl,rfl,rfl,trivial⟩,fun _=>hE (by omega),fun h=>by cases h⟩
    rw [decide_eq_false h4]
    refine goC b ?_
    by_cases h5:fr < 0
    · rw [decide_eq_true h5]
      refine goC b ?_
      exact hJ _ _ ⟨rfl,true,⟨rfl,rfl,rfl,rfl,rfl,rfl,rfl,rfl,rfl,trivial⟩,fun _=>hE (by omega),fun h=>by cases h⟩
    rw [decide_eq_false h5]
    refine goC b ?_
    by_cases h6:mo < 0
    · rw [decide_eq_true h6]
      refine goC b ?_
      exact hJ _ _ ⟨rfl,true,⟨rfl,rfl,rfl,rfl,rfl,rfl,rfl,rfl,rfl,trivial⟩,fun _=>hE (by omega),fun h=>by cases h⟩
    rw [decide_eq_false h6]
    refine goC b ?_
    by_cases h7:100 < mo
    · rw [decide_eq_true h7]
      refine goC b ?_
      exact hJ _ _ ⟨rfl,true,⟨rfl,rfl,rfl,rfl,rfl,rfl,rfl,rfl,rfl,trivial⟩,fun _=>hE (by omega),fun h=>by cases h⟩
    rw [decide_eq_false h7]
    refine goC b ?_
    refine hJ _ _ ⟨rfl,false,⟨rfl,rfl,rfl,rfl,rfl,rfl,rfl,rfl,rfl,trivial⟩,fun h=>(by cases h),fun _=>?_⟩
    rcases hM with ⟨h,_⟩|⟨_,h⟩
    · omega
    · exact h
  rintro f' w' ⟨rfl,q,hf,hT,hF⟩
  obtain ⟨av,rfl⟩:=iA _ _ hf
  clear hf hM
  cases q with
  | true=>
    obtain ⟨rfl,rfl⟩:=Prod.mk.inj (hT rfl)
    refine jN rfl ?_
    refine Jb (zW ?_)
    refine kU (Vg rfl) ?_
    refine lg (t_n b 1 [sn] rfl Oh rfl rfl) fun w4 b=>?_
    refine lg (t_n b 0 [V 1,.bool false,V 0,sn] rfl BL rfl rfl) fun w5 b=>?_
    refine LZ ?_
    refine kT ?_
    refine qj (fn:=Try.f17) rfl (QX rfl (fun ρ h=>NZ h (b.bk 1 rfl) rfl) (b.bk 1 rfl)) (QX rfl (fun ρ h=>ng [V 1,.bool false,V 0,sn] VU BL h (b.bk 0 rfl)) (b.bk 0 rfl)) ?_
    exact ⟨none,0,none,0,rfl,((b.arr [] rfl).ku (d:=.l none 0 ([]:List Int)) kN.nil).ku (d:=.l none 0 ([]:List kR)) kN.nil |>.dp [0,1]⟩
  | false=>
  refine jK rfl (EU ?_)
  clear hT
  obtain ⟨hn,hfr,hmo,hA⟩:=hF rfl
  clear hF
  obtain ⟨N,rfl⟩:∃ N:Nat,n=(N:Int):=⟨n.toNat,by omega⟩
  obtain ⟨F,rfl⟩:∃ F:Nat,fr=(F:Int):=⟨fr.toNat,by omega⟩
  obtain ⟨M,rfl⟩:∃ M:Nat,mo=(M:Int):=⟨mo.toNat,by omega⟩
  rw [Int.toNat_natCast,Int.toNat_natCast,Int.toNat_natCast] at hA
  obtain ⟨⟨p,h,o⟩,hc,hA⟩:=bs hA
  dsimp only at hA
  refine Nv (zW ?_)
  refine kU (ng [Z a1 s.a.a c1,Z a2 s.a.b c2,Z a3 s.c c3,Z a4 s.b c4] Ep xD rfl (b.bk 2 rfl)) ?_
  refine goC b ?_
  refine kU (XV rfl rfl rfl rfl) ?_
  refine tu b (y5 rfl) fun w4 b89 b=>?_
  refine tu b (jV WM) fun w5 b14 b=>?_
  refine lg (t_n b 0 [Pt b89] rfl WM rfl rfl) fun w6 b=>?_
  refine LZ ?_
  replace b:=((b.Ca kR 50).Ca Int 3).ZG 117 1
  replace b:=(b.arr [6,5,3,4,0,2,1] rfl).dp [1,0,2,3,4,5,6]
  let R:Rn:=⟨w0.heap.size,b89,⟨a1,c1,a2,c2,a3,c3,a4,c4⟩,s,N,F,M⟩
  let m:Fa:=⟨none,0,none,0,[],none,0,[]⟩
  have hw:window ([]:List kR) F M=[]:=by simp [window]
  replace b:Bx w0 w6 Y G (VR R b12 b13 b14 sn [V 0,.bool false,V 0,sn] ++ (Mac R m [] [] [] ++ [])) (tZ R m [] [] ++ [.l a c args]):=by
    show Bx w0 w6 Y G (VR R b12 b13 b14 sn [V 0,.bool false,V 0,sn] ++ ([.box b89 89 (oP R m 0 (window ([]:List kR) F M).length 0 0).toArray,.own R.B none 0 117 1 [],.own R.B none 0 50 (Rp.sz kR) [],.own R.B none 0 3 (Rp.sz Int) []] ++ [])) ([.els [] (window ([]:List kR) F M),.els [] ([]:List Int),.l a1 c1 s.a.a,.l a2 c2 s.a.b,.l a3 c3 s.c,.l a4 c4 s.b] ++ [.l a c args])
    rw [hw]
    exact b
  refine M9 [(1,V f),(2,Z a args c),(12,Pt b12),(13,Pt b13),(14,Pt b14)] ⟨rfl,rfl,rfl,rfl,rfl,trivial⟩ fun av2=>?_
  refine QD (Uw (vs:=[Pt b13,Pt b14,Pt b12]) rfl) (XY rfl) ?_
  refine Tg (Q:=⟨fun _ _=>False,fun _ _ _=>False,fun f w'=>(f 12=Pt b12∧f 13=Pt b13)∧∃ v m',p=.ok v∧Bx w0 w' Y G (VR R b12 b13 b14 sn [V 0,.bool false,V v,sn] ++ (Mac R m' [] h o ++ [])) (tZ R m' h o),
    fun f ch w'=>(f 12=Pt b12∧f 13=Pt b13)∧Pb p ch∧∃ more m',Bx w0 w' Y G (VR R b12 b13 b14 sn [V 0,.bool false,V 0,sn] ++ (Mac R m' more h o ++ [])) (tZ R m' h o)⟩) ?_ ?_
  · refine Jb (zW ?_)
    refine kU (DX rfl (b.bk 2 rfl) rfl) ?_
    refine goC b ?_
    have hCl:YH R (stM (jJ fu R.src) R.src R.st fu):=ND (Nc (cst ⟨by show N≤5000;omega,by show M≤100;omega⟩ fu))
    have hq:=hCl (b.pr [3,4,5,6] [0,1,2] [6,0,1,2,3,4,5] rfl) (xs:=[]) (gs:=[]) trivial b.rD.size rfl (Nat.zero_le _) hc
    refine Jg (ql OT rfl) hq (fun ch w7 hq=>?_) ?_
    · obtain ⟨hq,more,m4,hK⟩:=hq
      have hb:=b.cn [3,4,5,6] [0,1,2] hK
      exact ⟨⟨rfl,rfl⟩,hq,more,m4,(hb.arr [4,5,6,0,1,2,3] rfl).dp [0,1,2,3,4,5]⟩
    rintro _ w7 ⟨v,rfl,rfl,m4,hK⟩
    replace b:=b.cn [3,4,5,6] [0,1,2] hK
    replace b:=(b.arr [4,5,6,0,1,2,3] rfl).dp [0,1,2,3,4,5]
    refine kU (O7 rfl) ?_
    refine lg (t_n b 1 [V v] rfl nO rfl rfl) fun w8 b=>?_
    refine go ?_
    refine uW (fun u=>nA u b12 36 #[sn]∧nA u b13 39 #[V 0,.bool false,V v,sn]) (fun _=>True) [] (by kernel_rfl) ?_
    replace b:=b.drew
    refine uF 0 r (fun h=>NZ r h.1 r) ⟨b.bk 0 rfl,b.bk 1 rfl⟩ (uF 1 r (fun h=>ng [V 0,.bool false,V v,sn] VU BL r h.2) ⟨b.bk 0 rfl,b.bk 1 rfl⟩ ?_)
    refine hO 2 (os r r (t_n b 0 [sn] r Oh r r) fun w9 b=>⟨sF ⟨b.bk 0 rfl,b.bk 1 rfl⟩,?_⟩)
    refine hO 3 (os r r (t_n b 1 [V 0,.bool false,V v,sn] r BL r r) fun w10 b=>⟨sF ⟨b.bk 0 rfl,b.bk 1 rfl⟩,hD ?_⟩)
    refine go ?_
    refine kT ?_
    exact ⟨⟨rfl,rfl⟩,v,m4,rfl,b⟩
  · have fin:∀ {f:Fr} {w':World} {m':Fa} {more:List Nat} {e v:Int} {th:Bool},f 12=Pt b12→f 13=Pt b13→(window h F M,(⟨e,th,v,o⟩:rG))=(ev,out)→Bx w0 w' Y G (ZR R m' h o b12 b13 b14 e th v ++ (Mac R m' more h o ++ [])) (tZ R m' h o)→
        Reads Try.prog Try.f17 (fun v w'=>∃ o p t u,v=.tuple #[.slice o ev.length p,.agg #[V out.d,.bool out.b,V out.c,.slice t out.a.length u]]∧Bx w0 w' Y G [] [.l o p ev,.l t u out.a]) f w':=fun {f w' m' more e v th} h12 h13 he b=>by
      obtain ⟨rfl,rfl⟩:=Prod.mk.inj he
      refine qj (fn:=Try.f17) rfl (QX h12 (fun ρ h=>NZ h (b.bk 0 rfl) rfl) (b.bk 0 rfl)) (QX h13 (fun ρ h'=>ng [V e,.bool th,V v,.slice m'.oA o.length m'.oC] VU BL h' (b.bk 1 rfl)) (b.bk 1 rfl)) ?_
      exact ⟨_,_,_,_,rfl,((b.OO 5 0 rfl rfl).OO 5 1 rfl rfl).ad [] [1,0]⟩
    intro e a1' w1' q
    cases e with
    | normal=>obtain ⟨f,h1,h2⟩:=q;exact h2.elim
    | exit i=>obtain ⟨f,h1,h2⟩:=q;exact h2.elim
    | ret=>
      obtain ⟨f,h1,⟨h12,h13⟩,v,m',rfl,b⟩:=q
      show Leaves Try.prog Try.f17 a1'.tmps _ a1'.defers .returning w1'
      rw [h1.dfr]
      exact KC rfl rfl (M8 b (.inl ⟨rfl,rfl,rfl,rfl⟩)) (fun w2 b=>fin h12 h13 (sm hA) b) h1
    | panic ch=>
      obtain ⟨f,h1,⟨h12,h13⟩,hq,more,m',b⟩:=q
      show Leaves Try.prog Try.f17 a1'.tmps _ a1'.defers (.panicking ch) w1'
      rw [h1.dfr]
      cases p with
      | ok v=>exact hq.elim
      | Eu v=>
        obtain ⟨lc,rfl,hlc⟩:=hq
        exact zn rfl rfl hlc (M8 b (.inr (.inl ⟨v,rfl,rfl,rfl,rfl⟩))) (fun w2 b=>fin h12 h13 (sm hA) b) (fun c w' h=>h.elim) h1
      | err v=>
        obtain ⟨lc,rfl,hlc⟩:=hq
        exact zn rfl rfl hlc (M8 b (.inr (.inr (.inl ⟨v,rfl,rfl,rfl,rfl⟩)))) (fun w2 b=>fin h12 h13 (sm hA) b) (fun c w' h=>h.elim) h1
      | rt=>
        obtain ⟨u,lc,rfl,hlc⟩:=hq
        exact zn rfl rfl hlc (M8 b (.inr (.inr (.inr ⟨_,_,rfl,by decide,by decide,rfl,rfl,rfl⟩)))) (fun w2 b=>fin h12 h13 (sm hA) b) (fun c w' h=>h.elim) h1
    | _=>exact q.elim
 exact key.mono fun e w he=>by
  cases e with
  | returned v=>exact ⟨v,rfl,he⟩
  | panicked c=>exact he.elim
  | outgrown=>exact he.elim
end Go.Proofs.Ytfglbdkfnphjgaa
