/- A statement. -/
import Derived.Test.YtfglbdkfnphjgaaZ22
import Derived.Test.YtfglbdkfnphjgaaZ5
import Derived.Test.YtfglbdkfnphjgaaLa
set_option linter.unusedVariables false
set_option maxRecDepth 4000
set_option maxHeartbeats 12800000
namespace Go.Proofs.Ytfglbdkfnphjgaa
open Go.RowKit Go.Fw
theorem I7 {fu fv:Nat} {R:Rn} (hR:Vj R) (ih:ZC R (stM (jA fv R.src) R.src R.st fu)):ZC R (stM (jA fv R.src) R.src R.st (fu+1)):=by
 have hLs:Xg R (stM (jA fv R.src) R.src R.st fu):=NK ih
 have hCl:ZB R (stM (jA fv R.src) R.src R.st fu):=NR hLs
 have hTr:CTr R (stM (jA fv R.src) R.src R.st fu):=UC hLs (MC hLs)
 intro w A m ptrs x s s' xs gs y a7 c7 a10 c10 a11 c11 a12 c12 p hr0 hm
 obtain ⟨hP,hl,hB,hp,hn⟩:=hr0
 have b:=hP.bx
 clear hP
 unfold Ok Pk
 generalize hG:lK (Ir R m ptrs x s)=G at b hl ⊢
 refine vS Try.func75 rfl ?_
 refine lI [(0,Pt R.rb),(1,Pt x.b),(2,.agg (cS y a7 c7 a10 c10 a11 c11 a12 c12).toArray)] ⟨rfl,rfl,rfl,trivial⟩ fun av=>?_
 rw [stM] at hm
 obtain ⟨⟨pe,s1⟩,he,hm⟩:=bs hm
 refine JO (zV ?_)
 refine tC b (xL rfl) fun w1 b5 b=>?_
 refine goB b ?_
 refine XQ hR b hl hB hp hn he rfl rfl rfl (fun f ch w' m' hq hb=>?_) (fun w2 m1 hpe b=>?_)
 · cases pe with
   | ok u=>exact hq.elim
   | _=>cases hm;exact ⟨hq,[],m',by rw [List.append_nil];exact hb⟩
 subst hpe
 dsimp only at hm
 clear he
 refine goB b ?_
 refine lI [(0,Pt R.rb),(1,Pt x.b),(5,Pt b5),(18,V y.e),(19,.bool (decide (y.e=1)))] ⟨rfl,rfl,rfl,rfl,rfl,trivial⟩ fun av=>?_
 refine qp rfl (fun h=>?_) (fun h=>?_)
 · rw [if_pos h] at hm
   refine goB b ?_
   refine uX (fun u=>mQ u b5 111 (cS y a7 c7 a10 c10 a11 c11 a12 c12).toArray) (fun u=>(It.act x s1.a).p u) [8] (by kernel_rfl) ?_
   replace b:=b.drew
   have q1:mQ w2.drew b5 111 (cS y a7 c7 a10 c10 a11 c11 a12 c12).toArray:=b.bk 0 rfl
   have q2:(It.act x s1.a).p w2.drew:=b.at 5 rfl
   refine pL 0 r (vR r) q1 q2 (pL 1 r (xn r) q1 q2 (pL 2 r (Dx r) q1 q2 (tS 9 3 r (fun _ h=>NU r (It.y8 h) r) (mF q1 q2) (pL 4 r (M9 r) q1 q2 (tU 5 r (fun _ h=>JU r h r) (mF q1 q2) ?_)))))
   cases hv:ix? s1.a.ws y.g with
   | none=>
     rw [hv] at hm
     cases hm
     refine hO 6 (LD r Try.underlying118 r r (Am hv) fun u w3 hw f=>⟨⟨u,xJ _⟩,[],m1,?_⟩)
     rw [List.append_nil]
     exact ZA ((b.arr [1,2,3,4,5] rfl).dp [4,5,6,7,8,9]) hw
   | some row=>
   rw [hv] at hm
   obtain ⟨k,hk,hrow⟩:=VG hv
   obtain ⟨r0,hr0,hB0,hA0,hcell⟩:=It.zT q2 hrow
   refine tS 9 6 r (fun _ h=>KG k hA0 Try.underlying118 Aj r r hk (kU hrow)) (mF q1 q2) ?_
   refine tS 9 7 r (fun _ h=>jP (a:=⟨nK x.A,oV x.A+k * 1,none⟩) Try.underlying22 rfl r (Gg h hr0 hrow)) (mF q1 q2) ?_
   refine hO 8 (oo r r (UD b 5 r hr0 hrow r) ?_)
   rintro _ w3 b
   refine ⟨sy 8 (b.bk 0 rfl),hD ?_⟩
   cases hm
   have hkn:k=y.g.toNat:=by omega
   subst hkn
   refine go ?_
   refine kR ?_
   refine pY (fn:=Try.f75) rfl (kW rfl) (kW rfl) ?_
   exact ⟨none,rfl,rfl,m1,(b.arr [1,2,3,4,5] rfl).dp [4,5,6,7,8,9]⟩
 rw [if_neg h] at hm
 refine goB b ?_
 refine qp rfl (fun h=>?_) (fun h=>?_)
 · rw [if_pos h] at hm
   obtain ⟨q,hq,hm⟩:=LH hm
   refine goB b ?_
   refine Yj b 5 0 rfl rfl hq rfl rfl (fun _ _=>rfl) (fun _ _=>rfl) (fun f ch w' hb b=>?_) (fun k o r0 row w3 α β hqk hr0 hrow ho b=>?_)
   · rcases hm with ⟨n,rfl,_⟩|⟨_,rfl,rfl⟩
     · exact hb.elim
     · exact ⟨hb.up,[],m1,by rw [List.append_nil];exact (b.arr [1,2,3,4,5] rfl).dp [4,5,6,7,8,9]⟩
   subst hqk
   rcases hm with ⟨n,hn1,hm⟩|⟨h1,_⟩
   rotate_left
   · exact (h1 _ rfl).elim
   cases hn1
   obtain ⟨q,hq,hm⟩:=Dv hm
   refine goB b ?_
   refine eArg b 5 1 rfl rfl hq rfl rfl (fun _ _=>rfl) (fun _ _=>rfl) (fun f ch w' hb b=>?_) (fun n w4 α β hqn b=>?_)
   · rcases hm with ⟨n,rfl,_⟩|⟨_,rfl,rfl⟩
     · exact hb.elim
     · exact ⟨hb.up,[],m1,by rw [List.append_nil];exact (b.arr [1,2,3,4,5] rfl).dp [4,5,6,7,8,9]⟩
   subst hqn
   rcases hm with ⟨n,hn1,hm⟩|⟨h1,_⟩
   rotate_left
   · exact (h1 _ rfl).elim
   cases hn1
   cases hm
   refine goB b ?_
   refine lu (Jg b 5 rfl hr0 hrow ho rfl rfl) fun w5 b=>?_
   refine go ?_
   refine kR ?_
   refine pY (fn:=Try.f75) rfl (kW rfl) (kW rfl) ?_
   exact ⟨none,rfl,rfl,m1,(b.arr [1,2,3,4,5] rfl).dp [4,5,6,7,8,9]⟩
 rw [if_neg h] at hm
 refine goB b ?_
 refine qp rfl (fun h=>?_) (fun h=>?_)
 · rw [if_pos h] at hm
   unfold AZ at hm
   obtain ⟨q,hq,hm⟩:=bs hm
   refine goB b ?_
   refine uX (fun u=>mQ u b5 111 (cS y a7 c7 a10 c10 a11 c11 a12 c12).toArray) (fun _=>True) [] (by kernel_rfl) ?_
   replace b:=b.drew
   have q1:mQ w2.drew b5 111 (cS y a7 c7 a10 c10 a11 c11 a12 c12).toArray:=b.bk 0 rfl
   refine pF 0 r (vR r) q1 (pF 1 r (Nh r) q1 (uF 2 r (fun h=>JU r h r) q1 (pF 3 r (vR r) q1 (pF 4 r (vR r) q1 (pF 5 r (Dt r) q1 (uF 6 r (fun h=>Nf r h r) q1 ?_))))))
   refine hO 7 (Qf r r (p8 Pz rfl) (cVal b 1 rfl hq) (fun ch w3 hb f=>?_) ?_)
   · obtain ⟨hb,b⟩:=hb
     cases q with
     | ok l=>exact hb.elim
     | _=>cases hm;exact ⟨hb,[],m1,by rw [List.append_nil];exact (b.arr [1,2,3,4,5] rfl).dp [4,5,6,7,8,9]⟩
   rintro _ w3 ⟨ns,A1,c1,rfl,rfl,b⟩
   dsimp only at hm
   obtain ⟨⟨q,h1,o1⟩,hq2,hm⟩:=bs hm
   refine ⟨sF (b.bk 0 rfl),?_⟩
   refine hO 8 (Qf r r (p8 QX rfl) (Xt hCl b hl hB hp hn hq2) (fun ch w4 hb f=>?_) ?_)
   · obtain ⟨hb,more,m5,b⟩:=hb
     cases q with
     | ok l=>exact hb.elim
     | _=>cases hm;exact ⟨hb,more,m5,b⟩
   rintro _ w4 ⟨n,m5,rfl,rfl,b⟩
   refine ⟨sF (b.bk 0 rfl),pF 9 r (QJ r) (b.bk 0 rfl) (hD ?_)⟩
   dsimp only at hm
   refine goB b ?_
   refine qp rfl (fun h0=>?_) (fun h0=>?_)
   · rw [if_neg (by omega)] at hm
     obtain ⟨q,hq,hm⟩:=LH hm
     refine goB b ?_
     refine Yj b 5 0 rfl rfl hq rfl rfl (fun _ _=>rfl) (fun _ _=>rfl) (fun f ch w' hb b=>?_) (fun k o r0 row w5 α β hqk hr0 hrow ho b=>?_)
     · rcases hm with ⟨n,rfl,_⟩|⟨_,rfl,rfl⟩
       · exact hb.elim
       · exact ⟨hb.up,[],m5,by rw [List.append_nil];exact (b.arr [1,2,3,4,5] rfl).dp [4,5,6,7,8,9]⟩
     subst hqk
     rcases hm with ⟨n,hn1,hm⟩|⟨h1,_⟩
     rotate_left
     · exact (h1 _ rfl).elim
     cases hn1
     cases hm
     refine goB b ?_
     refine lu (Jg b 5 rfl hr0 hrow ho rfl rfl) fun w5 b=>?_
     refine go ?_
     refine kR ?_
     refine pY (fn:=Try.f75) rfl (kW rfl) (kW rfl) ?_
     exact ⟨none,rfl,rfl,m5,(b.arr [1,2,3,4,5] rfl).dp [4,5,6,7,8,9]⟩
   · rw [if_pos (by omega)] at hm
     cases hm
     refine go ?_
     refine kR ?_
     refine pY (fn:=Try.f75) rfl (kW rfl) (kW rfl) ?_
     exact ⟨none,rfl,rfl,m5,(b.arr [1,2,3,4,5] rfl).dp [4,5,6,7,8,9]⟩
 rw [if_neg h] at hm
 refine goB b ?_
 refine qp rfl (fun h=>?_) (fun h=>?_)
 · rw [if_pos h] at hm
   obtain ⟨q,hq,hm⟩:=Dv hm
   refine goB b ?_
   refine eArg b 5 1 rfl rfl hq rfl rfl (fun _ _=>rfl) (fun _ _=>rfl) (fun f ch w' hb b=>?_) (fun n w4 α β hqn b=>?_)
   · rcases hm with ⟨n,rfl,_⟩|⟨_,rfl,rfl⟩
     · exact hb.elim
     · exact ⟨hb.up,[],m1,by rw [List.append_nil];exact (b.arr [1,2,3,4,5] rfl).dp [4,5,6,7,8,9]⟩
   subst hqn
   rcases hm with ⟨n,hn1,hm⟩|⟨h1,_⟩
   rotate_left
   · exact (h1 _ rfl).elim
   cases hn1
   refine goB b ?_
   refine qp rfl (fun h0=>?_) (fun h0=>?_)
   · rw [if_pos h0] at hm
     refine goB b ?_
     refine UW hLs b hl hB hp hn 2 hm rfl rfl rfl rfl (fun f ch w' m' more hb b=>⟨hb,more,m',b⟩) (fun o w5 m5 hpo b=>?_)
     refine goB b ?_
     refine kR ?_
     refine pY (fn:=Try.f75) rfl (kW rfl) (kW rfl) ?_
     exact ⟨o,hpo,rfl,m5,(b.arr [1,2,3,4,5] rfl).dp [4,5,6,7,8,9]⟩
   · rw [if_neg h0] at hm
     refine goB b ?_
     refine UW hLs b hl hB hp hn 3 hm rfl rfl rfl rfl (fun f ch w' m' more hb b=>⟨hb,more,m',b⟩) (fun o w5 m5 hpo b=>?_)
     refine goB b ?_
     refine kR ?_
     refine pY (fn:=Try.f75) rfl (kW rfl) (kW rfl) ?_
     exact ⟨o,hpo,rfl,m5,(b.arr [1,2,3,4,5] rfl).dp [4,5,6,7,8,9]⟩
 rw [if_neg h] at hm
 refine goB b ?_
 refine qp rfl (fun h=>?_) (fun h=>?_)
 · rw [if_pos h] at hm
   refine goB b ?_
   refine kM (fun aw f w'=>∃ (s2:Sg) (m2:F7),Has f [(0,Pt R.rb),(1,Pt x.b),(5,Pt b5)]∧
       Bx w w' A G (.box b5 111 (cS y a7 c7 a10 c10 a11 c11 a12 c12).toArray :: Ir R m2 ptrs x s2) (dS y a7 c7 a10 c10 a11 c11 a12 c12 ++ tQ R m2 s2.hist s2.out)∧
       Rj (fun s=>Zv (CK fu s.a.ws) y.a) (fun s=>EG (stM (jA fv R.src) R.src R.st fu gs) s y.d) (fun s=>event (jA fv R.src) R.st gs s y.n) aw s2=some (p,s'))
     fu ⟨s1,m1,⟨rfl,rfl,rfl,trivial⟩,b,hm⟩ ?_
   clear b hm
   rintro aw f w3 ⟨s2,m2,hf,b,hm⟩ J hJ
   obtain ⟨av,rfl⟩:=gP _ _ hf
   clear hf
   cases aw with
   | zero=>cases hm
   | succ aw=>
   rw [Rj] at hm
   obtain ⟨q,hq,hm⟩:=bs hm
   refine goB b ?_
   refine eArg b 5 1 rfl rfl hq rfl rfl (fun _ _=>rfl) (fun _ _=>rfl) (fun f ch w' hb b=>?_) (fun n w4 α β hqn b=>?_)
   · cases q with
     | ok n=>exact hb.elim
     | _=>cases hm;exact ⟨hb,[],m2,by rw [List.append_nil];exact (b.arr [1,2,3,4,5] rfl).dp [4,5,6,7,8,9]⟩
   subst hqn
   dsimp only at hm
   refine goB b ?_
   refine qp rfl (fun h0=>?_) (fun h0=>?_)
   · rw [if_neg h0] at hm
     obtain ⟨⟨q,s3⟩,hq,hm⟩:=bs hm
     refine goB b ?_
     refine UW hLs b hl hB hp hn 2 hq rfl rfl rfl rfl (fun f ch w' m' more hb b=>?_) (fun o w5 m5 hpo b=>?_)
     · cases q with
       | ok n=>exact hb.elim
       | _=>cases hm;exact ⟨hb,more,m',b⟩
     subst hpo
     cases o with
     | none=>
       dsimp only at hm
       refine jS (GQ (.tuple #[V 0,.bool false]) rfl) ?_
       obtain ⟨⟨q,s4⟩,hq,hm⟩:=bs hm
       refine goB b ?_
       refine XQ hR b hl hB hp hn hq rfl rfl rfl (fun f ch w' m' hb b=>?_) (fun w6 m6 hpe b=>?_)
       · cases q with
         | ok u=>exact hb.elim
         | _=>cases hm;exact ⟨hb,[],m',by rw [List.append_nil];exact b⟩
       subst hpe
       dsimp only at hm
       refine go ?_
       exact hJ aw _ _ (by omega) ⟨s4,m6,⟨rfl,rfl,rfl,trivial⟩,b,hm⟩
     | some v=>
       cases hm
       refine jS (GQ (.tuple #[V v,.bool true]) rfl) ?_
       refine go ?_
       refine kR ?_
       refine pY (fn:=Try.f75) rfl (kW rfl) (kW rfl) ?_
       exact ⟨some v,rfl,rfl,m5,(b.arr [1,2,3,4,5] rfl).dp [4,5,6,7,8,9]⟩
   · have h0:n=0:=Decidable.not_not.1 h0
     rw [if_pos h0] at hm
     cases hm
     refine go ?_
     refine uK ?_
     refine go ?_
     refine kR ?_
     refine pY (fn:=Try.f75) rfl (kW rfl) (kW rfl) ?_
     exact ⟨none,rfl,rfl,m2,(b.arr [1,2,3,4,5] rfl).dp [4,5,6,7,8,9]⟩
 rw [if_neg h] at hm
 refine goB b ?_
 refine qp rfl (fun h=>?_) (fun h=>?_)
 · rw [if_pos h] at hm
   refine goB b ?_
   refine jS (IX rfl rfl) ?_
   refine go ?_
   refine qp (p:=y.k≠be) rfl (fun hf=>?_) (fun hf=>?_)
   · rw [if_pos hf] at hm
     unfold AZ at hm
     obtain ⟨q,hq,hm⟩:=bs hm
     refine goB b ?_
     refine uX (fun u=>mQ u b5 111 (cS y a7 c7 a10 c10 a11 c11 a12 c12).toArray) (fun _=>True) [] (by kernel_rfl) ?_
     replace b:=b.drew
     have q1:mQ w2.drew b5 111 (cS y a7 c7 a10 c10 a11 c11 a12 c12).toArray:=b.bk 0 rfl
     refine pF 0 r (vR r) q1 (pF 1 r (Nh r) q1 (uF 2 r (fun h=>JU r h r) q1 (pF 3 r (vR r) q1 (pF 4 r (vR r) q1 (pF 5 r (Dt r) q1 (uF 6 r (fun h=>Nf r h r) q1 ?_))))))
     refine hO 7 (Qf r r (p8 Pz rfl) (cVal b 1 rfl hq) (fun ch w3 hb f=>?_) ?_)
     · obtain ⟨hb,b⟩:=hb
       cases q with
       | ok l=>exact hb.elim
       | _=>cases hm;exact ⟨hb,[],m1,by rw [List.append_nil];exact (b.arr [1,2,3,4,5] rfl).dp [4,5,6,7,8,9]⟩
     rintro _ w3 ⟨ns,A1,c1,rfl,rfl,b⟩
     dsimp only at hm
     obtain ⟨⟨q,h1,o1⟩,hq2,hm⟩:=bs hm
     refine ⟨sF (b.bk 0 rfl),?_⟩
     refine hO 8 (Qf r r (p8 QX rfl) (Xt hCl b hl hB hp hn hq2) (fun ch w4 hb f=>?_) ?_)
     · obtain ⟨hb,more,m5,b⟩:=hb
       cases q with
       | ok l=>exact hb.elim
       | _=>cases hm;exact ⟨hb,more,m5,b⟩
     rintro _ w4 ⟨n,m5,rfl,rfl,b⟩
     refine ⟨sF (b.bk 0 rfl),pF 9 r (QJ r) (b.bk 0 rfl) (pF 10 r (kg r) (b.bk 0 rfl) (hD ?_))⟩
     cases hm
     refine go ?_
     refine kR ?_
     refine pY (fn:=Try.f75) rfl (kW rfl) (kW rfl) ?_
     exact ⟨some n,rfl,rfl,m5,(b.arr [1,2,3,4,5] rfl).dp [4,5,6,7,8,9]⟩
   · rw [if_neg hf] at hm
     obtain ⟨q,hq,hm⟩:=Dv hm
     refine goB b ?_
     refine eArg b 5 1 rfl rfl hq rfl rfl (fun _ _=>rfl) (fun _ _=>rfl) (fun f ch w' hb b=>?_) (fun n w4 α β hqn b=>?_)
     · rcases hm with ⟨n,rfl,_⟩|⟨_,rfl,rfl⟩
       · exact hb.elim
       · exact ⟨hb.up,[],m1,by rw [List.append_nil];exact (b.arr [1,2,3,4,5] rfl).dp [4,5,6,7,8,9]⟩
     subst hqn
     rcases hm with ⟨n,hn1,hm⟩|⟨h1,_⟩
     rotate_left
     · exact (h1 _ rfl).elim
     cases hn1
     cases hm
     refine go ?_
     refine kR ?_
     refine pY (fn:=Try.f75) rfl (kW rfl) (kW rfl) ?_
     exact ⟨some n,rfl,rfl,m1,(b.arr [1,2,3,4,5] rfl).dp [4,5,6,7,8,9]⟩
 rw [if_neg h] at hm
 refine goB b ?_
 refine qp rfl (fun h=>?_) (fun h=>?_)
 · rw [if_pos h] at hm
   obtain ⟨q,hq,hm⟩:=Dv hm
   refine goB b ?_
   refine eArg b 5 1 rfl rfl hq rfl rfl (fun _ _=>rfl) (fun _ _=>rfl) (fun f ch w' hb b=>?_) (fun n w4 α β hqn b=>?_)
   · rcases hm with ⟨n,rfl,_⟩|⟨_,rfl,rfl⟩
     · exact hb.elim
     · exact ⟨hb.up,[],m1,by rw [List.append_nil];exact (b.arr [1,2,3,4,5] rfl).dp [4,5,6,7,8,9]⟩
   subst hqn
   rcases hm with ⟨n,hn1,hm⟩|⟨h1,_⟩
   rotate_left
   · exact (h1 _ rfl).elim
   cases hn1
   cases hm
   refine jS (Ju SC rfl) ?_
   exact Ad rfl ⟨xJ _,[],m1,by rw [List.append_nil];exact (b.arr [1,2,3,4,5] rfl).dp [4,5,6,7,8,9]⟩
 rw [if_neg h] at hm
 refine goB b ?_
 refine qp rfl (fun h=>?_) (fun h=>?_)
 · rw [if_pos h] at hm
   refine goB b ?_
   refine jS (mZ (cS y a7 c7 a10 c10 a11 c11 a12 c12) lS jR rfl (b.bk 0 rfl)) ?_
   have hr:P8 w2 (CP w A (pick _ [1,2,3,4,5] ++ pick _ [0])) R m1 ptrs x s1 xs gs (dS y a7 c7 a10 c10 a11 c11 a12 c12):=⟨b.pr [1,2,3,4,5] [0] [0,1,2,3,4,5,6,7,8,9] rfl,AP b hl (fun it hi=>List.mem_cons_of_mem _ hi),Nat.le_trans hB b.q9.size,hp,hn⟩
   have hc:=hTr hr hm
   clear hr
   refine JK (p8 Vn rfl) hc (fun ch w4 hq=>?_) ?_
   · obtain ⟨hq,more,m5,hK⟩:=hq
     have hb:=b.cn [1,2,3,4,5] [0] hK
     exact ⟨hq,more,m5,(hb.arr [0,1,2,3,4] rfl).dp [0,1,2,3,4,5]⟩
   rintro _ w4 ⟨o,rfl,rfl,m5,hK⟩
   replace b:=b.cn [1,2,3,4,5] [0] hK
   refine go ?_
   refine kR ?_
   refine pY (fn:=Try.f75) rfl (kW rfl) (kW rfl) ?_
   exact ⟨o,rfl,rfl,m5,(b.arr [0,1,2,3,4] rfl).dp [0,1,2,3,4,5]⟩
 rw [if_neg h] at hm
 refine goB b ?_
 refine qp rfl (fun h=>?_) (fun h=>?_)
 · rw [if_pos h] at hm
   obtain ⟨q,hq,hm⟩:=Dv hm
   refine goB b ?_
   cases hA:y.a with
   | nil=>
     rw [hA] at hq
     cases hq
     rcases hm with ⟨n,h1,_⟩|⟨_,rfl,rfl⟩
     · cases h1
     refine uX (fun u=>mQ u b5 111 (cS y a7 c7 a10 c10 a11 c11 a12 c12).toArray) (fun u=>mQ u R.rb 89 (oK R m1 ptrs.length (window s'.hist R.fr R.mo).length s'.hist.length s'.out.length).toArray) [16] (by kernel_rfl) ?_
     replace b:=b.drew
     have q1:mQ w2.drew b5 111 (cS y a7 c7 a10 c10 a11 c11 a12 c12).toArray:=b.bk 0 rfl
     have q2:mQ w2.drew R.rb 89 (oK R m1 ptrs.length (window s'.hist R.fr R.mo).length s'.hist.length s'.out.length).toArray:=b.bk 1 rfl
     refine pL 0 r (vR r) q1 q2 (pL 1 r (vR r) q1 q2 (pL 2 r (xn r) q1 q2 (pL 3 r (JA r) q1 q2 (tS 17 4 r (fun _ h=>Uu r h r) (mF q1 q2) (pL 5 r (vR r) q1 q2 (pL 6 r (vR r) q1 q2 (pL 7 r (Dt r) q1 q2 (tU 8 r (fun _ h=>Nf r h r) (mF q1 q2) ?_))))))))
     refine hO 9 (LD (n:=y.a.length) (a:=a10) (c:=c10) r Try.underlying109 r r (by rw [hA];simp) fun u w3 hw f=>⟨⟨u,xJ _⟩,[],m1,?_⟩)
     rw [List.append_nil]
     exact ZA ((b.arr [1,2,3,4,5] rfl).dp [4,5,6,7,8,9]) hw
   | cons e l=>
     rw [hA] at hq
     have hk:y.a[0]?=some e:=by rw [hA];rfl
     obtain ⟨cs,hre,b⟩:=b.nm 1 rfl hk
     obtain ⟨a2,c2,rfl,hd⟩:=jB.out hre
     replace b:=b.ku (d:=.l a2 c2 e.a) hd
     refine uX (fun u=>mQ u b5 111 (cS y a7 c7 a10 c10 a11 c11 a12 c12).toArray∧Cells u (nK a10) (oV a10+0 * 6) (cE e a2 c2)) (fun u=>mQ u R.rb 89 (oK R m1 ptrs.length (window s1.hist R.fr R.mo).length s1.hist.length s1.out.length).toArray) [16] (by kernel_rfl) ?_
     replace b:=b.drew
     have q1:mQ w2.drew b5 111 (cS y a7 c7 a10 c10 a11 c11 a12 c12).toArray∧Cells w2.drew (nK a10) (oV a10+0 * 6) (cE e a2 c2):=⟨b.bk 0 rfl,b.dc 1 rfl⟩
     have q2:mQ w2.drew R.rb 89 (oK R m1 ptrs.length (window s1.hist R.fr R.mo).length s1.hist.length s1.out.length).toArray:=b.bk 1 rfl
     refine pL 0 r (vR r) q1 q2 (pL 1 r (vR r) q1 q2 (pL 2 r (xn r) q1 q2 (pL 3 r (JA r) q1 q2 (tS 17 4 r (fun _ h=>Uu r h r) (mF q1 q2) (pL 5 r (vR r) q1 q2 (pL 6 r (vR r) q1 q2 (pL 7 r (Dt r) q1 q2 (tU 8 r (fun _ h=>Nf r h.1 r) (mF q1 q2) ?_))))))))
     refine pL 9 r (kV Try.underlying109 jT r r rfl (b.dl 3 rfl) hk) q1 q2 (tU 10 r (fun _ h=>nG (cE e a2 c2) Try.underlying138 rfl jT r r h.2) (mF q1 q2) ?_)
     refine hO 11 (Qf r r (p8 Bv rfl) (H7 fu (b.pr [] [] [0] rfl) (b.at 5 rfl) hq) (fun ch w3 hb f=>?_) ?_)
     · obtain ⟨hb,hx⟩:=hb
       rcases hm with ⟨n,rfl,_⟩|⟨_,rfl,rfl⟩
       · exact hb.elim
       · exact ⟨hb.up,[],m1,by rw [List.append_nil];exact (((b.ext hx).arr [1,2,3,4,5] rfl).dp [6,7,8,9,10,11])⟩
     rintro _ w3 ⟨n,rfl,rfl,hx⟩
     replace b:=b.ext hx
     rcases hm with ⟨n',hn1,hm⟩|⟨h1,_⟩
     rotate_left
     · exact (h1 _ rfl).elim
     cases hn1
     obtain ⟨o2,ho2,hm⟩:=bs hm
     cases hm
     refine ⟨mF ⟨b.bk 0 rfl,b.dc 1 rfl⟩ (b.bk 1 rfl),?_⟩
     refine hO 12 (oo r r (jO b [[V n]] ([n]:List Int) (Aq r) r r (by decide) ⟨r,trivial⟩) ?_)
     rintro _ w4 ⟨b9,rfl,b⟩
     refine ⟨mF ⟨b.bk 1 rfl,b.dc 2 rfl⟩ (b.bk 2 rfl),?_⟩
     refine hO 13 (oo r r (kP b 5 8 r r rM mK r (by decide) (by decide) hB r r (b.zP 0 0 r r) ho2) ?_)
     rintro _ w5 ⟨A2,c2',cs2,rfl,b⟩
     refine ⟨mF ⟨b.bk 1 rfl,b.dc 2 rfl⟩ (b.bk 2 rfl),pL 14 r (xn r) ⟨b.bk 1 rfl,b.dc 2 rfl⟩ (b.bk 2 rfl) (pL 15 r (JA r) ⟨b.bk 1 rfl,b.dc 2 rfl⟩ (b.bk 2 rfl) ?_)⟩
     refine hO 16 (os r r (t_n b 2 [.slice A2 o2.length c2'] r Aj r r) fun w6 b=>⟨sy 16 ⟨b.bk 1 rfl,b.dc 2 rfl⟩,hD ?_⟩)
     refine go ?_
     refine kR ?_
     refine pY (fn:=Try.f75) rfl (kW rfl) (kW rfl) ?_
     exact ⟨none,rfl,rfl,{ m1 with oA:=A2,oC:=c2',oc:=cs2 },(b.arr [2,3,4,5,6] rfl).dp [7,8,9,10,11,12]⟩
 rw [if_neg h] at hm
 refine goB b ?_
 refine qp rfl (fun h=>?_) (fun h=>?_)
 · rw [if_pos h] at hm
   cases hm
   refine go ?_
   refine kR ?_
   refine pY (fn:=Try.f75) rfl (kW rfl) (kW rfl) ?_
   exact ⟨some 0,rfl,rfl,m1,(b.arr [1,2,3,4,5] rfl).dp [4,5,6,7,8,9]⟩
 rw [if_neg h] at hm
 cases hm
 refine go ?_
 refine kR ?_
 refine pY (fn:=Try.f75) rfl (kW rfl) (kW rfl) ?_
 exact ⟨none,rfl,rfl,m1,(b.arr [1,2,3,4,5] rfl).dp [4,5,6,7,8,9]⟩
theorem cst {fv:Nat} {R:Rn} (hR:Vj R):∀ fu,ZC R (stM (jA fv R.src) R.src R.st fu)
 | 0=>by
  intro _ h
  cases h
 | fu+1=>I7 hR (cst hR fu)
end Go.Proofs.Ytfglbdkfnphjgaa
set_option linter.unusedVariables false
set_option maxHeartbeats 12800000
set_option linter.unusedSimpArgs false
set_option maxRecDepth 4000
namespace Go.Proofs.Ytfglbdkfnphjgaa
open Go.RowKit Go.Fw
noncomputable section
def EF (m:jQ→Int→(List Int)→Int→Int→Int→Option ((List kK) × nL)):Prop:=∀ {A:World} {H:Nat→Prop} {x:jQ} {C:Int} {B:(List Int)} {D:Int} {E:Int} {F:Int} {a:Option Addr} {b:Nat} {c:Option Addr} {d:Nat} {e:Option Addr} {f:Nat} {h:Option Addr} {i:Nat} {j:Option Addr} {k:Nat} {R:(List kK) × nL},Pre A H [] [.l a b x.a.a,.l c d x.a.b,.l e f x.b,.l h i x.c,.l j k B]→m x C B D E F=some R→
 Calls Try.prog 17 #[.agg #[Z a x.a.a b,Z c x.a.b d,Z e x.b f,Z h x.c i],V C,Z j B k,V D,V E,V F] A (qw fun v w=>jy R fun G z=>∃ (o:OA)(p:Nat)(t:OA)(u:Nat),v=.tuple #[Z o G p,.agg #[V z.d,.bool z.b,V z.c,Z t z.a u]]∧Bx A w H (lK []) [] [.l o p G,.l t u z.a])
end
end Go.Proofs.Ytfglbdkfnphjgaa
set_option linter.unusedVariables false
set_option maxRecDepth 4000
set_option maxHeartbeats 12800000
namespace Go.Proofs.Ytfglbdkfnphjgaa
open Go.RowKit Go.Fw
noncomputable def l7 (fu:Nat) (s:jQ) (f:Int) (args:List Int) (n fr mo:Int):Option (List kK × nL):=traceM fu (jA fu s) s f args n fr mo
abbrev VD (R:Rn) (b12 b13 b14:Nat) (e:Value) (o:List Value):List It:=[.box b12 36 #[e],.box b13 39 o.toArray,.box b14 86 #[Pt R.rb]]
abbrev Tro (R:Rn) (m:F7) (hist:List kK) (out:List Int) (b12 b13 b14:Nat) (e:Int) (th:Bool) (v:Int):List It:=
 VD R b12 b13 b14 (.slice m.eA (window hist R.fr R.mo).length m.eC) [V e,.bool th,V v,.slice m.oA out.length m.oC]
def Zr (x:Value) (v2 e:Int) (th:Bool) (v:Int):Prop:=
 (x=.nilIface∧e=0∧th=false∧v=v2) ∨ (∃ n,x=.iface 90 (V n)∧e=0∧th=true∧v=n) ∨ (∃ n,x=.iface 91 (V n)∧e=n∧th=false∧v=v2) ∨ (∃ t y,x=.iface t y∧t≠90∧t≠91∧e=4∧th=false∧v=v2)
theorem Wm {N:Fz} {ops:Array Oper} {K:KK} {rest:List Oper} {f:Fr} {w:World} {d:Option Nat} {ty:TypeId} {pos:String} {af:Array Edge} {x:Operand} {t xt t2:TypeId} {k:IntKind} {v z:Value} {s by_:Nat} (hu:Try.prog.underlying t=some (.int k)) (hz:TI Try.prog t z s by_) (hx:ev f x=.iface t2 v) (hne:t2≠t)
  (h:∀ z',kQ Try.prog N ops K rest (kI f d (.tuple #[z',.bool false])) w):kQ Try.prog N ops K (⟨d,.typeAssert x xt t true,ty,pos,af,none⟩ :: rest) f w:=by
 obtain ⟨z',e⟩:=Yq (w:=w) (ρ:=ev f) (d:=d) (ty:=ty) (pos:=pos) (af:=af) (g:=none) (xt:=xt) hu hz hx hne
 exact jS e (h z')
theorem Nl {A G:Nat→Prop} {R:Rn} {m:F7} {ptrs:List Nat} {hist:List kK} {out:List Int} {X:List It} {D:List Da} {w0 w:World} {b12 b13 b14:Nat} {u:FrameMode} {v2 e:Int} {th:Bool} {v:Int}
   (b:Bx w0 w A G (VD R b12 b13 b14 sn [V 0,.bool false,V v2,sn] ++ (Mac R m ptrs hist out ++ X)) D) (hu:Zr (Aw u).1 v2 e th v) :
   CallsD Try.prog 38 #[Pt b13,Pt b14,Pt b12] u w (RD (Aw u).2 (fun w'=>Bx w0 w' A G (Tro R m hist out b12 b13 b14 e th v ++ (Mac R m ptrs hist out ++ X)) D) (fun _ _=>False)):=by
 refine Ma Try.func38 rfl rfl rfl ?_
 refine nW (fun f w'=>Has f [(0,Pt b13),(1,Pt b14),(2,Pt b12)]∧Bx w0 w' A G (VD R b12 b13 b14 sn [V e,.bool th,V v,sn] ++ (Mac R m ptrs hist out ++ X)) D) (fun J hJ=>?_) ?_
 · rcases hu with ⟨hx,rfl,rfl,rfl⟩|⟨n,hx,rfl,rfl,rfl⟩|⟨n,hx,rfl,rfl,rfl⟩|⟨t,y,hx,h90,h91,rfl,rfl,rfl⟩
   · rw [hx]
     refine oF ?_
     refine JO (zV ?_)
     refine jS (EX Try.underlying20 rfl rfl (.inl ⟨rfl,rfl⟩)) ?_
     refine go ?_
     refine jS (Oq .nilIface rfl) ?_
     refine go ?_
     exact hJ _ _ ⟨⟨rfl,rfl,rfl,trivial⟩,b⟩
   · rw [hx]
     refine lI [(0,Pt b13),(1,Pt b14),(2,Pt b12),(7,.iface 90 (V v))] ⟨rfl,rfl,rfl,rfl,trivial⟩ fun av=>?_
     refine oF ?_
     refine JO (zV ?_)
     refine jS (EX Try.underlying20 rfl rfl (.inr ⟨90,V v,rfl,rfl⟩)) ?_
     refine go ?_
     refine jS (Vf Try.underlying90 rfl) ?_
     refine go ?_
     refine jS (NA rfl) ?_
     refine lu (t_n b 1 [.bool true] rfl LW rfl rfl) fun w1 b=>?_
     refine jS (JZ rfl) ?_
     refine lu (t_n b 1 [V v] rfl mK rfl rfl) fun w2 b=>?_
     refine go ?_
     exact hJ _ _ ⟨⟨rfl,rfl,rfl,trivial⟩,b⟩
   · rw [hx]
     refine lI [(0,Pt b13),(1,Pt b14),(2,Pt b12),(7,.iface 91 (V e))] ⟨rfl,rfl,rfl,rfl,trivial⟩ fun av=>?_
     refine oF ?_
     refine JO (zV ?_)
     refine jS (EX Try.underlying20 rfl rfl (.inr ⟨91,V e,rfl,rfl⟩)) ?_
     refine go ?_
     refine Wm Try.underlying90 UK rfl (by decide) fun z'=>?_
     refine go ?_
     refine jS (Vf Try.underlying91 rfl) ?_
     refine go ?_
     refine jS (Ih rfl) ?_
     refine lu (t_n b 1 [V e] rfl Ka rfl rfl) fun w1 b=>?_
     refine go ?_
     exact hJ _ _ ⟨⟨rfl,rfl,rfl,trivial⟩,b⟩
   · rw [hx]
     refine lI [(0,Pt b13),(1,Pt b14),(2,Pt b12),(7,.iface t y)] ⟨rfl,rfl,rfl,rfl,trivial⟩ fun av=>?_
     refine oF ?_
     refine JO (zV ?_)
     refine jS (EX Try.underlying20 rfl rfl (.inr ⟨t,y,rfl,rfl⟩)) ?_
     refine go ?_
     refine Wm Try.underlying90 UK rfl h90 fun z'=>?_
     refine go ?_
     refine Wm Try.underlying91 ZG rfl h91 fun z'=>?_
     refine go ?_
     refine jS (Oq (.iface t y) rfl) ?_
     refine go ?_
     refine jS (Ih rfl) ?_
     refine lu (t_n b 1 [V 4] rfl Ka rfl rfl) fun w1 b=>?_
     refine go ?_
     exact hJ _ _ ⟨⟨rfl,rfl,rfl,trivial⟩,b⟩
 rintro f w' ⟨hf,b⟩
 obtain ⟨av,rfl⟩:=gP _ _ hf
 clear hf
 refine uX (fun u=>mQ u b14 86 #[Pt R.rb]∧mQ u R.rb 89 (oK R m ptrs.length (window hist R.fr R.mo).length hist.length out.length).toArray) (fun _=>True) [] (by kernel_rfl) ?_
 replace b:=b.drew
 have q1:mQ w'.drew b14 86 #[Pt R.rb]∧mQ w'.drew R.rb 89 (oK R m ptrs.length (window hist R.fr R.mo).length hist.length out.length).toArray:=⟨b.bk 2 rfl,b.bk 3 rfl⟩
 refine uF 0 r (fun h=>DF r h.1 r) q1 (pF 1 r (xn r) q1 (pF 2 r (Jl r) q1 (uF 3 r (fun h=>OG r h.2 r) q1 (uF 4 r (fun h=>DF r h.1 r) q1 (pF 5 r (xn r) q1 (pF 6 r (JA r) q1 (uF 7 r (fun h=>Uu r h.2 r) q1 ?_)))))))
 refine hO 8 (os r r (t_n b 0 [.slice m.eA (window hist R.fr R.mo).length m.eC] r L9 r r) fun w2 b=>⟨sF ⟨b.bk 2 rfl,b.bk 3 rfl⟩,pF 9 r (Eb r) ⟨b.bk 2 rfl,b.bk 3 rfl⟩ ?_⟩)
 refine hO 10 (os r r (t_n b 1 [.slice m.oA out.length m.oC] r Aj r r) fun w3 b=>⟨sF ⟨b.bk 2 rfl,b.bk 3 rfl⟩,hD ?_⟩)
 refine go ?_
 exact b
theorem Kz {P:Program} {fn:Func} {d:Deferred} {fv:Fn} {cap:Array Value} {g:FuncId} {args:Array Value} {R:Ending→World→Prop} {f:Fr} {a:Act} {w:World} {M:Fz} {R1:World→Prop}
  (hT:d.target=.fn fv cap) (hi:(invoke d.target d.args).run P w=.ok (.enter g args) w) (hc:CallsD P g args .returning w (RD .returning R1 (fun _ _=>False)))
  (h:∀ w',R1 w'→Reads P fn (fun v w'=>R (.returned v) w') f w') (ha:Ct M f a):Leaves P fn a.tmps R [d] .returning w:=by
 refine ⟨by simp,fv,cap,g,args,hT,hi,?_⟩
 intro c cs hu
 obtain ⟨e,u',w',fr,h1,h2,h3⟩:=hc c cs hu
 refine ⟨e,u',w',fr,?_,h2,h3⟩
 cases e with
 | returned v=>
  obtain ⟨rfl,h1⟩:=h1
  have h:=h w' h1
  unfold Reads at h
  obtain ⟨v2,hv,hR⟩:=h a.tmps ha.get
  exact ⟨v2,hv,hR⟩
 | panicked c=>exact h1.2.elim
 | outgrown=>exact h1.elim
theorem Uq {ρ:Operand→Value} {w:World} {d:Option Nat} {ty:TypeId} {pos:String} {af:Array Edge} {g:Option (Nat × Bool)} {x:Operand} {n:Int} (h:ρ x=V n):Yl Try.prog ρ (.build 39 #[(0,x)]) d ty pos af g w (.agg #[V n,.bool false,V 0,sn]):=by
 have e:(Instr.build 39 #[(0,V n)]).run Try.prog w=.ok (.agg #[V n,.bool false,V 0,sn]) w:=by kernel_rfl
 simp [Yl,execOp,h,e]
theorem Y0 {ρ:Operand→Value} {w:World} {d:Option Nat} {ty:TypeId} {pos:String} {af:Array Edge} {g:Option (Nat × Bool)} {x y z u:Operand} {n m k:Int} {s1 s2 s3 s4:Option Addr} {n1 n2 n3 n4 c1 c2 c3 c4:Nat} (h:ρ x=.agg #[.slice s1 n1 c1,.slice s2 n2 c2,.slice s3 n3 c3,.slice s4 n4 c4]) (h1:ρ y=V n) (h2:ρ z=V m) (h3:ρ u=V k) :
  Yl Try.prog ρ (.build 89 #[(0,x),(3,y),(4,z),(5,u)]) d ty pos af g w (.agg #[.slice s1 n1 c1,.slice s2 n2 c2,.slice s3 n3 c3,.slice s4 n4 c4,sn,V 0,V n,V m,V k,sn,sn]):=by
 have e:(Instr.build 89 #[(0,.agg #[.slice s1 n1 c1,.slice s2 n2 c2,.slice s3 n3 c3,.slice s4 n4 c4]),(3,V n),(4,V m),(5,V k)]).run Try.prog w=.ok (.agg #[.slice s1 n1 c1,.slice s2 n2 c2,.slice s3 n3 c3,.slice s4 n4 c4,sn,V 0,V n,V m,V k,sn,sn]) w:=by kernel_rfl
 simp [Yl,execOp,h,h1,h2,h3,e]
def YB (fu:Nat) (s:jQ) (f:Int) (args:List Int) (n fr mo:Int) (R:List kK × nL):Prop:=
 (0≤n∧n≤5000)∧0≤fr∧(0≤mo∧mo≤100)∧(AY (stM (jA fu s) s n.toNat fu) s [] f args [] []).bind (fun (p,h,o)=>some (window h fr.toNat mo.toNat,match p with
  | .ok v=>(⟨0,false,v,o⟩:nL)
  | .Ep v=>⟨0,true,v,o⟩
  | .err e=>⟨e,false,0,o⟩
  | .rt=>⟨4,false,0,o⟩))=some R
theorem Rz {fu:Nat} {s:jQ} {f:Int} {args:List Int} {n fr mo:Int} {R:List kK × nL} (h:l7 fu s f args n fr mo=some R) :
  (¬ (0≤f∧f < s.a.b.length)∧R=([],⟨1,false,0,[]⟩)) ∨ ∃ k fn,f=((k:Nat):Int)∧s.a.b[k]?=some fn∧
    ((¬ (args.length:Int)=fn.a.length ∨ n < 0 ∨ 5000 < n ∨ fr < 0 ∨ mo < 0 ∨ 100 < mo)∧R=([],⟨1,false,0,[]⟩) ∨ (¬ (¬ (args.length:Int)=fn.a.length ∨ n < 0 ∨ 5000 < n ∨ fr < 0 ∨ mo < 0 ∨ 100 < mo))∧YB fu s f args n fr mo R):=by
 unfold l7 traceM at h
 cases hf:ix? s.a.b f with
 | none=>rw [hf] at h;exact .inl ⟨Am hf,(sm h).symm⟩
 | some fn=>
  rw [hf] at h
  obtain ⟨k,hk,hfn⟩:=VG hf
  refine .inr ⟨k,fn,hk,hfn,?_⟩
  rcases mJ h with ⟨hc,h⟩|⟨hc,h⟩
  · exact .inl ⟨by omega,(sm h).symm⟩
  · exact .inr ⟨by omega,⟨by omega,by omega⟩,by omega,⟨by omega,by omega⟩,h⟩
theorem oG (fu:Nat):EF (l7 fu):=by
 intro w0 Y s f args n fr mo a1 c1 a2 c2 a3 c3 a4 c4 a c R hP hM
 have b:=hP.bx
 clear hP
 generalize hG:lK []=G at b ⊢
 replace hM:=Rz hM
 obtain ⟨ev,out⟩:=R
 have key:Calls Try.prog 17 #[.agg #[Z a1 s.a.a c1,Z a2 s.a.b c2,Z a3 s.b c3,Z a4 s.c c4],V f,Z a args c,V n,V fr,V mo] w0
    (RP (fun v w'=>∃ o p t u,v=.tuple #[.slice o ev.length p,.agg #[V out.d,.bool out.b,V out.c,.slice t out.a.length u]]∧Bx w0 w' Y G [] [.l o p ev,.l t u out.a]) (fun _ _=>False)):=by
  refine Io Try.func17 rfl ?_
  refine NS [(0,.agg #[Z a1 s.a.a c1,Z a2 s.a.b c2,Z a3 s.b c3,Z a4 s.c c4]),(1,V f),(2,Z a args c),(3,V n),(4,V fr),(5,V mo)] ⟨rfl,rfl,rfl,rfl,rfl,rfl,trivial⟩ fun av=>?_
  refine Nr (zV ?_)
  refine tC b (xL rfl) fun w1 b6 b=>?_
  refine tC b (jX L9) fun w2 b12 b=>?_
  refine tC b (jX za) fun w3 b13 b=>?_
  refine LY ?_
  have hbd:=(b.dl 4 rfl).bd
  refine UA (R:=fun f w'=>Reads Try.prog Try.f17 (fun v w'=>∃ o p t u,v=.tuple #[.slice o ev.length p,.agg #[V out.d,.bool out.b,V out.c,.slice t out.a.length u]]∧Bx w0 w' Y G [] [.l o p ev,.l t u out.a]) f w') (X:=fun _ _ _=>False) (V:=fun _ _ _=>False) ?_ (fun e a w q=>?_)
  rotate_left
  · cases e with
    | ret=>
      obtain ⟨f,h1,h2⟩:=q
      show Leaves Try.prog Try.f17 a.tmps _ a.defers .returning w
      rw [h1.dfr]
      unfold Reads at h2
      obtain ⟨v,hv,hR⟩:=h2 a.tmps h1.get
      exact ⟨v,hv,hR⟩
    | normal=>obtain ⟨f,h1,h2⟩:=q;exact h2.elim
    | exit i=>obtain ⟨f,h1,h2⟩:=q;exact h2.elim
    | panic c=>obtain ⟨f,h1,h2⟩:=q;exact h2.elim
    | _=>exact q.elim
  refine JO (nW (fun f' w'=>w'=w3∧∃ q:Bool,Has f' [(1,V f),(2,Z a args c),(3,V n),(4,V fr),(5,V mo),(6,Pt b6),(12,Pt b12),(13,Pt b13),(57,.bool q)]∧(q=true→(ev,out)=([],⟨1,false,0,[]⟩))∧(q=false→YB fu s f args n fr mo (ev,out))) (fun J hJ=>?_) ?_)
  · refine zV ?_
    have hE:¬ (0≤f∧f < s.a.b.length)→(ev,out)=([],⟨1,false,0,[]⟩):=fun h=>by
      rcases hM with ⟨_,h⟩|⟨k,fn,hk,hfn,_⟩
      · exact h
      · have:=kU hfn;omega
    refine goB b ?_
    by_cases h0:f < 0
    · rw [decide_eq_true h0]
      refine goB b ?_
      exact hJ _ _ ⟨rfl,true,⟨rfl,rfl,rfl,rfl,rfl,rfl,rfl,rfl,rfl,trivial⟩,fun _=>hE (by omega),fun h=>by cases h⟩
    rw [decide_eq_false h0]
    refine goB b ?_
    by_cases h1:(s.a.b.length:Int)≤f
    · rw [decide_eq_true h1]
      refine goB b ?_
      exact hJ _ _ ⟨rfl,true,⟨rfl,rfl,rfl,rfl,rfl,rfl,rfl,rfl,rfl,trivial⟩,fun _=>hE (by omega),fun h=>by cases h⟩
    rw [decide_eq_false h1]
    clear hE
    rcases hM with ⟨h2,_⟩|⟨k,fn,rfl,hfn,hM⟩
    · exact (h2 ⟨by omega,by omega⟩).elim
    obtain ⟨cs0,hr0,b0⟩:=b.nm 1 rfl hfn
    obtain ⟨a5,c5,a6,c6,rfl,h5,h6⟩:=nI.out hr0
    have hE:(¬ (args.length:Int)=fn.a.length ∨ n < 0 ∨ 5000 < n ∨ fr < 0 ∨ mo < 0 ∨ 100 < mo)→(ev,out)=([],⟨1,false,0,[]⟩):=fun h=>by
      rcases hM with ⟨_,h⟩|⟨h',_⟩
      · exact h
      · exact absurd h h'
    refine goB b ?_
    refine jS (kV Try.underlying24 nS rfl rfl rfl (b.dl 1 rfl) hfn) ?_
    refine goB b ?_
    refine jS (jP Try.underlying70 rfl rfl ((b0.dc 0 rfl) 2 _ rfl)) ?_
    refine goB b ?_
    by_cases h2:¬ (args.length:Int)=fn.a.length
    · rw [decide_eq_true (p:=(args.length:Int)≠fn.a.length) h2]
      refine goB b ?_
      exact hJ _ _ ⟨rfl,true,⟨rfl,rfl,rfl,rfl,rfl,rfl,rfl,rfl,rfl,trivial⟩,fun _=>hE (.inl h2),fun h=>by cases h⟩
    rw [decide_eq_false (p:=(args.length:Int)≠fn.a.length) h2]
    refine goB b ?_
    by_cases h3:n < 0
    · rw [decide_eq_true h3]
      refine goB b ?_
      exact hJ _ _ ⟨rfl,true,⟨rfl,rfl,rfl,rfl,rfl,rfl,rfl,rfl,rfl,trivial⟩,fun _=>hE (by omega),fun h=>by cases h⟩
    rw [decide_eq_false h3]
    refine goB b ?_
    by_cases h4:5000 < n
    · rw [decide_eq_true h4]
      refine goB b ?_
      exact hJ _ _ ⟨rfl,true,⟨rfl,rfl,rfl,rfl,rfl,rfl,rfl,rfl,rfl,trivial⟩,fun _=>hE (by omega),fun h=>by cases h⟩
    rw [decide_eq_false h4]
    refine goB b ?_
    by_cases h5:fr < 0
    · rw [decide_eq_true h5]
      refine goB b ?_
      exact hJ _ _ ⟨rfl,true,⟨rfl,rfl,rfl,rfl,rfl,rfl,rfl,rfl,rfl,trivial⟩,fun _=>hE (by omega),fun h=>by cases h⟩
    rw [decide_eq_false h5]
    refine goB b ?_
    by_cases h6:mo < 0
    · rw [decide_eq_true h6]
      refine goB b ?_
      exact hJ _ _ ⟨rfl,true,⟨rfl,rfl,rfl,rfl,rfl,rfl,rfl,rfl,rfl,trivial⟩,fun _=>hE (by omega),fun h=>by cases h⟩
    rw [decide_eq_false h6]
    refine goB b ?_
    by_cases h7:100 < mo
    · rw [decide_eq_true h7]
      refine goB b ?_
      exact hJ _ _ ⟨rfl,true,⟨rfl,rfl,rfl,rfl,rfl,rfl,rfl,rfl,rfl,trivial⟩,fun _=>hE (by omega),fun h=>by cases h⟩
    rw [decide_eq_false h7]
    refine goB b ?_
    refine hJ _ _ ⟨rfl,false,⟨rfl,rfl,rfl,rfl,rfl,rfl,rfl,rfl,rfl,trivial⟩,fun h=>(by cases h),fun _=>?_⟩
    rcases hM with ⟨h,_⟩|⟨_,h⟩
    · omega
    · exact h
  rintro f' w' ⟨rfl,q,hf,hT,hF⟩
  obtain ⟨av,rfl⟩:=gP _ _ hf
  clear hf hM
  cases q with
  | true=>
    obtain ⟨rfl,rfl⟩:=Prod.mk.inj (hT rfl)
    refine jL rfl ?_
    refine JO (zV ?_)
    refine jS (Uq rfl) ?_
    refine lu (t_n b 1 [sn] rfl L9 rfl rfl) fun w4 b=>?_
    refine lu (t_n b 0 [V 1,.bool false,V 0,sn] rfl za rfl rfl) fun w5 b=>?_
    refine LY ?_
    refine kR ?_
    refine pY (fn:=Try.f17) rfl (Ri rfl (fun ρ h=>OG h (b.bk 1 rfl) rfl) (b.bk 1 rfl)) (Ri rfl (fun ρ h=>mZ [V 1,.bool false,V 0,sn] Qj za h (b.bk 0 rfl)) (b.bk 0 rfl)) ?_
    exact ⟨none,0,none,0,rfl,((b.arr [] rfl).ku (d:=.l none 0 ([]:List Int)) kN.nil).ku (d:=.l none 0 ([]:List kK)) kN.nil |>.dp [0,1]⟩
  | false=>
  refine jH rfl (Fx ?_)
  clear hT
  obtain ⟨hn,hfr,hmo,hA⟩:=hF rfl
  clear hF
  obtain ⟨N,rfl⟩:∃ N:Nat,n=(N:Int):=⟨n.toNat,by omega⟩
  obtain ⟨F,rfl⟩:∃ F:Nat,fr=(F:Int):=⟨fr.toNat,by omega⟩
  obtain ⟨M,rfl⟩:∃ M:Nat,mo=(M:Int):=⟨mo.toNat,by omega⟩
  rw [Int.toNat_natCast,Int.toNat_natCast,Int.toNat_natCast] at hA
  obtain ⟨⟨p,h,o⟩,hc,hA⟩:=bs hA
  dsimp only at hA
  refine Nr (zV ?_)
  refine jS (mZ [Z a1 s.a.a c1,Z a2 s.a.b c2,Z a3 s.b c3,Z a4 s.c c4] DY wm rfl (b.bk 2 rfl)) ?_
  refine goB b ?_
  refine jS (Y0 rfl rfl rfl rfl) ?_
  refine tC b (xL rfl) fun w4 b89 b=>?_
  refine tC b (jX Yr) fun w5 b14 b=>?_
  refine lu (t_n b 0 [Pt b89] rfl Yr rfl rfl) fun w6 b=>?_
  refine LY ?_
  replace b:=((b.BZ kK 50).BZ Int 3).ZM 117 1
  replace b:=(b.arr [6,5,3,4,0,2,1] rfl).dp [1,0,2,3,4,5,6]
  let R:Rn:=⟨w0.heap.size,b89,⟨a1,c1,a2,c2,a3,c3,a4,c4⟩,s,N,F,M⟩
  let m:F7:=⟨none,0,none,0,[],none,0,[]⟩
  have hw:window ([]:List kK) F M=[]:=by simp [window]
  replace b:Bx w0 w6 Y G (VD R b12 b13 b14 sn [V 0,.bool false,V 0,sn] ++ (Mac R m [] [] [] ++ [])) (tQ R m [] [] ++ [.l a c args]):=by
    show Bx w0 w6 Y G (VD R b12 b13 b14 sn [V 0,.bool false,V 0,sn] ++ ([.box b89 89 (oK R m 0 (window ([]:List kK) F M).length 0 0).toArray,.own R.B none 0 117 1 [],.own R.B none 0 50 (Rp.sz kK) [],.own R.B none 0 3 (Rp.sz Int) []] ++ [])) ([.els [] (window ([]:List kK) F M),.els [] ([]:List Int),.l a1 c1 s.a.a,.l a2 c2 s.a.b,.l a3 c3 s.b,.l a4 c4 s.c] ++ [.l a c args])
    rw [hw]
    exact b
  refine NS [(1,V f),(2,Z a args c),(12,Pt b12),(13,Pt b13),(14,Pt b14)] ⟨rfl,rfl,rfl,rfl,rfl,trivial⟩ fun av2=>?_
  refine Pf (UL (vs:=[Pt b13,Pt b14,Pt b12]) rfl) (YT rfl) ?_
  refine Uo (Q:=⟨fun _ _=>False,fun _ _ _=>False,fun f w'=>(f 12=Pt b12∧f 13=Pt b13)∧∃ v m',p=.ok v∧Bx w0 w' Y G (VD R b12 b13 b14 sn [V 0,.bool false,V v,sn] ++ (Mac R m' [] h o ++ [])) (tQ R m' h o),
    fun f ch w'=>(f 12=Pt b12∧f 13=Pt b13)∧Pb p ch∧∃ more m',Bx w0 w' Y G (VD R b12 b13 b14 sn [V 0,.bool false,V 0,sn] ++ (Mac R m' more h o ++ [])) (tQ R m' h o)⟩) ?_ ?_
  · refine JO (zV ?_)
    refine jS (DF rfl (b.bk 2 rfl) rfl) ?_
    refine goB b ?_
    have hCl:ZB R (stM (jA fu R.src) R.src R.st fu):=NR (NK (cst ⟨by show N≤5000;omega,by show M≤100;omega⟩ fu))
    have hq:=hCl (b.pr [3,4,5,6] [0,1,2] [6,0,1,2,3,4,5] rfl) (xs:=[]) (gs:=[]) trivial b.q9.size rfl (Nat.zero_le _) hc
    refine JK (p8 QX rfl) hq (fun ch w7 hq=>?_) ?_
    · obtain ⟨hq,more,m4,hK⟩:=hq
      have hb:=b.cn [3,4,5,6] [0,1,2] hK
      exact ⟨⟨rfl,rfl⟩,hq,more,m4,(hb.arr [4,5,6,0,1,2,3] rfl).dp [0,1,2,3,4,5]⟩
    rintro _ w7 ⟨v,rfl,rfl,m4,hK⟩
    replace b:=b.cn [3,4,5,6] [0,1,2] hK
    replace b:=(b.arr [4,5,6,0,1,2,3] rfl).dp [0,1,2,3,4,5]
    refine jS (JZ rfl) ?_
    refine lu (t_n b 1 [V v] rfl mK rfl rfl) fun w8 b=>?_
    refine go ?_
    refine uX (fun u=>mQ u b12 36 #[sn]∧mQ u b13 39 #[V 0,.bool false,V v,sn]) (fun _=>True) [] (by kernel_rfl) ?_
    replace b:=b.drew
    refine uF 0 r (fun h=>OG r h.1 r) ⟨b.bk 0 rfl,b.bk 1 rfl⟩ (uF 1 r (fun h=>mZ [V 0,.bool false,V v,sn] Qj za r h.2) ⟨b.bk 0 rfl,b.bk 1 rfl⟩ ?_)
    refine hO 2 (os r r (t_n b 0 [sn] r L9 r r) fun w9 b=>⟨sF ⟨b.bk 0 rfl,b.bk 1 rfl⟩,?_⟩)
    refine hO 3 (os r r (t_n b 1 [V 0,.bool false,V v,sn] r za r r) fun w10 b=>⟨sF ⟨b.bk 0 rfl,b.bk 1 rfl⟩,hD ?_⟩)
    refine go ?_
    refine kR ?_
    exact ⟨⟨rfl,rfl⟩,v,m4,rfl,b⟩
  · have fin:∀ {f:Fr} {w':World} {m':F7} {more:List Nat} {e v:Int} {th:Bool},f 12=Pt b12→f 13=Pt b13→(window h F M,(⟨e,th,v,o⟩:nL))=(ev,out)→Bx w0 w' Y G (Tro R m' h o b12 b13 b14 e th v ++ (Mac R m' more h o ++ [])) (tQ R m' h o)→
        Reads Try.prog Try.f17 (fun v w'=>∃ o p t u,v=.tuple #[.slice o ev.length p,.agg #[V out.d,.bool out.b,V out.c,.slice t out.a.length u]]∧Bx w0 w' Y G [] [.l o p ev,.l t u out.a]) f w':=fun {f w' m' more e v th} h12 h13 he b=>by
      obtain ⟨rfl,rfl⟩:=Prod.mk.inj he
      refine pY (fn:=Try.f17) rfl (Ri h12 (fun ρ h=>OG h (b.bk 0 rfl) rfl) (b.bk 0 rfl)) (Ri h13 (fun ρ h'=>mZ [V e,.bool th,V v,.slice m'.oA o.length m'.oC] Qj za h' (b.bk 1 rfl)) (b.bk 1 rfl)) ?_
      exact ⟨_,_,_,_,rfl,((b.Qa 5 0 rfl rfl).Qa 5 1 rfl rfl).ad [] [1,0]⟩
    intro e a1' w1' q
    cases e with
    | normal=>obtain ⟨f,h1,h2⟩:=q;exact h2.elim
    | exit i=>obtain ⟨f,h1,h2⟩:=q;exact h2.elim
    | ret=>
      obtain ⟨f,h1,⟨h12,h13⟩,v,m',rfl,b⟩:=q
      show Leaves Try.prog Try.f17 a1'.tmps _ a1'.defers .returning w1'
      rw [h1.dfr]
      exact Kz rfl rfl (Nl b (.inl ⟨rfl,rfl,rfl,rfl⟩)) (fun w2 b=>fin h12 h13 (sm hA) b) h1
    | panic ch=>
      obtain ⟨f,h1,⟨h12,h13⟩,hq,more,m',b⟩:=q
      show Leaves Try.prog Try.f17 a1'.tmps _ a1'.defers (.panicking ch) w1'
      rw [h1.dfr]
      cases p with
      | ok v=>exact hq.elim
      | Ep v=>
        obtain ⟨lc,rfl,hlc⟩:=hq
        exact zK rfl rfl hlc (Nl b (.inr (.inl ⟨v,rfl,rfl,rfl,rfl⟩))) (fun w2 b=>fin h12 h13 (sm hA) b) (fun c w' h=>h.elim) h1
      | err v=>
        obtain ⟨lc,rfl,hlc⟩:=hq
        exact zK rfl rfl hlc (Nl b (.inr (.inr (.inl ⟨v,rfl,rfl,rfl,rfl⟩)))) (fun w2 b=>fin h12 h13 (sm hA) b) (fun c w' h=>h.elim) h1
      | rt=>
        obtain ⟨u,lc,rfl,hlc⟩:=hq
        exact zK rfl rfl hlc (Nl b (.inr (.inr (.inr ⟨_,_,rfl,by decide,by decide,rfl,rfl,rfl⟩)))) (fun w2 b=>fin h12 h13 (sm hA) b) (fun c w' h=>h.elim) h1
    | _=>exact q.elim
 exact key.mono fun e w he=>by
  cases e with
  | returned v=>exact ⟨v,rfl,he⟩
  | panicked c=>exact he.elim
  | outgrown=>exact he.elim
end Go.Proofs.Ytfglbdkfnphjgaa
