/- Calls out of a statement. -/
import Derived.Test.YtfglbdkfnphjgaaZ21
import Derived.Test.YtfglbdkfnphjgaaZ5
import Derived.Test.YtfglbdkfnphjgaaLa
set_option linter.unusedVariables false
set_option maxRecDepth 4000
set_option maxHeartbeats 12800000
namespace Go.Proofs.Ytfglbdkfnphjgaa
open Go.RowKit Go.Fw
theorem Pp:jC Try.prog 39:=⟨_,Try.func39,by kernel_rfl,by kernel_rfl⟩
theorem UC:jC Try.prog 104:=⟨_,Try.func104,by kernel_rfl,by kernel_rfl⟩
theorem RP.mono {P:Program} {g:FuncId} {args:Array Value} {w:World} {R R':Value→World→Prop} {V V':List PanicEntry→World→Prop} (h:Calls P g args w (RP R V)) (k:∀ v w,R v w→R' v w) (kv:∀ c w,V c w→V' c w):Calls P g args w (RP R' V'):=
 h.mono fun e w he=>by
  cases e with
  | returned v=>exact k v w he
  | panicked c=>exact kv c w he
  | outgrown=>exact he
section
variable {w w1:World} {A G:Nat→Prop} {R:Rn} {m:ED} {ptrs:List Nat} {x:Ao} {s s':Sg} {xs:List Ao} {gs:List tZ} {b5:Nat} {cs:Array Value} {D:List Da}
theorem cVal {fu:Nat} {p:Pn (List Int)} {l:List jA} {a:Option Addr} {c:Nat} (b:Bx w w1 A G (.box b5 111 cs :: H8 R m ptrs x s) D) (j:Nat) (hj:pick D [j]=[.l a c l]) (hm:Jh (CX fu s.a.ws) l []=some p) :
  Calls Try.prog 103 #[Pt R.rb,Pt x.b,.slice a l.length c] w1 (RP (fun v w'=>∃ ns A1 c1,p=.ok ns∧v=.slice A1 ns.length c1∧Bx w w' A G (.box b5 111 cs :: H8 R m ptrs x s) (.l A1 c1 ns :: D)) (fun ch w'=>Pb p ch∧Bx w w' A G (.box b5 111 cs :: H8 R m ptrs x s) D)):=by
 have hP:=b.pr [] [0,1,2,3,4,5] [j] rfl
 rw [hj] at hP
 refine RP.mono (Xa fu hP (b.at 5 rfl) hm) (fun v w' hq=>?_) fun ch w' hq=>⟨hq.1,b.ext hq.2⟩
 obtain ⟨ns,A1,c1,h1,h2,hK⟩:=hq
 exact ⟨ns,A1,c1,h1,h2,b.cn [] [0,1,2,3,4,5] hK⟩
theorem Yy {sm:List tZ→Sm} (hC:Zd R sm) {p:Pn Int} {f:Int} {args:List Int} {h:List kV} {o:List Int} {a:Option Addr} {c:Nat} {y:jO} {a7:Option Addr} {c7:Nat} {a10:Option Addr} {c10:Nat} {a11:Option Addr} {c11:Nat} {a12:Option Addr} {c12:Nat}
   (b:Bx w w1 A G (.box b5 111 cs :: H8 R m ptrs x s) (.l a c args :: (dS y a7 c7 a10 c10 a11 c11 a12 c12 ++ tY R m s.hist s.out))) (hl:zO w G xs gs) (hB:R.B≤w.heap.size)
   (hp:ptrs=(xs.map (·.b)).reverse ++ [x.b]) (hn:ptrs.length≤20) (hm:D9 sm R.src (s.a :: gs) f args s.hist s.out=some (p,h,o)) :
   Calls Try.prog 39 #[Pt R.rb,V f,.slice a args.length c] w1 (RP (fun v w'=>∃ n m',p=.ok n∧v=V n∧Bx w w' A G (.box b5 111 cs :: H8 R m' ptrs x ⟨s.a,h,o⟩) (dS y a7 c7 a10 c10 a11 c11 a12 c12 ++ tY R m' h o))
    (fun ch w'=>Pb p ch∧∃ more m',Bx w w' A G (Mac R m' (ptrs ++ more) h o ++ [It.act x s.a]) (tY R m' h o))):=by
 have hP:=b.pr [1,2,3,4] [0,5] [0,5,6,7,8,9,10] rfl
 have hl1:zO w1 (lS (Mac R m ptrs s.hist s.out)) (x :: xs) (s.a :: gs):=by
   refine ⟨⟨b.at 5 rfl,fun k hF ⟨it,hi,hk⟩=>?_⟩,Av b hl fun it hi=>List.mem_cons_of_mem _ (List.mem_append_left _ hi)⟩
   obtain ⟨i,hi⟩:=List.getElem?_of_mem hi
   have hlt:=kT hi
   have h4:i < 4:=hlt
   refine b.apart (i:=5) (j:=i+1) (by omega) (x:=It.act x s.a) (y:=it) rfl ?_ k hF hk
   rw [List.getElem?_cons_succ,List.getElem?_append_left hlt]
   exact hi
 refine RP.mono (hC hP hl1 (Nat.le_trans hB b.qW.size) (by rw [hp,List.map_cons,List.reverse_cons]) hn hm) (fun v w' hq=>?_) fun ch w' hq=>?_
 · obtain ⟨n,h1,h2,m',hK⟩:=hq
   have hb:=b.cn [1,2,3,4] [0,5] hK
   exact ⟨n,m',h1,h2,(hb.arr [4,0,1,2,3,5] rfl).dp [7,8,9,10,0,1,2,3,4,5]⟩
 · obtain ⟨h1,more,m',hK⟩:=hq
   have hb:=b.cn [1,2,3,4] [0,5] hK
   exact ⟨h1,more,m',(hb.arr [0,1,2,3,5] rfl).dp [0,1,2,3,4,5]⟩
end
end Go.Proofs.Ytfglbdkfnphjgaa
set_option linter.unusedVariables false
set_option maxRecDepth 4000
set_option maxHeartbeats 12800000
namespace Go.Proofs.Ytfglbdkfnphjgaa
open Go.RowKit Go.Fw
theorem Iq {fu fv:Nat} {R:Rn} (hR:Wm R) (ih:Za R (stM (jM fv R.src) R.src R.st fu)):Za R (stM (jM fv R.src) R.src R.st (fu+1)):=by
 have hLs:WQ R (stM (jM fv R.src) R.src R.st fu):=MN ih
 have hCl:Zd R (stM (jM fv R.src) R.src R.st fu):=MZ hLs
 have hTr:CTr R (stM (jM fv R.src) R.src R.st fu):=Ut hLs (LK hLs)
 intro w A m ptrs x s s' xs gs y a7 c7 a10 c10 a11 c11 a12 c12 p hr0 hm
 obtain ⟨hP,hl,hB,hp,hn⟩:=hr0
 have b:=hP.bx
 clear hP
 unfold Ok Pk
 generalize hG:lS (H8 R m ptrs x s)=G at b hl ⊢
 refine vU Try.func75 rfl ?_
 refine lM [(0,Pt R.rb),(1,Pt x.b),(2,.agg (cS y a7 c7 a10 c10 a11 c11 a12 c12).toArray)] ⟨rfl,rfl,rfl,trivial⟩ fun av=>?_
 rw [stM] at hm
 obtain ⟨⟨pe,s1⟩,he,hm⟩:=bs hm
 refine Ji (zY ?_)
 refine sV b (yY rfl) fun w1 b5 b=>?_
 refine goB b ?_
 refine YH hR b hl hB hp hn he rfl rfl rfl (fun f ch w' m' hq hb=>?_) (fun w2 m1 hpe b=>?_)
 · cases pe with
   | ok u=>exact hq.elim
   | _=>cases hm;exact ⟨hq,[],m',by rw [List.append_nil];exact hb⟩
 subst hpe
 dsimp only at hm
 clear he
 refine goB b ?_
 refine lM [(0,Pt R.rb),(1,Pt x.b),(5,Pt b5),(18,V y.e),(19,.bool (decide (y.e=1)))] ⟨rfl,rfl,rfl,rfl,rfl,trivial⟩ fun av=>?_
 refine qy rfl (fun h=>?_) (fun h=>?_)
 · rw [if_pos h] at hm
   refine goB b ?_
   refine uY (fun u=>mI u b5 111 (cS y a7 c7 a10 c10 a11 c11 a12 c12).toArray) (fun u=>(It.act x s1.a).p u) [8] (by kernel_rfl) ?_
   replace b:=b.drew
   have q1:mI w2.drew b5 111 (cS y a7 c7 a10 c10 a11 c11 a12 c12).toArray:=b.bk 0 rfl
   have q2:(It.act x s1.a).p w2.drew:=b.at 5 rfl
   refine pL 0 r (vQ r) q1 q2 (pL 1 r (xn r) q1 q2 (pL 2 r (CO r) q1 q2 (tS 9 3 r (fun _ h=>Nb r (It.zf h) r) (mF q1 q2) (pL 4 r (MK r) q1 q2 (tU 5 r (fun _ h=>JE r h r) (mF q1 q2) ?_)))))
   cases hv:ix? s1.a.ws y.g with
   | none=>
     rw [hv] at hm
     cases hm
     refine hO 6 (JV r Try.underlying118 r r (Ak hv) fun u w3 hw f=>⟨⟨u,xH _⟩,[],m1,?_⟩)
     rw [List.append_nil]
     exact Y0 ((b.arr [1,2,3,4,5] rfl).dp [4,5,6,7,8,9]) hw
   | some row=>
   rw [hv] at hm
   obtain ⟨k,hk,hrow⟩:=V9 hv
   obtain ⟨r0,hr0,hB0,hA0,hcell⟩:=It.zU q2 hrow
   refine tS 9 6 r (fun _ h=>KF k hA0 Try.underlying118 Aj r r hk (kT hrow)) (mF q1 q2) ?_
   refine tS 9 7 r (fun _ h=>jP (a:=⟨nN x.A,oU x.A+k * 1,none⟩) Try.underlying22 rfl r (FY h hr0 hrow)) (mF q1 q2) ?_
   refine hO 8 (oo r r (Ua b 5 r hr0 hrow r) ?_)
   rintro _ w3 b
   refine ⟨sy 8 (b.bk 0 rfl),hD ?_⟩
   cases hm
   have hkn:k=y.g.toNat:=by omega
   subst hkn
   refine go ?_
   refine kU ?_
   refine qd (fn:=Try.f75) rfl (lq rfl) (lq rfl) ?_
   exact ⟨none,rfl,rfl,m1,(b.arr [1,2,3,4,5] rfl).dp [4,5,6,7,8,9]⟩
 rw [if_neg h] at hm
 refine goB b ?_
 refine qy rfl (fun h=>?_) (fun h=>?_)
 · rw [if_pos h] at hm
   obtain ⟨q,hq,hm⟩:=KJ hm
   refine goB b ?_
   refine YE b 5 0 rfl rfl hq rfl rfl (fun _ _=>rfl) (fun _ _=>rfl) (fun f ch w' hb b=>?_) (fun k o r0 row w3 α β hqk hr0 hrow ho b=>?_)
   · rcases hm with ⟨n,rfl,_⟩|⟨_,rfl,rfl⟩
     · exact hb.elim
     · exact ⟨hb.up,[],m1,by rw [List.append_nil];exact (b.arr [1,2,3,4,5] rfl).dp [4,5,6,7,8,9]⟩
   subst hqk
   rcases hm with ⟨n,hn1,hm⟩|⟨h1,_⟩
   rotate_left
   · exact (h1 _ rfl).elim
   cases hn1
   obtain ⟨q,hq,hm⟩:=CP hm
   refine goB b ?_
   refine eArg b 5 1 rfl rfl hq rfl rfl (fun _ _=>rfl) (fun _ _=>rfl) (fun f ch w' hb b=>?_) (fun n w4 α β hqn b=>?_)
   · rcases hm with ⟨n,rfl,_⟩|⟨_,rfl,rfl⟩
     · exact hb.elim
     · exact ⟨hb.up,[],m1,by rw [List.append_nil];exact (b.arr [1,2,3,4,5] rfl).dp [4,5,6,7,8,9]⟩
   subst hqn
   rcases hm with ⟨n,hn1,hm⟩|⟨h1,_⟩
   rotate_left
   · exact (h1 _ rfl).elim
   cases hn1
   cases hm
   refine goB b ?_
   refine kZ (Jq b 5 rfl hr0 hrow ho rfl rfl) fun w5 b=>?_
   refine go ?_
   refine kU ?_
   refine qd (fn:=Try.f75) rfl (lq rfl) (lq rfl) ?_
   exact ⟨none,rfl,rfl,m1,(b.arr [1,2,3,4,5] rfl).dp [4,5,6,7,8,9]⟩
 rw [if_neg h] at hm
 refine goB b ?_
 refine qy rfl (fun h=>?_) (fun h=>?_)
 · rw [if_pos h] at hm
   unfold F5 at hm
   obtain ⟨q,hq,hm⟩:=bs hm
   refine goB b ?_
   refine uY (fun u=>mI u b5 111 (cS y a7 c7 a10 c10 a11 c11 a12 c12).toArray) (fun _=>True) [] (by kernel_rfl) ?_
   replace b:=b.drew
   have q1:mI w2.drew b5 111 (cS y a7 c7 a10 c10 a11 c11 a12 c12).toArray:=b.bk 0 rfl
   refine pF 0 r (vQ r) q1 (pF 1 r (MI r) q1 (uF 2 r (fun h=>JE r h r) q1 (pF 3 r (vQ r) q1 (pF 4 r (vQ r) q1 (pF 5 r (Cy r) q1 (uF 6 r (fun h=>MW r h r) q1 ?_))))))
   refine hO 7 (QD r r (qg OJ rfl) (cVal b 1 rfl hq) (fun ch w3 hb f=>?_) ?_)
   · obtain ⟨hb,b⟩:=hb
     cases q with
     | ok l=>exact hb.elim
     | _=>cases hm;exact ⟨hb,[],m1,by rw [List.append_nil];exact (b.arr [1,2,3,4,5] rfl).dp [4,5,6,7,8,9]⟩
   rintro _ w3 ⟨ns,A1,c1,rfl,rfl,b⟩
   dsimp only at hm
   obtain ⟨⟨q,h1,o1⟩,hq2,hm⟩:=bs hm
   refine ⟨sF (b.bk 0 rfl),?_⟩
   refine hO 8 (QD r r (qg Pp rfl) (Yy hCl b hl hB hp hn hq2) (fun ch w4 hb f=>?_) ?_)
   · obtain ⟨hb,more,m5,b⟩:=hb
     cases q with
     | ok l=>exact hb.elim
     | _=>cases hm;exact ⟨hb,more,m5,b⟩
   rintro _ w4 ⟨n,m5,rfl,rfl,b⟩
   refine ⟨sF (b.bk 0 rfl),pF 9 r (Qt r) (b.bk 0 rfl) (hD ?_)⟩
   dsimp only at hm
   refine goB b ?_
   refine qy rfl (fun h0=>?_) (fun h0=>?_)
   · rw [if_neg (by omega)] at hm
     obtain ⟨q,hq,hm⟩:=KJ hm
     refine goB b ?_
     refine YE b 5 0 rfl rfl hq rfl rfl (fun _ _=>rfl) (fun _ _=>rfl) (fun f ch w' hb b=>?_) (fun k o r0 row w5 α β hqk hr0 hrow ho b=>?_)
     · rcases hm with ⟨n,rfl,_⟩|⟨_,rfl,rfl⟩
       · exact hb.elim
       · exact ⟨hb.up,[],m5,by rw [List.append_nil];exact (b.arr [1,2,3,4,5] rfl).dp [4,5,6,7,8,9]⟩
     subst hqk
     rcases hm with ⟨n,hn1,hm⟩|⟨h1,_⟩
     rotate_left
     · exact (h1 _ rfl).elim
     cases hn1
     cases hm
     refine goB b ?_
     refine kZ (Jq b 5 rfl hr0 hrow ho rfl rfl) fun w5 b=>?_
     refine go ?_
     refine kU ?_
     refine qd (fn:=Try.f75) rfl (lq rfl) (lq rfl) ?_
     exact ⟨none,rfl,rfl,m5,(b.arr [1,2,3,4,5] rfl).dp [4,5,6,7,8,9]⟩
   · rw [if_pos (by omega)] at hm
     cases hm
     refine go ?_
     refine kU ?_
     refine qd (fn:=Try.f75) rfl (lq rfl) (lq rfl) ?_
     exact ⟨none,rfl,rfl,m5,(b.arr [1,2,3,4,5] rfl).dp [4,5,6,7,8,9]⟩
 rw [if_neg h] at hm
 refine goB b ?_
 refine qy rfl (fun h=>?_) (fun h=>?_)
 · rw [if_pos h] at hm
   obtain ⟨q,hq,hm⟩:=CP hm
   refine goB b ?_
   refine eArg b 5 1 rfl rfl hq rfl rfl (fun _ _=>rfl) (fun _ _=>rfl) (fun f ch w' hb b=>?_) (fun n w4 α β hqn b=>?_)
   · rcases hm with ⟨n,rfl,_⟩|⟨_,rfl,rfl⟩
     · exact hb.elim
     · exact ⟨hb.up,[],m1,by rw [List.append_nil];exact (b.arr [1,2,3,4,5] rfl).dp [4,5,6,7,8,9]⟩
   subst hqn
   rcases hm with ⟨n,hn1,hm⟩|⟨h1,_⟩
   rotate_left
   · exact (h1 _ rfl).elim
   cases hn1
   refine goB b ?_
   refine qy rfl (fun h0=>?_) (fun h0=>?_)
   · rw [if_pos h0] at hm
     refine goB b ?_
     refine U8 hLs b hl hB hp hn 2 hm rfl rfl rfl rfl (fun f ch w' m' more hb b=>⟨hb,more,m',b⟩) (fun o w5 m5 hpo b=>?_)
     refine goB b ?_
     refine kU ?_
     refine qd (fn:=Try.f75) rfl (lq rfl) (lq rfl) ?_
     exact ⟨o,hpo,rfl,m5,(b.arr [1,2,3,4,5] rfl).dp [4,5,6,7,8,9]⟩
   · rw [if_neg h0] at hm
     refine goB b ?_
     refine U8 hLs b hl hB hp hn 3 hm rfl rfl rfl rfl (fun f ch w' m' more hb b=>⟨hb,more,m',b⟩) (fun o w5 m5 hpo b=>?_)
     refine goB b ?_
     refine kU ?_
     refine qd (fn:=Try.f75) rfl (lq rfl) (lq rfl) ?_
     exact ⟨o,hpo,rfl,m5,(b.arr [1,2,3,4,5] rfl).dp [4,5,6,7,8,9]⟩
 rw [if_neg h] at hm
 refine goB b ?_
 refine qy rfl (fun h=>?_) (fun h=>?_)
 · rw [if_pos h] at hm
   refine goB b ?_
   refine kE (fun aw f w'=>∃ (s2:Sg) (m2:ED),Has f [(0,Pt R.rb),(1,Pt x.b),(5,Pt b5)]∧
       Bx w w' A G (.box b5 111 (cS y a7 c7 a10 c10 a11 c11 a12 c12).toArray :: H8 R m2 ptrs x s2) (dS y a7 c7 a10 c10 a11 c11 a12 c12 ++ tY R m2 s2.hist s2.out)∧
       WT (fun s=>Zb (CX fu s.a.ws) y.a) (fun s=>JF (stM (jM fv R.src) R.src R.st fu gs) s y.d) (fun s=>event (jM fv R.src) R.st gs s y.n) aw s2=some (p,s'))
     fu ⟨s1,m1,⟨rfl,rfl,rfl,trivial⟩,b,hm⟩ ?_
   clear b hm
   rintro aw f w3 ⟨s2,m2,hf,b,hm⟩ J hJ
   obtain ⟨av,rfl⟩:=fV _ _ hf
   clear hf
   cases aw with
   | zero=>cases hm
   | succ aw=>
   rw [WT] at hm
   obtain ⟨q,hq,hm⟩:=bs hm
   refine goB b ?_
   refine eArg b 5 1 rfl rfl hq rfl rfl (fun _ _=>rfl) (fun _ _=>rfl) (fun f ch w' hb b=>?_) (fun n w4 α β hqn b=>?_)
   · cases q with
     | ok n=>exact hb.elim
     | _=>cases hm;exact ⟨hb,[],m2,by rw [List.append_nil];exact (b.arr [1,2,3,4,5] rfl).dp [4,5,6,7,8,9]⟩
   subst hqn
   dsimp only at hm
   refine goB b ?_
   refine qy rfl (fun h0=>?_) (fun h0=>?_)
   · rw [if_neg h0] at hm
     obtain ⟨⟨q,s3⟩,hq,hm⟩:=bs hm
     refine goB b ?_
     refine U8 hLs b hl hB hp hn 2 hq rfl rfl rfl rfl (fun f ch w' m' more hb b=>?_) (fun o w5 m5 hpo b=>?_)
     · cases q with
       | ok n=>exact hb.elim
       | _=>cases hm;exact ⟨hb,more,m',b⟩
     subst hpo
     cases o with
     | none=>
       dsimp only at hm
       refine jS (GD (.tuple #[V 0,.bool false]) rfl) ?_
       obtain ⟨⟨q,s4⟩,hq,hm⟩:=bs hm
       refine goB b ?_
       refine YH hR b hl hB hp hn hq rfl rfl rfl (fun f ch w' m' hb b=>?_) (fun w6 m6 hpe b=>?_)
       · cases q with
         | ok u=>exact hb.elim
         | _=>cases hm;exact ⟨hb,[],m',by rw [List.append_nil];exact b⟩
       subst hpe
       dsimp only at hm
       refine go ?_
       exact hJ aw _ _ (by omega) ⟨s4,m6,⟨rfl,rfl,rfl,trivial⟩,b,hm⟩
     | some v=>
       cases hm
       refine jS (GD (.tuple #[V v,.bool true]) rfl) ?_
       refine go ?_
       refine kU ?_
       refine qd (fn:=Try.f75) rfl (lq rfl) (lq rfl) ?_
       exact ⟨some v,rfl,rfl,m5,(b.arr [1,2,3,4,5] rfl).dp [4,5,6,7,8,9]⟩
   · have h0:n=0:=Decidable.not_not.1 h0
     rw [if_pos h0] at hm
     cases hm
     refine go ?_
     refine ug ?_
     refine go ?_
     refine kU ?_
     refine qd (fn:=Try.f75) rfl (lq rfl) (lq rfl) ?_
     exact ⟨none,rfl,rfl,m2,(b.arr [1,2,3,4,5] rfl).dp [4,5,6,7,8,9]⟩
 rw [if_neg h] at hm
 refine goB b ?_
 refine qy rfl (fun h=>?_) (fun h=>?_)
 · rw [if_pos h] at hm
   refine goB b ?_
   refine jS (JD rfl rfl) ?_
   refine go ?_
   refine qy (p:=y.k≠be) rfl (fun hf=>?_) (fun hf=>?_)
   · rw [if_pos hf] at hm
     unfold F5 at hm
     obtain ⟨q,hq,hm⟩:=bs hm
     refine goB b ?_
     refine uY (fun u=>mI u b5 111 (cS y a7 c7 a10 c10 a11 c11 a12 c12).toArray) (fun _=>True) [] (by kernel_rfl) ?_
     replace b:=b.drew
     have q1:mI w2.drew b5 111 (cS y a7 c7 a10 c10 a11 c11 a12 c12).toArray:=b.bk 0 rfl
     refine pF 0 r (vQ r) q1 (pF 1 r (MI r) q1 (uF 2 r (fun h=>JE r h r) q1 (pF 3 r (vQ r) q1 (pF 4 r (vQ r) q1 (pF 5 r (Cy r) q1 (uF 6 r (fun h=>MW r h r) q1 ?_))))))
     refine hO 7 (QD r r (qg OJ rfl) (cVal b 1 rfl hq) (fun ch w3 hb f=>?_) ?_)
     · obtain ⟨hb,b⟩:=hb
       cases q with
       | ok l=>exact hb.elim
       | _=>cases hm;exact ⟨hb,[],m1,by rw [List.append_nil];exact (b.arr [1,2,3,4,5] rfl).dp [4,5,6,7,8,9]⟩
     rintro _ w3 ⟨ns,A1,c1,rfl,rfl,b⟩
     dsimp only at hm
     obtain ⟨⟨q,h1,o1⟩,hq2,hm⟩:=bs hm
     refine ⟨sF (b.bk 0 rfl),?_⟩
     refine hO 8 (QD r r (qg Pp rfl) (Yy hCl b hl hB hp hn hq2) (fun ch w4 hb f=>?_) ?_)
     · obtain ⟨hb,more,m5,b⟩:=hb
       cases q with
       | ok l=>exact hb.elim
       | _=>cases hm;exact ⟨hb,more,m5,b⟩
     rintro _ w4 ⟨n,m5,rfl,rfl,b⟩
     refine ⟨sF (b.bk 0 rfl),pF 9 r (Qt r) (b.bk 0 rfl) (pF 10 r (ko r) (b.bk 0 rfl) (hD ?_))⟩
     cases hm
     refine go ?_
     refine kU ?_
     refine qd (fn:=Try.f75) rfl (lq rfl) (lq rfl) ?_
     exact ⟨some n,rfl,rfl,m5,(b.arr [1,2,3,4,5] rfl).dp [4,5,6,7,8,9]⟩
   · rw [if_neg hf] at hm
     obtain ⟨q,hq,hm⟩:=CP hm
     refine goB b ?_
     refine eArg b 5 1 rfl rfl hq rfl rfl (fun _ _=>rfl) (fun _ _=>rfl) (fun f ch w' hb b=>?_) (fun n w4 α β hqn b=>?_)
     · rcases hm with ⟨n,rfl,_⟩|⟨_,rfl,rfl⟩
       · exact hb.elim
       · exact ⟨hb.up,[],m1,by rw [List.append_nil];exact (b.arr [1,2,3,4,5] rfl).dp [4,5,6,7,8,9]⟩
     subst hqn
     rcases hm with ⟨n,hn1,hm⟩|⟨h1,_⟩
     rotate_left
     · exact (h1 _ rfl).elim
     cases hn1
     cases hm
     refine go ?_
     refine kU ?_
     refine qd (fn:=Try.f75) rfl (lq rfl) (lq rfl) ?_
     exact ⟨some n,rfl,rfl,m1,(b.arr [1,2,3,4,5] rfl).dp [4,5,6,7,8,9]⟩
 rw [if_neg h] at hm
 refine goB b ?_
 refine qy rfl (fun h=>?_) (fun h=>?_)
 · rw [if_pos h] at hm
   obtain ⟨q,hq,hm⟩:=CP hm
   refine goB b ?_
   refine eArg b 5 1 rfl rfl hq rfl rfl (fun _ _=>rfl) (fun _ _=>rfl) (fun f ch w' hb b=>?_) (fun n w4 α β hqn b=>?_)
   · rcases hm with ⟨n,rfl,_⟩|⟨_,rfl,rfl⟩
     · exact hb.elim
     · exact ⟨hb.up,[],m1,by rw [List.append_nil];exact (b.arr [1,2,3,4,5] rfl).dp [4,5,6,7,8,9]⟩
   subst hqn
   rcases hm with ⟨n,hn1,hm⟩|⟨h1,_⟩
   rotate_left
   · exact (h1 _ rfl).elim
   cases hn1
   cases hm
   refine jS (Iy R8 rfl) ?_
   exact Ad rfl ⟨xH _,[],m1,by rw [List.append_nil];exact (b.arr [1,2,3,4,5] rfl).dp [4,5,6,7,8,9]⟩
 rw [if_neg h] at hm
 refine goB b ?_
 refine qy rfl (fun h=>?_) (fun h=>?_)
 · rw [if_pos h] at hm
   refine goB b ?_
   refine jS (ng (cS y a7 c7 a10 c10 a11 c11 a12 c12) lV jQ rfl (b.bk 0 rfl)) ?_
   have hr:Qy w2 (Cx w A (pick _ [1,2,3,4,5] ++ pick _ [0])) R m1 ptrs x s1 xs gs (dS y a7 c7 a10 c10 a11 c11 a12 c12):=⟨b.pr [1,2,3,4,5] [0] [0,1,2,3,4,5,6,7,8,9] rfl,Av b hl (fun it hi=>List.mem_cons_of_mem _ hi),Nat.le_trans hB b.qW.size,hp,hn⟩
   have hc:=hTr hr hm
   clear hr
   refine IB (qg UC rfl) hc (fun ch w4 hq=>?_) ?_
   · obtain ⟨hq,more,m5,hK⟩:=hq
     have hb:=b.cn [1,2,3,4,5] [0] hK
     exact ⟨hq,more,m5,(hb.arr [0,1,2,3,4] rfl).dp [0,1,2,3,4,5]⟩
   rintro _ w4 ⟨o,rfl,rfl,m5,hK⟩
   replace b:=b.cn [1,2,3,4,5] [0] hK
   refine go ?_
   refine kU ?_
   refine qd (fn:=Try.f75) rfl (lq rfl) (lq rfl) ?_
   exact ⟨o,rfl,rfl,m5,(b.arr [0,1,2,3,4] rfl).dp [0,1,2,3,4,5]⟩
 rw [if_neg h] at hm
 refine goB b ?_
 refine qy rfl (fun h=>?_) (fun h=>?_)
 · rw [if_pos h] at hm
   obtain ⟨q,hq,hm⟩:=CP hm
   refine goB b ?_
   cases hA:y.a with
   | nil=>
     rw [hA] at hq
     cases hq
     rcases hm with ⟨n,h1,_⟩|⟨_,rfl,rfl⟩
     · cases h1
     refine uY (fun u=>mI u b5 111 (cS y a7 c7 a10 c10 a11 c11 a12 c12).toArray) (fun u=>mI u R.rb 89 (oL R m1 ptrs.length (window s'.hist R.fr R.mo).length s'.hist.length s'.out.length).toArray) [16] (by kernel_rfl) ?_
     replace b:=b.drew
     have q1:mI w2.drew b5 111 (cS y a7 c7 a10 c10 a11 c11 a12 c12).toArray:=b.bk 0 rfl
     have q2:mI w2.drew R.rb 89 (oL R m1 ptrs.length (window s'.hist R.fr R.mo).length s'.hist.length s'.out.length).toArray:=b.bk 1 rfl
     refine pL 0 r (vQ r) q1 q2 (pL 1 r (vQ r) q1 q2 (pL 2 r (xn r) q1 q2 (pL 3 r (Ik r) q1 q2 (tS 17 4 r (fun _ h=>VF r h r) (mF q1 q2) (pL 5 r (vQ r) q1 q2 (pL 6 r (vQ r) q1 q2 (pL 7 r (Cy r) q1 q2 (tU 8 r (fun _ h=>MW r h r) (mF q1 q2) ?_))))))))
     refine hO 9 (JV (n:=y.a.length) (a:=a10) (c:=c10) r Try.underlying109 r r (by rw [hA];simp) fun u w3 hw f=>⟨⟨u,xH _⟩,[],m1,?_⟩)
     rw [List.append_nil]
     exact Y0 ((b.arr [1,2,3,4,5] rfl).dp [4,5,6,7,8,9]) hw
   | cons e l=>
     rw [hA] at hq
     have hk:y.a[0]?=some e:=by rw [hA];rfl
     obtain ⟨cs,hre,b⟩:=b.nm 1 rfl hk
     obtain ⟨a2,c2,rfl,hd⟩:=jA.out hre
     replace b:=b.kr (d:=.l a2 c2 e.a) hd
     refine uY (fun u=>mI u b5 111 (cS y a7 c7 a10 c10 a11 c11 a12 c12).toArray∧Cells u (nN a10) (oU a10+0 * 6) (cE e a2 c2)) (fun u=>mI u R.rb 89 (oL R m1 ptrs.length (window s1.hist R.fr R.mo).length s1.hist.length s1.out.length).toArray) [16] (by kernel_rfl) ?_
     replace b:=b.drew
     have q1:mI w2.drew b5 111 (cS y a7 c7 a10 c10 a11 c11 a12 c12).toArray∧Cells w2.drew (nN a10) (oU a10+0 * 6) (cE e a2 c2):=⟨b.bk 0 rfl,b.dc 1 rfl⟩
     have q2:mI w2.drew R.rb 89 (oL R m1 ptrs.length (window s1.hist R.fr R.mo).length s1.hist.length s1.out.length).toArray:=b.bk 1 rfl
     refine pL 0 r (vQ r) q1 q2 (pL 1 r (vQ r) q1 q2 (pL 2 r (xn r) q1 q2 (pL 3 r (Ik r) q1 q2 (tS 17 4 r (fun _ h=>VF r h r) (mF q1 q2) (pL 5 r (vQ r) q1 q2 (pL 6 r (vQ r) q1 q2 (pL 7 r (Cy r) q1 q2 (tU 8 r (fun _ h=>MW r h.1 r) (mF q1 q2) ?_))))))))
     refine pL 9 r (kW Try.underlying109 jT r r rfl (b.dl 3 rfl) hk) q1 q2 (tU 10 r (fun _ h=>mR (cE e a2 c2) Try.underlying138 rfl jT r r h.2) (mF q1 q2) ?_)
     refine hO 11 (QD r r (qg Bn rfl) (Ie fu (b.pr [] [] [0] rfl) (b.at 5 rfl) hq) (fun ch w3 hb f=>?_) ?_)
     · obtain ⟨hb,hx⟩:=hb
       rcases hm with ⟨n,rfl,_⟩|⟨_,rfl,rfl⟩
       · exact hb.elim
       · exact ⟨hb.up,[],m1,by rw [List.append_nil];exact (((b.ext hx).arr [1,2,3,4,5] rfl).dp [6,7,8,9,10,11])⟩
     rintro _ w3 ⟨n,rfl,rfl,hx⟩
     replace b:=b.ext hx
     rcases hm with ⟨n',hn1,hm⟩|⟨h1,_⟩
     rotate_left
     · exact (h1 _ rfl).elim
     cases hn1
     obtain ⟨o2,ho2,hm⟩:=bs hm
     cases hm
     refine ⟨mF ⟨b.bk 0 rfl,b.dc 1 rfl⟩ (b.bk 1 rfl),?_⟩
     refine hO 12 (oo r r (jN b [[V n]] ([n]:List Int) (zF r) r r (by decide) ⟨r,trivial⟩) ?_)
     rintro _ w4 ⟨b9,rfl,b⟩
     refine ⟨mF ⟨b.bk 1 rfl,b.dc 2 rfl⟩ (b.bk 2 rfl),?_⟩
     refine hO 13 (oo r r (kL b 5 8 r r sH mP r (by decide) (by decide) hB r r (b.zN 0 0 r r) ho2) ?_)
     rintro _ w5 ⟨A2,c2',cs2,rfl,b⟩
     refine ⟨mF ⟨b.bk 1 rfl,b.dc 2 rfl⟩ (b.bk 2 rfl),pL 14 r (xn r) ⟨b.bk 1 rfl,b.dc 2 rfl⟩ (b.bk 2 rfl) (pL 15 r (Ik r) ⟨b.bk 1 rfl,b.dc 2 rfl⟩ (b.bk 2 rfl) ?_)⟩
     refine hO 16 (os r r (t_n b 2 [.slice A2 o2.length c2'] r Aj r r) fun w6 b=>⟨sy 16 ⟨b.bk 1 rfl,b.dc 2 rfl⟩,hD ?_⟩)
     refine go ?_
     refine kU ?_
     refine qd (fn:=Try.f75) rfl (lq rfl) (lq rfl) ?_
     exact ⟨none,rfl,rfl,{ m1 with oA:=A2,oC:=c2',oc:=cs2 },(b.arr [2,3,4,5,6] rfl).dp [7,8,9,10,11,12]⟩
 rw [if_neg h] at hm
 refine goB b ?_
 refine qy rfl (fun h=>?_) (fun h=>?_)
 · rw [if_pos h] at hm
   cases hm
   refine go ?_
   refine kU ?_
   refine qd (fn:=Try.f75) rfl (lq rfl) (lq rfl) ?_
   exact ⟨some 0,rfl,rfl,m1,(b.arr [1,2,3,4,5] rfl).dp [4,5,6,7,8,9]⟩
 rw [if_neg h] at hm
 cases hm
 refine go ?_
 refine kU ?_
 refine qd (fn:=Try.f75) rfl (lq rfl) (lq rfl) ?_
 exact ⟨none,rfl,rfl,m1,(b.arr [1,2,3,4,5] rfl).dp [4,5,6,7,8,9]⟩
theorem cst {fv:Nat} {R:Rn} (hR:Wm R):∀ fu,Za R (stM (jM fv R.src) R.src R.st fu)
 | 0=>by
  intro _ h
  cases h
 | fu+1=>Iq hR (cst hR fu)
end Go.Proofs.Ytfglbdkfnphjgaa
set_option linter.unusedVariables false
set_option maxHeartbeats 12800000
set_option linter.unusedSimpArgs false
set_option maxRecDepth 4000
namespace Go.Proofs.Ytfglbdkfnphjgaa
open Go.RowKit Go.Fw
noncomputable section
def Ei (m:jK→Int→(List Int)→Int→Int→Int→Option ((List kV) × qX)):Prop:=∀ {A:World} {H:Nat→Prop} {x:jK} {C:Int} {B:(List Int)} {D:Int} {E:Int} {F:Int} {a:Option Addr} {b:Nat} {c:Option Addr} {d:Nat} {e:Option Addr} {f:Nat} {h:Option Addr} {i:Nat} {j:Option Addr} {k:Nat} {R:(List kV) × qX},Pre A H [] [.l a b x.a.a,.l c d x.a.b,.l e f x.b,.l h i x.c,.l j k B]→m x C B D E F=some R→
 Calls Try.prog 17 #[.agg #[Z a x.a.a b,Z c x.a.b d,Z e x.b f,Z h x.c i],V C,Z j B k,V D,V E,V F] A (qQ fun v w=>jy R fun G z=>∃ (o:OA)(p:Nat)(t:OA)(u:Nat),v=.tuple #[Z o G p,.agg #[V z.d,.bool z.b,V z.c,Z t z.a u]]∧Bx A w H (lS []) [] [.l o p G,.l t u z.a])
end
end Go.Proofs.Ytfglbdkfnphjgaa
set_option linter.unusedVariables false
set_option maxRecDepth 4000
set_option maxHeartbeats 12800000
namespace Go.Proofs.Ytfglbdkfnphjgaa
open Go.RowKit Go.Fw
noncomputable def ow (fu:Nat) (s:jK) (f:Int) (args:List Int) (n fr mo:Int):Option (List kV × qX):=traceM fu (jM fu s) s f args n fr mo
abbrev Ub (R:Rn) (b12 b13 b14:Nat) (e:Value) (o:List Value):List It:=[.box b12 36 #[e],.box b13 39 o.toArray,.box b14 86 #[Pt R.rb]]
abbrev Tro (R:Rn) (m:ED) (hist:List kV) (out:List Int) (b12 b13 b14:Nat) (e:Int) (th:Bool) (v:Int):List It:=
 Ub R b12 b13 b14 (.slice m.eA (window hist R.fr R.mo).length m.eC) [V e,.bool th,V v,.slice m.oA out.length m.oC]
def Yw (x:Value) (v2 e:Int) (th:Bool) (v:Int):Prop:=
 (x=.nilIface∧e=0∧th=false∧v=v2) ∨ (∃ n,x=.iface 90 (V n)∧e=0∧th=true∧v=n) ∨ (∃ n,x=.iface 91 (V n)∧e=n∧th=false∧v=v2) ∨ (∃ t y,x=.iface t y∧t≠90∧t≠91∧e=4∧th=false∧v=v2)
theorem UH {N:Fz} {ops:Array Oper} {K:KK} {rest:List Oper} {f:Fr} {w:World} {d:Option Nat} {ty:TypeId} {pos:String} {af:Array Edge} {x:Operand} {t xt t2:TypeId} {k:IntKind} {v z:Value} {s by_:Nat} (hu:Try.prog.underlying t=some (.int k)) (hz:TI Try.prog t z s by_) (hx:ev f x=.iface t2 v) (hne:t2≠t)
  (h:∀ z',kM Try.prog N ops K rest (kF f d (.tuple #[z',.bool false])) w):kM Try.prog N ops K (⟨d,.typeAssert x xt t true,ty,pos,af,none⟩ :: rest) f w:=by
 obtain ⟨z',e⟩:=YR (w:=w) (ρ:=ev f) (d:=d) (ty:=ty) (pos:=pos) (af:=af) (g:=none) (xt:=xt) hu hz hx hne
 exact jS e (h z')
theorem Ns {A G:Nat→Prop} {R:Rn} {m:ED} {ptrs:List Nat} {hist:List kV} {out:List Int} {X:List It} {D:List Da} {w0 w:World} {b12 b13 b14:Nat} {u:FrameMode} {v2 e:Int} {th:Bool} {v:Int}
   (b:Bx w0 w A G (Ub R b12 b13 b14 sn [V 0,.bool false,V v2,sn] ++ (Mac R m ptrs hist out ++ X)) D) (hu:Yw (AA u).1 v2 e th v) :
   CallsD Try.prog 38 #[Pt b13,Pt b14,Pt b12] u w (RD (AA u).2 (fun w'=>Bx w0 w' A G (Tro R m hist out b12 b13 b14 e th v ++ (Mac R m ptrs hist out ++ X)) D) (fun _ _=>False)):=by
 refine L6 Try.func38 rfl rfl rfl ?_
 refine nT (fun f w'=>Has f [(0,Pt b13),(1,Pt b14),(2,Pt b12)]∧Bx w0 w' A G (Ub R b12 b13 b14 sn [V e,.bool th,V v,sn] ++ (Mac R m ptrs hist out ++ X)) D) (fun J hJ=>?_) ?_
 · rcases hu with ⟨hx,rfl,rfl,rfl⟩|⟨n,hx,rfl,rfl,rfl⟩|⟨n,hx,rfl,rfl,rfl⟩|⟨t,y,hx,h90,h91,rfl,rfl,rfl⟩
   · rw [hx]
     refine nS ?_
     refine Ji (zY ?_)
     refine jS (FZ Try.underlying20 rfl rfl (.inl ⟨rfl,rfl⟩)) ?_
     refine go ?_
     refine jS (Ot .nilIface rfl) ?_
     refine go ?_
     exact hJ _ _ ⟨⟨rfl,rfl,rfl,trivial⟩,b⟩
   · rw [hx]
     refine lM [(0,Pt b13),(1,Pt b14),(2,Pt b12),(7,.iface 90 (V v))] ⟨rfl,rfl,rfl,rfl,trivial⟩ fun av=>?_
     refine nS ?_
     refine Ji (zY ?_)
     refine jS (FZ Try.underlying20 rfl rfl (.inr ⟨90,V v,rfl,rfl⟩)) ?_
     refine go ?_
     refine jS (VG Try.underlying90 rfl) ?_
     refine go ?_
     refine jS (TG rfl) ?_
     refine kZ (t_n b 1 [.bool true] rfl LA rfl rfl) fun w1 b=>?_
     refine jS (Qb rfl) ?_
     refine kZ (t_n b 1 [V v] rfl mP rfl rfl) fun w2 b=>?_
     refine go ?_
     exact hJ _ _ ⟨⟨rfl,rfl,rfl,trivial⟩,b⟩
   · rw [hx]
     refine lM [(0,Pt b13),(1,Pt b14),(2,Pt b12),(7,.iface 91 (V e))] ⟨rfl,rfl,rfl,rfl,trivial⟩ fun av=>?_
     refine nS ?_
     refine Ji (zY ?_)
     refine jS (FZ Try.underlying20 rfl rfl (.inr ⟨91,V e,rfl,rfl⟩)) ?_
     refine go ?_
     refine UH Try.underlying90 Wh rfl (by decide) fun z'=>?_
     refine go ?_
     refine jS (VG Try.underlying91 rfl) ?_
     refine go ?_
     refine jS (Qz rfl) ?_
     refine kZ (t_n b 1 [V e] rfl Ll rfl rfl) fun w1 b=>?_
     refine go ?_
     exact hJ _ _ ⟨⟨rfl,rfl,rfl,trivial⟩,b⟩
   · rw [hx]
     refine lM [(0,Pt b13),(1,Pt b14),(2,Pt b12),(7,.iface t y)] ⟨rfl,rfl,rfl,rfl,trivial⟩ fun av=>?_
     refine nS ?_
     refine Ji (zY ?_)
     refine jS (FZ Try.underlying20 rfl rfl (.inr ⟨t,y,rfl,rfl⟩)) ?_
     refine go ?_
     refine UH Try.underlying90 Wh rfl h90 fun z'=>?_
     refine go ?_
     refine UH Try.underlying91 aaf rfl h91 fun z'=>?_
     refine go ?_
     refine jS (Ot (.iface t y) rfl) ?_
     refine go ?_
     refine jS (Qz rfl) ?_
     refine kZ (t_n b 1 [V 4] rfl Ll rfl rfl) fun w1 b=>?_
     refine go ?_
     exact hJ _ _ ⟨⟨rfl,rfl,rfl,trivial⟩,b⟩
 rintro f w' ⟨hf,b⟩
 obtain ⟨av,rfl⟩:=fV _ _ hf
 clear hf
 refine uY (fun u=>mI u b14 86 #[Pt R.rb]∧mI u R.rb 89 (oL R m ptrs.length (window hist R.fr R.mo).length hist.length out.length).toArray) (fun _=>True) [] (by kernel_rfl) ?_
 replace b:=b.drew
 have q1:mI w'.drew b14 86 #[Pt R.rb]∧mI w'.drew R.rb 89 (oL R m ptrs.length (window hist R.fr R.mo).length hist.length out.length).toArray:=⟨b.bk 2 rfl,b.bk 3 rfl⟩
 refine uF 0 r (fun h=>DK r h.1 r) q1 (pF 1 r (xn r) q1 (pF 2 r (JB r) q1 (uF 3 r (fun h=>NH r h.2 r) q1 (uF 4 r (fun h=>DK r h.1 r) q1 (pF 5 r (xn r) q1 (pF 6 r (Ik r) q1 (uF 7 r (fun h=>VF r h.2 r) q1 ?_)))))))
 refine hO 8 (os r r (t_n b 0 [.slice m.eA (window hist R.fr R.mo).length m.eC] r Mw r r) fun w2 b=>⟨sF ⟨b.bk 2 rfl,b.bk 3 rfl⟩,pF 9 r (WW r) ⟨b.bk 2 rfl,b.bk 3 rfl⟩ ?_⟩)
 refine hO 10 (os r r (t_n b 1 [.slice m.oA out.length m.oC] r Aj r r) fun w3 b=>⟨sF ⟨b.bk 2 rfl,b.bk 3 rfl⟩,hD ?_⟩)
 refine go ?_
 exact b
theorem Li {P:Program} {fn:Func} {d:Deferred} {fv:Fn} {cap:Array Value} {g:FuncId} {args:Array Value} {R:Ending→World→Prop} {f:Fr} {a:Act} {w:World} {M:Fz} {R1:World→Prop}
  (hT:d.target=.fn fv cap) (hi:(invoke d.target d.args).run P w=.ok (.enter g args) w) (hc:CallsD P g args .returning w (RD .returning R1 (fun _ _=>False)))
  (h:∀ w',R1 w'→Reads P fn (fun v w'=>R (.returned v) w') f w') (ha:BX M f a):Leaves P fn a.tmps R [d] .returning w:=by
 refine ⟨by simp,fv,cap,g,args,hT,hi,?_⟩
 intro c cs hu
 obtain ⟨e,u',w',fr,h1,h2,h3⟩:=hc c cs hu
 refine ⟨e,u',w',fr,?_,h2,h3⟩
 cases e with
 | returned v=>
  obtain ⟨rfl,h1⟩:=h1
  have h:=h w' h1
  unfold Reads at h
  obtain ⟨v2,hv,hR⟩:=h a.tmps ha.get
  exact ⟨v2,hv,hR⟩
 | panicked c=>exact h1.2.elim
 | outgrown=>exact h1.elim
theorem VY {ρ:Operand→Value} {w:World} {d:Option Nat} {ty:TypeId} {pos:String} {af:Array Edge} {g:Option (Nat × Bool)} {x:Operand} {n:Int} (h:ρ x=V n):Yl Try.prog ρ (.build 39 #[(0,x)]) d ty pos af g w (.agg #[V n,.bool false,V 0,sn]):=by
 have e:(Instr.build 39 #[(0,V n)]).run Try.prog w=.ok (.agg #[V n,.bool false,V 0,sn]) w:=by kernel_rfl
 simp [Yl,execOp,h,e]
theorem XR {ρ:Operand→Value} {w:World} {d:Option Nat} {ty:TypeId} {pos:String} {af:Array Edge} {g:Option (Nat × Bool)} {x y z u:Operand} {n m k:Int} {s1 s2 s3 s4:Option Addr} {n1 n2 n3 n4 c1 c2 c3 c4:Nat} (h:ρ x=.agg #[.slice s1 n1 c1,.slice s2 n2 c2,.slice s3 n3 c3,.slice s4 n4 c4]) (h1:ρ y=V n) (h2:ρ z=V m) (h3:ρ u=V k) :
  Yl Try.prog ρ (.build 89 #[(0,x),(3,y),(4,z),(5,u)]) d ty pos af g w (.agg #[.slice s1 n1 c1,.slice s2 n2 c2,.slice s3 n3 c3,.slice s4 n4 c4,sn,V 0,V n,V m,V k,sn,sn]):=by
 have e:(Instr.build 89 #[(0,.agg #[.slice s1 n1 c1,.slice s2 n2 c2,.slice s3 n3 c3,.slice s4 n4 c4]),(3,V n),(4,V m),(5,V k)]).run Try.prog w=.ok (.agg #[.slice s1 n1 c1,.slice s2 n2 c2,.slice s3 n3 c3,.slice s4 n4 c4,sn,V 0,V n,V m,V k,sn,sn]) w:=by kernel_rfl
 simp [Yl,execOp,h,h1,h2,h3,e]
def X0 (fu:Nat) (s:jK) (f:Int) (args:List Int) (n fr mo:Int) (R:List kV × qX):Prop:=
 (0≤n∧n≤5000)∧0≤fr∧(0≤mo∧mo≤100)∧(D9 (stM (jM fu s) s n.toNat fu) s [] f args [] []).bind (fun (p,h,o)=>some (window h fr.toNat mo.toNat,match p with
  | .ok v=>(⟨0,false,v,o⟩:qX)
  | .Es v=>⟨0,true,v,o⟩
  | .err e=>⟨e,false,0,o⟩
  | .rt=>⟨4,false,0,o⟩))=some R
theorem Rf {fu:Nat} {s:jK} {f:Int} {args:List Int} {n fr mo:Int} {R:List kV × qX} (h:ow fu s f args n fr mo=some R) :
  (¬ (0≤f∧f < s.a.b.length)∧R=([],⟨1,false,0,[]⟩)) ∨ ∃ k fn,f=((k:Nat):Int)∧s.a.b[k]?=some fn∧
    ((¬ (args.length:Int)=fn.a.length ∨ n < 0 ∨ 5000 < n ∨ fr < 0 ∨ mo < 0 ∨ 100 < mo)∧R=([],⟨1,false,0,[]⟩) ∨ (¬ (¬ (args.length:Int)=fn.a.length ∨ n < 0 ∨ 5000 < n ∨ fr < 0 ∨ mo < 0 ∨ 100 < mo))∧X0 fu s f args n fr mo R):=by
 unfold ow traceM at h
 cases hf:ix? s.a.b f with
 | none=>rw [hf] at h;exact .inl ⟨Ak hf,(sm h).symm⟩
 | some fn=>
  rw [hf] at h
  obtain ⟨k,hk,hfn⟩:=V9 hf
  refine .inr ⟨k,fn,hk,hfn,?_⟩
  rcases mV h with ⟨hc,h⟩|⟨hc,h⟩
  · exact .inl ⟨by omega,(sm h).symm⟩
  · exact .inr ⟨by omega,⟨by omega,by omega⟩,by omega,⟨by omega,by omega⟩,h⟩
theorem sN (fu:Nat):Ei (ow fu):=by
 intro w0 Y s f args n fr mo a1 c1 a2 c2 a3 c3 a4 c4 a c R hP hM
 have b:=hP.bx
 clear hP
 generalize hG:lS []=G at b ⊢
 replace hM:=Rf hM
 obtain ⟨ev,out⟩:=R
 have key:Calls Try.prog 17 #[.agg #[Z a1 s.a.a c1,Z a2 s.a.b c2,Z a3 s.b c3,Z a4 s.c c4],V f,Z a args c,V n,V fr,V mo] w0
    (RP (fun v w'=>∃ o p t u,v=.tuple #[.slice o ev.length p,.agg #[V out.d,.bool out.b,V out.c,.slice t out.a.length u]]∧Bx w0 w' Y G [] [.l o p ev,.l t u out.a]) (fun _ _=>False)):=by
  refine HZ Try.func17 rfl ?_
  refine MR [(0,.agg #[Z a1 s.a.a c1,Z a2 s.a.b c2,Z a3 s.b c3,Z a4 s.c c4]),(1,V f),(2,Z a args c),(3,V n),(4,V fr),(5,V mo)] ⟨rfl,rfl,rfl,rfl,rfl,rfl,trivial⟩ fun av=>?_
  refine MJ (zY ?_)
  refine sV b (yY rfl) fun w1 b6 b=>?_
  refine sV b (jU Mw) fun w2 b12 b=>?_
  refine sV b (jU BH) fun w3 b13 b=>?_
  refine Lu ?_
  have hbd:=(b.dl 4 rfl).bd
  refine Ve (R:=fun f w'=>Reads Try.prog Try.f17 (fun v w'=>∃ o p t u,v=.tuple #[.slice o ev.length p,.agg #[V out.d,.bool out.b,V out.c,.slice t out.a.length u]]∧Bx w0 w' Y G [] [.l o p ev,.l t u out.a]) f w') (X:=fun _ _ _=>False) (V:=fun _ _ _=>False) ?_ (fun e a w q=>?_)
  rotate_left
  · cases e with
    | ret=>
      obtain ⟨f,h1,h2⟩:=q
      show Leaves Try.prog Try.f17 a.tmps _ a.defers .returning w
      rw [h1.dfr]
      unfold Reads at h2
      obtain ⟨v,hv,hR⟩:=h2 a.tmps h1.get
      exact ⟨v,hv,hR⟩
    | normal=>obtain ⟨f,h1,h2⟩:=q;exact h2.elim
    | exit i=>obtain ⟨f,h1,h2⟩:=q;exact h2.elim
    | panic c=>obtain ⟨f,h1,h2⟩:=q;exact h2.elim
    | _=>exact q.elim
  refine Ji (nT (fun f' w'=>w'=w3∧∃ q:Bool,Has f' [(1,V f),(2,Z a args c),(3,V n),(4,V fr),(5,V mo),(6,Pt b6),(12,Pt b12),(13,Pt b13),(57,.bool q)]∧(q=true→(ev,out)=([],⟨1,false,0,[]⟩))∧(q=false→X0 fu s f args n fr mo (ev,out))) (fun J hJ=>?_) ?_)
  · refine zY ?_
    have hE:¬ (0≤f∧f < s.a.b.length)→(ev,out)=([],⟨1,false,0,[]⟩):=fun h=>by
      rcases hM with ⟨_,h⟩|⟨k,fn,hk,hfn,_⟩
      · exact h
      · have:=kT hfn;omega
    refine goB b ?_
    by_cases h0:f < 0
    · rw [decide_eq_true h0]
      refine goB b ?_
      exact hJ _ _ ⟨rfl,true,⟨rfl,rfl,rfl,rfl,rfl,rfl,rfl,rfl,rfl,trivial⟩,fun _=>hE (by omega),fun h=>by cases h⟩
    rw [decide_eq_false h0]
    refine goB b ?_
    by_cases h1:(s.a.b.length:Int)≤f
    · rw [decide_eq_true h1]
      refine goB b ?_
      exact hJ _ _ ⟨rfl,true,⟨rfl,rfl,rfl,rfl,rfl,rfl,rfl,rfl,rfl,trivial⟩,fun _=>hE (by omega),fun h=>by cases h⟩
    rw [decide_eq_false h1]
    clear hE
    rcases hM with ⟨h2,_⟩|⟨k,fn,rfl,hfn,hM⟩
    · exact (h2 ⟨by omega,by omega⟩).elim
    obtain ⟨cs0,hr0,b0⟩:=b.nm 1 rfl hfn
    obtain ⟨a5,c5,a6,c6,rfl,h5,h6⟩:=nK.out hr0
    have hE:(¬ (args.length:Int)=fn.a.length ∨ n < 0 ∨ 5000 < n ∨ fr < 0 ∨ mo < 0 ∨ 100 < mo)→(ev,out)=([],⟨1,false,0,[]⟩):=fun h=>by
      rcases hM with ⟨_,h⟩|⟨h',_⟩
      · exact h
      · exact absurd h h'
    refine goB b ?_
    refine jS (kW Try.underlying24 nW rfl rfl rfl (b.dl 1 rfl) hfn) ?_
    refine goB b ?_
    refine jS (jP Try.underlying70 rfl rfl ((b0.dc 0 rfl) 2 _ rfl)) ?_
    refine goB b ?_
    by_cases h2:¬ (args.length:Int)=fn.a.length
    · rw [decide_eq_true (p:=(args.length:Int)≠fn.a.length) h2]
      refine goB b ?_
      exact hJ _ _ ⟨rfl,true,⟨rfl,rfl,rfl,rfl,rfl,rfl,rfl,rfl,rfl,trivial⟩,fun _=>hE (.inl h2),fun h=>by cases h⟩
    rw [decide_eq_false (p:=(args.length:Int)≠fn.a.length) h2]
    refine goB b ?_
    by_cases h3:n < 0
    · rw [decide_eq_true h3]
      refine goB b ?_
      exact hJ _ _ ⟨rfl,true,⟨rfl,rfl,rfl,rfl,rfl,rfl,rfl,rfl,rfl,trivial⟩,fun _=>hE (by omega),fun h=>by cases h⟩
    rw [decide_eq_false h3]
    refine goB b ?_
    by_cases h4:5000 < n
    · rw [decide_eq_true h4]
      refine goB b ?_
      exact hJ _ _ ⟨rfl,true,⟨rfl,rfl,rfl,rfl,rfl,rfl,rfl,rfl,rfl,trivial⟩,fun _=>hE (by omega),fun h=>by cases h⟩
    rw [decide_eq_false h4]
    refine goB b ?_
    by_cases h5:fr < 0
    · rw [decide_eq_true h5]
      refine goB b ?_
      exact hJ _ _ ⟨rfl,true,⟨rfl,rfl,rfl,rfl,rfl,rfl,rfl,rfl,rfl,trivial⟩,fun _=>hE (by omega),fun h=>by cases h⟩
    rw [decide_eq_false h5]
    refine goB b ?_
    by_cases h6:mo < 0
    · rw [decide_eq_true h6]
      refine goB b ?_
      exact hJ _ _ ⟨rfl,true,⟨rfl,rfl,rfl,rfl,rfl,rfl,rfl,rfl,rfl,trivial⟩,fun _=>hE (by omega),fun h=>by cases h⟩
    rw [decide_eq_false h6]
    refine goB b ?_
    by_cases h7:100 < mo
    · rw [decide_eq_true h7]
      refine goB b ?_
      exact hJ _ _ ⟨rfl,true,⟨rfl,rfl,rfl,rfl,rfl,rfl,rfl,rfl,rfl,trivial⟩,fun _=>hE (by omega),fun h=>by cases h⟩
    rw [decide_eq_false h7]
    refine goB b ?_
    refine hJ _ _ ⟨rfl,false,⟨rfl,rfl,rfl,rfl,rfl,rfl,rfl,rfl,rfl,trivial⟩,fun h=>(by cases h),fun _=>?_⟩
    rcases hM with ⟨h,_⟩|⟨_,h⟩
    · omega
    · exact h
  rintro f' w' ⟨rfl,q,hf,hT,hF⟩
  obtain ⟨av,rfl⟩:=fV _ _ hf
  clear hf hM
  cases q with
  | true=>
    obtain ⟨rfl,rfl⟩:=Prod.mk.inj (hT rfl)
    refine jJ rfl ?_
    refine Ji (zY ?_)
    refine jS (VY rfl) ?_
    refine kZ (t_n b 1 [sn] rfl Mw rfl rfl) fun w4 b=>?_
    refine kZ (t_n b 0 [V 1,.bool false,V 0,sn] rfl BH rfl rfl) fun w5 b=>?_
    refine Lu ?_
    refine kU ?_
    refine qd (fn:=Try.f17) rfl (QO rfl (fun ρ h=>NH h (b.bk 1 rfl) rfl) (b.bk 1 rfl)) (QO rfl (fun ρ h=>ng [V 1,.bool false,V 0,sn] Vh BH h (b.bk 0 rfl)) (b.bk 0 rfl)) ?_
    exact ⟨none,0,none,0,rfl,((b.arr [] rfl).kr (d:=.l none 0 ([]:List Int)) kK.nil).kr (d:=.l none 0 ([]:List kV)) kK.nil |>.dp [0,1]⟩
  | false=>
  refine jD rfl (EK ?_)
  clear hT
  obtain ⟨hn,hfr,hmo,hA⟩:=hF rfl
  clear hF
  obtain ⟨N,rfl⟩:∃ N:Nat,n=(N:Int):=⟨n.toNat,by omega⟩
  obtain ⟨F,rfl⟩:∃ F:Nat,fr=(F:Int):=⟨fr.toNat,by omega⟩
  obtain ⟨M,rfl⟩:∃ M:Nat,mo=(M:Int):=⟨mo.toNat,by omega⟩
  rw [Int.toNat_natCast,Int.toNat_natCast,Int.toNat_natCast] at hA
  obtain ⟨⟨p,h,o⟩,hc,hA⟩:=bs hA
  dsimp only at hA
  refine MJ (zY ?_)
  refine jS (ng [Z a1 s.a.a c1,Z a2 s.a.b c2,Z a3 s.b c3,Z a4 s.c c4] CK vR rfl (b.bk 2 rfl)) ?_
  refine goB b ?_
  refine jS (XR rfl rfl rfl rfl) ?_
  refine sV b (yY rfl) fun w4 b89 b=>?_
  refine sV b (jU Yi) fun w5 b14 b=>?_
  refine kZ (t_n b 0 [Pt b89] rfl Yi rfl rfl) fun w6 b=>?_
  refine Lu ?_
  replace b:=((b.Bv kV 50).Bv Int 3).owN 117 1
  replace b:=(b.arr [6,5,3,4,0,2,1] rfl).dp [1,0,2,3,4,5,6]
  let R:Rn:=⟨w0.heap.size,b89,⟨a1,c1,a2,c2,a3,c3,a4,c4⟩,s,N,F,M⟩
  let m:ED:=⟨none,0,none,0,[],none,0,[]⟩
  have hw:window ([]:List kV) F M=[]:=by simp [window]
  replace b:Bx w0 w6 Y G (Ub R b12 b13 b14 sn [V 0,.bool false,V 0,sn] ++ (Mac R m [] [] [] ++ [])) (tY R m [] [] ++ [.l a c args]):=by
    show Bx w0 w6 Y G (Ub R b12 b13 b14 sn [V 0,.bool false,V 0,sn] ++ ([.box b89 89 (oL R m 0 (window ([]:List kV) F M).length 0 0).toArray,.own R.B none 0 117 1 [],.own R.B none 0 50 (Rp.sz kV) [],.own R.B none 0 3 (Rp.sz Int) []] ++ [])) ([.els [] (window ([]:List kV) F M),.els [] ([]:List Int),.l a1 c1 s.a.a,.l a2 c2 s.a.b,.l a3 c3 s.b,.l a4 c4 s.c] ++ [.l a c args])
    rw [hw]
    exact b
  refine MR [(1,V f),(2,Z a args c),(12,Pt b12),(13,Pt b13),(14,Pt b14)] ⟨rfl,rfl,rfl,rfl,rfl,trivial⟩ fun av2=>?_
  refine O5 (UO (vs:=[Pt b13,Pt b14,Pt b12]) rfl) (YO rfl) ?_
  refine SV (Q:=⟨fun _ _=>False,fun _ _ _=>False,fun f w'=>(f 12=Pt b12∧f 13=Pt b13)∧∃ v m',p=.ok v∧Bx w0 w' Y G (Ub R b12 b13 b14 sn [V 0,.bool false,V v,sn] ++ (Mac R m' [] h o ++ [])) (tY R m' h o),
    fun f ch w'=>(f 12=Pt b12∧f 13=Pt b13)∧Pb p ch∧∃ more m',Bx w0 w' Y G (Ub R b12 b13 b14 sn [V 0,.bool false,V 0,sn] ++ (Mac R m' more h o ++ [])) (tY R m' h o)⟩) ?_ ?_
  · refine Ji (zY ?_)
    refine jS (DK rfl (b.bk 2 rfl) rfl) ?_
    refine goB b ?_
    have hCl:Zd R (stM (jM fu R.src) R.src R.st fu):=MZ (MN (cst ⟨by show N≤5000;omega,by show M≤100;omega⟩ fu))
    have hq:=hCl (b.pr [3,4,5,6] [0,1,2] [6,0,1,2,3,4,5] rfl) (xs:=[]) (gs:=[]) trivial b.qW.size rfl (Nat.zero_le _) hc
    refine IB (qg Pp rfl) hq (fun ch w7 hq=>?_) ?_
    · obtain ⟨hq,more,m4,hK⟩:=hq
      have hb:=b.cn [3,4,5,6] [0,1,2] hK
      exact ⟨⟨rfl,rfl⟩,hq,more,m4,(hb.arr [4,5,6,0,1,2,3] rfl).dp [0,1,2,3,4,5]⟩
    rintro _ w7 ⟨v,rfl,rfl,m4,hK⟩
    replace b:=b.cn [3,4,5,6] [0,1,2] hK
    replace b:=(b.arr [4,5,6,0,1,2,3] rfl).dp [0,1,2,3,4,5]
    refine jS (Qb rfl) ?_
    refine kZ (t_n b 1 [V v] rfl mP rfl rfl) fun w8 b=>?_
    refine go ?_
    refine uY (fun u=>mI u b12 36 #[sn]∧mI u b13 39 #[V 0,.bool false,V v,sn]) (fun _=>True) [] (by kernel_rfl) ?_
    replace b:=b.drew
    refine uF 0 r (fun h=>NH r h.1 r) ⟨b.bk 0 rfl,b.bk 1 rfl⟩ (uF 1 r (fun h=>ng [V 0,.bool false,V v,sn] Vh BH r h.2) ⟨b.bk 0 rfl,b.bk 1 rfl⟩ ?_)
    refine hO 2 (os r r (t_n b 0 [sn] r Mw r r) fun w9 b=>⟨sF ⟨b.bk 0 rfl,b.bk 1 rfl⟩,?_⟩)
    refine hO 3 (os r r (t_n b 1 [V 0,.bool false,V v,sn] r BH r r) fun w10 b=>⟨sF ⟨b.bk 0 rfl,b.bk 1 rfl⟩,hD ?_⟩)
    refine go ?_
    refine kU ?_
    exact ⟨⟨rfl,rfl⟩,v,m4,rfl,b⟩
  · have fin:∀ {f:Fr} {w':World} {m':ED} {more:List Nat} {e v:Int} {th:Bool},f 12=Pt b12→f 13=Pt b13→(window h F M,(⟨e,th,v,o⟩:qX))=(ev,out)→Bx w0 w' Y G (Tro R m' h o b12 b13 b14 e th v ++ (Mac R m' more h o ++ [])) (tY R m' h o)→
        Reads Try.prog Try.f17 (fun v w'=>∃ o p t u,v=.tuple #[.slice o ev.length p,.agg #[V out.d,.bool out.b,V out.c,.slice t out.a.length u]]∧Bx w0 w' Y G [] [.l o p ev,.l t u out.a]) f w':=fun {f w' m' more e v th} h12 h13 he b=>by
      obtain ⟨rfl,rfl⟩:=Prod.mk.inj he
      refine qd (fn:=Try.f17) rfl (QO h12 (fun ρ h=>NH h (b.bk 0 rfl) rfl) (b.bk 0 rfl)) (QO h13 (fun ρ h'=>ng [V e,.bool th,V v,.slice m'.oA o.length m'.oC] Vh BH h' (b.bk 1 rfl)) (b.bk 1 rfl)) ?_
      exact ⟨_,_,_,_,rfl,((b.OB 5 0 rfl rfl).OB 5 1 rfl rfl).ad [] [1,0]⟩
    intro e a1' w1' q
    cases e with
    | normal=>obtain ⟨f,h1,h2⟩:=q;exact h2.elim
    | exit i=>obtain ⟨f,h1,h2⟩:=q;exact h2.elim
    | ret=>
      obtain ⟨f,h1,⟨h12,h13⟩,v,m',rfl,b⟩:=q
      show Leaves Try.prog Try.f17 a1'.tmps _ a1'.defers .returning w1'
      rw [h1.dfr]
      exact Li rfl rfl (Ns b (.inl ⟨rfl,rfl,rfl,rfl⟩)) (fun w2 b=>fin h12 h13 (sm hA) b) h1
    | panic ch=>
      obtain ⟨f,h1,⟨h12,h13⟩,hq,more,m',b⟩:=q
      show Leaves Try.prog Try.f17 a1'.tmps _ a1'.defers (.panicking ch) w1'
      rw [h1.dfr]
      cases p with
      | ok v=>exact hq.elim
      | Es v=>
        obtain ⟨lc,rfl,hlc⟩:=hq
        exact zw rfl rfl hlc (Ns b (.inr (.inl ⟨v,rfl,rfl,rfl,rfl⟩))) (fun w2 b=>fin h12 h13 (sm hA) b) (fun c w' h=>h.elim) h1
      | err v=>
        obtain ⟨lc,rfl,hlc⟩:=hq
        exact zw rfl rfl hlc (Ns b (.inr (.inr (.inl ⟨v,rfl,rfl,rfl,rfl⟩)))) (fun w2 b=>fin h12 h13 (sm hA) b) (fun c w' h=>h.elim) h1
      | rt=>
        obtain ⟨u,lc,rfl,hlc⟩:=hq
        exact zw rfl rfl hlc (Ns b (.inr (.inr (.inr ⟨_,_,rfl,by decide,by decide,rfl,rfl,rfl⟩)))) (fun w2 b=>fin h12 h13 (sm hA) b) (fun c w' h=>h.elim) h1
    | _=>exact q.elim
 exact key.mono fun e w he=>by
  cases e with
  | returned v=>exact ⟨v,rfl,he⟩
  | panicked c=>exact he.elim
  | outgrown=>exact he.elim
end Go.Proofs.Ytfglbdkfnphjgaa
set_option linter.unusedVariables false
set_option maxHeartbeats 12800000
set_option linter.unusedSimpArgs false
set_option maxRecDepth 4000
namespace Go.Proofs.Ytfglbdkfnphjgaa
open Go.RowKit Go.Fw
noncomputable section
def EN (m:jK→Int→Int→Option ((List Int))):Prop:=∀ {t:World} {A:Nat→Prop} {p:jK} {x:Int} {z:Int} {a:Option Addr} {b:Nat} {c:Option Addr} {d:Nat} {e:Option Addr} {f:Nat} {h:Option Addr} {i:Nat} {u:(List Int)},Pre t A [] [.l a b p.a.a,.l c d p.a.b,.l e f p.b,.l h i p.c]→m p x z=some u→
 Calls Try.prog 22 #[.agg #[Z a p.a.a b,Z c p.a.b d,Z e p.b f,Z h p.c i],V x,V z] t (qQ fun v w=>∃ (j:OA)(k:Nat)(o:LV),v=Z j u k∧Bx t w A (lS []) [O t.heap.size j k 3 Int o] [.els o u])
def nJ (fu:Nat)(b:Int):List Gv→Nat→(List Int)→Option (Ld (List Int) ((List Int)))
 | [],_,a=>some (.go a)
 | f :: d,c,a=>
 if f.d≤b then
  if b≤f.g then
   (app a ([(c:Int)]:List Int)).bind fun e=>
   nJ fu b d (c+1) e
  else
   nJ fu b d (c+1) a
 else
  nJ fu b d (c+1) a
def tJ (fu:Nat)(c:jK) (b:Int)(d:Int):Option ((List Int)):=
 if b < 0 then
  some ([]:List Int)
 else
  if (c.b.length:Int)≤b then
   some ([]:List Int)
  else
   (ix c.b b).bind fun e=>
   (nJ fu d e 0 ([]:List Int)).bind fun f=>f.el (fun a=>
   some a
   ) (fun o=>some o)
theorem Bp (fu:Nat):EN (tJ fu):=by
 intro S au U x1 W A B C D E F H I r0 hP p
 unfold tJ at p
 have e:=hP.bx
 clear hP
 generalize hG:lS _=G at e ⊢
 refine cf Try.func22 r ?_
 refine lM [(0,.agg #[Z A U.a.a B,Z C U.a.b D,Z E U.b F,Z H U.c I]),(1,V x1),(2,V W)] ⟨r,r,r,y⟩ fun av=>?_
 refine q (g (nM (nD e (yY r)) ?_))
 rintro _ w1 ⟨b1,rfl,e⟩
 refine s (mG r) (n (q (g (s (mG r) (n (q (q (g (s (mi r) (s (qo r r) (s (kQ r) ?_)))))))))))
 rcases iv p with ⟨X,p⟩|⟨X,p⟩
 ·rw [decide_eq_true X]
  refine jL r (jL r (jL r (jL r (jL r (s (kG r r) (n (jJ r (q (g (s (mG r) (n (kU ?_))))))))))))
  replace e:=e.Bv Int 3
  obtain rfl:=sm p
  refine jB r (lq r) ?_
  exact ⟨none,0,[],r,(e.ad [0] [0])⟩
 rw [decide_eq_false X]
 refine ku r (s (mi r) (ku r (s (y5 r) (ku r (s (MB r (e.bk 0 r) r) (ku r (s (lF Cn r) (ku r (s (AX r r) (s (jZ r r) (n ?_)))))))))))
 rcases iv p with ⟨Y,p⟩|⟨Y,p⟩
 ·refine jJ (bt Y) (q (g (s (mG r) (n (kU ?_)))))
  replace e:=e.Bv Int 3
  obtain rfl:=sm p
  refine jB r (lq r) ?_
  exact ⟨none,0,[],r,(e.ad [0] [0])⟩
 refine jD (bf Y) (wk (q (q (g (s (y5 r) (s (MB r (e.bk 0 r) r) (s (mi r) ?_)))))))
 obtain ⟨u,z,p⟩:=bs p
 obtain ⟨k6,a0,z⟩:=kR z
 obtain ⟨ab,a1,e⟩:=e.nm 2 rfl z
 obtain ⟨v,x,rfl,N⟩:=a1
 replace e:=e.kr (d:=.l v x u) N
 refine s (kW Cn Dg r r a0 (e.dl 4 r) z) (s (jP zQ r r ((e.dc 1 r) 0 _ r)) (s (lF zQ r) (s (mi r) (n ?_))))
 replace e:=e.Bv Int 3
 have ac:=(e.dl 1 r).bd
 obtain ⟨Y8,m,p⟩:=bs p
 refine nT (fun f w=>∃ (j:List Int) (a:OA)(b:Nat)(c:LV),Has f [(7,Z a j b)]∧Bx S w au G [O S.heap.size a b 3 Int c] [.els c j,.l v x u]∧Ld.go j=Y8) (fun J8 a2=>?_) ?_
 ·refine nS (kE (fun aw f w=>∃ (t:Nat)(j:List Int) (a:OA)(b:Nat)(c:LV),aw=u.length - t∧t≤u.length∧Has f [(25,V (t:Int)),(2,V W),(7,Z a j b),(23,Z v u x),(24,V (u.length:Int))]∧Bx S w au G [O S.heap.size a b 3 Int c] [.els c j,.l v x u]∧nJ fu W (u.drop t) t j=some Y8) (u.length) ⟨0,([]:List Int),none,0,[],r,Nat.zero_le _,⟨r,r,r,r,r,y⟩,(e.ad [0] [0,1]),m⟩ ?_)
  clear e m
  rintro aw f w ⟨t,j,a,b,c,rfl,ae,hf,e,m⟩ K8 J
  obtain ⟨av,rfl⟩:=fV _ _ hf
  clear hf
  rcases Nat.lt_or_ge t u.length with Q | Q
  ·obtain ⟨o,K⟩:=lY (l:=u) Q
   rw [lK K,nJ] at m
   refine q (g (s (qz r r (by omega)) (n (q (jJ r (wk (q (nS (q (g (s (mi r) (s (kW zQ yU r r r (e.dl 1 r) K) (s (mR [T o.b,V o.e,V o.c,V o.a,.bool o.f,V o.d,V o.g] QE r yU r r (uK (ds:=[T o.b,V o.e,V o.c,V o.a,.bool o.f,V o.d,V o.g]) (e.dl 1 r) K (fun _ h=>h))) ?_)))))))))))))
   refine nM (nD e (jU yU)) ?_
   rintro _ af ⟨ag,rfl,e⟩
   refine s (xi r) (kZ (tb e 0 [T o.b,V o.e,V o.c,V o.a,.bool o.f,V o.d,V o.g] r yU r r r r r (show _=#[T o.b,V o.e,V o.c,V o.a,.bool o.f,V o.d,V o.g] from r)) ?_)
   intro ah e
   try dsimp only [List.set] at e
   refine n (q (g (s (TN r) (s (l3 r (e.bk 0 r) r) (s (mi r) (s (Ii r r) (s (kQ r) ?_)))))))
   rcases iv m with ⟨L,m⟩|⟨L,m⟩
   ·rw [decide_eq_true L]
    refine ku r (s (mi r) (ku r (s (Lj r) (ku r (s (l3 r (e.bk 0 r) r) (ku r (s (Ii r r) (s (kG r r) (n ?_)))))))))
    rcases iv m with ⟨M,m⟩|⟨M,m⟩
    ·refine jJ (bt M) (g (s (nL r) (s (mi r) (nM (jN e [[V (t:Int)]] ([(t:Int)]:List Int) (zF r) r r (by decide) ⟨r,y⟩) ?_))))
     rintro _ ai ⟨aj,rfl,e⟩
     obtain ⟨a3,R,m⟩:=bs m
     refine nM (kL e 2 1 r r sH mP r (by decide) (by decide) (Nat.le_refl _) r r (e.zN 0 0 r r) R) ?_
     rintro _ ak ⟨a4,a5,a6,rfl,e⟩
     refine s (mG r) (n (g (s (lU r r (by omega) (by omega)) (s (mi r) (n ?_)))))
     exact J (u.length - (t+1)) _ _ (by omega) ⟨t+1,a3,a4,a5,a6,r,by omega,⟨r,r,r,r,r,y⟩,(e.ad [2] [1,2]),m⟩
    refine jD (bf M) (wk (g (s (lU r r (by omega) (by omega)) (s (mi r) (n ?_)))))
    exact J (u.length - (t+1)) _ _ (by omega) ⟨t+1,j,a,b,c,r,by omega,⟨r,r,r,r,r,y⟩,(e.arr [1] r),m⟩
   rw [decide_eq_false L]
   refine jL r (jL r (jL r (jL r (s (jZ r r) (n (jD r (wk (g (s (lU r r (by omega) (by omega)) (s (mi r) (n ?_)))))))))))
   exact J (u.length - (t+1)) _ _ (by omega) ⟨t+1,j,a,b,c,r,by omega,⟨r,r,r,r,r,y⟩,(e.arr [1] r),m⟩
  obtain rfl:t=u.length:=by omega
  rw [lu,nJ] at m
  refine q (g (s (qL r r (by omega)) (n (q (jD r (ug ?_))))))
  exact a2 _ _ ⟨j,a,b,c,⟨r,y⟩,e,sm m⟩
 clear e
 rintro f w ⟨j,a,b,c,hf,e,a7⟩
 obtain ⟨av,rfl⟩:=fV _ _ hf
 clear hf
 subst a7
 replace p:=gi p
 refine q (g (s (nL r) (s (mG r) (n (kU ?_)))))
 obtain rfl:=sm p
 refine jB r (lq r) ?_
 exact ⟨a,b,c,r,(e.dp [0])⟩
end
end Go.Proofs.Ytfglbdkfnphjgaa
