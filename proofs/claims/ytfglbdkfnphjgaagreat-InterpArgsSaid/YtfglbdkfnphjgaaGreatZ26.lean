/- A statement, in the interpreter of the specification. -/
import Derived.Test.YtfglbdkfnphjgaaGreatZ25
import Derived.Test.YtfglbdkfnphjgaaGreatZ19
set_option linter.unusedVariables false
set_option maxRecDepth 4000
set_option maxHeartbeats 12800000
namespace Go.Proofs.YtfglbdkfnphjgaaGreat
open Go.RowKit Go.Fw Go.Proofs.Tryz
theorem Kn {fu:Nat} {ws:List (List Int)} {k:Int}:∀ {l:List jA} {acc:List Int},yu (wu fu ws) l acc=some (.err k)→k=4
 | [],_,h=>by cases h
 | e :: l,acc,h=>by
  rw [yu] at h;obtain ⟨p,hp,h⟩:=bs h;rcases zZ h with rfl | ⟨n,rfl,h⟩
  · exact zO fu hp
  · obtain ⟨a2,_,h⟩:=bs h;exact Kn h
theorem Rx {α β:Type} {q:Pn α} (h:IC (q.up:Pn β)):(∀ a,q≠.ok a)->IC q:=by
 cases q with
 | ok a=>intro z;exact absurd rfl (z a)
 | _=>intro _;exact h
theorem SE {fu:Nat} {ws:List (List Int)} {l:List jA} {q:Pn Int} {β:Type} {p:Pn β} (hq:Tg (wu fu ws) l=some q) (h:(∃ n,q=.ok n)\/((∀ n,q≠.ok n)/\p=q.up)) (hp:IC p):Eg q:=by
 rcases h with ⟨n,rfl⟩|⟨h1,rfl⟩
 · trivial
 · obtain ⟨t,rfl⟩:=DR hp h1 fun k h=>Gb (by subst h;exact hq);trivial
theorem Fx {sm:List pQ->Sm} {src:jL} {rest:List pQ} {fu:Nat} {s s':Sg} {x:jI} {k:Int->Sg->Option (Pn (Option Int) × Sg)} {p:Pn (Option Int)} (h:Dl sm src rest fu s x k=some (p,s')) :∃ q,yu (wu fu s.a.ws) x.a []=some q/\((∃ l q2 h2 o2,q=.ok l/\zC sm src (s.a :: rest) x.i l s.hist s.out=some (q2,h2,o2)/\((∃ n,q2=.ok n/\k n ⟨s.a,h2,o2⟩=some (p,s'))\/((∀ n,q2≠.ok n)/\p=q2.up/\s'=⟨s.a,h2,o2⟩)))\/((∀ l,q≠.ok l)/\p=q.up/\s'=s)):=by
 unfold Dl at h;obtain ⟨q,hq,h⟩:=bs h;refine ⟨q,hq,?_⟩;cases q with
 | ok l=>
  obtain ⟨⟨q2,h2,o2⟩,hc,h⟩:=bs h;refine .inl ⟨l,q2,h2,o2,rfl,hc,?_⟩;cases q2 with
  | ok n=>exact .inl ⟨n,rfl,h⟩
  | _=>cases h;exact .inr ⟨fun n e=>(by cases e),rfl,rfl⟩
 | _=>cases h;exact .inr ⟨fun n e=>(by cases e),rfl,rfl⟩
theorem TG {vis:Int→Int→Option (List Int)} {src:jL} {st:Nat}:∀ fu,WA (stM vis src st fu)
 | 0=>fun gs s y p s' hk h=>by cases h
 | fu+1=>fun gs s y p s' hk h=>by
  rw [stM] at h;obtain ⟨⟨q,s1⟩,he,h⟩:=bs h;cases q with
  | ok u=>
   dsimp only at h;rw [if_neg (by omega),if_neg (by omega),if_neg (by omega),if_neg (by omega),if_neg (by omega),if_neg (by omega),if_neg (by omega),if_neg (by omega),if_neg (by omega),if_pos hk] at h;cases h;intro z;cases z
  | _=>cases h;intro z;cases z
theorem UC {T:TypeId} {x:vg} {g:pQ} {w:World} {k:Nat} {l:List Int} (h:(It.uY T x g).p w) (hl:g.ws[k]?=some l):l.length<=8:=h.2.2.2.2.2.2.2 l (List.mem_of_getElem? hl)
theorem UM {fu fv:Nat} {R:Rn} (hR:Og R) (hF:∀ fn ∈ R.src.a.b,QE fn) (ih:CSr R (stM (jD fv R.src) R.src R.st fu)):CSr R (stM (jD fv R.src) R.src R.st (fu+1)):=by
 have hLs:CBr R (stM (jD fv R.src) R.src R.st fu):=L8 ih;have hCl:CRr R (stM (jD fv R.src) R.src R.st fu):=TV hLs hF (TG fu);intro w A m ptrs x s s' v xs gs y a7 c7 a10 c10 a11 c11 a12 c12 p hRd ha hm hq;obtain ⟨hP,hl,hB,hp,hn⟩:=hRd;have b:=hP.bx;clear hP;unfold Okr;generalize hG:lD (N8 R m ptrs x s 0 v)=G at b hl ⊢;refine cf func51 rfl ?_;refine lu [(0,Pt R.rb),(1,Pt x.b),(2,.agg (cS y a7 c7 a10 c10 a11 c11 a12 c12).toArray)] ⟨rfl,rfl,rfl,trivial⟩ fun av=>?_;refine go ?_;refine rE b (tO rfl) fun w1 b5 b=>?_;replace b:JI w w1 A G R m ptrs x s 0 v y a7 c7 a10 c10 a11 c11 a12 c12 b5 (cS y a7 c7 a10 c10 a11 c11 a12 c12).toArray:=b;refine goC b ?_;rw [stM] at hm;obtain ⟨⟨q0,s1⟩,he,hm⟩:=bs hm;refine oO (lW VH rfl) (VW hR b hl hB hp hn he) ?_;rintro _ w2 ⟨m1,e1,b,hz⟩;rcases hz with ⟨rfl,rfl,rfl⟩|⟨rfl,rfl⟩
 case inr=>
   obtain ⟨rfl,rfl⟩:=Prod.mk.inj (Option.some.inj hm);refine go ?_;exact kD (jB rfl (kH rfl) ⟨m1,x,3,e1,v,rfl,rfl,⟨rfl,rfl⟩,(b.arr [1,2,3,4,5] rfl).dp [4,5,6,7,8,9]⟩)
 dsimp only at hm;refine goC b ?_;refine lu [(0,Pt R.rb),(1,Pt x.b),(5,Pt b5),(23,V y.c),(24,.bool (decide (y.c=1)))] ⟨rfl,rfl,rfl,rfl,rfl,trivial⟩ fun av=>?_;by_cases h1:y.c=1
 · rw [if_pos h1] at hm;rw [h1];refine go ?_;cases hx:ix? s1.a.ws y.g with
   | none=>rw [hx] at hm;cases hm;exact hq.elim
   | some l=>
   rw [hx] at hm;obtain ⟨rfl,rfl⟩:=Prod.mk.inj (Option.some.inj hm);obtain ⟨i,hi,hl2⟩:=PK hx;have h8:=UC (b.at 5 rfl) hl2;obtain ⟨r1,hr,_,h5,_⟩:=It.sN (b.at 5 rfl) hl2;refine pG (fun _=>True) (fun u=>JI w u A G R m1 ptrs x s1 0 v y a7 c7 a10 c10 a11 c11 a12 c12 b5 (cS y a7 c7 a10 c10 a11 c11 a12 c12).toArray) [17] (by kernel_rfl) ?_;replace b:=b.drew;refine pL 0 r (nW r) trivial b (pL 1 r (xn r) trivial b (pL 2 r (yG r r) trivial b (tS 20 3 r (fun _ h=>yK r (It.oF (h.at 5 r)) r r) (kG trivial b) (pL 4 r (yG r r) trivial b (tS 20 5 r (fun _ h=>yK r (h.bk 0 r) r r) (kG trivial b) (pL 6 r (nW r) trivial b (pL 7 r (xn r) trivial b (pL 8 r (yG r r) trivial b (tS 20 9 r (fun _ h=>yK r (It.oF (h.at 5 r)) r r) (kG trivial b) (pL 10 r (yG r r) trivial b (tS 20 11 r (fun _ h=>yK r (h.bk 0 r) r r) (kG trivial b) ?_)))))))))));refine pL 12 r (zG i h5 underlying93 vW r r hi (jW hl2)) trivial b (tS 20 13 r (fun _ h=>jS (a:=⟨mX x.A,nU x.A+i * 1,none⟩) underlying22 r r (uh (h.at 5 r) hr hl2)) (kG trivial b) (pL 14 r (lK underlying22 r) trivial b ?_));refine hO 15 (oo r r (aMk (V 0) b l.length underlying22 mV rfl r r rfl (by omega) (by omega)) ?_);rintro _ w3 ⟨b9,_,rfl,b⟩;have m2:JI w w3 A G R m1 ptrs x s1 0 v y a7 c7 a10 c10 a11 c11 a12 c12 b5 (cS y a7 c7 a10 c10 a11 c11 a12 c12).toArray:=b.tl;refine ⟨kG trivial m2,pL 16 r (zG i h5 underlying93 vW r r hi (jW hl2)) trivial m2 ?_⟩;refine hO 17 (os r r (Yk b 5 rfl hl2 rfl r r) ?_);intro w4 b;refine ⟨sy 17 trivial,hD ?_⟩;refine go ?_;rw [hi,Int.toNat_natCast];exact kD (jB rfl (kH rfl) ⟨m1,⟨x.b,x.A,x.c,x.R.set i b9⟩,0,0,v,rfl,rfl,⟨rfl,rfl⟩,(b.arr [1,2,3,4,5] rfl).dp [4,5,6,7,8,9]⟩)
 rw [if_neg h1] at hm;by_cases h2:y.c=2
 · rw [if_pos h2] at hm;rw [h2];refine goC b ?_;refine jZ (lY (cS y a7 c7 a10 c10 a11 c11 a12 c12) lg jQ rfl (b.bk 0 rfl)) ?_;refine oO (lW Zx rfl) (YK b ha hm hq) ?_;rintro _ w3 ⟨how,v',rfl,hw,b⟩;refine go ?_;exact kD (jB rfl (kH rfl) ⟨m1,x,how,0,v',rfl,rfl,hw,(b.arr [1,2,3,4,5] rfl).dp [4,5,6,7,8,9]⟩)
 rw [if_neg h2] at hm;by_cases h3:y.c=3
 · rw [if_pos h3] at hm;have hct:=ha.ct h3;rw [h3];refine goC b ?_;refine jZ (lY (cS y a7 c7 a10 c10 a11 c11 a12 c12) lg jQ rfl (b.bk 0 rfl)) ?_;obtain ⟨q,hqe,hk⟩:=Fx hm;clear hm;rcases hk with ⟨l,q2,h2',o2,rfl,hc,hk⟩|⟨hno,rfl,rfl⟩
   · have hg:IC q2:=by
       rcases hk with ⟨n,rfl,_⟩|⟨h,rfl,_⟩
       · trivial
       · exact Rx hq h
     refine oO (lW PZ rfl) (Py hCl b hl hB hp hn ha hqe trivial (q2:=q2) (h2:=h2') (o2:=o2) fun l h=>by cases h;exact ⟨hc,hg⟩) ?_;rintro _ w3 ⟨m2,how,e2,v2,rfl,hz⟩;rcases hz with ⟨_,h,hw,b⟩|⟨h,_⟩
     case inr=>cases h
     clear h;rcases hk with ⟨n2,rfl,hk⟩|⟨hno,rfl,rfl⟩
     · obtain ⟨rfl,rfl,rfl⟩:=hw;refine goC b ?_;cases hT:y.d with
       | nil=>
         rw [hT] at hk;obtain ⟨rfl,rfl⟩:=Prod.mk.inj (Option.some.inj hk);refine go ?_;exact kD (jB rfl (kH rfl) ⟨m2,x,0,0,v2,rfl,rfl,⟨rfl,rfl⟩,(b.arr [1,2,3,4,5] rfl).dp [4,5,6,7,8,9]⟩)
       | cons e l0=>
         rw [hT] at hk;rw [decide_eq_true (p:=(0:Int) < ((e :: l0).length:Int)) (by simp)];have h3e:=hct e (by rw [hT];exact List.mem_cons_self ..);rcases jC hk with ⟨h,_⟩|⟨_,hk⟩
         · cases h
         obtain ⟨qw,hqw,hk⟩:=EG hk;have hqe:Eg qw:=by
           rcases hk with ⟨z,rfl,_⟩|⟨h,rfl,_⟩
           · trivial
           · obtain ⟨t,rfl⟩:=DR hq h fun k h=>LB (fun _ _=>zO fu) (show M7 (wu fu s1.a.ws) s1.a.ws e=some (.err k) by subst h;exact hqw);trivial
         obtain ⟨i,l2,hi,hl2,hk2⟩:=KM hqw hqe;obtain ⟨j,hjl,rfl,hj,hj2⟩:∃ j,j < l2.length/\qw=.ok (i,j)/\(e.e=2->e.d=(j:Int))/\(e.e≠2->j=0):=by
           rcases hk2 with ⟨h,j,h1,h2,h4⟩|⟨h,_⟩|⟨h,_,h1,h2⟩
           · exact ⟨j,h2,h4,fun _=>h1,fun z=>absurd h z⟩
           · exact absurd h h3e
           · exact ⟨0,h1,h2,fun z=>absurd z h,fun _=>rfl⟩
         rcases hk with ⟨z,h,hk⟩|⟨h,_⟩
         case inr=>exact absurd rfl (h _)
         cases h;obtain ⟨rfl,rfl⟩:=Prod.mk.inj (Option.some.inj hk);have hget:y.d[0]?=some e:=by rw [hT];rfl
         obtain ⟨cs,hr,b2⟩:=b.nm 0 rfl hget;obtain ⟨a2,c2,rfl,hd⟩:=jA.out hr;replace b2:=b2.kC (d:=.l a2 c2 e.a) hd;refine go ?_;refine pG (fun _=>True) (fun u=>Bx w u A G (.box b5 122 (cS y a7 c7 a10 c10 a11 c11 a12 c12).toArray :: N8 R m2 ptrs x ⟨s1.a,h2',o2⟩ 0 v2) (.l a2 c2 e.a :: .at (mX a7) (nU a7+0 * Rp.sz jA) (cE e a2 c2) :: (dS y a7 c7 a10 c10 a11 c11 a12 c12 ++ oz R m2 h2' o2))) [9] (by kernel_rfl) ?_;replace b2:=b2.drew;refine pL 0 r (nW r) trivial b2 (pL 1 r (yG r r) trivial b2 (tS 12 2 r (fun _ h=>yK r (h.bk 0 r) r r) (kG trivial b2) (pL 3 r (kV tu jR r r r (b2.dl 2 r) hget) trivial b2 (tS 12 4 r (fun _ h=>mU (cE e a2 c2) underlying135 r jR r r (h.dc 1 r)) (kG trivial b2) (pL 5 r (nW r) trivial b2 (pL 6 r (xn r) trivial b2 (pL 7 r (yG r r) trivial b2 (tS 12 8 r (fun _ h=>yK r (h.bk 1 r) r r) (kG trivial b2) ?_))))))));refine hO 9 (oc r r (ec VD r) (Tq (b2.pr [5] [0,1,2,3,4] [] r) hi hl2 hjl hj hj2) ?_);rintro _ w4 ⟨rfl,hK⟩;replace b2:=b2.cn [5] [0,1,2,3,4] hK;refine ⟨sy 9 trivial,hD ?_⟩;refine go ?_;exact kD (jB rfl (kH rfl) ⟨m2,x,0,0,v2,rfl,rfl,⟨rfl,rfl⟩,(b2.arr [2,3,4,5,0] rfl).dp [6,7,8,9,10,11]⟩)
     · have hne:how≠1/\Hw (q2.up:Pn (Option Int)) how e2 v2:=by
         cases q2 with
         | ok n=>exact absurd rfl (hno n)
         | tV t=>exact ⟨by rw [hw.1];decide,hw⟩
         | err k=>exact ⟨by rw [hw.1];decide,hw⟩
         | rt=>exact hw.elim
       refine go ?_;rw [decide_eq_true hne.1];refine go ?_;exact kD (jB rfl (kH rfl) ⟨m2,x,how,e2,v2,rfl,rfl,hne.2,(b.arr [1,2,3,4,5] rfl).dp [4,5,6,7,8,9]⟩)
   · obtain ⟨t,rfl⟩:=DR hq hno fun k h=>Kn (by subst h;exact hqe);refine oO (lW PZ rfl) (Py hCl b hl hB hp hn ha hqe trivial (q2:=.rt) (h2:=[]) (o2:=[]) fun l h=>by cases h) ?_;rintro _ w3 ⟨m2,how,e2,v2,rfl,hz⟩;rcases hz with ⟨_,h,_⟩|⟨h,rfl,rfl,b⟩
     · cases h
     cases h;refine go ?_;exact kD (jB rfl (kH rfl) ⟨m2,x,2,0,_,rfl,rfl,⟨rfl,rfl,rfl⟩,(b.arr [1,2,3,4,5] rfl).dp [4,5,6,7,8,9]⟩)
 rw [if_neg h3] at hm
 have hblk:∀ {w3:World} {m2:AQ} {x2:vg} {s2 s':Sg} {v2:Int} (j:Nat) {a:Option Addr} {c:Nat} {l:List jI} {p:Pn (Option Int)},x2.b=x.b→JI w w3 A G R m2 ptrs x2 s2 0 v2 y a7 c7 a10 c10 a11 c11 a12 c12 b5 (cS y a7 c7 a10 c10 a11 c11 a12 c12).toArray→(∀ z ∈ l,FD z)→Dp (stM (jD fv R.src) R.src R.st fu gs) s2 l=some (p,s')→IC p→
     pick (dS y a7 c7 a10 c10 a11 c11 a12 c12 ++ oz R m2 s2.hist s2.out) [j,4,5,6,7,8,9]=[.l a c l] ++ oz R m2 s2.hist s2.out->
     Calls prog 31 #[Pt R.rb,Pt x.b,.slice a l.length c] w3 (pz fun r w'=>∃ m' x' how e v',x'.b=x.b/\r=V how/\Hw p how e v'/\JI w w' A G R m' ptrs x' s' e v' y a7 c7 a10 c10 a11 c11 a12 c12 b5 (cS y a7 c7 a10 c10 a11 c11 a12 c12).toArray):=fun {_} {_} {x2} {_} {_} {_} j {_} {_} {_} {_} hx2 b2 ha2 hm2 hq2 hD=>by
   have hc:=aac hLs b2 hl hB (by rw [hx2];exact hp) hn j ha2 hm2 hq2 hD;rw [hx2] at hc;exact hc
 by_cases h479:y.c=4\/y.c=7\/y.c=9
 · obtain ⟨q,hqe,hqk⟩:∃ q,Tg (wu fu s1.a.ws) y.a=some q/\((∃ n,q=.ok n/\((y.c=4/\Dp (stM (jD fv R.src) R.src R.st fu gs) s1 (if n≠0 then y.e else y.h)=some (p,s'))\/(y.c=7/\p=.tV n/\s'=s1)\/(y.c=9/\∃ o,app s1.out [n]=some o/\p=.ok none/\s'={ s1 with out:=o })))\/((∀ n,q≠.ok n)/\p=q.up/\s'=s1)):=by
     rcases h479 with h4 | h7 | h9
     · rw [if_pos h4] at hm;obtain ⟨q,h5,h6⟩:=xJ hm;refine ⟨q,h5,?_⟩;rcases h6 with ⟨n,h7,h8⟩ | h6
       · exact .inl ⟨n,h7,.inl ⟨h4,h8⟩⟩
       · exact .inr h6
     · rw [if_neg (by omega),if_neg (by omega),if_neg (by omega),if_pos h7] at hm;obtain ⟨q,h5,h6⟩:=xJ hm;refine ⟨q,h5,?_⟩;rcases h6 with ⟨n,h10,h8⟩ | h6
       · obtain ⟨rfl,rfl⟩:=Prod.mk.inj (Option.some.inj h8);exact .inl ⟨n,h10,.inr (.inl ⟨h7,rfl,rfl⟩)⟩
       · exact .inr h6
     · rw [if_neg (by omega),if_neg (by omega),if_neg (by omega),if_neg (by omega),if_neg (by omega),if_pos h9] at hm;obtain ⟨q,h5,h6⟩:=xJ hm;refine ⟨q,h5,?_⟩;rcases h6 with ⟨n,h10,h8⟩ | h6
       · obtain ⟨o,h11,h8⟩:=bs h8;obtain ⟨rfl,rfl⟩:=Prod.mk.inj (Option.some.inj h8);exact .inl ⟨n,h10,.inr (.inr ⟨h9,o,h11,rfl,rfl⟩)⟩
       · exact .inr h6
   clear hm;have hge:Eg q:=SE hqe (by
     rcases hqk with ⟨n,h,_⟩|⟨h,h',_⟩
     · exact .inl ⟨n,h⟩
     · exact .inr ⟨h,h'⟩) hq
   rw [decide_eq_false h1];refine go ?_;rw [decide_eq_false h2];refine go ?_;rw [decide_eq_false h3];refine go ?_;refine qF (fun f w'=>w'=w2/\Has f [(0,Pt R.rb),(1,Pt x.b),(5,Pt b5),(72,.bool true)]) (fun J hJ=>?_) ?_
   · rcases h479 with h4 | h7 | h9
     · rw [decide_eq_true h4];refine go ?_;exact hJ _ _ ⟨rfl,rfl,rfl,rfl,rfl,trivial⟩
     · rw [decide_eq_false (by omega:¬ y.c=4)];refine go ?_;rw [decide_eq_false (by omega:¬ y.c=9)];refine go ?_;exact hJ _ _ ⟨rfl,rfl,rfl,rfl,congrArg Value.bool (decide_eq_true h7),trivial⟩
     · rw [decide_eq_false (by omega:¬ y.c=4)];refine go ?_;rw [decide_eq_true h9];refine go ?_;exact hJ _ _ ⟨rfl,rfl,rfl,rfl,rfl,trivial⟩
   rintro f w' ⟨rfl,hf⟩;obtain ⟨av,rfl⟩:=mE _ _ hf;clear hf;refine goC b ?_;refine jZ (lY (cS y a7 c7 a10 c10 a11 c11 a12 c12) lg jQ rfl (b.bk 0 rfl)) ?_;refine oO (lW NJ rfl) (R7 b ha hqe hge) ?_;rintro _ w3 ⟨v2,b,hz⟩;rcases hz with ⟨n1,rfl,rfl⟩|⟨z,rfl,rfl⟩
   case inr=>
     rcases hqk with ⟨n,h,_⟩|⟨_,rfl,rfl⟩
     · cases h
     refine jZ (wh (.tuple #[V z,.bool false]) rfl) ?_;refine goC b ?_;exact kD (jB rfl (kH rfl) ⟨m1,x,2,0,v2,rfl,rfl,⟨rfl,rfl,rfl⟩,(b.arr [1,2,3,4,5] rfl).dp [4,5,6,7,8,9]⟩)
   rcases hqk with ⟨n,h,hk⟩|⟨h,_⟩
   case inr=>exact absurd rfl (h _)
   cases h;refine jZ (wh (.tuple #[V n1,.bool true]) rfl) ?_;refine goC b ?_;rcases hk with ⟨h4,hk⟩|⟨h7,rfl,rfl⟩|⟨h9,o,ho,rfl,rfl⟩
   · rw [decide_eq_false (by omega:¬ y.c=7)];refine goC b ?_;rw [decide_eq_false (by omega:¬ y.c=9)];refine goC b ?_;by_cases hn0:n1≠0
     · rw [if_pos hn0] at hk;rw [decide_eq_true hn0];refine goC b ?_;refine oO (lW JW rfl) (hblk 2 rfl b ha.bo hk hq rfl) ?_;rintro _ w4 ⟨m3,x3,how,e3,v3,hx3,rfl,hw,b⟩;refine go ?_;exact kD (jB rfl (kH rfl) ⟨m3,x3,how,e3,v3,hx3,rfl,hw,(b.arr [1,2,3,4,5] rfl).dp [4,5,6,7,8,9]⟩)
     · rw [if_neg hn0] at hk;rw [decide_eq_false hn0];refine goC b ?_;refine oO (lW JW rfl) (hblk 3 rfl b ha.el hk hq rfl) ?_;rintro _ w4 ⟨m3,x3,how,e3,v3,hx3,rfl,hw,b⟩;refine go ?_;exact kD (jB rfl (kH rfl) ⟨m3,x3,how,e3,v3,hx3,rfl,hw,(b.arr [1,2,3,4,5] rfl).dp [4,5,6,7,8,9]⟩)
   · rw [decide_eq_true h7];refine goC b ?_;refine lq (t_n b 1 [V n1] rfl mV rfl rfl) fun w4 b=>?_;refine go ?_;exact kD (jB rfl (kH rfl) ⟨m1,x,2,0,n1,rfl,rfl,⟨rfl,rfl,rfl⟩,(b.arr [1,2,3,4,5] rfl).dp [4,5,6,7,8,9]⟩)
   · rw [decide_eq_false (by omega:¬ y.c=7)];refine goC b ?_;rw [decide_eq_true h9];refine goC b ?_;refine nM (jN b [[V n1]] ([n1]:List Int) (zo rfl) rfl rfl (by decide) ⟨rfl,trivial⟩) ?_;rintro _ w4 ⟨b9,rfl,b⟩;refine nM (kN b 5 6 rfl rfl underlying22 mV rfl (by decide) (by decide) hB rfl rfl (b.zL 0 0 rfl rfl) ho) ?_;rintro _ w5 ⟨a4,c4,cs4,rfl,b⟩;refine goC b ?_;refine lq (t_n b 2 [.slice a4 o.length c4] rfl vW rfl rfl) fun w6 b=>?_;refine go ?_;exact kD (jB rfl (kH rfl) ⟨{ m1 with oA:=a4,oC:=c4,oc:=cs4 },x,0,0,v2,rfl,rfl,⟨rfl,rfl⟩,(b.arr [2,3,4,5,6] rfl).dp [5,6,7,8,9,10]⟩)
 rw [if_neg (by omega)] at hm;by_cases h5:y.c=5
 · rw [if_pos h5] at hm;rw [h5];refine goC b ?_
   refine kI (fun aw f w'=>∃ (n:Nat) (s2:Sg) (m2:AQ) (x2:vg) (v2:Int),aw=n∧x2.b=x.b∧Has f [(0,Pt R.rb),(1,Pt x.b),(5,Pt b5)]∧JI w w' A G R m2 ptrs x2 s2 0 v2 y a7 c7 a10 c10 a11 c11 a12 c12 b5 (cS y a7 c7 a10 c10 a11 c11 a12 c12).toArray∧
       Uh (fun s=>Tg (wu fu s.a.ws) y.a) (fun s=>Dp (stM (jD fv R.src) R.src R.st fu gs) s y.e) (fun s=>event (jD fv R.src) R.st gs s y.n) n s2=some (p,s')) fu ⟨fu,s1,m1,x,v,rfl,rfl,⟨rfl,rfl,rfl,trivial⟩,b,hm⟩ ?_
   clear b hm;rintro n f w3 ⟨_,s2,m2,x2,v2,rfl,hx2,hf,b,hm⟩ J hJ;obtain ⟨av,rfl⟩:=mE _ _ hf;clear hf;cases n with
   | zero=>cases hm
   | succ n=>
   rw [Uh] at hm;obtain ⟨q,hqe,hm⟩:=bs hm;have hge:Eg q:=by
     cases q with
     | ok n=>trivial
     | tV t=>trivial
     | err k=>cases hm;exact absurd (Gb hqe) hq
     | rt=>cases hm;exact hq.elim
   have hc:=R7 b ha hqe hge;rw [hx2] at hc;refine goC b ?_;refine jZ (lY (cS y a7 c7 a10 c10 a11 c11 a12 c12) lg jQ rfl (b.bk 0 rfl)) ?_;refine oO (lW NJ rfl) hc ?_;clear hc;rintro _ w4 ⟨v3,b,hz⟩;rcases hz with ⟨n1,rfl,rfl⟩|⟨z,rfl,rfl⟩
   case inr=>
     obtain ⟨rfl,rfl⟩:=Prod.mk.inj (Option.some.inj hm);refine jZ (wh (.tuple #[V z,.bool false]) rfl) ?_;refine goC b ?_;exact kD (jB rfl (kH rfl) ⟨m2,x2,2,0,v3,hx2,rfl,⟨rfl,rfl,rfl⟩,(b.arr [1,2,3,4,5] rfl).dp [4,5,6,7,8,9]⟩)
   dsimp only at hm;refine jZ (wh (.tuple #[V n1,.bool true]) rfl) ?_;refine goC b ?_;refine nS rfl (fun h0=>?_) (fun h0=>?_)
   · rw [if_pos h0] at hm;obtain ⟨rfl,rfl⟩:=Prod.mk.inj (Option.some.inj hm);refine go ?_;exact kD (jB rfl (kH rfl) ⟨m2,x2,0,0,v3,hx2,rfl,⟨rfl,rfl⟩,(b.arr [1,2,3,4,5] rfl).dp [4,5,6,7,8,9]⟩)
   rw [if_neg h0] at hm;obtain ⟨⟨q2,s3⟩,hb,hm⟩:=bs hm;have hg2:IC q2:=by
     cases q2 with
     | ok o=>trivial
     | _=>obtain ⟨rfl,rfl⟩:=Prod.mk.inj (Option.some.inj hm);exact hq
   refine goC b ?_;refine oO (lW JW rfl) (hblk 2 hx2 b ha.bo hb hg2 rfl) ?_;rintro _ w5 ⟨m3,x3,how,e3,v4,hx3,rfl,hw,b⟩;refine go ?_;by_cases hno:q2=.ok none
   · subst hno;obtain ⟨rfl,rfl⟩:=hw;refine goC b ?_;obtain ⟨⟨q3,s4⟩,he2,hm⟩:=bs hm;have hc:=VW hR b hl hB (by rw [hx3];exact hp) hn he2;rw [hx3] at hc;refine oO (lW VH rfl) hc ?_;clear hc;rintro _ w6 ⟨m4,e4,b,hz⟩;rcases hz with ⟨rfl,rfl,rfl⟩|⟨rfl,rfl⟩
     · refine go ?_;exact hJ n _ _ (by omega) ⟨n,s4,m4,x3,v4,rfl,hx3,⟨rfl,rfl,rfl,trivial⟩,b,hm⟩
     · obtain ⟨rfl,rfl⟩:=Prod.mk.inj (Option.some.inj hm);refine go ?_;exact kD (jB rfl (kH rfl) ⟨m4,x3,3,e4,v4,hx3,rfl,⟨rfl,rfl⟩,(b.arr [1,2,3,4,5] rfl).dp [4,5,6,7,8,9]⟩)
   · have hpq:p=q2/\s'=s3:=by
       cases q2 with
       | ok o=>cases o with
         | none=>exact absurd rfl hno
         | some n=>obtain ⟨h1,h2⟩:=Prod.mk.inj (Option.some.inj hm);exact ⟨h1.symm,h2.symm⟩
       | _=>obtain ⟨h1,h2⟩:=Prod.mk.inj (Option.some.inj hm);exact ⟨h1.symm,h2.symm⟩
     obtain ⟨rfl,rfl⟩:=hpq;rw [decide_eq_true (hw.ne hno)];refine go ?_;exact kD (jB rfl (kH rfl) ⟨m3,x3,how,e3,v4,hx3,rfl,hw,(b.arr [1,2,3,4,5] rfl).dp [4,5,6,7,8,9]⟩)
 rw [if_neg h5] at hm;by_cases h6:y.c=6
 · rw [if_pos h6] at hm;rw [h6];refine goC b ?_;refine jZ (IB rfl rfl) ?_;refine go ?_;refine nS (p:=y.j≠be) rfl (fun hf=>?_) (fun hf=>?_)
   · rw [if_pos hf] at hm;refine goC b ?_;refine jZ (lY (cS y a7 c7 a10 c10 a11 c11 a12 c12) lg jQ rfl (b.bk 0 rfl)) ?_;obtain ⟨q,hqe,hk⟩:=Fx hm;clear hm;rcases hk with ⟨l,q2,h2',o2,rfl,hc,hk⟩|⟨hno,rfl,rfl⟩
     · have hg:IC q2:=by
         rcases hk with ⟨n,rfl,_⟩|⟨h,rfl,_⟩
         · trivial
         · exact Rx hq h
       refine oO (lW PZ rfl) (Py hCl b hl hB hp hn ha hqe trivial (q2:=q2) (h2:=h2') (o2:=o2) fun l h=>by cases h;exact ⟨hc,hg⟩) ?_;rintro _ w3 ⟨m2,how,e2,v2,rfl,hz⟩;rcases hz with ⟨_,h,hw,b⟩|⟨h,_⟩
       case inr=>cases h
       clear h;have hw2:Hw p how e2 v2/\s'=⟨s1.a,h2',o2⟩:=by
         rcases hk with ⟨n2,rfl,hk⟩|⟨hno,rfl,rfl⟩
         · obtain ⟨rfl,rfl⟩:=Prod.mk.inj (Option.some.inj hk);exact ⟨hw,rfl⟩
         · refine ⟨?_,rfl⟩;cases q2 with
           | ok n=>exact absurd rfl (hno n)
           | tV t=>exact hw
           | err k=>exact hw
           | rt=>exact hw.elim
       obtain ⟨hw2,rfl⟩:=hw2;refine go ?_;exact kD (jB rfl (kH rfl) ⟨m2,x,how,e2,v2,rfl,rfl,hw2,(b.arr [1,2,3,4,5] rfl).dp [4,5,6,7,8,9]⟩)
     · obtain ⟨t,rfl⟩:=DR hq hno fun k h=>Kn (by subst h;exact hqe);refine oO (lW PZ rfl) (Py hCl b hl hB hp hn ha hqe trivial (q2:=.rt) (h2:=[]) (o2:=[]) fun l h=>by cases h) ?_;rintro _ w3 ⟨m2,how,e2,v2,rfl,hz⟩;rcases hz with ⟨_,h,_⟩|⟨h,rfl,rfl,b⟩
       · cases h
       cases h;refine go ?_;exact kD (jB rfl (kH rfl) ⟨m2,x,2,0,_,rfl,rfl,⟨rfl,rfl,rfl⟩,(b.arr [1,2,3,4,5] rfl).dp [4,5,6,7,8,9]⟩)
   · rw [if_neg hf] at hm;obtain ⟨q,hqe,hk⟩:=xJ hm;clear hm;have hge:Eg q:=SE hqe (by
       rcases hk with ⟨n,h,_⟩|⟨h,h',_⟩
       · exact .inl ⟨n,h⟩
       · exact .inr ⟨h,h'⟩) hq
     refine goC b ?_;refine jZ (lY (cS y a7 c7 a10 c10 a11 c11 a12 c12) lg jQ rfl (b.bk 0 rfl)) ?_;refine oO (lW NJ rfl) (R7 b ha hqe hge) ?_;rintro _ w3 ⟨v2,b,hz⟩;rcases hz with ⟨n1,rfl,rfl⟩|⟨z,rfl,rfl⟩
     · rcases hk with ⟨n,h,hk⟩|⟨h,_⟩
       case inr=>exact absurd rfl (h _)
       cases h;obtain ⟨rfl,rfl⟩:=Prod.mk.inj (Option.some.inj hk);refine jZ (wh (.tuple #[V n1,.bool true]) rfl) ?_;refine goC b ?_;refine lq (t_n b 1 [V n1] rfl mV rfl rfl) fun w4 b=>?_;refine go ?_;exact kD (jB rfl (kH rfl) ⟨m1,x,1,0,n1,rfl,rfl,⟨rfl,rfl,rfl⟩,(b.arr [1,2,3,4,5] rfl).dp [4,5,6,7,8,9]⟩)
     · rcases hk with ⟨n,h,_⟩|⟨_,rfl,rfl⟩
       · cases h
       refine jZ (wh (.tuple #[V z,.bool false]) rfl) ?_;refine goC b ?_;exact kD (jB rfl (kH rfl) ⟨m1,x,2,0,v2,rfl,rfl,⟨rfl,rfl,rfl⟩,(b.arr [1,2,3,4,5] rfl).dp [4,5,6,7,8,9]⟩)
 rw [if_neg h6,if_neg (by omega)] at hm;by_cases h8:y.c=8
 · rw [if_pos h8] at hm;rw [h8];refine goC b ?_;obtain ⟨⟨q,s2⟩,hb,hm⟩:=bs hm;have hg2:IC q:=by
     cases q with
     | ok o=>trivial
     | tV t=>trivial
     | _=>obtain ⟨rfl,rfl⟩:=Prod.mk.inj (Option.some.inj hm);exact hq
   refine oO (lW JW rfl) (hblk 2 rfl b ha.bo hb hg2 rfl) ?_;rintro _ w3 ⟨m2,x2,how,e2,v2,hx2,rfl,hw,b⟩;refine go ?_;by_cases hth:∃ t,q=.tV t
   · obtain ⟨t,rfl⟩:=hth;obtain ⟨rfl,rfl,rfl⟩:=hw;dsimp only at hm;cases hx:ix? s2.a.ws y.g with
     | none=>rw [hx] at hm;cases hm;exact hq.elim
     | some l=>
     rw [hx] at hm;cases l with
     | nil=>cases hm;exact hq.elim
     | cons z l=>
     dsimp only at hm;obtain ⟨i,hi,hl2⟩:=PK hx;obtain ⟨r1,hr,_,h5',_⟩:=It.sN (b.at 5 rfl) hl2;refine go ?_;refine pG (fun _=>True) (fun u=>JI w u A G R m2 ptrs x2 s2 0 v2 y a7 c7 a10 c10 a11 c11 a12 c12 b5 (cS y a7 c7 a10 c10 a11 c11 a12 c12).toArray) [13] (by kernel_rfl) ?_;replace b:=b.drew;have hxb:Pt x.b=Pt x2.b:=by rw [hx2]
     refine pL 0 r (nW r) trivial b (pL 1 r (xn r) trivial b (pL 2 r (yG r r) trivial b (tS 16 3 r (fun _ h=>yK (congrArg (fun z=>Value.pointer (some ⟨z,2,none⟩)) hx2.symm) (It.oF (h.at 5 r)) r r) (kG trivial b) (pL 4 r (yG r r) trivial b (tS 16 5 r (fun _ h=>yK r (h.bk 0 r) r r) (kG trivial b) ?_)))));refine pL 6 r (zG i h5' underlying93 vW r r hi (jW hl2)) trivial b (tS 16 7 r (fun _ h=>jS (a:=⟨mX x2.A,nU x2.A+i * 1,none⟩) underlying22 r r (uh (h.at 5 r) hr hl2)) (kG trivial b) ?_);refine pL 8 r (nW r) trivial b (pL 9 r (xn r) trivial b (pL 10 r (yG r r) trivial b (tS 16 11 r (fun _ h=>yK r (h.bk 1 r) r r) (kG trivial b) (pL 12 r (xIdx 0 underlying22 mV r r r (by simp)) trivial b ?_))));refine hO 13 (os r r (BK b 5 (j:=0) rfl hr hl2 (by simp) r r) ?_);intro w4 b;refine ⟨sy 13 trivial,hD ?_⟩;have hset:setW s2.a.ws (i,0) v2=s2.a.ws.set y.g.toNat (v2 :: l):=by unfold setW;rw [List.getD_eq_getElem?_getD,hl2,hi,Int.toNat_natCast];rfl
     rw [hset] at b;replace b:JI w w4 A G R m2 ptrs x2 { s2 with a:={ s2.a with ws:=s2.a.ws.set y.g.toNat (v2 :: l) } } 0 v2 y a7 c7 a10 c10 a11 c11 a12 c12 b5 (cS y a7 c7 a10 c10 a11 c11 a12 c12).toArray:=b;refine goC b ?_;refine oO (lW JW rfl) (hblk 3 hx2 b ha.el hm hq rfl) ?_;rintro _ w5 ⟨m3,x3,how,e3,v3,hx3,rfl,hw,b⟩;refine go ?_;exact kD (jB rfl (kH rfl) ⟨m3,x3,how,e3,v3,hx3,rfl,hw,(b.arr [1,2,3,4,5] rfl).dp [4,5,6,7,8,9]⟩)
   · have hpq:p=q/\s'=s2/\how≠2:=by
       cases q with
       | ok o=>cases o with
         | none=>obtain ⟨h1,h2⟩:=Prod.mk.inj (Option.some.inj hm);exact ⟨h1.symm,h2.symm,by rw [hw.1];decide⟩
         | some n=>obtain ⟨h1,h2⟩:=Prod.mk.inj (Option.some.inj hm);exact ⟨h1.symm,h2.symm,by rw [hw.1];decide⟩
       | tV t=>exact absurd ⟨t,rfl⟩ hth
       | err k=>obtain ⟨h1,h2⟩:=Prod.mk.inj (Option.some.inj hm);exact ⟨h1.symm,h2.symm,by rw [hw.1];decide⟩
       | rt=>exact hw.elim
     obtain ⟨rfl,rfl,h2⟩:=hpq;rw [decide_eq_true h2];refine go ?_;exact kD (jB rfl (kH rfl) ⟨m2,x2,how,e2,v2,hx2,rfl,hw,(b.arr [1,2,3,4,5] rfl).dp [4,5,6,7,8,9]⟩)
 rw [if_neg h8,if_neg (by omega)] at hm;by_cases h10:y.c=10
 · rw [if_pos h10] at hm;obtain ⟨rfl,rfl⟩:=Prod.mk.inj (Option.some.inj hm);rw [h10];refine goC b ?_;refine lq (t_n b 1 [V 0] rfl mV rfl rfl) fun w4 b=>?_;refine go ?_;exact kD (jB rfl (kH rfl) ⟨m1,x,1,0,0,rfl,rfl,⟨rfl,rfl,rfl⟩,(b.arr [1,2,3,4,5] rfl).dp [4,5,6,7,8,9]⟩)
 rw [if_neg h10] at hm;obtain ⟨rfl,rfl⟩:=Prod.mk.inj (Option.some.inj hm);rw [decide_eq_false h1];refine go ?_;rw [decide_eq_false h2];refine go ?_;rw [decide_eq_false h3];refine go ?_;rw [decide_eq_false (by omega:¬ y.c=4)];refine go ?_;rw [decide_eq_false (by omega:¬ y.c=9)];refine go ?_;rw [decide_eq_false (by omega:¬ y.c=7)];refine go ?_;rw [decide_eq_false h5];refine go ?_;rw [decide_eq_false h6];refine go ?_;rw [decide_eq_false h10];refine go ?_;rw [decide_eq_false h8];refine go ?_;exact kD (jB rfl (kH rfl) ⟨m1,x,0,0,v,rfl,rfl,⟨rfl,rfl⟩,(b.arr [1,2,3,4,5] rfl).dp [4,5,6,7,8,9]⟩)
theorem Vx {fv:Nat} {R:Rn} (hR:Og R) (hF:∀ fn ∈ R.src.a.b,QE fn):∀ fu,CSr R (stM (jD fv R.src) R.src R.st fu)
 | 0=>by intro _ _ h;cases h
 | fu+1=>UM hR hF (Vx hR hF fu)
def Snd (fu:Nat) (s:jL) (f:Int) (args:List Int) (n:Int):Prop:=∀ fn p h o,ix? s.a.b f=some fn->(args.length:Int)=fn.a.length->0<=n->n<=5000->zC (stM (jD fu s) s n.toNat fu) s [] f args [] []=some (p,h,o)->IC p/\p≠.err 0
open Classical in
noncomputable def zn (fu:Nat) (s:jL) (f:Int) (args:List Int) (n fr mo:Int):Option (List ko × mO):=if (∀ fn ∈ s.a.b,QE fn)/\Snd fu s f args n then lS fu s f args n fr mo else none
def Wu (fu:Nat) (s:jL) (f:Int) (args:List Int) (n fr mo:Int) (R:List ko × mO):Prop:=Yv fu s f args n fr mo R/\∃ fn,ix? s.a.b f=some fn/\(args.length:Int)=fn.a.length
theorem Sd {fu:Nat} {s:jL} {f:Int} {args:List Int} {n fr mo:Int} {R:List ko × mO} (h:lS fu s f args n fr mo=some R) :(¬ (0<=f/\f < s.a.b.length)/\R=([],⟨1,false,0,[]⟩))\/∃ k fn,f=((k:Nat):Int)/\s.a.b[k]?=some fn/\ ((¬ (args.length:Int)=fn.a.length\/n < 0\/5000 < n\/fr < 0\/mo < 0\/100 < mo)/\R=([],⟨1,false,0,[]⟩)\/(¬ (¬ (args.length:Int)=fn.a.length\/n < 0\/5000 < n\/fr < 0\/mo < 0\/100 < mo))/\Wu fu s f args n fr mo R):=by
 rcases O7 h with h | ⟨k,fn,rfl,hfn,h⟩
 · exact .inl h
 refine .inr ⟨k,fn,rfl,hfn,?_⟩;rcases h with h | ⟨h1,h2⟩
 · exact .inl h
 · exact .inr ⟨h1,h2,fn,by unfold ix?;rw [if_neg (by omega),Int.toNat_natCast];exact hfn,by omega⟩
theorem PI {w:World} {b:Nat} {t:TypeId} {l1 l2 l3:List Value} (h:nH w b t (l1 ++ (l2 ++ l3)).toArray):Cells w b l1.length l2:=fun j v hv=>by refine h.cell (i:=l1.length+j) ?_;rw [List.getElem?_toArray,List.getElem?_append_right (by omega),Nat.add_sub_cancel_left,List.getElem?_append_left (by have:=(List.getElem?_eq_some_iff.1 hv).1;exact this)];exact hv
theorem aaK {ρ:Operand->Value} {w:World} {d:Option Nat} {ty:TypeId} {pos:String} {af:Array Edge} {g:Option (Nat × Bool)} {x y z u:Operand} {n m k:Int} {s1 s2 s3 s4:Option Addr} {n1 n2 n3 n4 c1 c2 c3 c4:Nat} (h:ρ x=.agg #[.slice s1 n1 c1,.slice s2 n2 c2,.slice s3 n3 c3,.slice s4 n4 c4]) (h1:ρ y=V n) (h2:ρ z=V m) (h3:ρ u=V k) :Yl prog ρ (.build 76 #[(0,x),(1,y),(2,z),(3,u)]) d ty pos af g w (.agg #[.slice s1 n1 c1,.slice s2 n2 c2,.slice s3 n3 c3,.slice s4 n4 c4,V n,V m,V k,V 0,sn,sn,V 0,.bool false,V 0,sn,V 0]):=by
 have e:(Instr.build 76 #[(0,.agg #[.slice s1 n1 c1,.slice s2 n2 c2,.slice s3 n3 c3,.slice s4 n4 c4]),(1,V n),(2,V m),(3,V k)]).run prog w=.ok (.agg #[.slice s1 n1 c1,.slice s2 n2 c2,.slice s3 n3 c3,.slice s4 n4 c4,V n,V m,V k,V 0,sn,sn,V 0,.bool false,V 0,sn,V 0]) w:=by kernel_rfl
 simp [Yl,execOp,h,h1,h2,h3,e]
theorem aaw:jH prog 11:=⟨_,func11,by kernel_rfl,by kernel_rfl⟩
theorem KA (fu:Nat):Kl (zn fu):=by
 intro w0 Y s f args n fr mo a1 c1 a2 c2 a3 c3 a4 c4 a c R hP hM;have b:=hP.bx;clear hP;generalize hG:lD []=G at b ⊢;unfold zn at hM;by_cases hcd:(∀ fn ∈ s.a.b,QE fn)/\Snd fu s f args n
 case neg=>rw [if_neg hcd] at hM;cases hM
 rw [if_pos hcd] at hM;obtain ⟨hFn,hSn⟩:=hcd;replace hM:=Sd hM;obtain ⟨ev,out⟩:=R;refine cf func11 rfl ?_;refine lu [(0,.agg #[Z a1 s.a.a c1,Z a2 s.a.b c2,Z a3 s.c c3,Z a4 s.b c4]),(1,V f),(2,Z a args c),(3,V n),(4,V fr),(5,V mo)] ⟨rfl,rfl,rfl,rfl,rfl,rfl,trivial⟩ fun av=>?_;refine Gg (zM ?_);refine rE b (tO rfl) fun w1 b6 b=>?_;refine jZ (nk rfl) ?_;refine rE b (jX AR) fun w3 b13 b=>?_;refine Li ?_;have hbd:=(b.dl 4 rfl).bd;refine Gg (Gg (qF (fun f' w'=>w'=w3/\∃ q:Bool,Has f' [(1,V f),(2,Z a args c),(3,V n),(4,V fr),(5,V mo),(6,Pt b6),(12,sn),(13,Pt b13),(58,.bool q)]/\(q=true->(ev,out)=([],⟨1,false,0,[]⟩))/\(q=false->Wu fu s f args n fr mo (ev,out))) (fun J hJ=>?_) ?_))
 · refine zM ?_;have hE:¬ (0<=f/\f < s.a.b.length)->(ev,out)=([],⟨1,false,0,[]⟩):=fun h=>by
     rcases hM with ⟨_,h⟩|⟨k,fn,hk,hfn,_⟩
     · exact h
     · have:=jW hfn;omega
   refine goC b ?_;by_cases h0:f < 0
   · rw [decide_eq_true h0];refine goC b ?_;exact hJ _ _ ⟨rfl,true,⟨rfl,rfl,rfl,rfl,rfl,rfl,rfl,rfl,rfl,trivial⟩,fun _=>hE (by omega),fun h=>by cases h⟩
   rw [decide_eq_false h0];refine goC b ?_;by_cases h1:(s.a.b.length:Int)<=f
   · rw [decide_eq_true h1];refine goC b ?_;exact hJ _ _ ⟨rfl,true,⟨rfl,rfl,rfl,rfl,rfl,rfl,rfl,rfl,rfl,trivial⟩,fun _=>hE (by omega),fun h=>by cases h⟩
   rw [decide_eq_false h1];clear hE;rcases hM with ⟨h2,_⟩|⟨k,fn,rfl,hfn,hM⟩
   · exact (h2 ⟨by omega,by omega⟩).elim
   obtain ⟨cs0,hr0,b0⟩:=b.nm 1 rfl hfn;obtain ⟨a5,c5,a6,c6,rfl,h5,h6⟩:=kY.out hr0;have hE:(¬ (args.length:Int)=fn.a.length\/n < 0\/5000 < n\/fr < 0\/mo < 0\/100 < mo)->(ev,out)=([],⟨1,false,0,[]⟩):=fun h=>by
     rcases hM with ⟨_,h⟩|⟨h',_⟩
     · exact h
     · exact absurd h h'
   refine goC b ?_;refine jZ (kV underlying24 ow rfl rfl rfl (b.dl 1 rfl) hfn) ?_;refine goC b ?_;refine jZ (jS underlying36 rfl rfl ((b0.dc 0 rfl) 2 _ rfl)) ?_;refine goC b ?_;by_cases h2:¬ (args.length:Int)=fn.a.length
   · rw [decide_eq_true (p:=(args.length:Int)≠fn.a.length) h2];refine goC b ?_;exact hJ _ _ ⟨rfl,true,⟨rfl,rfl,rfl,rfl,rfl,rfl,rfl,rfl,rfl,trivial⟩,fun _=>hE (.inl h2),fun h=>by cases h⟩
   rw [decide_eq_false (p:=(args.length:Int)≠fn.a.length) h2];refine goC b ?_;by_cases h3:n < 0
   · rw [decide_eq_true h3];refine goC b ?_;exact hJ _ _ ⟨rfl,true,⟨rfl,rfl,rfl,rfl,rfl,rfl,rfl,rfl,rfl,trivial⟩,fun _=>hE (by omega),fun h=>by cases h⟩
   rw [decide_eq_false h3];refine goC b ?_;by_cases h4:5000 < n
   · rw [decide_eq_true h4];refine goC b ?_;exact hJ _ _ ⟨rfl,true,⟨rfl,rfl,rfl,rfl,rfl,rfl,rfl,rfl,rfl,trivial⟩,fun _=>hE (by omega),fun h=>by cases h⟩
   rw [decide_eq_false h4];refine goC b ?_;by_cases h5:fr < 0
   · rw [decide_eq_true h5];refine goC b ?_;exact hJ _ _ ⟨rfl,true,⟨rfl,rfl,rfl,rfl,rfl,rfl,rfl,rfl,rfl,trivial⟩,fun _=>hE (by omega),fun h=>by cases h⟩
   rw [decide_eq_false h5];refine goC b ?_;by_cases h6:mo < 0
   · rw [decide_eq_true h6];refine goC b ?_;exact hJ _ _ ⟨rfl,true,⟨rfl,rfl,rfl,rfl,rfl,rfl,rfl,rfl,rfl,trivial⟩,fun _=>hE (by omega),fun h=>by cases h⟩
   rw [decide_eq_false h6];refine goC b ?_;by_cases h7:100 < mo
   · rw [decide_eq_true h7];refine goC b ?_;exact hJ _ _ ⟨rfl,true,⟨rfl,rfl,rfl,rfl,rfl,rfl,rfl,rfl,rfl,trivial⟩,fun _=>hE (by omega),fun h=>by cases h⟩
   rw [decide_eq_false h7];refine goC b ?_;refine hJ _ _ ⟨rfl,false,⟨rfl,rfl,rfl,rfl,rfl,rfl,rfl,rfl,rfl,trivial⟩,fun h=>(by cases h),fun _=>?_⟩;rcases hM with ⟨h,_⟩|⟨_,h⟩
   · omega
   · exact h
 rintro f' w' ⟨rfl,q,hf,hT,hF⟩;obtain ⟨av,rfl⟩:=mE _ _ hf;clear hf hM;cases q with
 | true=>
   obtain ⟨rfl,rfl⟩:=Prod.mk.inj (hT rfl);refine jM rfl ?_;refine Gg (zM ?_);refine jZ (Uc rfl) ?_;refine jZ (nk rfl) ?_;refine lq (t_n b 0 [V 1,.bool false,V 0,sn] rfl AR rfl rfl) fun w5 b=>?_;refine Li ?_;refine kD ?_;refine mR (fn:=f11) rfl (kH rfl) (QZ rfl (fun ρ h=>lY [V 1,.bool false,V 0,sn] Ii AR h (b.bk 0 rfl)) (b.bk 0 rfl)) ?_;exact ⟨none,0,none,0,rfl,((b.arr [] rfl).kC (d:=.l none 0 ([]:List Int)) kU.nil).kC (d:=.l none 0 ([]:List ko)) kU.nil |>.dp [0,1]⟩
 | false=>
 refine jJ rfl (FN ?_);clear hT;obtain ⟨⟨hn,hfr,hmo,hA⟩,fn,hfn,hfl⟩:=hF rfl;clear hF;obtain ⟨N,rfl⟩:∃ N:Nat,n=(N:Int):=⟨n.toNat,by omega⟩;obtain ⟨F,rfl⟩:∃ F:Nat,fr=(F:Int):=⟨fr.toNat,by omega⟩;obtain ⟨M,rfl⟩:∃ M:Nat,mo=(M:Int):=⟨mo.toNat,by omega⟩;rw [Int.toNat_natCast,Int.toNat_natCast,Int.toNat_natCast] at hA;obtain ⟨⟨p,h,o⟩,hc,hA⟩:=bs hA;dsimp only at hA;obtain ⟨hg,hg0⟩:=hSn fn p h o hfn hfl (by omega) (by omega) (by rw [Int.toNat_natCast];exact hc);refine Gg (zM ?_);refine jZ (lY [Z a1 s.a.a c1,Z a2 s.a.b c2,Z a3 s.c c3,Z a4 s.b c4] Ch wK rfl (b.bk 1 rfl)) ?_;refine goC b ?_;refine jZ (aaK rfl rfl rfl rfl) ?_;refine rE b (tO rfl) fun w4 b76 b=>?_;refine goC b ?_;replace b:=((b.Bv ko 59).Bv Int 3).owN 101 1;replace b:=(b.arr [3,0,2,1,4] rfl).dp [1,0,2,3,4,5,6]
 let R:Rn:=⟨w0.heap.size,b76,⟨a1,c1,a2,c2,a3,c3,a4,c4⟩,s,N,F,M⟩
 let m:AQ:=⟨none,0,none,0,[],none,0,[]⟩
 have hw:window ([]:List ko) F M=[]:=by simp [window]
 replace b:Bx w0 w4 Y G (Mar R m [] [] [] 0 0 ++ [.box b13 43 #[V 0,.bool false,V 0,sn]]) (oz R m [] [] ++ [.l a c args]):=by show Bx w0 w4 Y G ([.box b76 76 (cM R m 0 (window ([]:List ko) F M).length 0 0 0 0).toArray,.own R.B none 0 101 1 [],.own R.B none 0 59 (Rp.sz ko) [],.own R.B none 0 3 (Rp.sz Int) []] ++ [.box b13 43 #[V 0,.bool false,V 0,sn]]) ([.els [] (window ([]:List ko) F M),.els [] ([]:List Int),.l a1 c1 s.a.a,.l a2 c2 s.a.b,.l a3 c3 s.c,.l a4 c4 s.b] ++ [.l a c args]);rw [hw];exact b
 have hRn:Og R:=⟨by show N<=5000;omega,by show M<=100;omega⟩;have hCl:CRr R (stM (jD fu R.src) R.src R.st fu):=TV (L8 (Vx hRn hFn fu)) hFn (TG fu);have hq:=hCl (b.pr [0,1,2,3] [4] [6,0,1,2,3,4,5] rfl) (xs:=[]) (gs:=[]) trivial b.qW.size rfl (Nat.zero_le _) hc hg;refine oO (lW WC rfl) hq ?_;clear hq;rintro _ w5 ⟨m2,how,e,v,rfl,hw2,hK⟩;replace b:=b.cn [0,1,2,3] [4] hK;replace b:=b.dp [0,1,2,3,4,5]
 have fin:∀ {f:Fr} {w':World} {e v v2:Int} {th:Bool},f 12=.slice m2.eA (window h F M).length m2.eC→f 13=Pt b13→(window h F M,(⟨e,th,v,o⟩:mO))=(ev,out)→Bx w0 w' Y G [.box b76 76 [.slice a1 s.a.a.length c1,.slice a2 s.a.b.length c2,.slice a3 s.c.length c3,.slice a4 s.b.length c4,V (N:Int),V (F:Int),V (M:Int),V (h.length:Int),.slice m2.lA 0 m2.lC,.slice m2.eA (window h F M).length m2.eC,V e,.bool th,V v,.slice m2.oA o.length m2.oC,V v2].toArray,.own w0.heap.size m2.lA m2.lC 101 1 [],.own w0.heap.size m2.eA m2.eC 59 (Rp.sz ko) m2.ec,.own w0.heap.size m2.oA m2.oC 3 (Rp.sz Int) m2.oc,.box b13 43 #[V e,.bool th,V v,.slice m2.oA o.length m2.oC]] (oz R m2 h o)→
     Reads prog f11 (fun v w'=>∃ o p t u,v=.tuple #[.slice o ev.length p,.agg #[V out.d,.bool out.b,V out.c,.slice t out.a.length u]]/\Bx w0 w' Y G [] [.l o p ev,.l t u out.a]) f w':=fun {f w' e v v2 th} h12 h13 he b=>by
   obtain ⟨rfl,rfl⟩:=Prod.mk.inj he;refine mR (fn:=f11) rfl (kH h12) (QZ h13 (fun ρ h'=>lY [V e,.bool th,V v,.slice m2.oA o.length m2.oC] Ii AR h' (b.bk 4 rfl)) (b.bk 4 rfl)) ?_;exact ⟨_,_,_,_,rfl,((b.QY 2 0 rfl rfl).QY 2 1 rfl rfl).ad [] [1,0]⟩
 replace b:Bx w0 w5 Y G [.box b76 76 [.slice a1 s.a.a.length c1,.slice a2 s.a.b.length c2,.slice a3 s.c.length c3,.slice a4 s.b.length c4,V (N:Int),V (F:Int),V (M:Int),V (h.length:Int),.slice m2.lA 0 m2.lC,.slice m2.eA (window h F M).length m2.eC,V e,.bool false,V 0,.slice m2.oA o.length m2.oC,V v].toArray,.own w0.heap.size m2.lA m2.lC 101 1 [],.own w0.heap.size m2.eA m2.eC 59 (Rp.sz ko) m2.ec,.own w0.heap.size m2.oA m2.oC 3 (Rp.sz Int) m2.oc,.box b13 43 #[V 0,.bool false,V 0,sn]] (oz R m2 h o):=b;refine goC b ?_;by_cases he0:e=0
 · have he:(window h F M,(⟨0,decide (how=2),v,o⟩:mO))=(ev,out):=by
     cases p with
     | ok n=>obtain ⟨rfl,_,rfl⟩:=hw2;exact Option.some.inj hA
     | tV t=>obtain ⟨rfl,_,rfl⟩:=hw2;exact Option.some.inj hA
     | err k=>exact absurd (by rw [<-hw2.2,he0]) hg0
     | rt=>exact hw2.elim
   rw [decide_eq_true he0];subst he0;refine goC b ?_;refine lq (t_n b 0 [V v] rfl mV rfl rfl) fun w6 b=>?_;refine goC b ?_;refine lq (t_n b 0 [.bool (decide (how=2))] rfl N7 rfl rfl) fun w7 b=>?_;refine go ?_;refine pG (fun u=>nH u b76 76 ([.slice a1 s.a.a.length c1,.slice a2 s.a.b.length c2,.slice a3 s.c.length c3,.slice a4 s.b.length c4,V (N:Int),V (F:Int),V (M:Int),V (h.length:Int),.slice m2.lA 0 m2.lC,.slice m2.eA (window h F M).length m2.eC] ++ ([V 0,.bool (decide (how=2)),V v,.slice m2.oA o.length m2.oC] ++ [V v])).toArray) (fun _=>True) [] (by kernel_rfl) ?_;replace b:=b.drew;have q1:=b.bk 0 rfl;refine pF 0 r (nW r) q1 (pF 1 r (xn r) q1 (pF 2 r (yG r r) q1 (uF 3 r (fun h=>yK r h r r) q1 (pF 4 r (nW r) q1 (pF 5 r (xn r) q1 (pF 6 r (yG r r) q1 (uF 7 r (fun h=>mU [V 0,.bool (decide (how=2)),V v,.slice m2.oA o.length m2.oC] underlying43 r AR r r (PI h)) q1 (pF 8 r (nk r) q1 ?_))))))));refine hO 9 (os r r (t_n b 4 [V 0,.bool (decide (how=2)),V v,.slice m2.oA o.length m2.oC] r AR r r) ?_);intro w8 b;refine ⟨sF (b.bk 0 rfl),hD ?_⟩;refine go ?_;exact kD (fin rfl rfl he b)
 · have he:(window h F M,(⟨e,false,0,o⟩:mO))=(ev,out):=by
     cases p with
     | ok n=>exact absurd hw2.2.1 he0
     | tV t=>exact absurd hw2.2.1 he0
     | err k=>obtain ⟨_,rfl⟩:=hw2;exact Option.some.inj hA
     | rt=>exact hw2.elim
   rw [decide_eq_false he0];refine go ?_;refine pG (fun u=>nH u b76 76 ([.slice a1 s.a.a.length c1,.slice a2 s.a.b.length c2,.slice a3 s.c.length c3,.slice a4 s.b.length c4,V (N:Int),V (F:Int),V (M:Int),V (h.length:Int),.slice m2.lA 0 m2.lC,.slice m2.eA (window h F M).length m2.eC] ++ ([V e,.bool false,V 0,.slice m2.oA o.length m2.oC] ++ [V v])).toArray) (fun _=>True) [] (by kernel_rfl) ?_;replace b:=b.drew;have q1:=b.bk 0 rfl;refine pF 0 r (nW r) q1 (pF 1 r (xn r) q1 (pF 2 r (yG r r) q1 (uF 3 r (fun h=>yK r h r r) q1 (pF 4 r (nW r) q1 (pF 5 r (xn r) q1 (pF 6 r (yG r r) q1 (uF 7 r (fun h=>mU [V e,.bool false,V 0,.slice m2.oA o.length m2.oC] underlying43 r AR r r (PI h)) q1 (pF 8 r (nk r) q1 ?_))))))));refine hO 9 (os r r (t_n b 4 [V e,.bool false,V 0,.slice m2.oA o.length m2.oC] r AR r r) ?_);intro w8 b;refine ⟨sF (b.bk 0 rfl),hD ?_⟩;refine go ?_;exact kD (fin rfl rfl he b)
set_option linter.unusedSimpArgs false
theorem yx.ar:∀ {n:Nat} {e:jA},yx n e→Nk e
 | 0,_,h=>h.elim
 | n+1,e,h=>.mk (fun z=>by
  obtain ⟨h1,h2,h3⟩:=h.1.2;rw [h3,if_neg (by omega)];by_cases h6:e.e=4\/e.e=5
  · rw [if_pos h6,if_pos (by omega)]
  · rw [if_neg h6,if_neg (by omega)]) fun y hy=>yx.ar (h.2 y hy)
theorem KF {K:List jV} {V:List jy} {Ps:List Nat} {f:Int} {l:List jI} {a b:Nat} (h:SW K V Ps f l a b):∀ y ∈ l,∃ c d,SW K V Ps f [y] c d:=by
 induction h with
 | nil=>exact fun y hy=>by cases hy
 | cons id kd tg ar de tr ca ct bo el nx _ _ ih=>
  intro y hy;rcases List.mem_cons.1 hy with rfl | hy
  · exact ⟨_,_,.cons id kd tg ar de tr ca ct bo el .nil⟩
  · exact ih y hy
theorem ars {K:List jV} {V:List jy} {Ps:List Nat} {f:Int}:∀ {n:Nat} {x:jI} {a b:Nat},Ga n x→SW K V Ps f [x] a b→FD x
 | 0,_,_,_,h,_=>h.elim
 | n+1,x,a,b,h,k=>by
  obtain ⟨h1,h2,h3,h4,h5⟩:=h;cases k with
  | cons id kd tg ar de tr ca ct bo el nx=>
   refine .mk (fun e he=>(h1 e he).ar) (fun e he=>(h2.2 e he).ar) (fun z e he=>by have:=(ct e he).1 z;omega) (fun z hz=>?_) fun z hz=>?_
   · obtain ⟨c,d,k⟩:=KF bo z hz;exact ars (h3 z hz) k
   · obtain ⟨c,d,k⟩:=KF el z hz;exact ars (h4 z hz) k
def Gp {α:Type}:Pn α→Prop
 | .rt=>False
 | .err e=>e=5\/e=13
 | _=>True
theorem Gp.gd {α:Type} {p:Pn α} (h:Gp p):IC p/\p≠.err 0:=by
 cases p with
 | ok a=>exact ⟨trivial,fun z=>by cases z⟩
 | tV t=>exact ⟨trivial,fun z=>by cases z⟩
 | err e=>exact ⟨by show e≠4;rcases h with rfl | rfl <;> decide,fun z=>by cases z;rcases h with h | h <;> cases h⟩
 | rt=>exact h.elim
theorem Eg.gp {α β:Type} {p:Pn α} (h:Eg p) (hn:∀ a,p≠.ok a):Gp (p.up:Pn β):=by
 cases p with
 | ok a=>exact absurd rfl (hn a)
 | tV t=>trivial
 | err e=>exact h.elim
 | rt=>exact h.elim
theorem Gp.up {α β:Type} {p:Pn α} (h:Gp p) (hn:∀ a,p≠.ok a):Gp (p.up:Pn β):=by
 cases p with
 | ok a=>exact absurd rfl (hn a)
 | _=>exact h
structure Cx (s:jL) (V:List jy):Prop where
 vo:∀ v ∈ V,VO s.a.a v
 w8:∀ v ∈ V,0<=v.a/\v.a<=8
def Ft (V:List jy) (ws:List (List Int)):Prop:=ws.map List.length=V.map (fun x=>x.a.toNat)
section
variable {s:jL} {V:List jy}
theorem Ft.row {ws:List (List Int)} (h:Ft V ws) {i:Int} {v:jy} (hv:ix V i=some v):∃ (k:Nat) (l:List Int),i=(k:Int)/\V[k]?=some v/\ix? ws i=some l/\ws[k]?=some l/\l.length=v.a.toNat:=by obtain ⟨k,rfl,hk⟩:=kK hv;have hl:=congrArg List.length h;rw [List.length_map,List.length_map] at hl;obtain ⟨l,hw⟩:=lT (l:=ws) (k:=k) (by rw [hl];exact jW hk);have:=congrArg (·[k]?) h;simp only [List.getElem?_map,hw,hk,Option.map_some,Option.some.injEq] at this;exact ⟨k,l,rfl,hk,by unfold ix?;rw [if_neg (by omega),Int.toNat_natCast];exact hw,hw,this⟩
theorem Ft.set {ws:List (List Int)} (h:Ft V ws) {k:Nat} {l l':List Int} (hk:ws[k]?=some l) (hl:l'.length=l.length):Ft V (ws.set k l'):=by unfold Ft at h ⊢;rw [List.map_set,<-h];exact set_self (by rw [List.getElem?_map,hk,hl];rfl)
theorem Ft.word {ws:List (List Int)} (h:Ft V ws) {q:Nat × Nat} {v:Int}:Ft V (setW ws q v):=by
 unfold setW;cases hk:ws[q.1]? with
 | none=>rw [List.set_eq_of_length_le (List.getElem?_eq_none_iff.1 hk)];exact h
 | some l=>exact h.set hk (by rw [List.length_set,List.getD_eq_getElem?_getD,hk];rfl)
theorem U6 {op x y:Int} (h1:6<=op) (h2:op<=17):Eg (BG op x y):=by
 unfold BG;by_cases c:op=6
 · rw [if_pos c];trivial
 rw [if_neg c];by_cases c:op=7
 · rw [if_pos c];trivial
 rw [if_neg c];by_cases c:op=8
 · rw [if_pos c];trivial
 rw [if_neg c];by_cases c:op=9
 · rw [if_pos c];by_cases d:y=0
   · rw [if_pos d];trivial
   · rw [if_neg d];trivial
 rw [if_neg c];by_cases c:op=10
 · rw [if_pos c];by_cases d:y=0
   · rw [if_pos d];trivial
   · rw [if_neg d];trivial
 rw [if_neg c];by_cases c:op=11
 · rw [if_pos c];trivial
 rw [if_neg c];by_cases c:op=12
 · rw [if_pos c];trivial
 rw [if_neg c];by_cases c:op=13
 · rw [if_pos c];trivial
 rw [if_neg c];by_cases c:op=14
 · rw [if_pos c];trivial
 rw [if_neg c];by_cases c:op=15
 · rw [if_pos c];trivial
 rw [if_neg c];by_cases c:op=16
 · rw [if_pos c];trivial
 rw [if_neg c,if_pos (by omega)];trivial
theorem E9 {α β:Type} {q:Pn α} {f:α->Option (Pn β)} {p:Pn β} (h:q.then f=some p) (hq:Eg q) (hf:∀ a,q=.ok a->f a=some p->Eg p):Eg p:=by
 cases q with
 | ok a=>exact hf a rfl h
 | tV t=>cases h;trivial
 | err e=>exact hq.elim
 | rt=>exact hq.elim
variable (hC:Cx s V)
include hC
theorem Zu {ev:jA->Option (Pn Int)} {ws:List (List Int)} {e:jA} {q:Pn (Nat × Nat)} (hf:Ft V ws) (hx:RX V e) (hs:Sx e) (ho:e.e=1\/e.e=2\/e.e=3) (he:∀ y ∈ e.a,∀ p,ev y=some p->Eg p) (h:M7 ev ws e=some q):Eg q:=by
 obtain ⟨h1,_⟩:=hx;obtain ⟨v,h2,h3,h4⟩:=h1 ho;obtain ⟨k,l,hk,hVk,hi,_,hl⟩:=hf.row h2;unfold M7 at h;rw [hi] at h;dsimp only at h;have h8:=hC.w8 v (List.mem_of_getElem? hVk);rcases jC h with ⟨c,h⟩|⟨c,h⟩
 · have:=h4 c;rw [if_pos (by omega)] at h;cases h;trivial
 rcases jC h with ⟨d,h⟩|⟨d,h⟩
 · have ha:=hs.2.2;rw [if_neg (by omega),if_pos (by omega)] at ha;obtain ⟨y,hA⟩:=List.length_eq_one_iff.1 ha;rw [hA] at h;obtain ⟨p,hp,h⟩:=bs h;refine E9 h (he y (by rw [hA];exact .head _) p hp) fun n _ h=>?_;have h:=Option.some.inj h;split at h
   · subst h;trivial
   · subst h;trivial
 · have hv:=hC.vo v (List.mem_of_getElem? hVk);have:l≠[]:=fun z=>by
     rw [z,List.length_nil] at hl;rcases hv with ⟨_,h⟩|⟨h,_⟩|⟨h,_⟩
     · omega
     · omega
     · omega
   rw [if_neg this] at h;cases h;trivial
theorem Tc:∀ (fu n:Nat) {ws:List (List Int)} {e:jA} {p:Pn Int},Ft V ws→RX V e→yx n e→wu fu ws e=some p→Eg p
 | 0,_,_,_,_,_,_,_,h=>by cases h
 | fu+1,0,_,_,_,_,_,hk,_=>hk.elim
 | fu+1,n+1,ws,e,p,hf,hx,hk,h=>by
  have hxk:∀ y ∈ e.a,RX V y:=by cases hx;assumption
  have ih:∀ y ∈ e.a,∀ p,wu fu ws y=some p->Eg p:=fun y hy p hp=>Tc fu n hf (hxk y hy) (hk.2 y hy) hp;have hs:=hk.1.2;rw [wu] at h;rcases jC h with ⟨c0,h⟩|⟨c0,h⟩
  · cases h;trivial
  rcases jC h with ⟨c,h⟩|⟨c,h⟩
  · obtain ⟨q,hq,h⟩:=bs h;exact E9 h (Zu hC hf hx hs c ih hq) fun a _ h=>by cases h;trivial
  have ha:=hs.2.2;rw [if_neg (by have:=hs.1;omega)] at ha;rcases jC h with ⟨c4,h⟩|⟨c4,h⟩
  · rw [if_pos (by omega)] at ha;obtain ⟨y,hA⟩:=List.length_eq_one_iff.1 ha;rw [hA] at h;obtain ⟨q,hq,h⟩:=bs h;exact E9 h (ih y (by rw [hA];exact .head _) q hq) fun a _ h=>by cases h;trivial
  rcases jC h with ⟨c5,h⟩|⟨c5,h⟩
  · rw [if_pos (by omega)] at ha;obtain ⟨y,hA⟩:=List.length_eq_one_iff.1 ha;rw [hA] at h;obtain ⟨q,hq,h⟩:=bs h;exact E9 h (ih y (by rw [hA];exact .head _) q hq) fun a _ h=>by cases h;trivial
  have h0:=hs.1;rw [if_neg (by omega)] at ha;cases hA:e.a with
  | nil=>rw [hA] at ha;cases ha
  | cons y r=>
    cases r with
    | nil=>rw [hA] at ha;cases ha
    | cons z r=>
     rw [hA] at h;obtain ⟨q,hq,h⟩:=bs h;refine E9 h (ih y (by rw [hA];exact .head _) q hq) fun a _ h=>?_;obtain ⟨q2,hq2,h⟩:=bs h;refine E9 h (ih z (by rw [hA];exact .tail _ (.head _)) q2 hq2) fun c _ h=>?_;cases h;exact U6 (by omega) hs.2.1
theorem V7 {fu n:Nat} {ws:List (List Int)} (hf:Ft V ws):∀ {l:List jA} {acc:List Int} {p:Pn (List Int)},(∀ y ∈ l,RX V y)→(∀ y ∈ l,yx n y)→yu (wu fu ws) l acc=some p→Eg p∧∀ r,p=.ok r→r.length=acc.length+l.length
 | [],acc,p,_,_,h=>by cases h;exact ⟨trivial,fun r h=>by cases h;rfl⟩
 | y :: l,acc,p,hx,hk,h=>by
  rw [yu] at h;obtain ⟨q,hq,h⟩:=bs h;have:=Tc hC fu n hf (hx y (.head _)) (hk y (.head _)) hq;cases q with
  | ok a=>
   obtain ⟨acc2,ha,h⟩:=bs h;obtain ⟨_,rfl⟩:=sK ha;obtain ⟨h1,h2⟩:=V7 hf (fun z hz=>hx z (.tail _ hz)) (fun z hz=>hk z (.tail _ hz)) h;exact ⟨h1,fun r hr=>by rw [h2 r hr];simp;omega⟩
  | tV t=>cases h;exact ⟨trivial,fun r h=>by cases h⟩
  | err e=>exact this.elim
  | rt=>exact this.elim
end
end Go.Proofs.YtfglbdkfnphjgaaGreat
