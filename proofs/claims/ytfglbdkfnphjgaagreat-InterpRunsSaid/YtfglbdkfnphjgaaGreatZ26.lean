/- A statement, in the interpreter of the specification. -/
import Derived.Test.YtfglbdkfnphjgaaGreatZ25
import Derived.Test.YtfglbdkfnphjgaaGreatZ19
set_option linter.unusedVariables false
set_option maxRecDepth 4000
set_option maxHeartbeats 12800000
set_option linter.unusedSimpArgs false
namespace Go.Proofs.YtfglbdkfnphjgaaGreat
open Go.RowKit Go.Fw Go.Proofs.Tryz
theorem M8 {fu:Nat}{ws:List (List Int)}{k:Int}:∀ {l:List jA}{acc:List Int},zq (xD fu ws) l acc=some (.err k)→k=4
 | [],_,h=>by cases h
 | e :: l,acc,h=>by
  rw [zq] at h;obtain ⟨p,hp,h⟩:=bs h;rcases Bu h with rfl | ⟨n,rfl,h⟩
  · exact Bg fu hp
  · obtain ⟨a2,_,h⟩:=bs h;exact M8 h
theorem Vg {α β:Type}{q:Pn α}(h:JU (q.up:Pn β)):(∀ a,q≠.ok a)->JU q:=by
 cases q with
 | ok a=>intro z;exact absurd rfl (z a)
 | _=>intro _;exact h
theorem Tn {fu:Nat}{ws:List (List Int)}{l:List jA}{q:Pn Int}{β:Type}{p:Pn β}(hq:U1 (xD fu ws) l=some q)(h:(∃ n,q=.ok n)\/((∀ n,q≠.ok n)/\p=q.up))(hp:JU p):Eg q:=by
 rcases h with ⟨n,rfl⟩|⟨h1,rfl⟩
 · trivial
 · obtain ⟨t,rfl⟩:=E9 hp h1 fun k h=>Ip (by subst h;exact hq);trivial
theorem GA {sm:List qx->Sm}{src:jL}{rest:List qx}{fu:Nat}{s s':Sg}{x:jI}{k:Int->Sg->Option (Pn (Option Int) × Sg)}{p:Pn (Option Int)}(h:ED sm src rest fu s x k=some (p,s')) :∃ q,zq (xD fu s.a.ws) x.a []=some q/\((∃ l q2 h2 o2,q=.ok l/\AB sm src (s.a :: rest) x.i l s.hist s.out=some (q2,h2,o2)/\((∃ n,q2=.ok n/\k n ⟨s.a,h2,o2⟩=some (p,s'))\/((∀ n,q2≠.ok n)/\p=q2.up/\s'=⟨s.a,h2,o2⟩)))\/((∀ l,q≠.ok l)/\p=q.up/\s'=s)):=by
 unfold ED at h;obtain ⟨q,hq,h⟩:=bs h;refine ⟨q,hq,?_⟩;cases q with
 | ok l=>
  obtain ⟨⟨q2,h2,o2⟩,hc,h⟩:=bs h;refine .inl ⟨l,q2,h2,o2,rfl,hc,?_⟩;cases q2 with
  | ok n=>exact .inl ⟨n,rfl,h⟩
  | _=>cases h;exact .inr ⟨fun n e=>(by cases e),rfl,rfl⟩
 | _=>cases h;exact .inr ⟨fun n e=>(by cases e),rfl,rfl⟩
theorem U2 {vis:Int→Int→Option (List Int)}{src:jL}{st:Nat}:∀ fu,Xq (stM vis src st fu)
 | 0=>fun gs s y p s' hk h=>by cases h
 | fu+1=>fun gs s y p s' hk h=>by
  rw [stM] at h;obtain ⟨⟨q,s1⟩,he,h⟩:=bs h;cases q with
  | ok u=>
   dsimp only at h;rw [jR (by omega),jR (by omega),jR (by omega),jR (by omega),jR (by omega),jR (by omega),jR (by omega),jR (by omega),jR (by omega),kg hk] at h;cases h;intro z;cases z
  | _=>cases h;intro z;cases z
theorem WS {T:TypeId}{x:vV}{g:qx}{w:World}{k:Nat}{l:List Int}(h:(It.vY T x g).p w)(hl:g.ws[k]?=some l):l.length<=8:=h.2.2.2.2.2.2.2 l (wC hl)
theorem Wu {fu fv:Nat}{R:Rn}(hR:PI R)(hF:∀ fn ∈ R.src.a.b,Sn fn)(ih:CSr R (stM (jD fv R.src) R.src R.st fu)):CSr R (stM (jD fv R.src) R.src R.st (fu+1)):=by
 have hLs:CBr R (stM (jD fv R.src) R.src R.st fu):=Pp ih;have hCl:CRr R (stM (jD fv R.src) R.src R.st fu):=Uk hLs hF (U2 fu);intro w A m ptrs x s s' v xs gs y a7 c7 a10 c10 a11 c11 a12 c12 p hRd ha hm hq;obtain ⟨hP,hl,hB,hp,hn⟩:=hRd;have b:=hP.bx;clear hP;unfold Okr;generalize hG:lH (PD R m ptrs x s 0 v)=G at b hl ⊢;refine cf func51 rfl ?_;refine lG [(0,Pt R.rb),(1,Pt x.b),(2,.agg (cS y a7 c7 a10 c10 a11 c11 a12 c12).toArray)] ⟨rfl,rfl,rfl,trivial⟩ fun av=>?_;refine go ?_;refine su b (uK rfl) fun w1 b5 b=>?_;replace b:Lu w w1 A G R m ptrs x s 0 v y a7 c7 a10 c10 a11 c11 a12 c12 b5 (cS y a7 c7 a10 c10 a11 c11 a12 c12).toArray:=b;refine goC b ?_;rw [stM] at hm;obtain ⟨⟨q0,s1⟩,he,hm⟩:=bs hm;refine pW (l6 XT rfl) (XR hR b hl hB hp hn he) ?_;rintro _ w2 ⟨m1,e1,b,hz⟩;rcases hz with ⟨rfl,rfl,rfl⟩|⟨rfl,rfl⟩
 case inr=>
   obtain ⟨rfl,rfl⟩:=sK (vK hm);refine go ?_;exact kH (jC rfl (kL rfl) ⟨m1,x,3,e1,v,rfl,rfl,⟨rfl,rfl⟩,(b.arr [1,2,3,4,5] rfl).dp [4,5,6,7,8,9]⟩)
 dsimp only at hm;refine goC b ?_;refine lG [(0,Pt R.rb),(1,Pt x.b),(5,Pt b5),(23,V y.c),(24,.bool (decide (y.c=1)))] ⟨rfl,rfl,rfl,rfl,rfl,trivial⟩ fun av=>?_;by_cases h1:y.c=1
 · rw [kg h1] at hm;rw [h1];refine go ?_;cases hx:ix? s1.a.ws y.g with
   | none=>rw [hx] at hm;cases hm;exact hq.elim
   | some l=>
   rw [hx] at hm;obtain ⟨rfl,rfl⟩:=sK (vK hm);obtain ⟨i,hi,hl2⟩:=RA hx;have h8:=WS (b.at 5 rfl) hl2;obtain ⟨r1,hr,_,h5,_⟩:=It.tO (b.at 5 rfl) hl2;refine ql (fun _=>True) (fun u=>Lu w u A G R m1 ptrs x s1 0 v y a7 c7 a10 c10 a11 c11 a12 c12 b5 (cS y a7 c7 a10 c10 a11 c11 a12 c12).toArray) [17] (by kernel_rfl) ?_;replace b:=b.drew;refine pL 0 r (oF r) lF b (pL 1 r (xn r) lF b (pL 2 r (yG r r) lF b (tS 20 3 r (fun _ h=>yK r (It.o9 (h.at 5 r)) r r) (kJ lF b) (pL 4 r (yG r r) lF b (tS 20 5 r (fun _ h=>yK r (h.bk 0 r) r r) (kJ lF b) (pL 6 r (oF r) lF b (pL 7 r (xn r) lF b (pL 8 r (yG r r) lF b (tS 20 9 r (fun _ h=>yK r (It.o9 (h.at 5 r)) r r) (kJ lF b) (pL 10 r (yG r r) lF b (tS 20 11 r (fun _ h=>yK r (h.bk 0 r) r r) (kJ lF b) ?_)))))))))));refine pL 12 r (AV i h5 underlying93 xg r r hi (jU hl2)) lF b (tS 20 13 r (fun _ h=>jV (a:=⟨nE x.A,ow x.A+i * 1,none⟩) underlying22 r r (uW (h.at 5 r) hr hl2)) (kJ lF b) (pL 14 r (lT underlying22 r) lF b ?_));refine hO 15 (oo r r (aMk (V 0) b l.length underlying22 ny rfl r r rfl (by omega) (by omega)) ?_);rintro _ w3 ⟨b9,_,rfl,b⟩;have m2:Lu w w3 A G R m1 ptrs x s1 0 v y a7 c7 a10 c10 a11 c11 a12 c12 b5 (cS y a7 c7 a10 c10 a11 c11 a12 c12).toArray:=b.tl;refine ⟨kJ lF m2,pL 16 r (AV i h5 underlying93 xg r r hi (jU hl2)) lF m2 ?_⟩;refine hO 17 (os r r (ZO b 5 rfl hl2 rfl r r) ?_);intro w4 b;refine ⟨sy 17 lF,hD ?_⟩;refine go ?_;rw [hi,AY];exact kH (jC rfl (kL rfl) ⟨m1,⟨x.b,x.A,x.c,x.R.set i b9⟩,0,0,v,rfl,rfl,⟨rfl,rfl⟩,(b.arr [1,2,3,4,5] rfl).dp [4,5,6,7,8,9]⟩)
 rw [jR h1] at hm;by_cases h2:y.c=2
 · rw [kg h2] at hm;rw [h2];refine goC b ?_;refine kr (l7 (cS y a7 c7 a10 c10 a11 c11 a12 c12) lu jQ rfl (b.bk 0 rfl)) ?_;refine pW (l6 aaq rfl) (abb b ha hm hq) ?_;rintro _ w3 ⟨how,v',rfl,hw,b⟩;refine go ?_;exact kH (jC rfl (kL rfl) ⟨m1,x,how,0,v',rfl,rfl,hw,(b.arr [1,2,3,4,5] rfl).dp [4,5,6,7,8,9]⟩)
 rw [jR h2] at hm;by_cases h3:y.c=3
 · rw [kg h3] at hm;have hct:=ha.ct h3;rw [h3];refine goC b ?_;refine kr (l7 (cS y a7 c7 a10 c10 a11 c11 a12 c12) lu jQ rfl (b.bk 0 rfl)) ?_;obtain ⟨q,hqe,hk⟩:=GA hm;clear hm;rcases hk with ⟨l,q2,h2',o2,rfl,hc,hk⟩|⟨hno,rfl,rfl⟩
   · have hg:JU q2:=by
       rcases hk with ⟨n,rfl,_⟩|⟨h,rfl,_⟩
       · trivial
       · exact Vg hq h
     refine pW (l6 Ro rfl) (RJ hCl b hl hB hp hn ha hqe lF (q2:=q2) (h2:=h2') (o2:=o2) fun l h=>by cases h;exact ⟨hc,hg⟩) ?_;rintro _ w3 ⟨m2,how,e2,v2,rfl,hz⟩;rcases hz with ⟨_,h,hw,b⟩|⟨h,_⟩
     case inr=>cases h
     clear h;rcases hk with ⟨n2,rfl,hk⟩|⟨hno,rfl,rfl⟩
     · obtain ⟨rfl,rfl,rfl⟩:=hw;refine goC b ?_;cases hT:y.d with
       | nil=>
         rw [hT] at hk;obtain ⟨rfl,rfl⟩:=sK (vK hk);refine go ?_;exact kH (jC rfl (kL rfl) ⟨m2,x,0,0,v2,rfl,rfl,⟨rfl,rfl⟩,(b.arr [1,2,3,4,5] rfl).dp [4,5,6,7,8,9]⟩)
       | cons e l0=>
         rw [hT] at hk;rw [qF (p:=(0:Int) < ((e :: l0).length:Int)) (by simp)];have h3e:=hct e (by rw [hT];exact Bn ..);rcases jB hk with ⟨h,_⟩|⟨_,hk⟩
         · cases h
         obtain ⟨qw,hqw,hk⟩:=Fu hk;have hqe:Eg qw:=by
           rcases hk with ⟨z,rfl,_⟩|⟨h,rfl,_⟩
           · trivial
           · obtain ⟨t,rfl⟩:=E9 hq h fun k h=>LV (fun _ _=>Bg fu) (show O4 (xD fu s1.a.ws) s1.a.ws e=some (.err k) by subst h;exact hqw);trivial
         obtain ⟨i,l2,hi,hl2,hk2⟩:=MF hqw hqe;obtain ⟨j,hjl,rfl,hj,hj2⟩:∃ j,j < l2.length/\qw=.ok (i,j)/\(e.e=2->e.d=(j:Int))/\(e.e≠2->j=0):=by
           rcases hk2 with ⟨h,j,h1,h2,h4⟩|⟨h,_⟩|⟨h,_,h1,h2⟩
           · exact ⟨j,h2,h4,fun _=>h1,fun z=>absurd h z⟩
           · exact absurd h h3e
           · exact ⟨0,h1,h2,fun z=>absurd z h,fun _=>rfl⟩
         rcases hk with ⟨z,h,hk⟩|⟨h,_⟩
         case inr=>exact absurd rfl (h _)
         cases h;obtain ⟨rfl,rfl⟩:=sK (vK hk);have hget:y.d[0]?=some e:=by rw [hT];rfl
         obtain ⟨cs,hr,b2⟩:=b.nm 0 rfl hget;obtain ⟨a2,c2,rfl,hd⟩:=jA.out hr;replace b2:=b2.kF (d:=.l a2 c2 e.a) hd;refine go ?_;refine ql (fun _=>True) (fun u=>Bx w u A G (.box b5 122 (cS y a7 c7 a10 c10 a11 c11 a12 c12).toArray :: PD R m2 ptrs x ⟨s1.a,h2',o2⟩ 0 v2) (.l a2 c2 e.a :: .at (nE a7) (ow a7+0 * Rp.sz jA) (cE e a2 c2) :: (dS y a7 c7 a10 c10 a11 c11 a12 c12 ++ oV R m2 h2' o2))) [9] (by kernel_rfl) ?_;replace b2:=b2.drew;refine pL 0 r (oF r) lF b2 (pL 1 r (yG r r) lF b2 (tS 12 2 r (fun _ h=>yK r (h.bk 0 r) r r) (kJ lF b2) (pL 3 r (kY uE jW r r r (b2.dl 2 r) hget) lF b2 (tS 12 4 r (fun _ h=>nA (cE e a2 c2) underlying135 r jW r r (h.dc 1 r)) (kJ lF b2) (pL 5 r (oF r) lF b2 (pL 6 r (xn r) lF b2 (pL 7 r (yG r r) lF b2 (tS 12 8 r (fun _ h=>yK r (h.bk 1 r) r r) (kJ lF b2) ?_))))))));refine hO 9 (oc r r (ec Yb r) (TK (b2.pr [5] [0,1,2,3,4] [] r) hi hl2 hjl hj hj2) ?_);rintro _ w4 ⟨rfl,hK⟩;replace b2:=b2.cn [5] [0,1,2,3,4] hK;refine ⟨sy 9 lF,hD ?_⟩;refine go ?_;exact kH (jC rfl (kL rfl) ⟨m2,x,0,0,v2,rfl,rfl,⟨rfl,rfl⟩,(b2.arr [2,3,4,5,0] rfl).dp [6,7,8,9,10,11]⟩)
     · have hne:how≠1/\Hw (q2.up:Pn (Option Int)) how e2 v2:=by
         cases q2 with
         | ok n=>exact absurd rfl (hno n)
         | uP t=>exact ⟨by rw [hw.1];decide,hw⟩
         | err k=>exact ⟨by rw [hw.1];decide,hw⟩
         | rt=>exact hw.elim
       refine go ?_;rw [qF hne.1];refine go ?_;exact kH (jC rfl (kL rfl) ⟨m2,x,how,e2,v2,rfl,rfl,hne.2,(b.arr [1,2,3,4,5] rfl).dp [4,5,6,7,8,9]⟩)
   · obtain ⟨t,rfl⟩:=E9 hq hno fun k h=>M8 (by subst h;exact hqe);refine pW (l6 Ro rfl) (RJ hCl b hl hB hp hn ha hqe lF (q2:=.rt) (h2:=[]) (o2:=[]) fun l h=>by cases h) ?_;rintro _ w3 ⟨m2,how,e2,v2,rfl,hz⟩;rcases hz with ⟨_,h,_⟩|⟨h,rfl,rfl,b⟩
     · cases h
     cases h;refine go ?_;exact kH (jC rfl (kL rfl) ⟨m2,x,2,0,_,rfl,rfl,⟨rfl,rfl,rfl⟩,(b.arr [1,2,3,4,5] rfl).dp [4,5,6,7,8,9]⟩)
 rw [jR h3] at hm
 have hblk:∀ {w3:World}{m2:BX}{x2:vV}{s2 s':Sg}{v2:Int}(j:Nat){a:Option Addr}{c:Nat}{l:List jI}{p:Pn (Option Int)},x2.b=x.b→Lu w w3 A G R m2 ptrs x2 s2 0 v2 y a7 c7 a10 c10 a11 c11 a12 c12 b5 (cS y a7 c7 a10 c10 a11 c11 a12 c12).toArray→(∀ z ∈ l,Hl z)→EJ (stM (jD fv R.src) R.src R.st fu gs) s2 l=some (p,s')→JU p→
     pick (dS y a7 c7 a10 c10 a11 c11 a12 c12 ++ oV R m2 s2.hist s2.out) [j,4,5,6,7,8,9]=[.l a c l] ++ oV R m2 s2.hist s2.out->
     Calls prog 31 #[Pt R.rb,Pt x.b,.slice a l.length c] w3 (pU fun r w'=>∃ m' x' how e v',x'.b=x.b/\r=V how/\Hw p how e v'/\Lu w w' A G R m' ptrs x' s' e v' y a7 c7 a10 c10 a11 c11 a12 c12 b5 (cS y a7 c7 a10 c10 a11 c11 a12 c12).toArray):=fun {_} {_} {x2} {_} {_} {_} j {_} {_} {_} {_} hx2 b2 ha2 hm2 hq2 hD=>by
   have hc:=aaZ hLs b2 hl hB (by rw [hx2];exact hp) hn j ha2 hm2 hq2 hD;rw [hx2] at hc;exact hc
 by_cases h479:y.c=4\/y.c=7\/y.c=9
 · obtain ⟨q,hqe,hqk⟩:∃ q,U1 (xD fu s1.a.ws) y.a=some q/\((∃ n,q=.ok n/\((y.c=4/\EJ (stM (jD fv R.src) R.src R.st fu gs) s1 (if n≠0 then y.e else y.h)=some (p,s'))\/(y.c=7/\p=.uP n/\s'=s1)\/(y.c=9/\∃ o,app s1.out [n]=some o/\p=.ok none/\s'={ s1 with out:=o })))\/((∀ n,q≠.ok n)/\p=q.up/\s'=s1)):=by
     rcases h479 with h4 | h7 | h9
     · rw [kg h4] at hm;obtain ⟨q,h5,h6⟩:=zi hm;refine ⟨q,h5,?_⟩;rcases h6 with ⟨n,h7,h8⟩ | h6
       · exact .inl ⟨n,h7,.inl ⟨h4,h8⟩⟩
       · exact .inr h6
     · rw [jR (by omega),jR (by omega),jR (by omega),kg h7] at hm;obtain ⟨q,h5,h6⟩:=zi hm;refine ⟨q,h5,?_⟩;rcases h6 with ⟨n,h10,h8⟩ | h6
       · obtain ⟨rfl,rfl⟩:=sK (vK h8);exact .inl ⟨n,h10,.inr (.inl ⟨h7,rfl,rfl⟩)⟩
       · exact .inr h6
     · rw [jR (by omega),jR (by omega),jR (by omega),jR (by omega),jR (by omega),kg h9] at hm;obtain ⟨q,h5,h6⟩:=zi hm;refine ⟨q,h5,?_⟩;rcases h6 with ⟨n,h10,h8⟩ | h6
       · obtain ⟨o,h11,h8⟩:=bs h8;obtain ⟨rfl,rfl⟩:=sK (vK h8);exact .inl ⟨n,h10,.inr (.inr ⟨h9,o,h11,rfl,rfl⟩)⟩
       · exact .inr h6
   clear hm;have hge:Eg q:=Tn hqe (by
     rcases hqk with ⟨n,h,_⟩|⟨h,h',_⟩
     · exact .inl ⟨n,h⟩
     · exact .inr ⟨h,h'⟩) hq
   rw [oz h1];refine go ?_;rw [oz h2];refine go ?_;rw [oz h3];refine go ?_;refine qR (fun f w'=>w'=w2/\Has f [(0,Pt R.rb),(1,Pt x.b),(5,Pt b5),(72,.bool true)]) (fun J hJ=>?_) ?_
   · rcases h479 with h4 | h7 | h9
     · rw [qF h4];refine go ?_;exact hJ _ _ ⟨rfl,rfl,rfl,rfl,rfl,trivial⟩
     · rw [oz (by omega:¬ y.c=4)];refine go ?_;rw [oz (by omega:¬ y.c=9)];refine go ?_;exact hJ _ _ ⟨rfl,rfl,rfl,rfl,congrArg Value.bool (qF h7),trivial⟩
     · rw [oz (by omega:¬ y.c=4)];refine go ?_;rw [qF h9];refine go ?_;exact hJ _ _ ⟨rfl,rfl,rfl,rfl,rfl,trivial⟩
   rintro f w' ⟨rfl,hf⟩;obtain ⟨av,rfl⟩:=mJ _ _ hf;clear hf;refine goC b ?_;refine kr (l7 (cS y a7 c7 a10 c10 a11 c11 a12 c12) lu jQ rfl (b.bk 0 rfl)) ?_;refine pW (l6 Ou rfl) (Vz b ha hqe hge) ?_;rintro _ w3 ⟨v2,b,hz⟩;rcases hz with ⟨n1,rfl,rfl⟩|⟨z,rfl,rfl⟩
   case inr=>
     rcases hqk with ⟨n,h,_⟩|⟨_,rfl,rfl⟩
     · cases h
     refine kr (xw (.tuple #[V z,.bool false]) rfl) ?_;refine goC b ?_;exact kH (jC rfl (kL rfl) ⟨m1,x,2,0,v2,rfl,rfl,⟨rfl,rfl,rfl⟩,(b.arr [1,2,3,4,5] rfl).dp [4,5,6,7,8,9]⟩)
   rcases hqk with ⟨n,h,hk⟩|⟨h,_⟩
   case inr=>exact absurd rfl (h _)
   cases h;refine kr (xw (.tuple #[V n1,.bool true]) rfl) ?_;refine goC b ?_;rcases hk with ⟨h4,hk⟩|⟨h7,rfl,rfl⟩|⟨h9,o,ho,rfl,rfl⟩
   · rw [oz (by omega:¬ y.c=7)];refine goC b ?_;rw [oz (by omega:¬ y.c=9)];refine goC b ?_;by_cases hn0:n1≠0
     · rw [kg hn0] at hk;rw [qF hn0];refine goC b ?_;refine pW (l6 Ls rfl) (hblk 2 rfl b ha.bo hk hq rfl) ?_;rintro _ w4 ⟨m3,x3,how,e3,v3,hx3,rfl,hw,b⟩;refine go ?_;exact kH (jC rfl (kL rfl) ⟨m3,x3,how,e3,v3,hx3,rfl,hw,(b.arr [1,2,3,4,5] rfl).dp [4,5,6,7,8,9]⟩)
     · rw [jR hn0] at hk;rw [oz hn0];refine goC b ?_;refine pW (l6 Ls rfl) (hblk 3 rfl b ha.el hk hq rfl) ?_;rintro _ w4 ⟨m3,x3,how,e3,v3,hx3,rfl,hw,b⟩;refine go ?_;exact kH (jC rfl (kL rfl) ⟨m3,x3,how,e3,v3,hx3,rfl,hw,(b.arr [1,2,3,4,5] rfl).dp [4,5,6,7,8,9]⟩)
   · rw [qF h7];refine goC b ?_;refine lD (t_n b 1 [V n1] rfl ny rfl rfl) fun w4 b=>?_;refine go ?_;exact kH (jC rfl (kL rfl) ⟨m1,x,2,0,n1,rfl,rfl,⟨rfl,rfl,rfl⟩,(b.arr [1,2,3,4,5] rfl).dp [4,5,6,7,8,9]⟩)
   · rw [oz (by omega:¬ y.c=7)];refine goC b ?_;rw [qF h9];refine goC b ?_;refine nW (jO b [[V n1]] ([n1]:List Int) (yR rfl) rfl rfl (by decide) ⟨rfl,trivial⟩) ?_;rintro _ w4 ⟨b9,rfl,b⟩;refine nW (kR b 5 6 rfl rfl underlying22 ny rfl (by decide) (by decide) hB rfl rfl (b.AR 0 0 rfl rfl) ho) ?_;rintro _ w5 ⟨a4,c4,cs4,rfl,b⟩;refine goC b ?_;refine lD (t_n b 2 [.slice a4 o.length c4] rfl xg rfl rfl) fun w6 b=>?_;refine go ?_;exact kH (jC rfl (kL rfl) ⟨{ m1 with oA:=a4,oC:=c4,oc:=cs4 },x,0,0,v2,rfl,rfl,⟨rfl,rfl⟩,(b.arr [2,3,4,5,6] rfl).dp [5,6,7,8,9,10]⟩)
 rw [jR (by omega)] at hm;by_cases h5:y.c=5
 · rw [kg h5] at hm;rw [h5];refine goC b ?_
   refine kK (fun aw f w'=>∃ (n:Nat)(s2:Sg)(m2:BX)(x2:vV)(v2:Int),aw=n∧x2.b=x.b∧Has f [(0,Pt R.rb),(1,Pt x.b),(5,Pt b5)]∧Lu w w' A G R m2 ptrs x2 s2 0 v2 y a7 c7 a10 c10 a11 c11 a12 c12 b5 (cS y a7 c7 a10 c10 a11 c11 a12 c12).toArray∧
       VP (fun s=>U1 (xD fu s.a.ws) y.a) (fun s=>EJ (stM (jD fv R.src) R.src R.st fu gs) s y.e) (fun s=>event (jD fv R.src) R.st gs s y.n) n s2=some (p,s')) fu ⟨fu,s1,m1,x,v,rfl,rfl,⟨rfl,rfl,rfl,trivial⟩,b,hm⟩ ?_
   clear b hm;rintro n f w3 ⟨_,s2,m2,x2,v2,rfl,hx2,hf,b,hm⟩ J hJ;obtain ⟨av,rfl⟩:=mJ _ _ hf;clear hf;cases n with
   | zero=>cases hm
   | succ n=>
   rw [VP] at hm;obtain ⟨q,hqe,hm⟩:=bs hm;have hge:Eg q:=by
     cases q with
     | ok n=>trivial
     | uP t=>trivial
     | err k=>cases hm;exact absurd (Ip hqe) hq
     | rt=>cases hm;exact hq.elim
   have hc:=Vz b ha hqe hge;rw [hx2] at hc;refine goC b ?_;refine kr (l7 (cS y a7 c7 a10 c10 a11 c11 a12 c12) lu jQ rfl (b.bk 0 rfl)) ?_;refine pW (l6 Ou rfl) hc ?_;clear hc;rintro _ w4 ⟨v3,b,hz⟩;rcases hz with ⟨n1,rfl,rfl⟩|⟨z,rfl,rfl⟩
   case inr=>
     obtain ⟨rfl,rfl⟩:=sK (vK hm);refine kr (xw (.tuple #[V z,.bool false]) rfl) ?_;refine goC b ?_;exact kH (jC rfl (kL rfl) ⟨m2,x2,2,0,v3,hx2,rfl,⟨rfl,rfl,rfl⟩,(b.arr [1,2,3,4,5] rfl).dp [4,5,6,7,8,9]⟩)
   dsimp only at hm;refine kr (xw (.tuple #[V n1,.bool true]) rfl) ?_;refine goC b ?_;refine ou rfl (fun h0=>?_) (fun h0=>?_)
   · rw [kg h0] at hm;obtain ⟨rfl,rfl⟩:=sK (vK hm);refine go ?_;exact kH (jC rfl (kL rfl) ⟨m2,x2,0,0,v3,hx2,rfl,⟨rfl,rfl⟩,(b.arr [1,2,3,4,5] rfl).dp [4,5,6,7,8,9]⟩)
   rw [jR h0] at hm;obtain ⟨⟨q2,s3⟩,hb,hm⟩:=bs hm;have hg2:JU q2:=by
     cases q2 with
     | ok o=>trivial
     | _=>obtain ⟨rfl,rfl⟩:=sK (vK hm);exact hq
   refine goC b ?_;refine pW (l6 Ls rfl) (hblk 2 hx2 b ha.bo hb hg2 rfl) ?_;rintro _ w5 ⟨m3,x3,how,e3,v4,hx3,rfl,hw,b⟩;refine go ?_;by_cases hno:q2=.ok none
   · subst hno;obtain ⟨rfl,rfl⟩:=hw;refine goC b ?_;obtain ⟨⟨q3,s4⟩,he2,hm⟩:=bs hm;have hc:=XR hR b hl hB (by rw [hx3];exact hp) hn he2;rw [hx3] at hc;refine pW (l6 XT rfl) hc ?_;clear hc;rintro _ w6 ⟨m4,e4,b,hz⟩;rcases hz with ⟨rfl,rfl,rfl⟩|⟨rfl,rfl⟩
     · refine go ?_;exact hJ n _ _ (by omega) ⟨n,s4,m4,x3,v4,rfl,hx3,⟨rfl,rfl,rfl,trivial⟩,b,hm⟩
     · obtain ⟨rfl,rfl⟩:=sK (vK hm);refine go ?_;exact kH (jC rfl (kL rfl) ⟨m4,x3,3,e4,v4,hx3,rfl,⟨rfl,rfl⟩,(b.arr [1,2,3,4,5] rfl).dp [4,5,6,7,8,9]⟩)
   · have hpq:p=q2/\s'=s3:=by
       cases q2 with
       | ok o=>cases o with
         | none=>exact absurd rfl hno
         | some n=>obtain ⟨h1,h2⟩:=sK (vK hm);exact ⟨h1.symm,h2.symm⟩
       | _=>obtain ⟨h1,h2⟩:=sK (vK hm);exact ⟨h1.symm,h2.symm⟩
     obtain ⟨rfl,rfl⟩:=hpq;rw [qF (hw.ne hno)];refine go ?_;exact kH (jC rfl (kL rfl) ⟨m3,x3,how,e3,v4,hx3,rfl,hw,(b.arr [1,2,3,4,5] rfl).dp [4,5,6,7,8,9]⟩)
 rw [jR h5] at hm;by_cases h6:y.c=6
 · rw [kg h6] at hm;rw [h6];refine goC b ?_;refine kr (Jo rfl rfl) ?_;refine go ?_;refine ou (p:=y.j≠be) rfl (fun hf=>?_) (fun hf=>?_)
   · rw [kg hf] at hm;refine goC b ?_;refine kr (l7 (cS y a7 c7 a10 c10 a11 c11 a12 c12) lu jQ rfl (b.bk 0 rfl)) ?_;obtain ⟨q,hqe,hk⟩:=GA hm;clear hm;rcases hk with ⟨l,q2,h2',o2,rfl,hc,hk⟩|⟨hno,rfl,rfl⟩
     · have hg:JU q2:=by
         rcases hk with ⟨n,rfl,_⟩|⟨h,rfl,_⟩
         · trivial
         · exact Vg hq h
       refine pW (l6 Ro rfl) (RJ hCl b hl hB hp hn ha hqe lF (q2:=q2) (h2:=h2') (o2:=o2) fun l h=>by cases h;exact ⟨hc,hg⟩) ?_;rintro _ w3 ⟨m2,how,e2,v2,rfl,hz⟩;rcases hz with ⟨_,h,hw,b⟩|⟨h,_⟩
       case inr=>cases h
       clear h;have hw2:Hw p how e2 v2/\s'=⟨s1.a,h2',o2⟩:=by
         rcases hk with ⟨n2,rfl,hk⟩|⟨hno,rfl,rfl⟩
         · obtain ⟨rfl,rfl⟩:=sK (vK hk);exact ⟨hw,rfl⟩
         · refine ⟨?_,rfl⟩;cases q2 with
           | ok n=>exact absurd rfl (hno n)
           | uP t=>exact hw
           | err k=>exact hw
           | rt=>exact hw.elim
       obtain ⟨hw2,rfl⟩:=hw2;refine go ?_;exact kH (jC rfl (kL rfl) ⟨m2,x,how,e2,v2,rfl,rfl,hw2,(b.arr [1,2,3,4,5] rfl).dp [4,5,6,7,8,9]⟩)
     · obtain ⟨t,rfl⟩:=E9 hq hno fun k h=>M8 (by subst h;exact hqe);refine pW (l6 Ro rfl) (RJ hCl b hl hB hp hn ha hqe lF (q2:=.rt) (h2:=[]) (o2:=[]) fun l h=>by cases h) ?_;rintro _ w3 ⟨m2,how,e2,v2,rfl,hz⟩;rcases hz with ⟨_,h,_⟩|⟨h,rfl,rfl,b⟩
       · cases h
       cases h;refine go ?_;exact kH (jC rfl (kL rfl) ⟨m2,x,2,0,_,rfl,rfl,⟨rfl,rfl,rfl⟩,(b.arr [1,2,3,4,5] rfl).dp [4,5,6,7,8,9]⟩)
   · rw [jR hf] at hm;obtain ⟨q,hqe,hk⟩:=zi hm;clear hm;have hge:Eg q:=Tn hqe (by
       rcases hk with ⟨n,h,_⟩|⟨h,h',_⟩
       · exact .inl ⟨n,h⟩
       · exact .inr ⟨h,h'⟩) hq
     refine goC b ?_;refine kr (l7 (cS y a7 c7 a10 c10 a11 c11 a12 c12) lu jQ rfl (b.bk 0 rfl)) ?_;refine pW (l6 Ou rfl) (Vz b ha hqe hge) ?_;rintro _ w3 ⟨v2,b,hz⟩;rcases hz with ⟨n1,rfl,rfl⟩|⟨z,rfl,rfl⟩
     · rcases hk with ⟨n,h,hk⟩|⟨h,_⟩
       case inr=>exact absurd rfl (h _)
       cases h;obtain ⟨rfl,rfl⟩:=sK (vK hk);refine kr (xw (.tuple #[V n1,.bool true]) rfl) ?_;refine goC b ?_;refine lD (t_n b 1 [V n1] rfl ny rfl rfl) fun w4 b=>?_;refine go ?_;exact kH (jC rfl (kL rfl) ⟨m1,x,1,0,n1,rfl,rfl,⟨rfl,rfl,rfl⟩,(b.arr [1,2,3,4,5] rfl).dp [4,5,6,7,8,9]⟩)
     · rcases hk with ⟨n,h,_⟩|⟨_,rfl,rfl⟩
       · cases h
       refine kr (xw (.tuple #[V z,.bool false]) rfl) ?_;refine goC b ?_;exact kH (jC rfl (kL rfl) ⟨m1,x,2,0,v2,rfl,rfl,⟨rfl,rfl,rfl⟩,(b.arr [1,2,3,4,5] rfl).dp [4,5,6,7,8,9]⟩)
 rw [jR h6,jR (by omega)] at hm;by_cases h8:y.c=8
 · rw [kg h8] at hm;rw [h8];refine goC b ?_;obtain ⟨⟨q,s2⟩,hb,hm⟩:=bs hm;have hg2:JU q:=by
     cases q with
     | ok o=>trivial
     | uP t=>trivial
     | _=>obtain ⟨rfl,rfl⟩:=sK (vK hm);exact hq
   refine pW (l6 Ls rfl) (hblk 2 rfl b ha.bo hb hg2 rfl) ?_;rintro _ w3 ⟨m2,x2,how,e2,v2,hx2,rfl,hw,b⟩;refine go ?_;by_cases hth:∃ t,q=.uP t
   · obtain ⟨t,rfl⟩:=hth;obtain ⟨rfl,rfl,rfl⟩:=hw;dsimp only at hm;cases hx:ix? s2.a.ws y.g with
     | none=>rw [hx] at hm;cases hm;exact hq.elim
     | some l=>
     rw [hx] at hm;cases l with
     | nil=>cases hm;exact hq.elim
     | cons z l=>
     dsimp only at hm;obtain ⟨i,hi,hl2⟩:=RA hx;obtain ⟨r1,hr,_,h5',_⟩:=It.tO (b.at 5 rfl) hl2;refine go ?_;refine ql (fun _=>True) (fun u=>Lu w u A G R m2 ptrs x2 s2 0 v2 y a7 c7 a10 c10 a11 c11 a12 c12 b5 (cS y a7 c7 a10 c10 a11 c11 a12 c12).toArray) [13] (by kernel_rfl) ?_;replace b:=b.drew;have hxb:Pt x.b=Pt x2.b:=by rw [hx2]
     refine pL 0 r (oF r) lF b (pL 1 r (xn r) lF b (pL 2 r (yG r r) lF b (tS 16 3 r (fun _ h=>yK (congrArg (fun z=>Value.pointer (some ⟨z,2,none⟩)) hx2.symm) (It.o9 (h.at 5 r)) r r) (kJ lF b) (pL 4 r (yG r r) lF b (tS 16 5 r (fun _ h=>yK r (h.bk 0 r) r r) (kJ lF b) ?_)))));refine pL 6 r (AV i h5' underlying93 xg r r hi (jU hl2)) lF b (tS 16 7 r (fun _ h=>jV (a:=⟨nE x2.A,ow x2.A+i * 1,none⟩) underlying22 r r (uW (h.at 5 r) hr hl2)) (kJ lF b) ?_);refine pL 8 r (oF r) lF b (pL 9 r (xn r) lF b (pL 10 r (yG r r) lF b (tS 16 11 r (fun _ h=>yK r (h.bk 1 r) r r) (kJ lF b) (pL 12 r (xIdx 0 underlying22 ny r r r (by simp)) lF b ?_))));refine hO 13 (os r r (CY b 5 (j:=0) rfl hr hl2 (by simp) r r) ?_);intro w4 b;refine ⟨sy 13 lF,hD ?_⟩;have hset:setW s2.a.ws (i,0) v2=s2.a.ws.set y.g.toNat (v2 :: l):=by unfold setW;rw [Gb,hl2,hi,AY];rfl
     rw [hset] at b;replace b:Lu w w4 A G R m2 ptrs x2 { s2 with a:={ s2.a with ws:=s2.a.ws.set y.g.toNat (v2 :: l) } } 0 v2 y a7 c7 a10 c10 a11 c11 a12 c12 b5 (cS y a7 c7 a10 c10 a11 c11 a12 c12).toArray:=b;refine goC b ?_;refine pW (l6 Ls rfl) (hblk 3 hx2 b ha.el hm hq rfl) ?_;rintro _ w5 ⟨m3,x3,how,e3,v3,hx3,rfl,hw,b⟩;refine go ?_;exact kH (jC rfl (kL rfl) ⟨m3,x3,how,e3,v3,hx3,rfl,hw,(b.arr [1,2,3,4,5] rfl).dp [4,5,6,7,8,9]⟩)
   · have hpq:p=q/\s'=s2/\how≠2:=by
       cases q with
       | ok o=>cases o with
         | none=>obtain ⟨h1,h2⟩:=sK (vK hm);exact ⟨h1.symm,h2.symm,by rw [hw.1];decide⟩
         | some n=>obtain ⟨h1,h2⟩:=sK (vK hm);exact ⟨h1.symm,h2.symm,by rw [hw.1];decide⟩
       | uP t=>exact absurd ⟨t,rfl⟩ hth
       | err k=>obtain ⟨h1,h2⟩:=sK (vK hm);exact ⟨h1.symm,h2.symm,by rw [hw.1];decide⟩
       | rt=>exact hw.elim
     obtain ⟨rfl,rfl,h2⟩:=hpq;rw [qF h2];refine go ?_;exact kH (jC rfl (kL rfl) ⟨m2,x2,how,e2,v2,hx2,rfl,hw,(b.arr [1,2,3,4,5] rfl).dp [4,5,6,7,8,9]⟩)
 rw [jR h8,jR (by omega)] at hm;by_cases h10:y.c=10
 · rw [kg h10] at hm;obtain ⟨rfl,rfl⟩:=sK (vK hm);rw [h10];refine goC b ?_;refine lD (t_n b 1 [V 0] rfl ny rfl rfl) fun w4 b=>?_;refine go ?_;exact kH (jC rfl (kL rfl) ⟨m1,x,1,0,0,rfl,rfl,⟨rfl,rfl,rfl⟩,(b.arr [1,2,3,4,5] rfl).dp [4,5,6,7,8,9]⟩)
 rw [jR h10] at hm;obtain ⟨rfl,rfl⟩:=sK (vK hm);rw [oz h1];refine go ?_;rw [oz h2];refine go ?_;rw [oz h3];refine go ?_;rw [oz (by omega:¬ y.c=4)];refine go ?_;rw [oz (by omega:¬ y.c=9)];refine go ?_;rw [oz (by omega:¬ y.c=7)];refine go ?_;rw [oz h5];refine go ?_;rw [oz h6];refine go ?_;rw [oz h10];refine go ?_;rw [oz h8];refine go ?_;exact kH (jC rfl (kL rfl) ⟨m1,x,0,0,v,rfl,rfl,⟨rfl,rfl⟩,(b.arr [1,2,3,4,5] rfl).dp [4,5,6,7,8,9]⟩)
theorem XM {fv:Nat}{R:Rn}(hR:PI R)(hF:∀ fn ∈ R.src.a.b,Sn fn):∀ fu,CSr R (stM (jD fv R.src) R.src R.st fu)
 | 0=>by intro _ _ h;cases h
 | fu+1=>Wu hR hF (XM hR hF fu)
def Snd (fu:Nat)(s:jL)(f:Int)(args:List Int)(n:Int):Prop:=∀ fn p h o,ix? s.a.b f=some fn->(args.length:Int)=fn.a.length->0<=n->n<=5000->AB (stM (jD fu s) s n.toNat fu) s [] f args [] []=some (p,h,o)->JU p/\p≠.err 0
open Classical in
noncomputable def AA (fu:Nat)(s:jL)(f:Int)(args:List Int)(n fr mo:Int):Option (List kC × mU):=if (∀ fn ∈ s.a.b,Sn fn)/\Snd fu s f args n then lY fu s f args n fr mo else none
def XI (fu:Nat)(s:jL)(f:Int)(args:List Int)(n fr mo:Int)(R:List kC × mU):Prop:=Yr fu s f args n fr mo R/\∃ fn,ix? s.a.b f=some fn/\(args.length:Int)=fn.a.length
theorem TS {fu:Nat}{s:jL}{f:Int}{args:List Int}{n fr mo:Int}{R:List kC × mU}(h:lY fu s f args n fr mo=some R) :(¬ (0<=f/\f < s.a.b.length)/\R=([],⟨1,false,0,[]⟩))\/∃ k fn,f=((k:Nat):Int)/\s.a.b[k]?=some fn/\ ((¬ (args.length:Int)=fn.a.length\/n < 0\/5000 < n\/fr < 0\/mo < 0\/100 < mo)/\R=([],⟨1,false,0,[]⟩)\/(¬ (¬ (args.length:Int)=fn.a.length\/n < 0\/5000 < n\/fr < 0\/mo < 0\/100 < mo))/\XI fu s f args n fr mo R):=by
 rcases QH h with h | ⟨k,fn,rfl,hfn,h⟩
 · exact .inl h
 refine .inr ⟨k,fn,rfl,hfn,?_⟩;rcases h with h | ⟨h1,h2⟩
 · exact .inl h
 · exact .inr ⟨h1,h2,fn,by unfold ix?;rw [jR (by omega),AY];exact hfn,by omega⟩
theorem Rq {w:World}{b:Nat}{t:TypeId}{l1 l2 l3:List Value}(h:nS w b t (l1 ++ (l2 ++ l3)).toArray):Cells w b l1.length l2:=fun j v hv=>by refine h.cell (i:=l1.length+j) ?_;rw [List.getElem?_toArray,H9 (by omega),Nat.add_sub_cancel_left,GI (by have:=(List.getElem?_eq_some_iff.1 hv).1;exact this)];exact hv
theorem aaP {ρ:Operand->Value}{w:World}{d:Option Nat}{ty:TypeId}{pos:String}{af:Array Edge}{g:Option (Nat × Bool)}{x y z u:Operand}{n m k:Int}{s1 s2 s3 s4:Option Addr}{n1 n2 n3 n4 c1 c2 c3 c4:Nat}(h:ρ x=.agg #[.slice s1 n1 c1,.slice s2 n2 c2,.slice s3 n3 c3,.slice s4 n4 c4])(h1:ρ y=V n)(h2:ρ z=V m)(h3:ρ u=V k) :Yl prog ρ (.build 76 #[(0,x),(1,y),(2,z),(3,u)]) d ty pos af g w (.agg #[.slice s1 n1 c1,.slice s2 n2 c2,.slice s3 n3 c3,.slice s4 n4 c4,V n,V m,V k,V 0,sn,sn,V 0,.bool false,V 0,sn,V 0]):=by
 have e:(Instr.build 76 #[(0,.agg #[.slice s1 n1 c1,.slice s2 n2 c2,.slice s3 n3 c3,.slice s4 n4 c4]),(1,V n),(2,V m),(3,V k)]).run prog w=.ok (.agg #[.slice s1 n1 c1,.slice s2 n2 c2,.slice s3 n3 c3,.slice s4 n4 c4,V n,V m,V k,V 0,sn,sn,V 0,.bool false,V 0,sn,V 0]) w:=by kernel_rfl
 simp [Yl,execOp,h,h1,h2,h3,e]
theorem OV:jH prog 11:=⟨_,func11,by kernel_rfl,by kernel_rfl⟩
theorem yc (fu:Nat):M9 (AA fu):=by
 intro w0 Y s f args n fr mo a1 c1 a2 c2 a3 c3 a4 c4 a c R hP hM;have b:=hP.bx;clear hP;generalize hG:lH []=G at b ⊢;unfold AA at hM;by_cases hcd:(∀ fn ∈ s.a.b,Sn fn)/\Snd fu s f args n
 case neg=>rw [jR hcd] at hM;cases hM
 rw [kg hcd] at hM;obtain ⟨hFn,hSn⟩:=hcd;replace hM:=TS hM;obtain ⟨ev,out⟩:=R;refine cf func11 rfl ?_;refine lG [(0,.agg #[Z a1 s.a.a c1,Z a2 s.a.b c2,Z a3 s.c c3,Z a4 s.b c4]),(1,V f),(2,Z a args c),(3,V n),(4,V fr),(5,V mo)] ⟨rfl,rfl,rfl,rfl,rfl,rfl,trivial⟩ fun av=>?_;refine Im (AX ?_);refine su b (uK rfl) fun w1 b6 b=>?_;refine kr (mh rfl) ?_;refine su b (jT uX) fun w3 b13 b=>?_;refine LH ?_;have hbd:=(b.dl 4 rfl).bd;refine Im (Im (qR (fun f' w'=>w'=w3/\∃ q:Bool,Has f' [(1,V f),(2,Z a args c),(3,V n),(4,V fr),(5,V mo),(6,Pt b6),(12,sn),(13,Pt b13),(58,.bool q)]/\(q=true->(ev,out)=([],⟨1,false,0,[]⟩))/\(q=false->XI fu s f args n fr mo (ev,out))) (fun J hJ=>?_) ?_))
 · refine AX ?_;have hE:¬ (0<=f/\f < s.a.b.length)->(ev,out)=([],⟨1,false,0,[]⟩):=fun h=>by
     rcases hM with ⟨_,h⟩|⟨k,fn,hk,hfn,_⟩
     · exact h
     · have:=jU hfn;omega
   refine goC b ?_;by_cases h0:f < 0
   · rw [qF h0];refine goC b ?_;exact hJ _ _ ⟨rfl,true,⟨rfl,rfl,rfl,rfl,rfl,rfl,rfl,rfl,rfl,trivial⟩,fun _=>hE (by omega),fun h=>by cases h⟩
   rw [oz h0];refine goC b ?_;by_cases h1:(s.a.b.length:Int)<=f
   · rw [qF h1];refine goC b ?_;exact hJ _ _ ⟨rfl,true,⟨rfl,rfl,rfl,rfl,rfl,rfl,rfl,rfl,rfl,trivial⟩,fun _=>hE (by omega),fun h=>by cases h⟩
   rw [oz h1];clear hE;rcases hM with ⟨h2,_⟩|⟨k,fn,rfl,hfn,hM⟩
   · exact (h2 ⟨by omega,by omega⟩).elim
   obtain ⟨cs0,hr0,b0⟩:=b.nm 1 rfl hfn;obtain ⟨a5,c5,a6,c6,rfl,h5,h6⟩:=kW.out hr0;have hE:(¬ (args.length:Int)=fn.a.length\/n < 0\/5000 < n\/fr < 0\/mo < 0\/100 < mo)->(ev,out)=([],⟨1,false,0,[]⟩):=fun h=>by
     rcases hM with ⟨_,h⟩|⟨h',_⟩
     · exact h
     · exact absurd h h'
   refine goC b ?_;refine kr (kY underlying24 oU rfl rfl rfl (b.dl 1 rfl) hfn) ?_;refine goC b ?_;refine kr (jV underlying36 rfl rfl ((b0.dc 0 rfl) 2 _ rfl)) ?_;refine goC b ?_;by_cases h2:¬ (args.length:Int)=fn.a.length
   · rw [qF (p:=(args.length:Int)≠fn.a.length) h2];refine goC b ?_;exact hJ _ _ ⟨rfl,true,⟨rfl,rfl,rfl,rfl,rfl,rfl,rfl,rfl,rfl,trivial⟩,fun _=>hE (.inl h2),fun h=>by cases h⟩
   rw [oz (p:=(args.length:Int)≠fn.a.length) h2];refine goC b ?_;by_cases h3:n < 0
   · rw [qF h3];refine goC b ?_;exact hJ _ _ ⟨rfl,true,⟨rfl,rfl,rfl,rfl,rfl,rfl,rfl,rfl,rfl,trivial⟩,fun _=>hE (by omega),fun h=>by cases h⟩
   rw [oz h3];refine goC b ?_;by_cases h4:5000 < n
   · rw [qF h4];refine goC b ?_;exact hJ _ _ ⟨rfl,true,⟨rfl,rfl,rfl,rfl,rfl,rfl,rfl,rfl,rfl,trivial⟩,fun _=>hE (by omega),fun h=>by cases h⟩
   rw [oz h4];refine goC b ?_;by_cases h5:fr < 0
   · rw [qF h5];refine goC b ?_;exact hJ _ _ ⟨rfl,true,⟨rfl,rfl,rfl,rfl,rfl,rfl,rfl,rfl,rfl,trivial⟩,fun _=>hE (by omega),fun h=>by cases h⟩
   rw [oz h5];refine goC b ?_;by_cases h6:mo < 0
   · rw [qF h6];refine goC b ?_;exact hJ _ _ ⟨rfl,true,⟨rfl,rfl,rfl,rfl,rfl,rfl,rfl,rfl,rfl,trivial⟩,fun _=>hE (by omega),fun h=>by cases h⟩
   rw [oz h6];refine goC b ?_;by_cases h7:100 < mo
   · rw [qF h7];refine goC b ?_;exact hJ _ _ ⟨rfl,true,⟨rfl,rfl,rfl,rfl,rfl,rfl,rfl,rfl,rfl,trivial⟩,fun _=>hE (by omega),fun h=>by cases h⟩
   rw [oz h7];refine goC b ?_;refine hJ _ _ ⟨rfl,false,⟨rfl,rfl,rfl,rfl,rfl,rfl,rfl,rfl,rfl,trivial⟩,fun h=>(by cases h),fun _=>?_⟩;rcases hM with ⟨h,_⟩|⟨_,h⟩
   · omega
   · exact h
 rintro f' w' ⟨rfl,q,hf,hT,hF⟩;obtain ⟨av,rfl⟩:=mJ _ _ hf;clear hf hM;cases q with
 | true=>
   obtain ⟨rfl,rfl⟩:=sK (hT rfl);refine jN rfl ?_;refine Im (AX ?_);refine kr (Vo rfl) ?_;refine kr (mh rfl) ?_;refine lD (t_n b 0 [V 1,.bool false,V 0,sn] rfl uX rfl rfl) fun w5 b=>?_;refine LH ?_;refine kH ?_;refine ng (fn:=f11) rfl (kL rfl) (Tf rfl (fun ρ h=>l7 [V 1,.bool false,V 0,sn] JK uX h (b.bk 0 rfl)) (b.bk 0 rfl)) ?_;exact ⟨none,0,none,0,rfl,((b.arr [] rfl).kF (d:=.l none 0 ([]:List Int)) kX.nil).kF (d:=.l none 0 ([]:List kC)) kX.nil |>.dp [0,1]⟩
 | false=>
 refine jK rfl (Hz ?_);clear hT;obtain ⟨⟨hn,hfr,hmo,hA⟩,fn,hfn,hfl⟩:=hF rfl;clear hF;obtain ⟨N,rfl⟩:∃ N:Nat,n=(N:Int):=⟨n.toNat,by omega⟩;obtain ⟨F,rfl⟩:∃ F:Nat,fr=(F:Int):=⟨fr.toNat,by omega⟩;obtain ⟨M,rfl⟩:∃ M:Nat,mo=(M:Int):=⟨mo.toNat,by omega⟩;rw [AY,AY,AY] at hA;obtain ⟨⟨p,h,o⟩,hc,hA⟩:=bs hA;dsimp only at hA;obtain ⟨hg,hg0⟩:=hSn fn p h o hfn hfl (by omega) (by omega) (by rw [AY];exact hc);refine Im (AX ?_);refine kr (l7 [Z a1 s.a.a c1,Z a2 s.a.b c2,Z a3 s.c c3,Z a4 s.b c4] Du xL rfl (b.bk 1 rfl)) ?_;refine goC b ?_;refine kr (aaP rfl rfl rfl rfl) ?_;refine su b (uK rfl) fun w4 b76 b=>?_;refine goC b ?_;replace b:=((b.Cy kC 59).Cy Int 3).owN 101 1;replace b:=(b.arr [3,0,2,1,4] rfl).dp [1,0,2,3,4,5,6]
 let R:Rn:=⟨w0.heap.size,b76,⟨a1,c1,a2,c2,a3,c3,a4,c4⟩,s,N,F,M⟩
 let m:BX:=⟨none,0,none,0,[],none,0,[]⟩
 have hw:window ([]:List kC) F M=[]:=by simp [window]
 replace b:Bx w0 w4 Y G (Mar R m [] [] [] 0 0 ++ [.box b13 43 #[V 0,.bool false,V 0,sn]]) (oV R m [] [] ++ [.l a c args]):=by show Bx w0 w4 Y G ([.box b76 76 (cM R m 0 (window ([]:List kC) F M).length 0 0 0 0).toArray,.own R.B none 0 101 1 [],.own R.B none 0 59 (Rp.sz kC) [],.own R.B none 0 3 (Rp.sz Int) []] ++ [.box b13 43 #[V 0,.bool false,V 0,sn]]) ([.els [] (window ([]:List kC) F M),.els [] ([]:List Int),.l a1 c1 s.a.a,.l a2 c2 s.a.b,.l a3 c3 s.c,.l a4 c4 s.b] ++ [.l a c args]);rw [hw];exact b
 have hRn:PI R:=⟨by show N<=5000;omega,by show M<=100;omega⟩;have hCl:CRr R (stM (jD fu R.src) R.src R.st fu):=Uk (Pp (XM hRn hFn fu)) hFn (U2 fu);have hq:=hCl (b.pr [0,1,2,3] [4] [6,0,1,2,3,4,5] rfl) (xs:=[]) (gs:=[]) lF b.rM.size rfl (uy _) hc hg;refine pW (l6 Xz rfl) hq ?_;clear hq;rintro _ w5 ⟨m2,how,e,v,rfl,hw2,hK⟩;replace b:=b.cn [0,1,2,3] [4] hK;replace b:=b.dp [0,1,2,3,4,5]
 have fin:∀ {f:Fr}{w':World}{e v v2:Int}{th:Bool},f 12=.slice m2.eA (window h F M).length m2.eC→f 13=Pt b13→(window h F M,(⟨e,th,v,o⟩:mU))=(ev,out)→Bx w0 w' Y G [.box b76 76 [.slice a1 s.a.a.length c1,.slice a2 s.a.b.length c2,.slice a3 s.c.length c3,.slice a4 s.b.length c4,V (N:Int),V (F:Int),V (M:Int),V (h.length:Int),.slice m2.lA 0 m2.lC,.slice m2.eA (window h F M).length m2.eC,V e,.bool th,V v,.slice m2.oA o.length m2.oC,V v2].toArray,.own w0.heap.size m2.lA m2.lC 101 1 [],.own w0.heap.size m2.eA m2.eC 59 (Rp.sz kC) m2.ec,.own w0.heap.size m2.oA m2.oC 3 (Rp.sz Int) m2.oc,.box b13 43 #[V e,.bool th,V v,.slice m2.oA o.length m2.oC]] (oV R m2 h o)→
     Reads prog f11 (fun v w'=>∃ o p t u,v=.tuple #[.slice o ev.length p,.agg #[V out.d,.bool out.b,V out.c,.slice t out.a.length u]]/\Bx w0 w' Y G [] [.l o p ev,.l t u out.a]) f w':=fun {f w' e v v2 th} h12 h13 he b=>by
   obtain ⟨rfl,rfl⟩:=sK he;refine ng (fn:=f11) rfl (kL h12) (Tf h13 (fun ρ h'=>l7 [V e,.bool th,V v,.slice m2.oA o.length m2.oC] JK uX h' (b.bk 4 rfl)) (b.bk 4 rfl)) ?_;exact ⟨_,_,_,_,rfl,((b.Ob 2 0 rfl rfl).Ob 2 1 rfl rfl).ad [] [1,0]⟩
 replace b:Bx w0 w5 Y G [.box b76 76 [.slice a1 s.a.a.length c1,.slice a2 s.a.b.length c2,.slice a3 s.c.length c3,.slice a4 s.b.length c4,V (N:Int),V (F:Int),V (M:Int),V (h.length:Int),.slice m2.lA 0 m2.lC,.slice m2.eA (window h F M).length m2.eC,V e,.bool false,V 0,.slice m2.oA o.length m2.oC,V v].toArray,.own w0.heap.size m2.lA m2.lC 101 1 [],.own w0.heap.size m2.eA m2.eC 59 (Rp.sz kC) m2.ec,.own w0.heap.size m2.oA m2.oC 3 (Rp.sz Int) m2.oc,.box b13 43 #[V 0,.bool false,V 0,sn]] (oV R m2 h o):=b;refine goC b ?_;by_cases he0:e=0
 · have he:(window h F M,(⟨0,decide (how=2),v,o⟩:mU))=(ev,out):=by
     cases p with
     | ok n=>obtain ⟨rfl,_,rfl⟩:=hw2;exact vK hA
     | uP t=>obtain ⟨rfl,_,rfl⟩:=hw2;exact vK hA
     | err k=>exact absurd (by rw [<-hw2.2,he0]) hg0
     | rt=>exact hw2.elim
   rw [qF he0];subst he0;refine goC b ?_;refine lD (t_n b 0 [V v] rfl ny rfl rfl) fun w6 b=>?_;refine goC b ?_;refine lD (t_n b 0 [.bool (decide (how=2))] rfl Pz rfl rfl) fun w7 b=>?_;refine go ?_;refine ql (fun u=>nS u b76 76 ([.slice a1 s.a.a.length c1,.slice a2 s.a.b.length c2,.slice a3 s.c.length c3,.slice a4 s.b.length c4,V (N:Int),V (F:Int),V (M:Int),V (h.length:Int),.slice m2.lA 0 m2.lC,.slice m2.eA (window h F M).length m2.eC] ++ ([V 0,.bool (decide (how=2)),V v,.slice m2.oA o.length m2.oC] ++ [V v])).toArray) (fun _=>True) [] (by kernel_rfl) ?_;replace b:=b.drew;have q1:=b.bk 0 rfl;refine pF 0 r (oF r) q1 (pF 1 r (xn r) q1 (pF 2 r (yG r r) q1 (uF 3 r (fun h=>yK r h r r) q1 (pF 4 r (oF r) q1 (pF 5 r (xn r) q1 (pF 6 r (yG r r) q1 (uF 7 r (fun h=>nA [V 0,.bool (decide (how=2)),V v,.slice m2.oA o.length m2.oC] underlying43 r uX r r (Rq h)) q1 (pF 8 r (mh r) q1 ?_))))))));refine hO 9 (os r r (t_n b 4 [V 0,.bool (decide (how=2)),V v,.slice m2.oA o.length m2.oC] r uX r r) ?_);intro w8 b;refine ⟨sF (b.bk 0 rfl),hD ?_⟩;refine go ?_;exact kH (fin rfl rfl he b)
 · have he:(window h F M,(⟨e,false,0,o⟩:mU))=(ev,out):=by
     cases p with
     | ok n=>exact absurd hw2.2.1 he0
     | uP t=>exact absurd hw2.2.1 he0
     | err k=>obtain ⟨_,rfl⟩:=hw2;exact vK hA
     | rt=>exact hw2.elim
   rw [oz he0];refine go ?_;refine ql (fun u=>nS u b76 76 ([.slice a1 s.a.a.length c1,.slice a2 s.a.b.length c2,.slice a3 s.c.length c3,.slice a4 s.b.length c4,V (N:Int),V (F:Int),V (M:Int),V (h.length:Int),.slice m2.lA 0 m2.lC,.slice m2.eA (window h F M).length m2.eC] ++ ([V e,.bool false,V 0,.slice m2.oA o.length m2.oC] ++ [V v])).toArray) (fun _=>True) [] (by kernel_rfl) ?_;replace b:=b.drew;have q1:=b.bk 0 rfl;refine pF 0 r (oF r) q1 (pF 1 r (xn r) q1 (pF 2 r (yG r r) q1 (uF 3 r (fun h=>yK r h r r) q1 (pF 4 r (oF r) q1 (pF 5 r (xn r) q1 (pF 6 r (yG r r) q1 (uF 7 r (fun h=>nA [V e,.bool false,V 0,.slice m2.oA o.length m2.oC] underlying43 r uX r r (Rq h)) q1 (pF 8 r (mh r) q1 ?_))))))));refine hO 9 (os r r (t_n b 4 [V e,.bool false,V 0,.slice m2.oA o.length m2.oC] r uX r r) ?_);intro w8 b;refine ⟨sF (b.bk 0 rfl),hD ?_⟩;refine go ?_;exact kH (fin rfl rfl he b)
set_option linter.unusedSimpArgs false
theorem zm.ar:∀ {n:Nat}{e:jA},zm n e→OX e
 | 0,_,h=>h.elim
 | n+1,e,h=>.mk (fun z=>by
  obtain ⟨h1,h2,h3⟩:=h.1.2;rw [h3,jR (by omega)];by_cases h6:e.e=4\/e.e=5
  · rw [kg h6,kg (by omega)]
  · rw [jR h6,jR (by omega)]) fun y hy=>zm.ar (h.2 y hy)
theorem Ms {K:List jZ}{V:List jy}{Ps:List Nat}{f:Int}{l:List jI}{a b:Nat}(h:SW K V Ps f l a b):∀ y ∈ l,∃ c d,SW K V Ps f [y] c d:=by
 induction h with
 | nil=>exact fun y hy=>by cases hy
 | cons id kd tg ar de tr ca ct bo el nx _ _ ih=>
  intro y hy;rcases qK.1 hy with rfl | hy
  · exact ⟨_,_,.cons id kd tg ar de tr ca ct bo el .nil⟩
  · exact ih y hy
theorem ars {K:List jZ}{V:List jy}{Ps:List Nat}{f:Int}:∀ {n:Nat}{x:jI}{a b:Nat},Ie n x→SW K V Ps f [x] a b→Hl x
 | 0,_,_,_,h,_=>h.elim
 | n+1,x,a,b,h,k=>by
  obtain ⟨h1,h2,h3,h4,h5⟩:=h;cases k with
  | cons id kd tg ar de tr ca ct bo el nx=>
   refine .mk (fun e he=>(h1 e he).ar) (fun e he=>(h2.2 e he).ar) (fun z e he=>by have:=(ct e he).1 z;omega) (fun z hz=>?_) fun z hz=>?_
   · obtain ⟨c,d,k⟩:=Ms bo z hz;exact ars (h3 z hz) k
   · obtain ⟨c,d,k⟩:=Ms el z hz;exact ars (h4 z hz) k
def Gp {α:Type}:Pn α→Prop
 | .rt=>False
 | .err e=>e=5\/e=13
 | _=>True
theorem Gp.gd {α:Type}{p:Pn α}(h:Gp p):JU p/\p≠.err 0:=by
 cases p with
 | ok a=>exact ⟨lF,fun z=>by cases z⟩
 | uP t=>exact ⟨lF,fun z=>by cases z⟩
 | err e=>exact ⟨by show e≠4;rcases h with rfl | rfl <;> decide,fun z=>by cases z;rcases h with h | h <;> cases h⟩
 | rt=>exact h.elim
theorem Eg.gp {α β:Type}{p:Pn α}(h:Eg p)(hn:∀ a,p≠.ok a):Gp (p.up:Pn β):=by
 cases p with
 | ok a=>exact absurd rfl (hn a)
 | uP t=>trivial
 | err e=>exact h.elim
 | rt=>exact h.elim
theorem Gp.up {α β:Type}{p:Pn α}(h:Gp p)(hn:∀ a,p≠.ok a):Gp (p.up:Pn β):=by
 cases p with
 | ok a=>exact absurd rfl (hn a)
 | _=>exact h
structure Cx (s:jL)(V:List jy):Prop where
 vo:∀ v ∈ V,VO s.a.a v
 w8:∀ v ∈ V,0<=v.a/\v.a<=8
def Ft (V:List jy)(ws:List (List Int)):Prop:=ws.map List.length=V.map (fun x=>x.a.toNat)
section
variable {s:jL}{V:List jy}
theorem Ft.row {ws:List (List Int)}(h:Ft V ws){i:Int}{v:jy}(hv:ix V i=some v):∃ (k:Nat)(l:List Int),i=(k:Int)/\V[k]?=some v/\ix? ws i=some l/\ws[k]?=some l/\l.length=v.a.toNat:=by obtain ⟨k,rfl,hk⟩:=kN hv;have hl:=congrArg List.length h;rw [xR,xR] at hl;obtain ⟨l,hw⟩:=lZ (l:=ws) (k:=k) (by rw [hl];exact jU hk);have:=congrArg (·[k]?) h;simp only [BR,hw,hk,Option.map_some,DT] at this;exact ⟨k,l,rfl,hk,by unfold ix?;rw [jR (by omega),AY];exact hw,hw,this⟩
theorem Ft.set {ws:List (List Int)}(h:Ft V ws){k:Nat}{l l':List Int}(hk:ws[k]?=some l)(hl:l'.length=l.length):Ft V (ws.set k l'):=by unfold Ft at h ⊢;rw [List.map_set,<-h];exact set_self (by rw [BR,hk,hl];rfl)
theorem Ft.word {ws:List (List Int)}(h:Ft V ws){q:Nat × Nat}{v:Int}:Ft V (setW ws q v):=by
 unfold setW;cases hk:ws[q.1]? with
 | none=>rw [List.set_eq_of_length_le (List.getElem?_eq_none_iff.1 hk)];exact h
 | some l=>exact h.set hk (by rw [wV,Gb,hk];rfl)
theorem WC {op x y:Int}(h1:6<=op)(h2:op<=17):Eg (CR op x y):=by
 unfold CR;by_cases c:op=6
 · rw [kg c];trivial
 rw [jR c];by_cases c:op=7
 · rw [kg c];trivial
 rw [jR c];by_cases c:op=8
 · rw [kg c];trivial
 rw [jR c];by_cases c:op=9
 · rw [kg c];by_cases d:y=0
   · rw [kg d];trivial
   · rw [jR d];trivial
 rw [jR c];by_cases c:op=10
 · rw [kg c];by_cases d:y=0
   · rw [kg d];trivial
   · rw [jR d];trivial
 rw [jR c];by_cases c:op=11
 · rw [kg c];trivial
 rw [jR c];by_cases c:op=12
 · rw [kg c];trivial
 rw [jR c];by_cases c:op=13
 · rw [kg c];trivial
 rw [jR c];by_cases c:op=14
 · rw [kg c];trivial
 rw [jR c];by_cases c:op=15
 · rw [kg c];trivial
 rw [jR c];by_cases c:op=16
 · rw [kg c];trivial
 rw [jR c,kg (by omega)];trivial
theorem GQ {α β:Type}{q:Pn α}{f:α->Option (Pn β)}{p:Pn β}(h:q.then f=some p)(hq:Eg q)(hf:∀ a,q=.ok a->f a=some p->Eg p):Eg p:=by
 cases q with
 | ok a=>exact hf a rfl h
 | uP t=>cases h;trivial
 | err e=>exact hq.elim
 | rt=>exact hq.elim
variable (hC:Cx s V)
include hC
theorem abg {ev:jA->Option (Pn Int)}{ws:List (List Int)}{e:jA}{q:Pn (Nat × Nat)}(hf:Ft V ws)(hx:RX V e)(hs:Sx e)(ho:e.e=1\/e.e=2\/e.e=3)(he:∀ y ∈ e.a,∀ p,ev y=some p->Eg p)(h:O4 ev ws e=some q):Eg q:=by
 obtain ⟨h1,_⟩:=hx;obtain ⟨v,h2,h3,h4⟩:=h1 ho;obtain ⟨k,l,hk,hVk,hi,_,hl⟩:=hf.row h2;unfold O4 at h;rw [hi] at h;dsimp only at h;have h8:=hC.w8 v (wC hVk);rcases jB h with ⟨c,h⟩|⟨c,h⟩
 · have:=h4 c;rw [kg (by omega)] at h;cases h;trivial
 rcases jB h with ⟨d,h⟩|⟨d,h⟩
 · have ha:=hs.2.2;rw [jR (by omega),kg (by omega)] at ha;obtain ⟨y,hA⟩:=List.length_eq_one_iff.1 ha;rw [hA] at h;obtain ⟨p,hp,h⟩:=bs h;refine GQ h (he y (by rw [hA];exact .head _) p hp) fun n _ h=>?_;have h:=vK h;split at h
   · subst h;trivial
   · subst h;trivial
 · have hv:=hC.vo v (wC hVk);have:l≠[]:=fun z=>by
     rw [z,uR] at hl;rcases hv with ⟨_,h⟩|⟨h,_⟩|⟨h,_⟩
     · omega
     · omega
     · omega
   rw [jR this] at h;cases h;trivial
theorem Tp:∀ (fu n:Nat){ws:List (List Int)}{e:jA}{p:Pn Int},Ft V ws→RX V e→zm n e→xD fu ws e=some p→Eg p
 | 0,_,_,_,_,_,_,_,h=>by cases h
 | fu+1,0,_,_,_,_,_,hk,_=>hk.elim
 | fu+1,n+1,ws,e,p,hf,hx,hk,h=>by
  have hxk:∀ y ∈ e.a,RX V y:=by cases hx;assumption
  have ih:∀ y ∈ e.a,∀ p,xD fu ws y=some p->Eg p:=fun y hy p hp=>Tp fu n hf (hxk y hy) (hk.2 y hy) hp;have hs:=hk.1.2;rw [xD] at h;rcases jB h with ⟨c0,h⟩|⟨c0,h⟩
  · cases h;trivial
  rcases jB h with ⟨c,h⟩|⟨c,h⟩
  · obtain ⟨q,hq,h⟩:=bs h;exact GQ h (abg hC hf hx hs c ih hq) fun a _ h=>by cases h;trivial
  have ha:=hs.2.2;rw [jR (by have:=hs.1;omega)] at ha;rcases jB h with ⟨c4,h⟩|⟨c4,h⟩
  · rw [kg (by omega)] at ha;obtain ⟨y,hA⟩:=List.length_eq_one_iff.1 ha;rw [hA] at h;obtain ⟨q,hq,h⟩:=bs h;exact GQ h (ih y (by rw [hA];exact .head _) q hq) fun a _ h=>by cases h;trivial
  rcases jB h with ⟨c5,h⟩|⟨c5,h⟩
  · rw [kg (by omega)] at ha;obtain ⟨y,hA⟩:=List.length_eq_one_iff.1 ha;rw [hA] at h;obtain ⟨q,hq,h⟩:=bs h;exact GQ h (ih y (by rw [hA];exact .head _) q hq) fun a _ h=>by cases h;trivial
  have h0:=hs.1;rw [jR (by omega)] at ha;cases hA:e.a with
  | nil=>rw [hA] at ha;cases ha
  | cons y r=>
    cases r with
    | nil=>rw [hA] at ha;cases ha
    | cons z r=>
     rw [hA] at h;obtain ⟨q,hq,h⟩:=bs h;refine GQ h (ih y (by rw [hA];exact .head _) q hq) fun a _ h=>?_;obtain ⟨q2,hq2,h⟩:=bs h;refine GQ h (ih z (by rw [hA];exact .tail _ (.head _)) q2 hq2) fun c _ h=>?_;cases h;exact WC (by omega) hs.2.1
theorem XC {fu n:Nat}{ws:List (List Int)}(hf:Ft V ws):∀ {l:List jA}{acc:List Int}{p:Pn (List Int)},(∀ y ∈ l,RX V y)→(∀ y ∈ l,zm n y)→zq (xD fu ws) l acc=some p→Eg p∧∀ r,p=.ok r→r.length=acc.length+l.length
 | [],acc,p,_,_,h=>by cases h;exact ⟨lF,fun r h=>by cases h;rfl⟩
 | y :: l,acc,p,hx,hk,h=>by
  rw [zq] at h;obtain ⟨q,hq,h⟩:=bs h;have:=Tp hC fu n hf (hx y (.head _)) (hk y (.head _)) hq;cases q with
  | ok a=>
   obtain ⟨acc2,ha,h⟩:=bs h;obtain ⟨_,rfl⟩:=qG ha;obtain ⟨h1,h2⟩:=XC hf (fun z hz=>hx z (.tail _ hz)) (fun z hz=>hk z (.tail _ hz)) h;exact ⟨h1,fun r hr=>by rw [h2 r hr];simp;omega⟩
  | uP t=>cases h;exact ⟨lF,fun r h=>by cases h⟩
  | err e=>exact this.elim
  | rt=>exact this.elim
end
end Go.Proofs.YtfglbdkfnphjgaaGreat
