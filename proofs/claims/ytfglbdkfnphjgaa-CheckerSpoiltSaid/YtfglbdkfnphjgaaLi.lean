/- Contracts, printed by gen3.py. -/
import Derived.Test.YtfglbdkfnphjgaaZt
import Derived.Test.YtfglbdkfnphjgaaLa
set_option linter.unusedVariables false
set_option maxHeartbeats 12800000
set_option linter.unusedSimpArgs false
set_option maxRecDepth 4000
namespace Go.Proofs.Ytfglbdkfnphjgaa
open Go.RowKit Go.Fw
noncomputable section
def KS (m:(List Int)→(List Int)→Option (Bool)):Prop:=∀ {e:World} {j:Nat→Prop} {f:(List Int)} {h:(List Int)} {a:Option Addr} {b:Nat} {c:Option Addr} {d:Nat} {i:Bool},Pre e j [] [.l a b f,.l c d h]→m f h=some i→
 Calls Try.prog 21 #[Z a f b,Z c h d] e (rf fun v w=>v=.bool i∧Bx e w j (lT []) [] [])
def za (fu:Nat)(b:(List Int)) (c:(List Int)):Nat→Int→Option (Ld (Int) (Bool))
 | 0,_=>none
 | d+1,a=>
 if a < (b.length:Int) then
  (ix b a).bind fun e=>
  (ix c a).bind fun f=>
  if e≠f then
   some (.out false)
  else
   za fu b c d (wr (a+1))
 else
  some (.go a)
def Dw (fu:Nat)(a:(List Int)) (b:(List Int)):Option (Bool):=
 if (a.length:Int)≠(b.length:Int) then
  some false
 else
  (za fu a b fu 0).bind fun d=>d.el (fun c=>
  some true
  ) (fun o=>some o)
theorem KZ (fu:Nat):KS (Dw fu):=by
 intro H W t u c d e i M I k
 unfold Dw at k
 have j:=I.bx
 clear I
 generalize N:lT _=G at j ⊢
 refine cf Try.func21 r (ma [(0,Z c t d),(1,Z e u i)] ⟨r,r,y⟩ fun X=>q (g (s (jU r) (n (q (q (g (s (mD r) (s (lg vE r) (s (mD r) (s (lg vE r) (s (mI r r) (n ?_)))))))))))))
 rcases iv k with ⟨v,k⟩|⟨v,k⟩
 ·refine jH (bt v) (q (g (s (jU r) (n (kP ?_)))))
  obtain rfl:=sm k
  exact jC r (kT r) ⟨r,(j.dp [])⟩
 refine jI (bf v) (wk (q (q (g (s (xi r) (n ?_))))))
 obtain ⟨J,a,k⟩:=bs k
 refine oC (fun f w=>∃ (b:Int),Has f []∧Bx H w W G [] [.l c d t,.l e i u]∧Ld.go b=J) (fun Q x=>?_) ?_
 ·refine nZ (kH (fun Y f w=>∃ (b:Int),Has f [(0,Z c t d),(1,Z e u i),(5,V b)]∧Bx H w W G [] [.l c d t,.l e i u]∧za fu t u Y b=some J) fu ⟨0,⟨r,r,r,y⟩,j,a⟩ ?_)
  clear j a
  rintro z f w ⟨b,hf,j,a⟩ R A
  obtain ⟨X,rfl⟩:=gP _ _ hf
  clear hf
  cases z with
  | zero=>exact nn a
  | succ z=>
   rw [za] at a
   refine q (q (g (s (mi r) (s (mD r) (s (lg vE r) (s (qB r r) (n ?_)))))))
   rcases iv a with ⟨B,a⟩|⟨B,a⟩
   ·refine jH (bt B) (wk (q (nZ (q (oJ j [] [0,1] [] (by kernel_rfl) ?_)))))
    replace j:=j.drew
    have m:=j
    refine pF 0 r (mD r) m (pF 1 r (mi r) m ?_)
    obtain ⟨K,o,a⟩:=bs a
    obtain ⟨S,C,o⟩:=kG o
    refine pF 2 r (kZ vE pJ r r C (j.dl 0 r) o) m (tU 3 r (fun _ hS=>kz EU r r ((vo (ds:=[V K]) (hS.dl 0 r) o (fun _ h=>h)) 0 _ r)) (sF m) (pF 4 r (mD r) m (pF 5 r (mi r) m ?_)))
    obtain ⟨L,p,a⟩:=bs a
    obtain ⟨U,D,p⟩:=kG p
    refine pF 6 r (kZ vE pJ r r D (j.dl 1 r) p) m (tU 7 r (fun _ hS=>kz EU r r ((vo (ds:=[V L]) (hS.dl 1 r) p (fun _ h=>h)) 0 _ r)) (sF m) (pF 8 r (mI r r) m (hD ?_)))
    rcases iv a with ⟨E,a⟩|⟨E,a⟩
    ·refine jH (bt E) (q (g (s (jU r) (n (kP ?_)))))
     obtain rfl:=sm a
     replace k:=oi k
     obtain rfl:=sm k
     exact jC r (kT r) ⟨r,(j.dp [])⟩
    exact jI (bf E) (wk (g (s (mi r) (s (kN r r) (s (xi r) (n (A z _ _ (Nat.lt_succ_self _) ⟨(wr (b+1)),⟨r,r,r,y⟩,j,a⟩)))))))
   exact jI (bf B) (uW (x _ _ ⟨b,y,j,sm a⟩))
 clear j
 rintro f w ⟨b,hf,j,F⟩
 obtain ⟨X,rfl⟩:=gP _ _ hf
 clear hf
 subst F
 replace k:=gi k
 refine q (g (s (jU r) (n (kP ?_))))
 obtain rfl:=sm k
 exact jC r (kT r) ⟨r,(j.dp [])⟩
def F3 (m:(List BA)→(List BA)→Option (Bool)):Prop:=∀ {e:World} {j:Nat→Prop} {f:(List BA)} {h:(List BA)} {a:Option Addr} {b:Nat} {c:Option Addr} {d:Nat} {i:Bool},Pre e j [] [.l a b f,.l c d h]→m f h=some i→
 Calls Try.prog 76 #[Z a f b,Z c h d] e (rf fun v w=>v=.bool i∧Bx e w j (lT []) [] [])
def sN (fu:Nat)(b:(List BA)) (c:(List BA)):Nat→Int→Option (Ld (Int) (Bool))
 | 0,_=>none
 | d+1,a=>
 if a < (b.length:Int) then
  (ix b a).bind fun e=>
  (ix c a).bind fun f=>
  if ¬ e=f then
   some (.out false)
  else
   sN fu b c d (wr (a+1))
 else
  some (.go a)
def uy (fu:Nat)(a:(List BA)) (b:(List BA)):Option (Bool):=
 if (a.length:Int)≠(b.length:Int) then
  some false
 else
  (sN fu a b fu 0).bind fun d=>d.el (fun c=>
  some true
  ) (fun o=>some o)
theorem AB (fu:Nat):F3 (uy fu):=by
 intro H W t u c d e i M I k
 unfold uy at k
 have j:=I.bx
 clear I
 generalize N:lT _=G at j ⊢
 refine cf Try.func76 r (ma [(0,Z c t d),(1,Z e u i)] ⟨r,r,y⟩ fun X=>q (g (s (jU r) (n (q (q (g (s (mD r) (s (lg kL r) (s (mD r) (s (lg kL r) (s (mI r r) (n ?_)))))))))))))
 rcases iv k with ⟨v,k⟩|⟨v,k⟩
 ·refine jH (bt v) (q (g (s (jU r) (n (kP ?_)))))
  obtain rfl:=sm k
  exact jC r (kT r) ⟨r,(j.dp [])⟩
 refine jI (bf v) (wk (q (q (g (s (xi r) (n ?_))))))
 obtain ⟨J,a,k⟩:=bs k
 refine oC (fun f w=>∃ (b:Int),Has f []∧Bx H w W G [] [.l c d t,.l e i u]∧Ld.go b=J) (fun Q x=>?_) ?_
 ·refine nZ (kH (fun Y f w=>∃ (b:Int),Has f [(0,Z c t d),(1,Z e u i),(5,V b)]∧Bx H w W G [] [.l c d t,.l e i u]∧sN fu t u Y b=some J) fu ⟨0,⟨r,r,r,y⟩,j,a⟩ ?_)
  clear j a
  rintro z f w ⟨b,hf,j,a⟩ R A
  obtain ⟨X,rfl⟩:=gP _ _ hf
  clear hf
  cases z with
  | zero=>exact nn a
  | succ z=>
   rw [sN] at a
   refine q (q (g (s (mi r) (s (mD r) (s (lg kL r) (s (qB r r) (n ?_)))))))
   rcases iv a with ⟨B,a⟩|⟨B,a⟩
   ·refine jH (bt B) (wk (q (nZ (q (oJ j [] [0,1] [] (by kernel_rfl) ?_)))))
    replace j:=j.drew
    have m:=j
    refine pF 0 r (mD r) m (pF 1 r (mi r) m ?_)
    obtain ⟨K,o,a⟩:=bs a
    obtain ⟨S,C,o⟩:=kG o
    refine pF 2 r (kZ kL pV r r C (j.dl 0 r) o) m (tU 3 r (fun _ hS=>kz rH r r ((vo (ds:=[T K]) (hS.dl 0 r) o (fun _ h=>h)) 0 _ r)) (sF m) (pF 4 r (mD r) m (pF 5 r (mi r) m ?_)))
    obtain ⟨L,p,a⟩:=bs a
    obtain ⟨U,D,p⟩:=kG p
    refine pF 6 r (kZ kL pV r r D (j.dl 1 r) p) m (tU 7 r (fun _ hS=>kz rH r r ((vo (ds:=[T L]) (hS.dl 1 r) p (fun _ h=>h)) 0 _ r)) (sF m) (pF 8 r (yO r r) m (hD ?_)))
    rcases iv a with ⟨E,a⟩|⟨E,a⟩
    ·refine jH (bt E) (q (g (s (jU r) (n (kP ?_)))))
     obtain rfl:=sm a
     replace k:=oi k
     obtain rfl:=sm k
     exact jC r (kT r) ⟨r,(j.dp [])⟩
    exact jI (bf E) (wk (g (s (mi r) (s (kN r r) (s (xi r) (n (A z _ _ (Nat.lt_succ_self _) ⟨(wr (b+1)),⟨r,r,r,y⟩,j,a⟩)))))))
   exact jI (bf B) (uW (x _ _ ⟨b,y,j,sm a⟩))
 clear j
 rintro f w ⟨b,hf,j,F⟩
 obtain ⟨X,rfl⟩:=gP _ _ hf
 clear hf
 subst F
 replace k:=gi k
 refine q (g (s (jU r) (n (kP ?_))))
 obtain rfl:=sm k
 exact jC r (kT r) ⟨r,(j.dp [])⟩
abbrev BL:=(List jL)→(List jL)→Option (Bool)
def yV (m:(List Ge)→(List Ge)→Option (Bool)):Prop:=∀ {e:World} {j:Nat→Prop} {f:(List Ge)} {h:(List Ge)} {a:Option Addr} {b:Nat} {c:Option Addr} {d:Nat} {i:Bool},Pre e j [] [.l a b f,.l c d h]→m f h=some i→
 Calls Try.prog 105 #[Z a f b,Z c h d] e (rf fun v w=>v=.bool i∧Bx e w j (lT []) [] [])
def tT (fu:Nat)(r_same_Exprs:BL) (e:(List Ge)) (f:(List Ge)):Nat→Int→Option (Ld (Int) (Bool))
 | 0,_=>none
 | h+1,a=>
 if a < (e.length:Int) then
  (ix e a).bind fun c=>
  (ix f a).bind fun d=>
  if c.e≠d.e then
   some (.out false)
  else
   if c.d≠d.d then
    some (.out false)
   else
    if c.j≠d.j then
     some (.out false)
    else
     if ¬ c.a=d.a then
      some (.out false)
     else
      if ¬ c.c=d.c then
       some (.out false)
      else
       (r_same_Exprs c.b d.b).bind fun b=>
       if (!b)=true then
        some (.out false)
       else
        tT fu r_same_Exprs e f h (wr (a+1))
 else
  some (.go a)
def x8 (fu:Nat)(r_same_Exprs:BL) (a:(List Ge)) (b:(List Ge)):Option (Bool):=
 if (a.length:Int)≠(b.length:Int) then
  some false
 else
  (tT fu r_same_Exprs a b fu 0).bind fun d=>d.el (fun c=>
  some true
  ) (fun o=>some o)
def BZ:Nat→((List Ge)→(List Ge)→Option (Bool))
 | 0=>(fun _ _=>none)
 | fu+1=>x8 fu (BZ fu)
def sj (fu:Nat):=(BZ fu)
theorem Hw (fu:Nat)(r_same_Exprs:BL) (H_same_Exprs:yV r_same_Exprs):yV (x8 fu r_same_Exprs):=by
 intro S ax H I m o p t r0 hP j
 unfold x8 at j
 have b:=hP.bx
 clear hP
 generalize hG:lT _=G at b ⊢
 refine cf Try.func105 r (ma [(0,Z m H o),(1,Z p I t)] ⟨r,r,y⟩ fun ay=>q (g (s (jU r) (n (q (q (g (s (mD r) (s (lg qJ r) (s (mD r) (s (lg qJ r) (s (mI r r) (n ?_)))))))))))))
 rcases iv j with ⟨U,j⟩|⟨U,j⟩
 ·refine jH (bt U) (q (g (s (jU r) (n (kP ?_)))))
  obtain rfl:=sm j
  exact jC r (kT r) ⟨r,(b.dp [])⟩
 refine jI (bf U) (wk (q (q (g (s (xi r) (n ?_))))))
 obtain ⟨Y2,a,j⟩:=bs j
 refine oC (fun f w=>∃ (h:Int),Has f []∧Bx S w ax G [] [.l m o H,.l p t I]∧Ld.go h=Y2) (fun J2 W=>?_) ?_
 ·refine nZ (kH (fun az f w=>∃ (h:Int),Has f [(0,Z m H o),(1,Z p I t),(5,V h)]∧Bx S w ax G [] [.l m o H,.l p t I]∧tT fu r_same_Exprs H I az h=some Y2) fu ⟨0,⟨r,r,r,y⟩,b,a⟩ ?_)
  clear b a
  rintro X f w ⟨h,hf,b,a⟩ K2 Y
  obtain ⟨ay,rfl⟩:=gP _ _ hf
  clear hf
  cases X with
  | zero=>exact nn a
  | succ X=>
   rw [tT] at a
   refine q (q (g (s (mi r) (s (mD r) (s (lg qJ r) (s (qB r r) (n ?_)))))))
   rcases iv a with ⟨h3,a⟩|⟨h3,a⟩
   ·refine jH (bt h3) (wk (q (nZ (q ?_))))
    obtain ⟨c,E,a⟩:=bs a
    obtain ⟨k4,a1,E⟩:=kG E
    obtain ⟨ac,a2,b⟩:=b.nm 0 rfl E
    obtain ⟨u,v,rfl,Q⟩:=jL.out a2
    replace b:=b.ku (d:=.l u v c.b) Q
    obtain ⟨e,F,a⟩:=bs a
    obtain ⟨k6,a3,F⟩:=kG F
    obtain ⟨ae,a4,b⟩:=b.nm 3 rfl F
    obtain ⟨x,z,rfl,R⟩:=jL.out a4
    replace b:=b.ku (d:=.l x z e.b) R
    refine oC (fun f w=>∃ (B:Nat)(C:Nat),Has f [(0,Z m H o),(1,Z p I t),(5,V h),(6,Pt B),(7,Pt C)]∧Bx S w ax G [.box B 138 #[V c.e,V c.d,V c.j,T c.a,T c.c,Z u c.b v],.box C 138 #[V e.e,V e.d,V e.j,T e.a,T e.c,Z x e.b z]] [.l x z e.b,.l u v c.b,.l m o H,.l p t I]) (fun Jd hJd=>?_) ?_
    ·refine oJ b [] [0,1,2,3,4,5] [] (by kernel_rfl) ?_
     replace b:=b.drew
     have A:=b
     refine pF 0 r (mD r) A (pF 1 r (mi r) A (pF 2 r (kZ qJ jT r r a1 (b.dl 4 r) E) A (uF 3 r (fun hS=>oL [V c.e,V c.d,V c.j,T c.a,T c.c,Z u c.b v] mo r jT r r (hS.dc 3 r)) A (pF 4 r (mD r) A (pF 5 r (mi r) A (pF 6 r (kZ qJ jT r r a3 (b.dl 5 r) F) A (uF 7 r (fun hS=>oL [V e.e,V e.d,V e.j,T e.a,T e.c,Z x e.b z] mo r jT r r (hS.dc 1 r)) A (nI 8 [9] (by kernel_rfl) (jS ?_ (jS ?_ lX))))))))))
     ·refine oo r r (rM b (ko jT)) ?_
      rintro _ af ⟨B,rfl,b⟩
      have A:=(b.arr [] r)
      refine ⟨(sF A),(hO 9 (oo r r (rM b (ko jT)) ?_))⟩
      rintro _ ag ⟨C,rfl,b⟩
      have A:=(b.arr [] r)
      refine ⟨(sF A),(hO 10 (os r r (nD b 1 [V c.e,V c.d,V c.j,T c.a,T c.c,Z u c.b v] r jT r r) fun ah b=>?_))⟩
      have A:=(b.arr [] r)
      refine ⟨(sF A),(hO 11 (os r r (nD b 0 [V e.e,V e.d,V e.j,T e.a,T e.c,Z x e.b z] r jT r r) fun ai b=>?_))⟩
      have A:=(b.arr [] r)
      exact ⟨(sF A),(hD (hJd _ _ ⟨B,C,⟨r,r,r,r,r,y⟩,(b.ad [1,0] [0,2,4,5])⟩))⟩
     refine oo r r (rM b (ko jT)) ?_
     rintro _ aj ⟨a5,rfl,b⟩
     have A:=(b.arr [] r)
     refine ⟨(sF A),(hO 8 (oo r r (rM b (ko jT)) ?_))⟩
     rintro _ ak ⟨a6,rfl,b⟩
     have A:=(b.arr [] r)
     refine ⟨(sF A),(hO 10 (os r r (nD b 0 [V c.e,V c.d,V c.j,T c.a,T c.c,Z u c.b v] r jT r r) fun al b=>?_))⟩
     have A:=(b.arr [] r)
     refine ⟨(sF A),(hO 11 (os r r (nD b 1 [V e.e,V e.d,V e.j,T e.a,T e.c,Z x e.b z] r jT r r) fun am b=>?_))⟩
     have A:=(b.arr [] r)
     exact ⟨(sF A),(hD (hJd _ _ ⟨a6,a5,⟨r,r,r,r,r,y⟩,(b.dp [0,2,4,5])⟩))⟩
    clear b
    rintro f w ⟨B,C,hf,b⟩
    obtain ⟨ay,rfl⟩:=gP _ _ hf
    clear hf
    refine q (g (s (wD r) (s (l3 r (b.bk 0 r) r) (s (wD r) (s (l3 r (b.bk 1 r) r) (s (mI r r) (s (jZ r) ?_)))))))
    rcases iv a with ⟨J,a⟩|⟨J,a⟩
    ·rw [decide_eq_true J]
     refine jB r (jB r (jB r (jB r (jB r (s (jN r r) (s (jZ r) (jB r (jB r (jB r (jB r (jB r (s (jN r r) (s (jZ r) (jB r (jB r (jB r (jB r (jB r (s (jN r r) (s (jZ r) (jB r (jB r (jB r (jB r (jB r (s (jN r r) (s (jZ r) (jB r (jB r (jB r (jB r (jB r (jB r (s (jN r r) (n (jH r (q (g (s (jU r) (n (kP ?_)))))))))))))))))))))))))))))))))))))))))
     obtain rfl:=sm a
     replace j:=oi j
     obtain rfl:=sm j
     exact jC r (kT r) ⟨r,(b.ad [] [])⟩
    rw [decide_eq_false J]
    refine jQ r (s (Cs r) (jQ r (s (l3 r (b.bk 0 r) r) (jQ r (s (Cs r) (jQ r (s (l3 r (b.bk 1 r) r) (jQ r (s (mI r r) (s (jX r r) (s (jZ r) ?_)))))))))))
    rcases iv a with ⟨K,a⟩|⟨K,a⟩
    ·rw [decide_eq_true K]
     refine jB r (jB r (jB r (jB r (jB r (s (jN r r) (s (jZ r) (jB r (jB r (jB r (jB r (jB r (s (jN r r) (s (jZ r) (jB r (jB r (jB r (jB r (jB r (s (jN r r) (s (jZ r) (jB r (jB r (jB r (jB r (jB r (jB r (s (jN r r) (n (jH r (q (g (s (jU r) (n (kP ?_))))))))))))))))))))))))))))))))))
     obtain rfl:=sm a
     replace j:=oi j
     obtain rfl:=sm j
     exact jC r (kT r) ⟨r,(b.ad [] [])⟩
    rw [decide_eq_false K]
    refine jQ r (s (Gu r) (jQ r (s (l3 r (b.bk 0 r) r) (jQ r (s (Gu r) (jQ r (s (l3 r (b.bk 1 r) r) (jQ r (s (mI r r) (s (jX r r) (s (jZ r) ?_)))))))))))
    rcases iv a with ⟨L,a⟩|⟨L,a⟩
    ·rw [decide_eq_true L]
     refine jB r (jB r (jB r (jB r (jB r (s (jN r r) (s (jZ r) (jB r (jB r (jB r (jB r (jB r (s (jN r r) (s (jZ r) (jB r (jB r (jB r (jB r (jB r (jB r (s (jN r r) (n (jH r (q (g (s (jU r) (n (kP ?_)))))))))))))))))))))))))))
     obtain rfl:=sm a
     replace j:=oi j
     obtain rfl:=sm j
     exact jC r (kT r) ⟨r,(b.ad [] [])⟩
    rw [decide_eq_false L]
    refine jQ r (s (Dq r) (jQ r (s (l9 r (b.bk 0 r) r) (jQ r (s (Dq r) (jQ r (s (l9 r (b.bk 1 r) r) (jQ r (s (yO r r) (s (jX r r) (s (jZ r) ?_)))))))))))
    rcases iv a with ⟨M,a⟩|⟨M,a⟩
    ·rw [decide_eq_true M]
     refine jB r (jB r (jB r (jB r (jB r (s (jN r r) (s (jZ r) (jB r (jB r (jB r (jB r (jB r (jB r (s (jN r r) (n (jH r (q (g (s (jU r) (n (kP ?_))))))))))))))))))))
     obtain rfl:=sm a
     replace j:=oi j
     obtain rfl:=sm j
     exact jC r (kT r) ⟨r,(b.ad [] [])⟩
    rw [decide_eq_false M]
    refine jQ r (s (G5 r) (jQ r (s (l9 r (b.bk 0 r) r) (jQ r (s (G5 r) (jQ r (s (l9 r (b.bk 1 r) r) (jQ r (s (yO r r) (s (jX r r) (s (jZ r) ?_)))))))))))
    rcases iv a with ⟨N,a⟩|⟨N,a⟩
    ·rw [decide_eq_true N]
     refine jB r (jB r (jB r (jB r (jB r (jB r (s (jN r r) (n (jH r (q (g (s (jU r) (n (kP ?_)))))))))))))
     obtain rfl:=sm a
     replace j:=oi j
     obtain rfl:=sm j
     exact jC r (kT r) ⟨r,(b.ad [] [])⟩
    rw [decide_eq_false N]
    refine jQ r (s (yS r) (jQ r (s (xe r (b.bk 0 r) r) (jQ r (s (yS r) (jQ r (s (xe r (b.bk 1 r) r) ?_)))))))
    obtain ⟨a7,a8,a⟩:=bs a
    refine jQ r ?_
    have hc:=H_same_Exprs (b.pr [] [0,1] [1,0] r)  a8
    refine sc (ec Mg r) hc ?_
    rintro _ an ⟨rfl,hK⟩
    replace b:=b.cn [] [0,1] hK
    refine jQ r (s (xc r) (s (jX r r) (n ?_)))
    rcases iv a with ⟨D,a⟩|⟨D,a⟩
    ·refine jH (cb D) (q (g (s (jU r) (n (kP ?_)))))
     obtain rfl:=sm a
     replace j:=oi j
     obtain rfl:=sm j
     exact jC r (kT r) ⟨r,(b.ad [] [])⟩
    replace D:=nt D
    exact jI (cb D) (wk (g (s (mi r) (s (kN r r) (s (xi r) (n (Y X _ _ (Nat.lt_succ_self _) ⟨(wr (h+1)),⟨r,r,r,y⟩,(b.ad [] [2,3]),a⟩)))))))
   exact jI (bf h3) (uW (W _ _ ⟨h,y,b,sm a⟩))
 clear b
 rintro f w ⟨h,hf,b,a9⟩
 obtain ⟨ay,rfl⟩:=gP _ _ hf
 clear hf
 subst a9
 replace j:=gi j
 refine q (g (s (jU r) (n (kP ?_))))
 obtain rfl:=sm j
 exact jC r (kT r) ⟨r,(b.dp [])⟩
theorem Gw (fu:Nat):yV (sj fu):=by
 induction fu with
 | zero=>exact by intro a b;intros;exact nn (by assumption)
 | succ fu ih=>exact Hw fu (sj fu) ih
theorem CU (fu:Nat):yV (sj fu):=(Gw fu)
abbrev zZ:=(List jM)→(List jM)→Bool→Option (Bool)
def y8 (m:(List Gs)→(List Gs)→Bool→Option (Bool)):Prop:=∀ {e:World} {k:Nat→Prop} {f:(List Gs)} {h:(List Gs)} {i:Bool} {a:Option Addr} {b:Nat} {c:Option Addr} {d:Nat} {j:Bool},Pre e k [] [.l a b f,.l c d h]→m f h i=some j→
 Calls Try.prog 77 #[Z a f b,Z c h d,.bool i] e (rf fun v w=>v=.bool j∧Bx e w k (lT []) [] [])
def wU (fu:Nat)(r_same_Stmts:zZ) (c:Bool) (a:Gs) (b:Gs):Option (Ld (Unit) (Bool)):=
 if a.e≠b.e then
  some (.out false)
 else
  if a.n≠b.n then
   some (.out false)
  else
   if ¬ a.a=b.a then
    some (.out false)
   else
    if ¬ a.g=b.g then
     some (.out false)
    else
     if a.m≠b.m then
      some (.out false)
     else
      if a.j≠b.j then
       some (.out false)
      else
       if ¬ a.k=b.k then
        some (.out false)
       else
        if a.h≠b.h then
         some (.out false)
        else
         if c=true then
          if a.c≠b.c then
           some (.out false)
          else
           some (.go ())
         else
          some (.go ())
def tV (fu:Nat)(r_same_Stmts:zZ) (j:(List Gs)) (k:(List Gs)) (i:Bool):Nat→Int→Option (Ld (Int) (Bool))
 | 0,_=>none
 | l+1,a=>
 if a < (j.length:Int) then
  (ix j a).bind fun f=>
  (ix k a).bind fun h=>
  (wU fu r_same_Stmts i f h).bind fun m=>m.el (fun _=>
  (sj fu f.d h.d).bind fun b=>
  if (!b)=true then
   some (.out false)
  else
   (sj fu f.b h.b).bind fun c=>
   if (!c)=true then
    some (.out false)
   else
    (r_same_Stmts f.f h.f i).bind fun d=>
    if (!d)=true then
     some (.out false)
    else
     (r_same_Stmts f.i h.i i).bind fun e=>
     if (!e)=true then
      some (.out false)
     else
      tV fu r_same_Stmts j k i l (wr (a+1))
  ) (fun o=>some (.out o))
 else
  some (.go a)
def xJ (fu:Nat)(r_same_Stmts:zZ) (a:(List Gs)) (b:(List Gs)) (d:Bool):Option (Bool):=
 if (a.length:Int)≠(b.length:Int) then
  some false
 else
  (tV fu r_same_Stmts a b d fu 0).bind fun e=>e.el (fun c=>
  some true
  ) (fun o=>some o)
def BV:Nat→((List Gs)→(List Gs)→Bool→Option (Bool))
 | 0=>(fun _ _ _=>none)
 | fu+1=>xJ fu (BV fu)
def rZ (fu:Nat):=(BV fu)
theorem Ht (fu:Nat)(r_same_Stmts:zZ) (H_same_Stmts:y8 r_same_Stmts):y8 (xJ fu r_same_Stmts):=by
 intro w0 bc x0 x1 x2 m o p t r0 hP j
 unfold xJ at j
 have c:=hP.bx
 clear hP
 generalize hG:lT _=G at c ⊢
 refine cf Try.func77 r (ma [(0,Z m x0 o),(1,Z p x1 t),(2,.bool x2)] ⟨r,r,r,y⟩ fun bd=>q (g (s (jU r) (n (q (q (g (s (mD r) (s (lg yH r) (s (mD r) (s (lg yH r) (s (mI r r) (n ?_)))))))))))))
 rcases iv j with ⟨h1,j⟩|⟨h1,j⟩
 ·refine jH (bt h1) (q (g (s (jU r) (n (kP ?_)))))
  obtain rfl:=sm j
  exact jC r (kT r) ⟨r,(c.dp [])⟩
 refine jI (bf h1) (wk (q (q (g (s (xi r) (n ?_))))))
 obtain ⟨Y2,a,j⟩:=bs j
 refine oC (fun f w=>∃ (u:Int),Has f []∧Bx w0 w bc G [] [.l m o x0,.l p t x1]∧Ld.go u=Y2) (fun J2 aw=>?_) ?_
 ·refine nZ (kH (fun bg f w=>∃ (u:Int),Has f [(0,Z m x0 o),(1,Z p x1 t),(2,.bool x2),(7,V u)]∧Bx w0 w bc G [] [.l m o x0,.l p t x1]∧tV fu r_same_Stmts x0 x1 x2 bg u=some Y2) fu ⟨0,⟨r,r,r,r,y⟩,c,a⟩ ?_)
  clear c a
  rintro n2 f w ⟨u,hf,c,a⟩ K2 a6
  obtain ⟨bd,rfl⟩:=gP _ _ hf
  clear hf
  cases n2 with
  | zero=>exact nn a
  | succ n2=>
   rw [tV] at a
   refine q (q (g (s (mi r) (s (mD r) (s (lg yH r) (s (qB r r) (n ?_)))))))
   rcases iv a with ⟨h3,a⟩|⟨h3,a⟩
   ·refine jH (bt h3) (wk (q (nZ (q ?_))))
    obtain ⟨e,a4,a⟩:=bs a
    obtain ⟨k4,az,a4⟩:=kG a4
    obtain ⟨aR,aA,c⟩:=c.nm 0 rfl a4
    obtain ⟨v,x,z,A,B,C,D,E,rfl,aj,ak,al,am⟩:=jM.out aA
    replace c:=c.ku (d:=.l v x e.d) aj
    replace c:=c.ku (d:=.l z A e.b) ak
    replace c:=c.ku (d:=.l B C e.f) al
    replace c:=c.ku (d:=.l D E e.i) am
    obtain ⟨h,a5,a⟩:=bs a
    obtain ⟨k6,aB,a5⟩:=kG a5
    obtain ⟨aS,aC,c⟩:=c.nm 6 rfl a5
    obtain ⟨F,H,I,J,K,L,M,N,rfl,an,ao,ap,aq⟩:=jM.out aC
    replace c:=c.ku (d:=.l F H h.d) an
    replace c:=c.ku (d:=.l I J h.b) ao
    replace c:=c.ku (d:=.l K L h.f) ap
    replace c:=c.ku (d:=.l M N h.i) aq
    refine oC (fun f w=>∃ (S:Nat)(U:Nat),Has f [(0,Z m x0 o),(1,Z p x1 t),(2,.bool x2),(7,V u),(8,Pt S),(9,Pt U)]∧Bx w0 w bc G [.box S 111 #[V e.e,V e.c,V e.n,T e.a,T e.g,V e.m,V e.j,Z v e.d x,T e.k,V e.h,Z z e.b A,Z B e.f C,Z D e.i E],.box U 111 #[V h.e,V h.c,V h.n,T h.a,T h.g,V h.m,V h.j,Z F h.d H,T h.k,V h.h,Z I h.b J,Z K h.f L,Z M h.i N]] [.l M N h.i,.l K L h.f,.l I J h.b,.l F H h.d,.l D E e.i,.l B C e.f,.l z A e.b,.l v x e.d,.l m o x0,.l p t x1]) (fun Jd hJd=>?_) ?_
    ·refine oJ c [] [0,1,2,3,4,5,6,7,8,9,10,11] [] (by kernel_rfl) ?_
     replace c:=c.drew
     have Q:=c
     refine pF 0 r (mD r) Q (pF 1 r (mi r) Q (pF 2 r (kZ yH jP r r az (c.dl 10 r) a4) Q (uF 3 r (fun hS=>oL [V e.e,V e.c,V e.n,T e.a,T e.g,V e.m,V e.j,Z v e.d x,T e.k,V e.h,Z z e.b A,Z B e.f C,Z D e.i E] lG r jP r r (hS.dc 9 r)) Q (pF 4 r (mD r) Q (pF 5 r (mi r) Q (pF 6 r (kZ yH jP r r aB (c.dl 11 r) a5) Q (uF 7 r (fun hS=>oL [V h.e,V h.c,V h.n,T h.a,T h.g,V h.m,V h.j,Z F h.d H,T h.k,V h.h,Z I h.b J,Z K h.f L,Z M h.i N] lG r jP r r (hS.dc 4 r)) Q (nI 8 [9] (by kernel_rfl) (jS ?_ (jS ?_ lX))))))))))
     ·refine oo r r (rM c (ko jP)) ?_
      rintro _ aT ⟨S,rfl,c⟩
      have Q:=(c.arr [] r)
      refine ⟨(sF Q),(hO 9 (oo r r (rM c (ko jP)) ?_))⟩
      rintro _ aU ⟨U,rfl,c⟩
      have Q:=(c.arr [] r)
      refine ⟨(sF Q),(hO 10 (os r r (nD c 1 [V e.e,V e.c,V e.n,T e.a,T e.g,V e.m,V e.j,Z v e.d x,T e.k,V e.h,Z z e.b A,Z B e.f C,Z D e.i E] r jP r r) fun aV c=>?_))⟩
      have Q:=(c.arr [] r)
      refine ⟨(sF Q),(hO 11 (os r r (nD c 0 [V h.e,V h.c,V h.n,T h.a,T h.g,V h.m,V h.j,Z F h.d H,T h.k,V h.h,Z I h.b J,Z K h.f L,Z M h.i N] r jP r r) fun aW c=>?_))⟩
      have Q:=(c.arr [] r)
      exact ⟨(sF Q),(hD (hJd _ _ ⟨S,U,⟨r,r,r,r,r,r,y⟩,(c.ad [1,0] [0,1,2,3,5,6,7,8,10,11])⟩))⟩
     refine oo r r (rM c (ko jP)) ?_
     rintro _ aX ⟨aD,rfl,c⟩
     have Q:=(c.arr [] r)
     refine ⟨(sF Q),(hO 8 (oo r r (rM c (ko jP)) ?_))⟩
     rintro _ aY ⟨aE,rfl,c⟩
     have Q:=(c.arr [] r)
     refine ⟨(sF Q),(hO 10 (os r r (nD c 0 [V e.e,V e.c,V e.n,T e.a,T e.g,V e.m,V e.j,Z v e.d x,T e.k,V e.h,Z z e.b A,Z B e.f C,Z D e.i E] r jP r r) fun aZ c=>?_))⟩
     have Q:=(c.arr [] r)
     refine ⟨(sF Q),(hO 11 (os r r (nD c 1 [V h.e,V h.c,V h.n,T h.a,T h.g,V h.m,V h.j,Z F h.d H,T h.k,V h.h,Z I h.b J,Z K h.f L,Z M h.i N] r jP r r) fun b0 c=>?_))⟩
     have Q:=(c.arr [] r)
     exact ⟨(sF Q),(hD (hJd _ _ ⟨aE,aD,⟨r,r,r,r,r,r,y⟩,(c.dp [0,1,2,3,5,6,7,8,10,11])⟩))⟩
    clear c
    rintro f w ⟨S,U,hf,c⟩
    obtain ⟨bd,rfl⟩:=gP _ _ hf
    clear hf
    refine q ?_
    obtain ⟨aF,b,a⟩:=bs a
    refine oC (fun f w=>Has f [(0,Z m x0 o),(1,Z p x1 t),(2,.bool x2),(7,V u),(8,Pt S),(9,Pt U)]∧Bx w0 w bc G [.box S 111 #[V e.e,V e.c,V e.n,T e.a,T e.g,V e.m,V e.j,Z v e.d x,T e.k,V e.h,Z z e.b A,Z B e.f C,Z D e.i E],.box U 111 #[V h.e,V h.c,V h.n,T h.a,T h.g,V h.m,V h.j,Z F h.d H,T h.k,V h.h,Z I h.b J,Z K h.f L,Z M h.i N]] [.l M N h.i,.l K L h.f,.l I J h.b,.l F H h.d,.l D E e.i,.l B C e.f,.l z A e.b,.l v x e.d,.l m o x0,.l p t x1]∧Ld.go ()=aF) (fun b1 W=>?_) ?_
    ·unfold wU at b
     refine q (g (s (uJ r) (s (l3 r (c.bk 0 r) r) (s (uJ r) (s (l3 r (c.bk 1 r) r) (s (mI r r) (s (jZ r) ?_)))))))
     rcases iv b with ⟨a7,b⟩|⟨a7,b⟩
     ·rw [decide_eq_true a7]
      refine jB r (jB r (jB r (jB r (jB r (s (jN r r) (s (jZ r) (jB r (jB r (jB r (jB r (jB r (s (jN r r) (s (jZ r) (jB r (jB r (jB r (jB r (jB r (s (jN r r) (s (jZ r) (jB r (jB r (jB r (jB r (jB r (s (jN r r) (s (jZ r) (jB r (jB r (jB r (jB r (jB r (s (jN r r) (s (jZ r) (jB r (jB r (jB r (jB r (jB r (s (jN r r) (s (jZ r) (jB r (jB r (jB r (jB r (jB r (s (jN r r) (s (jZ r) (jB r (jB r (jB r (jB r (jB r (jB r (jB r (jB r (s (jN r r) (n (jH r (q (g (s (jU r) (n (kP ?_))))))))))))))))))))))))))))))))))))))))))))))))))))))))))))))))
      obtain rfl:=sm b
      replace a:=oi a
      obtain rfl:=sm a
      replace j:=oi j
      obtain rfl:=sm j
      exact jC r (kT r) ⟨r,(c.ad [] [])⟩
     rw [decide_eq_false a7]
     refine jQ r (s (Df r) (jQ r (s (l3 r (c.bk 0 r) r) (jQ r (s (Df r) (jQ r (s (l3 r (c.bk 1 r) r) (jQ r (s (mI r r) (s (jX r r) (s (jZ r) ?_)))))))))))
     rcases iv b with ⟨a8,b⟩|⟨a8,b⟩
     ·rw [decide_eq_true a8]
      refine jB r (jB r (jB r (jB r (jB r (s (jN r r) (s (jZ r) (jB r (jB r (jB r (jB r (jB r (s (jN r r) (s (jZ r) (jB r (jB r (jB r (jB r (jB r (s (jN r r) (s (jZ r) (jB r (jB r (jB r (jB r (jB r (s (jN r r) (s (jZ r) (jB r (jB r (jB r (jB r (jB r (s (jN r r) (s (jZ r) (jB r (jB r (jB r (jB r (jB r (s (jN r r) (s (jZ r) (jB r (jB r (jB r (jB r (jB r (jB r (jB r (jB r (s (jN r r) (n (jH r (q (g (s (jU r) (n (kP ?_)))))))))))))))))))))))))))))))))))))))))))))))))))))))))
      obtain rfl:=sm b
      replace a:=oi a
      obtain rfl:=sm a
      replace j:=oi j
      obtain rfl:=sm j
      exact jC r (kT r) ⟨r,(c.ad [] [])⟩
     rw [decide_eq_false a8]
     refine jQ r (s (xu r) (jQ r (s (l9 r (c.bk 0 r) r) (jQ r (s (xu r) (jQ r (s (l9 r (c.bk 1 r) r) (jQ r (s (yO r r) (s (jX r r) (s (jZ r) ?_)))))))))))
     rcases iv b with ⟨a9,b⟩|⟨a9,b⟩
     ·rw [decide_eq_true a9]
      refine jB r (jB r (jB r (jB r (jB r (s (jN r r) (s (jZ r) (jB r (jB r (jB r (jB r (jB r (s (jN r r) (s (jZ r) (jB r (jB r (jB r (jB r (jB r (s (jN r r) (s (jZ r) (jB r (jB r (jB r (jB r (jB r (s (jN r r) (s (jZ r) (jB r (jB r (jB r (jB r (jB r (s (jN r r) (s (jZ r) (jB r (jB r (jB r (jB r (jB r (jB r (jB r (jB r (s (jN r r) (n (jH r (q (g (s (jU r) (n (kP ?_))))))))))))))))))))))))))))))))))))))))))))))))))
      obtain rfl:=sm b
      replace a:=oi a
      obtain rfl:=sm a
      replace j:=oi j
      obtain rfl:=sm j
      exact jC r (kT r) ⟨r,(c.ad [] [])⟩
     rw [decide_eq_false a9]
     refine jQ r (s (BH r) (jQ r (s (l9 r (c.bk 0 r) r) (jQ r (s (BH r) (jQ r (s (l9 r (c.bk 1 r) r) (jQ r (s (yO r r) (s (jX r r) (s (jZ r) ?_)))))))))))
     rcases iv b with ⟨aa,b⟩|⟨aa,b⟩
     ·rw [decide_eq_true aa]
      refine jB r (jB r (jB r (jB r (jB r (s (jN r r) (s (jZ r) (jB r (jB r (jB r (jB r (jB r (s (jN r r) (s (jZ r) (jB r (jB r (jB r (jB r (jB r (s (jN r r) (s (jZ r) (jB r (jB r (jB r (jB r (jB r (s (jN r r) (s (jZ r) (jB r (jB r (jB r (jB r (jB r (jB r (jB r (jB r (s (jN r r) (n (jH r (q (g (s (jU r) (n (kP ?_)))))))))))))))))))))))))))))))))))))))))))
      obtain rfl:=sm b
      replace a:=oi a
      obtain rfl:=sm a
      replace j:=oi j
      obtain rfl:=sm j
      exact jC r (kT r) ⟨r,(c.ad [] [])⟩
     rw [decide_eq_false aa]
     refine jQ r (s (zN r) (jQ r (s (l3 r (c.bk 0 r) r) (jQ r (s (zN r) (jQ r (s (l3 r (c.bk 1 r) r) (jQ r (s (mI r r) (s (jX r r) (s (jZ r) ?_)))))))))))
     rcases iv b with ⟨ab,b⟩|⟨ab,b⟩
     ·rw [decide_eq_true ab]
      refine jB r (jB r (jB r (jB r (jB r (s (jN r r) (s (jZ r) (jB r (jB r (jB r (jB r (jB r (s (jN r r) (s (jZ r) (jB r (jB r (jB r (jB r (jB r (s (jN r r) (s (jZ r) (jB r (jB r (jB r (jB r (jB r (jB r (jB r (jB r (s (jN r r) (n (jH r (q (g (s (jU r) (n (kP ?_))))))))))))))))))))))))))))))))))))
      obtain rfl:=sm b
      replace a:=oi a
      obtain rfl:=sm a
      replace j:=oi j
      obtain rfl:=sm j
      exact jC r (kT r) ⟨r,(c.ad [] [])⟩
     rw [decide_eq_false ab]
     refine jQ r (s (Dl r) (jQ r (s (l3 r (c.bk 0 r) r) (jQ r (s (Dl r) (jQ r (s (l3 r (c.bk 1 r) r) (jQ r (s (mI r r) (s (jX r r) (s (jZ r) ?_)))))))))))
     rcases iv b with ⟨ac,b⟩|⟨ac,b⟩
     ·rw [decide_eq_true ac]
      refine jB r (jB r (jB r (jB r (jB r (s (jN r r) (s (jZ r) (jB r (jB r (jB r (jB r (jB r (s (jN r r) (s (jZ r) (jB r (jB r (jB r (jB r (jB r (jB r (jB r (jB r (s (jN r r) (n (jH r (q (g (s (jU r) (n (kP ?_)))))))))))))))))))))))))))))
      obtain rfl:=sm b
      replace a:=oi a
      obtain rfl:=sm a
      replace j:=oi j
      obtain rfl:=sm j
      exact jC r (kT r) ⟨r,(c.ad [] [])⟩
     rw [decide_eq_false ac]
     refine jQ r (s (Ai r) (jQ r (s (l9 r (c.bk 0 r) r) (jQ r (s (Ai r) (jQ r (s (l9 r (c.bk 1 r) r) (jQ r (s (yO r r) (s (jX r r) (s (jZ r) ?_)))))))))))
     rcases iv b with ⟨ae,b⟩|⟨ae,b⟩
     ·rw [decide_eq_true ae]
      refine jB r (jB r (jB r (jB r (jB r (s (jN r r) (s (jZ r) (jB r (jB r (jB r (jB r (jB r (jB r (jB r (jB r (s (jN r r) (n (jH r (q (g (s (jU r) (n (kP ?_))))))))))))))))))))))
      obtain rfl:=sm b
      replace a:=oi a
      obtain rfl:=sm a
      replace j:=oi j
      obtain rfl:=sm j
      exact jC r (kT r) ⟨r,(c.ad [] [])⟩
     rw [decide_eq_false ae]
     refine jQ r (s (Eo r) (jQ r (s (l3 r (c.bk 0 r) r) (jQ r (s (Eo r) (jQ r (s (l3 r (c.bk 1 r) r) (jQ r (s (mI r r) (s (jX r r) (s (jZ r) ?_)))))))))))
     rcases iv b with ⟨af,b⟩|⟨af,b⟩
     ·rw [decide_eq_true af]
      refine jB r (jB r (jB r (jB r (jB r (jB r (jB r (jB r (s (jN r r) (n (jH r (q (g (s (jU r) (n (kP ?_)))))))))))))))
      obtain rfl:=sm b
      replace a:=oi a
      obtain rfl:=sm a
      replace j:=oi j
      obtain rfl:=sm j
      exact jC r (kT r) ⟨r,(c.ad [] [])⟩
     rw [decide_eq_false af]
     refine jQ r (s (jZ r) (jQ r (s (jZ r) ?_)))
     rcases iv b with ⟨R,b⟩|⟨R,b⟩
     ·rw [R]
      rw [R] at a6
      rw [R] at W
      try dsimp only [Z] at b
      try rw [R] at b
      refine jQ r (s (xm r) (jQ r (s (l3 r (c.bk 0 r) r) (jQ r (s (xm r) (jQ r (s (l3 r (c.bk 1 r) r) (jQ r (s (mI r r) (jQ r (s (jN r r) (s (jX r r) (n ?_)))))))))))))
      rcases iv b with ⟨ag,b⟩|⟨ag,b⟩
      ·refine jH (bt ag) (q (g (s (jU r) (n (kP ?_)))))
       obtain rfl:=sm b
       replace a:=oi a
       obtain rfl:=sm a
       replace j:=oi j
       obtain rfl:=sm j
       exact jC r (kT r) ⟨r,(c.ad [] [])⟩
      exact jI (bf ag) (wk (W _ _ ⟨⟨r,r,r,r,r,r,y⟩,c,sm b⟩))
     replace R:=nt R
     rw [R]
     rw [R] at a6
     rw [R] at W
     try dsimp only [Z] at b
     try rw [R] at b
     exact jB r (jB r (jB r (jB r (jB r (jQ r (s (jX r r) (s (jX r r) (n (jI r (wk (W _ _ ⟨⟨r,r,r,r,r,r,y⟩,c,sm b⟩)))))))))))
    clear c
    rintro f w ⟨hf,c,ar⟩
    obtain ⟨bd,rfl⟩:=gP _ _ hf
    clear hf
    subst ar
    replace a:=gi a
    refine q (g (s (uA r) (s (xe r (c.bk 0 r) r) (s (uA r) (s (xe r (c.bk 1 r) r) ?_)))))
    obtain ⟨aG,aH,a⟩:=bs a
    have hc:=(CU fu) (c.pr [] [0,1] [7,3] r)  aH
    refine sc (ec Mg r) hc ?_
    rintro _ b2 ⟨rfl,hK⟩
    replace c:=c.cn [] [0,1] hK
    refine s (xc r) (s (jZ r) ?_)
    rcases iv a with ⟨X,a⟩|⟨X,a⟩
    ·rw [X]
     refine jB r (jB r (jB r (jB r (jB r (jB r (s (jN r r) (s (jZ r) (jB r (jB r (jB r (jB r (jB r (jB r (jB r (s (jN r r) (s (jZ r) (jB r (jB r (jB r (jB r (jB r (jB r (jB r (s (jN r r) (n (jH r (q (g (s (jU r) (n (kP ?_)))))))))))))))))))))))))))))))
     obtain rfl:=sm a
     replace j:=oi j
     obtain rfl:=sm j
     exact jC r (kT r) ⟨r,(c.ad [] [])⟩
    replace X:=nt X
    rw [X]
    refine jQ r (s (qD r) (jQ r (s (xe r (c.bk 0 r) r) (jQ r (s (qD r) (jQ r (s (xe r (c.bk 1 r) r) ?_)))))))
    obtain ⟨aI,aJ,a⟩:=bs a
    refine jQ r ?_
    have hc:=(CU fu) (c.pr [] [0,1] [6,2] r)  aJ
    refine sc (ec Mg r) hc ?_
    rintro _ b3 ⟨rfl,hK⟩
    replace c:=c.cn [] [0,1] hK
    refine jQ r (s (xc r) (s (jX r r) (s (jZ r) ?_)))
    rcases iv a with ⟨Y,a⟩|⟨Y,a⟩
    ·rw [Y]
     refine jB r (jB r (jB r (jB r (jB r (jB r (jB r (s (jN r r) (s (jZ r) (jB r (jB r (jB r (jB r (jB r (jB r (jB r (s (jN r r) (n (jH r (q (g (s (jU r) (n (kP ?_)))))))))))))))))))))))
     obtain rfl:=sm a
     replace j:=oi j
     obtain rfl:=sm j
     exact jC r (kT r) ⟨r,(c.ad [] [])⟩
    replace Y:=nt Y
    rw [Y]
    refine jQ r (s (uo r) (jQ r (s (FV r (c.bk 0 r) r) (jQ r (s (uo r) (jQ r (s (FV r (c.bk 1 r) r) (jQ r (s (jZ r) ?_)))))))))
    obtain ⟨aK,aL,a⟩:=bs a
    refine jQ r ?_
    have hc:=H_same_Stmts (c.pr [] [0,1] [5,1] r)  aL
    refine sc (ec Nf r) hc ?_
    rintro _ b4 ⟨rfl,hK⟩
    replace c:=c.cn [] [0,1] hK
    refine jQ r (s (xc r) (s (jX r r) (s (jZ r) ?_)))
    rcases iv a with ⟨a0,a⟩|⟨a0,a⟩
    ·rw [a0]
     refine jB r (jB r (jB r (jB r (jB r (jB r (jB r (s (jN r r) (n (jH r (q (g (s (jU r) (n (kP ?_))))))))))))))
     obtain rfl:=sm a
     replace j:=oi j
     obtain rfl:=sm j
     exact jC r (kT r) ⟨r,(c.ad [] [])⟩
    replace a0:=nt a0
    rw [a0]
    refine jQ r (s (tZ r) (jQ r (s (FV r (c.bk 0 r) r) (jQ r (s (tZ r) (jQ r (s (FV r (c.bk 1 r) r) (jQ r (s (jZ r) ?_)))))))))
    obtain ⟨aM,aN,a⟩:=bs a
    refine jQ r ?_
    have hc:=H_same_Stmts (c.pr [] [0,1] [4,0] r)  aN
    refine sc (ec Nf r) hc ?_
    rintro _ b5 ⟨rfl,hK⟩
    replace c:=c.cn [] [0,1] hK
    refine jQ r (s (xc r) (s (jX r r) (n ?_)))
    rcases iv a with ⟨a1,a⟩|⟨a1,a⟩
    ·refine jH (cb a1) (q (g (s (jU r) (n (kP ?_)))))
     obtain rfl:=sm a
     replace j:=oi j
     obtain rfl:=sm j
     exact jC r (kT r) ⟨r,(c.ad [] [])⟩
    replace a1:=nt a1
    exact jI (cb a1) (wk (g (s (mi r) (s (kN r r) (s (xi r) (n (a6 n2 _ _ (Nat.lt_succ_self _) ⟨(wr (u+1)),⟨r,r,r,r,y⟩,(c.ad [] [8,9]),a⟩)))))))
   exact jI (bf h3) (uW (aw _ _ ⟨u,y,c,sm a⟩))
 clear c
 rintro f w ⟨u,hf,c,aO⟩
 obtain ⟨bd,rfl⟩:=gP _ _ hf
 clear hf
 subst aO
 replace j:=gi j
 refine q (g (s (jU r) (n (kP ?_))))
 obtain rfl:=sm j
 exact jC r (kT r) ⟨r,(c.dp [])⟩
theorem Ho (fu:Nat):y8 (rZ fu):=by
 induction fu with
 | zero=>exact by intro a b;intros;exact nn (by assumption)
 | succ fu ih=>exact Ht fu (rZ fu) ih
theorem CX (fu:Nat):y8 (rZ fu):=(Ho fu)
def FR (m:jJ→jJ→Bool→Option (Bool)):Prop:=∀ {o:World} {u:Nat→Prop} {j:jJ} {k:jJ} {p:Bool} {a:Option Addr} {b:Nat} {c:Option Addr} {d:Nat} {e:Option Addr} {f:Nat} {h:Option Addr} {i:Nat} {t:Bool},Pre o u [] [.l a b j.a,.l c d j.b,.l e f k.a,.l h i k.b]→m j k p=some t→
 Calls Try.prog 52 #[.agg #[Z a j.a b,Z c j.b d],.agg #[Z e k.a f,Z h k.b i],.bool p] o (rf fun v w=>v=.bool t∧Bx o w u (lT []) [] [])
def qY (fu:Nat)(c:jJ) (d:jJ):Nat→Int→Option (Ld (Int) (Bool))
 | 0,_=>none
 | h+1,a=>
 if a < (c.a.length:Int) then
  (ix c.a a).bind fun e=>
  (ix d.a a).bind fun f=>
  if ¬ e.a=f.a then
   some (.out false)
  else
   (uy fu e.b f.b).bind fun b=>
   if (!b)=true then
    some (.out false)
   else
    qY fu c d h (wr (a+1))
 else
  some (.go a)
def qb (fu:Nat)(j:jJ) (k:jJ) (l:Bool):Nat→Int→Option (Ld (Int) (Bool))
 | 0,_=>none
 | i+1,a=>
 if a < (j.b.length:Int) then
  (ix j.b a).bind fun b=>
  (ix k.b a).bind fun c=>
  if ¬ b.a=c.a then
   some (.out false)
  else
   if l=true then
    if b.c≠c.c then
     some (.out false)
    else
     (uy fu b.b c.b).bind fun d=>
     if (!d)=true then
      some (.out false)
     else
      (rZ fu b.f c.f true).bind fun e=>
      if (!e)=true then
       some (.out false)
      else
       qb fu j k l i (wr (a+1))
   else
    (uy fu b.b c.b).bind fun f=>
    if (!f)=true then
     some (.out false)
    else
     (rZ fu b.f c.f false).bind fun h=>
     if (!h)=true then
      some (.out false)
     else
      qb fu j k l i (wr (a+1))
 else
  some (.go a)
def vN (fu:Nat)(a:jJ) (b:jJ) (e:Bool):Option (Bool):=
 if (a.a.length:Int)≠(b.a.length:Int) then
  some false
 else
  if (a.b.length:Int)≠(b.b.length:Int) then
   some false
  else
   (qY fu a b fu 0).bind fun f=>f.el (fun d=>
   (qb fu a b e fu 0).bind fun f=>f.el (fun c=>
   some true
   ) (fun o=>some o)
   ) (fun o=>some o)
theorem FP (fu:Nat):FR (vN fu):=by
 intro w0 bD M N x2 m o p t u v x z r0 hP B
 unfold vN at B
 have b:=hP.bx
 clear hP
 generalize hG:lT _=G at b ⊢
 refine cf Try.func52 r (ma [(0,.agg #[Z m M.a o,Z p M.b t]),(1,.agg #[Z u N.a v,Z x N.b z]),(2,.bool x2)] ⟨r,r,r,y⟩ fun bE=>q (g (tL b (yI r) fun w1 b1 b=>tL b (yI r) fun w2 b2 b=>s (jU r) (n (q (q (g (s (wE r) (s (JP r (b.bk 1 r) r) (s (lg AC r) (s (wE r) (s (JP r (b.bk 0 r) r) (s (lg AC r) (s (mI r r) (s (jZ r) ?_)))))))))))))))
 rcases iv B with ⟨h3,B⟩|⟨h3,B⟩
 ·rw [decide_eq_true h3]
  refine jB r (jB r (jB r (jB r (jB r (jB r (jB r (s (jN r r) (n (jH r (q (g (s (jU r) (n (kP ?_))))))))))))))
  obtain rfl:=sm B
  exact jC r (kT r) ⟨r,(b.ad [] [])⟩
 rw [decide_eq_false h3]
 refine jQ r (s (vS r) (jQ r (s (Iq r (b.bk 1 r) r) (jQ r (s (lg yR r) (jQ r (s (vS r) (jQ r (s (Iq r (b.bk 0 r) r) (jQ r (s (lg yR r) (jQ r (s (mI r r) (s (jX r r) (n ?_)))))))))))))))
 rcases iv B with ⟨h4,B⟩|⟨h4,B⟩
 ·refine jH (bt h4) (q (g (s (jU r) (n (kP ?_)))))
  obtain rfl:=sm B
  exact jC r (kT r) ⟨r,(b.ad [] [])⟩
 refine jI (bf h4) (wk (q (q (g (s (xi r) (n ?_))))))
 obtain ⟨Y5,j,B⟩:=bs B
 refine oC (fun f w=>∃ (L:Int),Has f [(2,.bool x2),(3,Pt b1),(4,Pt b2)]∧Bx w0 w bD G [.box b2 26 #[Z u N.a v,Z x N.b z],.box b1 26 #[Z m M.a o,Z p M.b t]] [.l m o M.a,.l p t M.b,.l u v N.a,.l x z N.b]∧Ld.go L=Y5) (fun J5 aF=>?_) ?_
 ·refine nZ (kH (fun bF f w=>∃ (L:Int),Has f [(2,.bool x2),(3,Pt b1),(4,Pt b2),(7,V L)]∧Bx w0 w bD G [.box b2 26 #[Z u N.a v,Z x N.b z],.box b1 26 #[Z m M.a o,Z p M.b t]] [.l m o M.a,.l p t M.b,.l u v N.a,.l x z N.b]∧qY fu M N bF L=some Y5) fu ⟨0,⟨r,r,r,r,y⟩,b,j⟩ ?_)
  clear b j
  rintro n5 f w ⟨L,hf,b,j⟩ K5 aH
  obtain ⟨bE,rfl⟩:=gP _ _ hf
  clear hf
  cases n5 with
  | zero=>exact nn j
  | succ n5=>
   rw [qY] at j
   refine q (q (g (s (mi r) (s (wE r) (s (JP r (b.bk 1 r) r) (s (lg AC r) (s (qB r r) (n ?_))))))))
   rcases iv j with ⟨h6,j⟩|⟨h6,j⟩
   ·refine jH (bt h6) (wk (q (nZ (q ?_))))
    obtain ⟨e7,W,j⟩:=bs j
    obtain ⟨k7,ao,W⟩:=kG W
    obtain ⟨b5,aJ,b⟩:=b.nm 0 rfl W
    obtain ⟨ap,aq,rfl,ar⟩:=kD.out aJ
    replace b:=b.ku (d:=.l ap aq e7.b) ar
    obtain ⟨e9,X,j⟩:=bs j
    obtain ⟨k9,au,X⟩:=kG X
    obtain ⟨aZ,av,b⟩:=b.nm 4 rfl X
    obtain ⟨aa,ab,rfl,ac⟩:=kD.out av
    replace b:=b.ku (d:=.l aa ab e9.b) ac
    refine oJ b [0,1] [0,1,2,3,4,6] [] (by kernel_rfl) ?_
    replace b:=b.drew
    have c:=(b.dp [0,1,2,3,4,6])
    refine pF 0 r (wE r) c (uF 1 r (fun hS=>JP r (hS.bk 1 r) r) c (pF 2 r (mi r) c (pF 3 r (kZ AC tu r r ao (b.dl 4 r) W) c (pF 4 r (Ci r) c (uF 5 r (fun hS=>kz rH r r ((hS.dc 3 r) 0 _ r)) c (pF 6 r (wE r) c (uF 7 r (fun hS=>JP r (hS.bk 0 r) r) c (pF 8 r (mi r) c (pF 9 r (kZ AC tu r r au (b.dl 6 r) X) c (pF 10 r (Ci r) c (uF 11 r (fun hS=>kz rH r r ((hS.dc 1 r) 0 _ r)) c (pF 12 r (yO r r) c (pF 13 r (jZ r) c ?_)))))))))))))
    rcases iv j with ⟨ae,j⟩|⟨ae,j⟩
    ·rw [decide_eq_true ae]
     have c:=(b.dp [0,1,2,3,4,6])
     refine pM 14 r (by kernel_rfl) r (sF c) (pM 15 r (by kernel_rfl) r (sF c) (pM 16 r (by kernel_rfl) r (sF c) (pM 17 r (by kernel_rfl) r (sF c) (pM 18 r (by kernel_rfl) r (sF c) (pM 19 r (by kernel_rfl) r (sF c) (pM 20 r (by kernel_rfl) r (sF c) (pM 21 r (by kernel_rfl) r (sF c) (pM 22 r (by kernel_rfl) r (sF c) (pM 23 r (by kernel_rfl) r (sF c) (pM 24 r (by kernel_rfl) r (sF c) (pM 25 r (by kernel_rfl) r (sF c) (pM 26 r (by kernel_rfl) r (sF c) (pM 27 r (by kernel_rfl) r (sF c) (pF 28 r (jN r r) c (hD (jH r (q (g (s (jU r) (n (kP ?_)))))))))))))))))))))
     obtain rfl:=sm j
     replace B:=oi B
     obtain rfl:=sm B
     exact jC r (kT r) ⟨r,(b.ad [] [])⟩
    rw [decide_eq_false ae]
    have c:=(b.dp [0,1,2,3,4,6])
    refine pF 14 r (wE r) c (uF 15 r (fun hS=>JP r (hS.bk 1 r) r) c (pF 16 r (mi r) c (pF 17 r (kZ AC tu r r ao (b.dl 4 r) W) c (pF 18 r (wC r) c (uF 19 r (fun hS=>kz kL r r ((hS.dc 3 r) 1 _ r)) c (pF 20 r (wE r) c (uF 21 r (fun hS=>JP r (hS.bk 0 r) r) c (pF 22 r (mi r) c (pF 23 r (kZ AC tu r r au (b.dl 6 r) X) c (pF 24 r (wC r) c (uF 25 r (fun hS=>kz kL r r ((hS.dc 1 r) 1 _ r)) c ?_)))))))))))
    obtain ⟨aK,aL,j⟩:=bs j
    have hc:=(AB fu) (b.pr [] [0,1] [2,0] r)  aL
    refine hO 26 (oc r r (ec Om r) hc ?_)
    rintro _ b7 ⟨rfl,hK⟩
    replace b:=b.cn [] [0,1] hK
    have c:=(b.dp [0,1,2,3,4,6])
    refine ⟨(sF c),(pF 27 r (xc r) c (pF 28 r (jX r r) c (hD ?_)))⟩
    rcases iv j with ⟨Y,j⟩|⟨Y,j⟩
    ·refine jH (cb Y) (q (g (s (jU r) (n (kP ?_)))))
     obtain rfl:=sm j
     replace B:=oi B
     obtain rfl:=sm B
     exact jC r (kT r) ⟨r,(b.ad [] [])⟩
    replace Y:=nt Y
    exact jI (cb Y) (wk (g (s (mi r) (s (kN r r) (s (xi r) (n (aH n5 _ _ (Nat.lt_succ_self _) ⟨(wr (L+1)),⟨r,r,r,r,y⟩,(b.dp [4,5,6,7]),j⟩)))))))
   exact jI (bf h6) (uW (aF _ _ ⟨L,⟨r,r,r,y⟩,b,sm j⟩))
 clear b
 rintro f w ⟨L,hf,b,aM⟩
 obtain ⟨bE,rfl⟩:=gP _ _ hf
 clear hf
 subst aM
 replace B:=gi B
 refine q (q (g (s (xi r) (n ?_))))
 obtain ⟨aw,a,B⟩:=bs B
 refine oC (fun f w=>∃ (A:Int),Has f []∧Bx w0 w bD G [.box b2 26 #[Z u N.a v,Z x N.b z],.box b1 26 #[Z m M.a o,Z p M.b t]] [.l m o M.a,.l p t M.b,.l u v N.a,.l x z N.b]∧Ld.go A=aw) (fun b8 ax=>?_) ?_
 ·refine nZ (kH (fun bF f w=>∃ (A:Int),Has f [(2,.bool x2),(3,Pt b1),(4,Pt b2),(8,V A)]∧Bx w0 w bD G [.box b2 26 #[Z u N.a v,Z x N.b z],.box b1 26 #[Z m M.a o,Z p M.b t]] [.l m o M.a,.l p t M.b,.l u v N.a,.l x z N.b]∧qb fu M N x2 bF A=some aw) fu ⟨0,⟨r,r,r,r,y⟩,b,a⟩ ?_)
  clear b a
  rintro a9 f w ⟨A,hf,b,a⟩ b9 R
  obtain ⟨bE,rfl⟩:=gP _ _ hf
  clear hf
  cases a9 with
  | zero=>exact nn a
  | succ a9=>
   rw [qb] at a
   refine q (q (g (s (mi r) (s (vS r) (s (Iq r (b.bk 1 r) r) (s (lg yR r) (s (qB r r) (n ?_))))))))
   rcases iv a with ⟨af,a⟩|⟨af,a⟩
   ·refine jH (bt af) (wk (q (nZ (q ?_))))
    obtain ⟨e,S,a⟩:=bs a
    obtain ⟨ba,ay,S⟩:=kG S
    obtain ⟨b0,az,b⟩:=b.nm 1 rfl S
    obtain ⟨C,D,E,F,rfl,ag,ah⟩:=kC.out az
    replace b:=b.ku (d:=.l C D e.b) ag
    replace b:=b.ku (d:=.l E F e.f) ah
    obtain ⟨h,U,a⟩:=bs a
    obtain ⟨bb,aA,U⟩:=kG U
    obtain ⟨b3,aB,b⟩:=b.nm 6 rfl U
    obtain ⟨H,I,J,K,rfl,ai,aj⟩:=kC.out aB
    replace b:=b.ku (d:=.l H I h.b) ai
    replace b:=b.ku (d:=.l J K h.f) aj
    refine oC (fun f w=>∃ (a0:Nat)(a1:Nat),Has f [(2,.bool x2),(3,Pt b1),(4,Pt b2),(8,V A),(9,Pt a0),(10,Pt a1)]∧Bx w0 w bD G [.box b2 26 #[Z u N.a v,Z x N.b z],.box b1 26 #[Z m M.a o,Z p M.b t],.box a0 82 #[T e.a,V e.c,Z C e.b D,Z E e.f F],.box a1 82 #[T h.a,V h.c,Z H h.b I,Z J h.f K]] [.l J K h.f,.l H I h.b,.l E F e.f,.l C D e.b,.l m o M.a,.l p t M.b,.l u v N.a,.l x z N.b]) (fun Jd hJd=>?_) ?_
    ·refine oJ b [0,1] [0,1,2,3,4,5,7,9] [] (by kernel_rfl) ?_
     replace b:=b.drew
     have c:=(b.dp [0,1,2,3,4,5,7,9])
     refine pF 0 r (vS r) c (uF 1 r (fun hS=>Iq r (hS.bk 1 r) r) c (pF 2 r (mi r) c (pF 3 r (kZ yR mX r r ay (b.dl 7 r) S) c (uF 4 r (fun hS=>oL [T e.a,V e.c,Z C e.b D,Z E e.f F] Bv r mX r r (hS.dc 5 r)) c (pF 5 r (vS r) c (uF 6 r (fun hS=>Iq r (hS.bk 0 r) r) c (pF 7 r (mi r) c (pF 8 r (kZ yR mX r r aA (b.dl 9 r) U) c (uF 9 r (fun hS=>oL [T h.a,V h.c,Z H h.b I,Z J h.f K] Bv r mX r r (hS.dc 2 r)) c (nI 10 [11] (by kernel_rfl) (jS ?_ (jS ?_ lX))))))))))))
     ·refine oo r r (rM b (ko mX)) ?_
      rintro _ bc ⟨a0,rfl,b⟩
      have c:=(b.ad [1,2] [0,1,2,3,4,5,7,9])
      refine ⟨(sF c),(hO 11 (oo r r (rM b (ko mX)) ?_))⟩
      rintro _ bd ⟨a1,rfl,b⟩
      have c:=(b.ad [2,3] [0,1,2,3,4,5,7,9])
      refine ⟨(sF c),(hO 12 (os r r (nD b 1 [T e.a,V e.c,Z C e.b D,Z E e.f F] r mX r r) fun bg b=>?_))⟩
      have c:=(b.ad [2,3] [0,1,2,3,4,5,7,9])
      refine ⟨(sF c),(hO 13 (os r r (nD b 0 [T h.a,V h.c,Z H h.b I,Z J h.f K] r mX r r) fun bh b=>?_))⟩
      have c:=(b.ad [2,3] [0,1,2,3,4,5,7,9])
      exact ⟨(sF c),(hD (hJd _ _ ⟨a0,a1,⟨r,r,r,r,r,r,y⟩,(b.ad [2,3,1,0] [0,1,3,4,6,7,8,9])⟩))⟩
     refine oo r r (rM b (ko mX)) ?_
     rintro _ bi ⟨aN,rfl,b⟩
     have c:=(b.ad [1,2] [0,1,2,3,4,5,7,9])
     refine ⟨(sF c),(hO 10 (oo r r (rM b (ko mX)) ?_))⟩
     rintro _ bj ⟨aO,rfl,b⟩
     have c:=(b.ad [2,3] [0,1,2,3,4,5,7,9])
     refine ⟨(sF c),(hO 12 (os r r (nD b 0 [T e.a,V e.c,Z C e.b D,Z E e.f F] r mX r r) fun bl b=>?_))⟩
     have c:=(b.ad [2,3] [0,1,2,3,4,5,7,9])
     refine ⟨(sF c),(hO 13 (os r r (nD b 1 [T h.a,V h.c,Z H h.b I,Z J h.f K] r mX r r) fun bm b=>?_))⟩
     have c:=(b.ad [2,3] [0,1,2,3,4,5,7,9])
     exact ⟨(sF c),(hD (hJd _ _ ⟨aO,aN,⟨r,r,r,r,r,r,y⟩,(b.ad [2,3,0,1] [0,1,3,4,6,7,8,9])⟩))⟩
    clear b
    rintro f w ⟨a0,a1,hf,b⟩
    obtain ⟨bE,rfl⟩:=gP _ _ hf
    clear hf
    refine q (g (s (CP r) (s (l9 r (b.bk 2 r) r) (s (CP r) (s (l9 r (b.bk 3 r) r) (s (yO r r) (s (jZ r) ?_)))))))
    rcases iv a with ⟨ak,a⟩|⟨ak,a⟩
    ·rw [decide_eq_true ak]
     refine jB r (jB r (jB r (jB r (jB r (jB r (jB r (jB r (s (jN r r) (s (jZ r) (jB r (jB r (jB r (jB r (jB r (jB r (s (jN r r) (s (jZ r) (jB r (jB r (jB r (jB r (jB r (jB r (jB r (s (jN r r) (n (jH r (q (g (s (jU r) (n (kP ?_))))))))))))))))))))))))))))))))
     obtain rfl:=sm a
     replace B:=oi B
     obtain rfl:=sm B
     exact jC r (kT r) ⟨r,(b.ad [] [])⟩
    rw [decide_eq_false ak]
    refine jQ r (s (jZ r) (jQ r (s (jZ r) ?_)))
    rcases iv a with ⟨Q,a⟩|⟨Q,a⟩
    ·rw [Q]
     rw [Q] at R
     try dsimp only [Z] at a
     try rw [Q] at a
     refine jQ r (s (ET r) (jQ r (s (l3 r (b.bk 2 r) r) (jQ r (s (ET r) (jQ r (s (l3 r (b.bk 3 r) r) (jQ r (s (mI r r) (jQ r (s (jN r r) (s (jX r r) (s (jZ r) ?_)))))))))))))
     rcases iv a with ⟨al,a⟩|⟨al,a⟩
     ·rw [decide_eq_true al]
      refine jB r (jB r (jB r (jB r (jB r (jB r (s (jN r r) (s (jZ r) (jB r (jB r (jB r (jB r (jB r (jB r (jB r (s (jN r r) (n (jH r (q (g (s (jU r) (n (kP ?_))))))))))))))))))))))
      obtain rfl:=sm a
      replace B:=oi B
      obtain rfl:=sm B
      exact jC r (kT r) ⟨r,(b.ad [] [])⟩
     rw [decide_eq_false al]
     refine jQ r (s (zD r) (jQ r (s (yF r (b.bk 2 r) r) (jQ r (s (zD r) (jQ r (s (yF r (b.bk 3 r) r) ?_)))))))
     obtain ⟨aP,aQ,a⟩:=bs a
     refine jQ r ?_
     have hc:=(AB fu) (b.pr [] [0,1,2,3] [3,1] r)  aQ
     refine sc (ec Om r) hc ?_
     rintro _ bn ⟨rfl,hK⟩
     replace b:=b.cn [] [0,1,2,3] hK
     refine jQ r (s (xc r) (s (jX r r) (s (jZ r) ?_)))
     rcases iv a with ⟨a2,a⟩|⟨a2,a⟩
     ·rw [a2]
      refine jB r (jB r (jB r (jB r (jB r (jB r (jB r (s (jN r r) (n (jH r (q (g (s (jU r) (n (kP ?_))))))))))))))
      obtain rfl:=sm a
      replace B:=oi B
      obtain rfl:=sm B
      exact jC r (kT r) ⟨r,(b.ad [] [])⟩
     replace a2:=nt a2
     rw [a2]
     refine jQ r (s (Av r) (jQ r (s (FV r (b.bk 2 r) r) (jQ r (s (Av r) (jQ r (s (FV r (b.bk 3 r) r) (jQ r (s (jZ r) ?_)))))))))
     obtain ⟨aR,aS,a⟩:=bs a
     refine jQ r ?_
     have hc:=(CX fu) (b.pr [] [0,1,2,3] [2,0] r)  aS
     refine sc (ec Nf r) hc ?_
     rintro _ bo ⟨rfl,hK⟩
     replace b:=b.cn [] [0,1,2,3] hK
     refine jQ r (s (xc r) (s (jX r r) (n ?_)))
     rcases iv a with ⟨a3,a⟩|⟨a3,a⟩
     ·refine jH (cb a3) (q (g (s (jU r) (n (kP ?_)))))
      obtain rfl:=sm a
      replace B:=oi B
      obtain rfl:=sm B
      exact jC r (kT r) ⟨r,(b.ad [] [])⟩
     replace a3:=nt a3
     exact jI (cb a3) (wk (g (s (mi r) (s (kN r r) (s (xi r) (n (R a9 _ _ (Nat.lt_succ_self _) ⟨(wr (A+1)),⟨r,r,r,r,y⟩,(b.ad [0,1] [4,5,6,7]),a⟩)))))))
    replace Q:=nt Q
    rw [Q]
    rw [Q] at R
    try dsimp only [Z] at a
    try rw [Q] at a
    refine jB r (jB r (jB r (jB r (jB r (jQ r (s (jX r r) (s (jX r r) (s (jZ r) (jQ r (s (zD r) (jQ r (s (yF r (b.bk 2 r) r) (jQ r (s (zD r) (jQ r (s (yF r (b.bk 3 r) r) ?_))))))))))))))))
    obtain ⟨aT,aU,a⟩:=bs a
    refine jQ r ?_
    have hc:=(AB fu) (b.pr [] [0,1,2,3] [3,1] r)  aU
    refine sc (ec Om r) hc ?_
    rintro _ bp ⟨rfl,hK⟩
    replace b:=b.cn [] [0,1,2,3] hK
    refine jQ r (s (xc r) (s (jX r r) (s (jZ r) ?_)))
    rcases iv a with ⟨a4,a⟩|⟨a4,a⟩
    ·rw [a4]
     refine jB r (jB r (jB r (jB r (jB r (jB r (jB r (s (jN r r) (n (jH r (q (g (s (jU r) (n (kP ?_))))))))))))))
     obtain rfl:=sm a
     replace B:=oi B
     obtain rfl:=sm B
     exact jC r (kT r) ⟨r,(b.ad [] [])⟩
    replace a4:=nt a4
    rw [a4]
    refine jQ r (s (Av r) (jQ r (s (FV r (b.bk 2 r) r) (jQ r (s (Av r) (jQ r (s (FV r (b.bk 3 r) r) (jQ r (s (jZ r) ?_)))))))))
    obtain ⟨aV,aW,a⟩:=bs a
    refine jQ r ?_
    have hc:=(CX fu) (b.pr [] [0,1,2,3] [2,0] r)  aW
    refine sc (ec Nf r) hc ?_
    rintro _ bq ⟨rfl,hK⟩
    replace b:=b.cn [] [0,1,2,3] hK
    refine jQ r (s (xc r) (s (jX r r) (n ?_)))
    rcases iv a with ⟨a5,a⟩|⟨a5,a⟩
    ·refine jH (cb a5) (q (g (s (jU r) (n (kP ?_)))))
     obtain rfl:=sm a
     replace B:=oi B
     obtain rfl:=sm B
     exact jC r (kT r) ⟨r,(b.ad [] [])⟩
    replace a5:=nt a5
    exact jI (cb a5) (wk (g (s (mi r) (s (kN r r) (s (xi r) (n (R a9 _ _ (Nat.lt_succ_self _) ⟨(wr (A+1)),⟨r,r,r,r,y⟩,(b.ad [0,1] [4,5,6,7]),a⟩)))))))
   exact jI (bf af) (uW (ax _ _ ⟨A,y,b,sm a⟩))
 clear b
 rintro f w ⟨A,hf,b,aC⟩
 obtain ⟨bE,rfl⟩:=gP _ _ hf
 clear hf
 subst aC
 replace B:=gi B
 refine q (g (s (jU r) (n (kP ?_))))
 obtain rfl:=sm B
 exact jC r (kT r) ⟨r,(b.ad [] [])⟩
def Eu (m:(List Gi)→(List Gi)→Option (Bool)):Prop:=∀ {e:World} {j:Nat→Prop} {f:(List Gi)} {h:(List Gi)} {a:Option Addr} {b:Nat} {c:Option Addr} {d:Nat} {i:Bool},Pre e j [] [.l a b f,.l c d h]→m f h=some i→
 Calls Try.prog 53 #[Z a f b,Z c h d] e (rf fun v w=>v=.bool i∧Bx e w j (lT []) [] [])
def qx (fu:Nat)(b:(List Gi)) (e:(List Gi)):Nat→Int→Option (Ld (Int) (Bool))
 | 0,_=>none
 | f+1,a=>
 if a < (b.length:Int) then
  (ix b a).bind fun c=>
  (ix e a).bind fun d=>
  if ¬ [c.k,c.e,c.c]=[d.k,d.e,d.c] then
   some (.out false)
  else
   qx fu b e f (wr (a+1))
 else
  some (.go a)
def uY (fu:Nat)(a:(List Gi)) (b:(List Gi)):Option (Bool):=
 if (a.length:Int)≠(b.length:Int) then
  some false
 else
  (qx fu a b fu 0).bind fun d=>d.el (fun c=>
  some true
  ) (fun o=>some o)
theorem Ez (fu:Nat):Eu (uY fu):=by
 intro J W v x c d e i M K k
 unfold uY at k
 have j:=K.bx
 clear K
 generalize N:lT _=G at j ⊢
 refine cf Try.func53 r (ma [(0,Z c v d),(1,Z e x i)] ⟨r,r,y⟩ fun X=>q (g (s (jU r) (n (q (q (g (s (mD r) (s (lg Ca r) (s (mD r) (s (lg Ca r) (s (mI r r) (n ?_)))))))))))))
 rcases iv k with ⟨z,k⟩|⟨z,k⟩
 ·refine jH (bt z) (q (g (s (jU r) (n (kP ?_)))))
  obtain rfl:=sm k
  exact jC r (kT r) ⟨r,(j.dp [])⟩
 refine jI (bf z) (wk (q (q (g (s (xi r) (n ?_))))))
 obtain ⟨L,a,k⟩:=bs k
 refine oC (fun f w=>∃ (b:Int),Has f []∧Bx J w W G [] [.l c d v,.l e i x]∧Ld.go b=L) (fun Q A=>?_) ?_
 ·refine nZ (kH (fun Y f w=>∃ (b:Int),Has f [(0,Z c v d),(1,Z e x i),(5,V b)]∧Bx J w W G [] [.l c d v,.l e i x]∧qx fu v x Y b=some L) fu ⟨0,⟨r,r,r,y⟩,j,a⟩ ?_)
  clear j a
  rintro B f w ⟨b,hf,j,a⟩ R C
  obtain ⟨X,rfl⟩:=gP _ _ hf
  clear hf
  cases B with
  | zero=>exact nn a
  | succ B=>
   rw [qx] at a
   refine q (q (g (s (mi r) (s (mD r) (s (lg Ca r) (s (qB r r) (n ?_)))))))
   rcases iv a with ⟨D,a⟩|⟨D,a⟩
   ·refine jH (bt D) (wk (q (nZ (q (oJ j [] [0,1] [] (by kernel_rfl) ?_)))))
    replace j:=j.drew
    have m:=j
    refine pF 0 r (mD r) m (pF 1 r (mi r) m ?_)
    obtain ⟨t,o,a⟩:=bs a
    obtain ⟨S,E,o⟩:=kG o
    refine pF 2 r (kZ Ca Ns r r E (j.dl 0 r) o) m (uF 3 r (fun hS=>Mj [V t.k,V t.e,V t.c] Ro Ns r (hS.dl 0 r) o) m (pF 4 r (mD r) m (pF 5 r (mi r) m ?_)))
    obtain ⟨u,p,a⟩:=bs a
    obtain ⟨U,F,p⟩:=kG p
    refine pF 6 r (kZ Ca Ns r r F (j.dl 1 r) p) m (uF 7 r (fun hS=>Mj [V u.k,V u.e,V u.c] Ro Ns r (hS.dl 1 r) p) m (pF 8 r (Sr Ro (by kernel_rfl) (by kernel_rfl) (by kernel_rfl) r r) m (hD ?_)))
    rcases iv a with ⟨H,a⟩|⟨H,a⟩
    ·refine jH (bt H) (q (g (s (jU r) (n (kP ?_)))))
     obtain rfl:=sm a
     replace k:=oi k
     obtain rfl:=sm k
     exact jC r (kT r) ⟨r,(j.dp [])⟩
    exact jI (bf H) (wk (g (s (mi r) (s (kN r r) (s (xi r) (n (C B _ _ (Nat.lt_succ_self _) ⟨(wr (b+1)),⟨r,r,r,y⟩,j,a⟩)))))))
   exact jI (bf D) (uW (A _ _ ⟨b,y,j,sm a⟩))
 clear j
 rintro f w ⟨b,hf,j,I⟩
 obtain ⟨X,rfl⟩:=gP _ _ hf
 clear hf
 subst I
 replace k:=gi k
 refine q (g (s (jU r) (n (kP ?_))))
 obtain rfl:=sm k
 exact jC r (kT r) ⟨r,(j.dp [])⟩
def FN (m:(List Gv)→(List Gv)→Option (Bool)):Prop:=∀ {e:World} {j:Nat→Prop} {f:(List Gv)} {h:(List Gv)} {a:Option Addr} {b:Nat} {c:Option Addr} {d:Nat} {i:Bool},Pre e j [] [.l a b f,.l c d h]→m f h=some i→
 Calls Try.prog 54 #[Z a f b,Z c h d] e (rf fun v w=>v=.bool i∧Bx e w j (lT []) [] [])
def qX (fu:Nat)(e:(List Gv)) (f:(List Gv)):Nat→Int→Option (Ld (Int) (Bool))
 | 0,_=>none
 | h+1,a=>
 if a < (e.length:Int) then
  (ix e a).bind fun c=>
  (ix f a).bind fun d=>
  if ¬ ([.t c.a,.i c.e,.i c.b,.i c.f,.b c.c,.i c.d,.i c.g]:List Lf)=([.t d.a,.i d.e,.i d.b,.i d.f,.b d.c,.i d.d,.i d.g]:List Lf) then
   some (.out false)
  else
   qX fu e f h (wr (a+1))
 else
  some (.go a)
def vT (fu:Nat)(a:(List Gv)) (b:(List Gv)):Option (Bool):=
 if (a.length:Int)≠(b.length:Int) then
  some false
 else
  (qX fu a b fu 0).bind fun d=>d.el (fun c=>
  some true
  ) (fun o=>some o)
theorem FC (fu:Nat):FN (vT fu):=by
 intro M a0 A B j k m o R N u
 unfold vT at u
 have p:=N.bx
 clear N
 generalize S:lT _=G at p ⊢
 refine cf Try.func54 r (ma [(0,Z j A k),(1,Z m B o)] ⟨r,r,y⟩ fun a1=>q (g (s (jU r) (n (q (q (g (s (mD r) (s (lg uZ r) (s (mD r) (s (lg uZ r) (s (mI r r) (n ?_)))))))))))))
 rcases iv u with ⟨C,u⟩|⟨C,u⟩
 ·refine jH (bt C) (q (g (s (jU r) (n (kP ?_)))))
  obtain rfl:=sm u
  exact jC r (kT r) ⟨r,(p.dp [])⟩
 refine jI (bf C) (wk (q (q (g (s (xi r) (n ?_))))))
 obtain ⟨Q,a,u⟩:=bs u
 refine oC (fun f w=>∃ (c:Int),Has f []∧Bx M w a0 G [] [.l j k A,.l m o B]∧Ld.go c=Q) (fun U D=>?_) ?_
 ·refine nZ (kH (fun a2 f w=>∃ (c:Int),Has f [(0,Z j A k),(1,Z m B o),(5,V c)]∧Bx M w a0 G [] [.l j k A,.l m o B]∧qX fu A B a2 c=some Q) fu ⟨0,⟨r,r,r,y⟩,p,a⟩ ?_)
  clear p a
  rintro E f w ⟨c,hf,p,a⟩ W F
  obtain ⟨a1,rfl⟩:=gP _ _ hf
  clear hf
  cases E with
  | zero=>exact nn a
  | succ E=>
   rw [qX] at a
   refine q (q (g (s (mi r) (s (mD r) (s (lg uZ r) (s (qB r r) (n ?_)))))))
   rcases iv a with ⟨H,a⟩|⟨H,a⟩
   ·refine jH (bt H) (wk (q (nZ (q (oJ p [] [0,1] [] (by kernel_rfl) ?_)))))
    replace p:=p.drew
    have v:=p
    refine pF 0 r (mD r) v (pF 1 r (mi r) v ?_)
    obtain ⟨d,x,a⟩:=bs a
    obtain ⟨X,I,x⟩:=kG x
    refine pF 2 r (kZ uZ wz r r I (p.dl 0 r) x) v (uF 3 r (fun hS=>Mj [T d.a,V d.e,V d.b,V d.f,.bool d.c,V d.d,V d.g] HY wz r (hS.dl 0 r) x) v (pF 4 r (mD r) v (pF 5 r (mi r) v ?_)))
    obtain ⟨e,z,a⟩:=bs a
    obtain ⟨Y,J,z⟩:=kG z
    refine pF 6 r (kZ uZ wz r r J (p.dl 1 r) z) v (uF 7 r (fun hS=>Mj [T e.a,V e.e,V e.b,V e.f,.bool e.c,V e.d,V e.g] HY wz r (hS.dl 1 r) z) v (pF 8 r (Vq [.t d.a,.i d.e,.i d.b,.i d.f,.b d.c,.i d.d,.i d.g] [.t e.a,.i e.e,.i e.b,.i e.f,.b e.c,.i e.d,.i e.g] HY (by kernel_rfl) r (by kernel_rfl) (by kernel_rfl) r r) v (hD ?_)))
    rcases iv a with ⟨K,a⟩|⟨K,a⟩
    ·refine jH (bt K) (q (g (s (jU r) (n (kP ?_)))))
     obtain rfl:=sm a
     replace u:=oi u
     obtain rfl:=sm u
     exact jC r (kT r) ⟨r,(p.dp [])⟩
    exact jI (bf K) (wk (g (s (mi r) (s (kN r r) (s (xi r) (n (F E _ _ (Nat.lt_succ_self _) ⟨(wr (c+1)),⟨r,r,r,y⟩,p,a⟩)))))))
   exact jI (bf H) (uW (D _ _ ⟨c,y,p,sm a⟩))
 clear p
 rintro f w ⟨c,hf,p,L⟩
 obtain ⟨a1,rfl⟩:=gP _ _ hf
 clear hf
 subst L
 replace u:=gi u
 refine q (g (s (jU r) (n (kP ?_))))
 obtain rfl:=sm u
 exact jC r (kT r) ⟨r,(p.dp [])⟩
def GD (m:jW→jW→Option (Bool)):Prop:=∀ {C:World} {E:Nat→Prop} {A:jW} {B:jW} {a:Option Addr} {b:Nat} {c:Option Addr} {d:Nat} {e:Option Addr} {f:Nat} {h:Option Addr} {i:Nat} {j:Option Addr} {k:Nat} {o:Option Addr} {p:Nat} {t:Option Addr} {u:Nat} {x:Option Addr} {z:Nat} {D:Bool},Pre C E [] [.l a b A.a.a,.l c d A.a.b,.l e f A.c,.l h i A.b,.l j k B.a.a,.l o p B.a.b,.l t u B.c,.l x z B.b]→m A B=some D→
 Calls Try.prog 41 #[.agg #[Z a A.a.a b,Z c A.a.b d,Z e A.c f,Z h A.b i],.agg #[Z j B.a.a k,Z o B.a.b p,Z t B.c u,Z x B.b z]] C (rf fun v w=>v=.bool D∧Bx C w E (lT []) [] [])
def sI (fu:Nat)(c:jW) (f:jW):Nat→Int→Option (Ld (Int) (Bool))
 | 0,_=>none
 | h+1,a=>
 if a < (c.c.length:Int) then
  (ix c.c a).bind fun d=>
  (ix f.c a).bind fun e=>
  (vT fu d e).bind fun b=>
  if (!b)=true then
   some (.out false)
  else
   sI fu c f h (wr (a+1))
 else
  some (.go a)
def vg (fu:Nat)(c:jW) (d:jW):Option (Bool):=
 (vN fu c.a d.a true).bind fun a=>
 if (!a)=true then
  some false
 else
  if (c.c.length:Int)≠(d.c.length:Int) then
   some false
  else
   (uY fu c.b d.b).bind fun b=>
   if (!b)=true then
    some false
   else
    (sI fu c d fu 0).bind fun f=>f.el (fun e=>
    some true
    ) (fun o=>some o)
theorem Gz (fu:Nat):GD (vg fu):=by
 intro w0 aF x z c e h j A B C D m o p t E F H I r0 hP v
 unfold vg at v
 have a:=hP.bx
 clear hP
 generalize hG:lT _=G at a ⊢
 refine cf Try.func41 r (ma [(0,.agg #[Z c x.a.a e,Z h x.a.b j,Z A x.c B,Z C x.b D]),(1,.agg #[Z m z.a.a o,Z p z.a.b t,Z E z.c F,Z H z.b I])] ⟨r,r,y⟩ fun aG=>q (g (tL a (yI r) fun w1 b1 a=>tL a (yI r) fun w2 b2 a=>s (jU r) (n (q (q (g (s (zU r) (s (mE [Z c x.a.a e,Z h x.a.b j] BJ uI r (a.bk 1 r)) (s (zU r) (s (mE [Z m z.a.a o,Z p z.a.b t] BJ uI r (a.bk 0 r)) ?_)))))))))))
 obtain ⟨ak,h3,v⟩:=bs v
 have hc:=(FP fu) (a.pr [] [0,1] [0,1,4,5] r)  h3
 refine sc (ec Ub r) hc ?_
 rintro _ w3 ⟨rfl,X⟩
 replace a:=a.cn [] [0,1] X
 refine s (xc r) (s (jZ r) ?_)
 rcases iv v with ⟨Y,v⟩|⟨Y,v⟩
 ·rw [Y]
  refine jB r (jB r (jB r (jB r (jB r (jB r (jB r (s (jN r r) (s (jZ r) (jB r (jB r (jB r (jB r (jB r (jB r (s (jN r r) (n (jH r (q (g (s (jU r) (n (kP ?_))))))))))))))))))))))
  obtain rfl:=sm v
  exact jC r (kT r) ⟨r,(a.ad [] [])⟩
 replace Y:=nt Y
 rw [Y]
 refine jQ r (s (vV r) (jQ r (s (Ih r (a.bk 1 r) r) (jQ r (s (lg Bd r) (jQ r (s (vV r) (jQ r (s (Ih r (a.bk 0 r) r) (jQ r (s (lg Bd r) (jQ r (s (mI r r) (s (jX r r) (s (jZ r) ?_)))))))))))))))
 rcases iv v with ⟨h5,v⟩|⟨h5,v⟩
 ·rw [decide_eq_true h5]
  refine jB r (jB r (jB r (jB r (jB r (jB r (s (jN r r) (n (jH r (q (g (s (jU r) (n (kP ?_)))))))))))))
  obtain rfl:=sm v
  exact jC r (kT r) ⟨r,(a.ad [] [])⟩
 rw [decide_eq_false h5]
 refine jQ r (s (zT r) (jQ r (s (MJ r (a.bk 1 r) r) (jQ r (s (zT r) (jQ r (s (MJ r (a.bk 0 r) r) ?_)))))))
 obtain ⟨al,h6,v⟩:=bs v
 refine jQ r ?_
 have hc:=(Ez fu) (a.pr [] [0,1] [3,7] r)  h6
 refine sc (ec Uo r) hc ?_
 rintro _ w6 ⟨rfl,X⟩
 replace a:=a.cn [] [0,1] X
 refine jQ r (s (xc r) (s (jX r r) (n ?_)))
 rcases iv v with ⟨h7,v⟩|⟨h7,v⟩
 ·refine jH (cb h7) (q (g (s (jU r) (n (kP ?_)))))
  obtain rfl:=sm v
  exact jC r (kT r) ⟨r,(a.ad [] [])⟩
 replace h7:=nt h7
 refine jI (cb h7) (wk (q (q (g (s (xi r) (n ?_))))))
 obtain ⟨Y8,b,v⟩:=bs v
 refine oC (fun f w=>∃ (u:Int),Has f []∧Bx w0 w aF G [.box b2 30 #[Z m z.a.a o,Z p z.a.b t,Z E z.c F,Z H z.b I],.box b1 30 #[Z c x.a.a e,Z h x.a.b j,Z A x.c B,Z C x.b D]] [.l c e x.a.a,.l h j x.a.b,.l A B x.c,.l C D x.b,.l m o z.a.a,.l p t z.a.b,.l E F z.c,.l H I z.b]∧Ld.go u=Y8) (fun J8 a8=>?_) ?_
 ·refine nZ (kH (fun aH f w=>∃ (u:Int),Has f [(2,Pt b1),(3,Pt b2),(5,V u)]∧Bx w0 w aF G [.box b2 30 #[Z m z.a.a o,Z p z.a.b t,Z E z.c F,Z H z.b I],.box b1 30 #[Z c x.a.a e,Z h x.a.b j,Z A x.c B,Z C x.b D]] [.l c e x.a.a,.l h j x.a.b,.l A B x.c,.l C D x.b,.l m o z.a.a,.l p t z.a.b,.l E F z.c,.l H I z.b]∧sI fu x z aH u=some Y8) fu ⟨0,⟨r,r,r,y⟩,a,b⟩ ?_)
  clear a b
  rintro n8 f w ⟨u,hf,a,b⟩ K8 aa
  obtain ⟨aG,rfl⟩:=gP _ _ hf
  clear hf
  cases n8 with
  | zero=>exact nn b
  | succ n8=>
   rw [sI] at b
   refine q (q (g (s (mi r) (s (vV r) (s (Ih r (a.bk 1 r) r) (s (lg Bd r) (s (qB r r) (n ?_))))))))
   rcases iv b with ⟨h9,b⟩|⟨h9,b⟩
   ·refine jH (bt h9) (wk (q (nZ (q ?_))))
    obtain ⟨ac,J,b⟩:=bs b
    obtain ⟨au,a1,J⟩:=kG J
    obtain ⟨an,a2,a⟩:=a.nm 2 rfl J
    obtain ⟨N,Q,rfl,R⟩:=a2
    replace a:=a.ku (d:=.l N Q ac) R
    obtain ⟨ae,K,b⟩:=bs b
    obtain ⟨av,a3,K⟩:=kG K
    obtain ⟨ao,a4,a⟩:=a.nm 8 rfl K
    obtain ⟨S,U,rfl,W⟩:=a4
    replace a:=a.ku (d:=.l S U ae) W
    refine oJ a [0,1] [0,1,2,3,6,10] [] (by kernel_rfl) ?_
    replace a:=a.drew
    have L:=(a.dp [0,1,2,3,6,10])
    refine pF 0 r (vV r) L (uF 1 r (fun hS=>Ih r (hS.bk 1 r) r) L (pF 2 r (mi r) L (pF 3 r (kZ Bd Br r r a1 (a.dl 6 r) J) L (uF 4 r (fun hS=>kz uZ r r ((hS.dc 3 r) 0 _ r)) L (pF 5 r (vV r) L (uF 6 r (fun hS=>Ih r (hS.bk 0 r) r) L (pF 7 r (mi r) L (pF 8 r (kZ Bd Br r r a3 (a.dl 10 r) K) L (uF 9 r (fun hS=>kz uZ r r ((hS.dc 1 r) 0 _ r)) L ?_)))))))))
    obtain ⟨af,ag,b⟩:=bs b
    have hc:=(FC fu) (a.pr [] [0,1] [2,0] r)  ag
    refine hO 10 (oc r r (ec Us r) hc ?_)
    rintro _ aw ⟨rfl,X⟩
    replace a:=a.cn [] [0,1] X
    have L:=(a.dp [0,1,2,3,6,10])
    refine ⟨(sF L),(pF 11 r (xc r) L (hD ?_))⟩
    rcases iv b with ⟨M,b⟩|⟨M,b⟩
    ·refine jH (cb M) (q (g (s (jU r) (n (kP ?_)))))
     obtain rfl:=sm b
     replace v:=oi v
     obtain rfl:=sm v
     exact jC r (kT r) ⟨r,(a.ad [] [])⟩
    replace M:=nt M
    exact jI (cb M) (wk (g (s (mi r) (s (kN r r) (s (xi r) (n (aa n8 _ _ (Nat.lt_succ_self _) ⟨(wr (u+1)),⟨r,r,r,y⟩,(a.dp [4,5,6,7,8,9,10,11]),b⟩)))))))
   exact jI (bf h9) (uW (a8 _ _ ⟨u,y,a,sm b⟩))
 clear a
 rintro f w ⟨u,hf,a,ah⟩
 obtain ⟨aG,rfl⟩:=gP _ _ hf
 clear hf
 subst ah
 replace v:=gi v
 refine q (g (s (jU r) (n (kP ?_))))
 obtain rfl:=sm v
 exact jC r (kT r) ⟨r,(a.ad [] [])⟩
end
end Go.Proofs.Ytfglbdkfnphjgaa
