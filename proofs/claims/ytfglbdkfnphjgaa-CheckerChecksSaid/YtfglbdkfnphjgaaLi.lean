/- Contracts, printed by gen3.py. -/
import Derived.Test.YtfglbdkfnphjgaaZt
import Derived.Test.YtfglbdkfnphjgaaLa
set_option linter.unusedVariables false
set_option maxHeartbeats 12800000
set_option linter.unusedSimpArgs false
set_option maxRecDepth 4000
namespace Go.Proofs.Ytfglbdkfnphjgaa
open Go.RowKit Go.Fw
noncomputable section
def KC (m:(List Int)→(List Int)→Option (Bool)):Prop:=∀ {e:World} {j:Nat→Prop} {f:(List Int)} {h:(List Int)} {a:Option Addr} {b:Nat} {c:Option Addr} {d:Nat} {i:Bool},Pre e j [] [.l a b f,.l c d h]→m f h=some i→
 Calls Try.prog 21 #[Z a f b,Z c h d] e (rA fun v w=>v=.bool i∧Bx e w j (lT []) [] [])
def zh (fu:Nat)(b:(List Int)) (c:(List Int)):Nat→Int→Option (Ld (Int) (Bool))
 | 0,_=>none
 | d+1,a=>
 if a < (b.length:Int) then
  (ix b a).bind fun e=>
  (ix c a).bind fun f=>
  if e≠f then
   some (.out false)
  else
   zh fu b c d (wr (a+1))
 else
  some (.go a)
def Dv (fu:Nat)(a:(List Int)) (b:(List Int)):Option (Bool):=
 if (a.length:Int)≠(b.length:Int) then
  some false
 else
  (zh fu a b fu 0).bind fun d=>d.el (fun c=>
  some true
  ) (fun o=>some o)
theorem La (fu:Nat):KC (Dv fu):=by
 intro H W t u c d e i M I k
 unfold Dv at k
 have j:=I.bx
 clear I
 generalize N:lT _=G at j ⊢
 refine cf Try.func21 r (l8 [(0,Z c t d),(1,Z e u i)] ⟨r,r,y⟩ fun X=>q (g (s (jT r) (n (q (q (g (s (mH r) (s (lg vz r) (s (mH r) (s (lg vz r) (s (mI r r) (n ?_)))))))))))))
 rcases iv k with ⟨v,k⟩|⟨v,k⟩
 ·refine jH (bt v) (q (g (s (jT r) (n (kP ?_)))))
  obtain rfl:=sm k
  exact jC r (kT r) ⟨r,(j.dp [])⟩
 refine jI (bf v) (wk (q (q (g (s (xi r) (n ?_))))))
 obtain ⟨J,a,k⟩:=bs k
 refine oG (fun f w=>∃ (b:Int),Has f []∧Bx H w W G [] [.l c d t,.l e i u]∧Ld.go b=J) (fun Q x=>?_) ?_
 ·refine oF (kI (fun Y f w=>∃ (b:Int),Has f [(0,Z c t d),(1,Z e u i),(5,V b)]∧Bx H w W G [] [.l c d t,.l e i u]∧zh fu t u Y b=some J) fu ⟨0,⟨r,r,r,y⟩,j,a⟩ ?_)
  clear j a
  rintro z f w ⟨b,hf,j,a⟩ R A
  obtain ⟨X,rfl⟩:=gP _ _ hf
  clear hf
  cases z with
  | zero=>exact nn a
  | succ z=>
   rw [zh] at a
   refine q (q (g (s (mi r) (s (mH r) (s (lg vz r) (s (qR r r) (n ?_)))))))
   rcases iv a with ⟨B,a⟩|⟨B,a⟩
   ·refine jH (bt B) (wk (q (oF (q (oJ j [] [0,1] [] (by kernel_rfl) ?_)))))
    replace j:=j.drew
    have m:=j
    refine pF 0 r (mH r) m (pF 1 r (mi r) m ?_)
    obtain ⟨K,o,a⟩:=bs a
    obtain ⟨S,C,o⟩:=kG o
    refine pF 2 r (kZ vz pI r r C (j.dl 0 r) o) m (tU 3 r (fun _ hS=>kC E8 r r ((vB (ds:=[V K]) (hS.dl 0 r) o (fun _ h=>h)) 0 _ r)) (sF m) (pF 4 r (mH r) m (pF 5 r (mi r) m ?_)))
    obtain ⟨L,p,a⟩:=bs a
    obtain ⟨U,D,p⟩:=kG p
    refine pF 6 r (kZ vz pI r r D (j.dl 1 r) p) m (tU 7 r (fun _ hS=>kC E8 r r ((vB (ds:=[V L]) (hS.dl 1 r) p (fun _ h=>h)) 0 _ r)) (sF m) (pF 8 r (mI r r) m (hD ?_)))
    rcases iv a with ⟨E,a⟩|⟨E,a⟩
    ·refine jH (bt E) (q (g (s (jT r) (n (kP ?_)))))
     obtain rfl:=sm a
     replace k:=oi k
     obtain rfl:=sm k
     exact jC r (kT r) ⟨r,(j.dp [])⟩
    exact jI (bf E) (wk (g (s (mi r) (s (kN r r) (s (xi r) (n (A z _ _ (Nat.lt_succ_self _) ⟨(wr (b+1)),⟨r,r,r,y⟩,j,a⟩)))))))
   exact jI (bf B) (ve (x _ _ ⟨b,y,j,sm a⟩))
 clear j
 rintro f w ⟨b,hf,j,F⟩
 obtain ⟨X,rfl⟩:=gP _ _ hf
 clear hf
 subst F
 replace k:=gi k
 refine q (g (s (jT r) (n (kP ?_))))
 obtain rfl:=sm k
 exact jC r (kT r) ⟨r,(j.dp [])⟩
def F4 (m:(List BA)→(List BA)→Option (Bool)):Prop:=∀ {e:World} {j:Nat→Prop} {f:(List BA)} {h:(List BA)} {a:Option Addr} {b:Nat} {c:Option Addr} {d:Nat} {i:Bool},Pre e j [] [.l a b f,.l c d h]→m f h=some i→
 Calls Try.prog 76 #[Z a f b,Z c h d] e (rA fun v w=>v=.bool i∧Bx e w j (lT []) [] [])
def sj (fu:Nat)(b:(List BA)) (c:(List BA)):Nat→Int→Option (Ld (Int) (Bool))
 | 0,_=>none
 | d+1,a=>
 if a < (b.length:Int) then
  (ix b a).bind fun e=>
  (ix c a).bind fun f=>
  if ¬ e=f then
   some (.out false)
  else
   sj fu b c d (wr (a+1))
 else
  some (.go a)
def uA (fu:Nat)(a:(List BA)) (b:(List BA)):Option (Bool):=
 if (a.length:Int)≠(b.length:Int) then
  some false
 else
  (sj fu a b fu 0).bind fun d=>d.el (fun c=>
  some true
  ) (fun o=>some o)
theorem Aj (fu:Nat):F4 (uA fu):=by
 intro H W t u c d e i M I k
 unfold uA at k
 have j:=I.bx
 clear I
 generalize N:lT _=G at j ⊢
 refine cf Try.func76 r (l8 [(0,Z c t d),(1,Z e u i)] ⟨r,r,y⟩ fun X=>q (g (s (jT r) (n (q (q (g (s (mH r) (s (lg kM r) (s (mH r) (s (lg kM r) (s (mI r r) (n ?_)))))))))))))
 rcases iv k with ⟨v,k⟩|⟨v,k⟩
 ·refine jH (bt v) (q (g (s (jT r) (n (kP ?_)))))
  obtain rfl:=sm k
  exact jC r (kT r) ⟨r,(j.dp [])⟩
 refine jI (bf v) (wk (q (q (g (s (xi r) (n ?_))))))
 obtain ⟨J,a,k⟩:=bs k
 refine oG (fun f w=>∃ (b:Int),Has f []∧Bx H w W G [] [.l c d t,.l e i u]∧Ld.go b=J) (fun Q x=>?_) ?_
 ·refine oF (kI (fun Y f w=>∃ (b:Int),Has f [(0,Z c t d),(1,Z e u i),(5,V b)]∧Bx H w W G [] [.l c d t,.l e i u]∧sj fu t u Y b=some J) fu ⟨0,⟨r,r,r,y⟩,j,a⟩ ?_)
  clear j a
  rintro z f w ⟨b,hf,j,a⟩ R A
  obtain ⟨X,rfl⟩:=gP _ _ hf
  clear hf
  cases z with
  | zero=>exact nn a
  | succ z=>
   rw [sj] at a
   refine q (q (g (s (mi r) (s (mH r) (s (lg kM r) (s (qR r r) (n ?_)))))))
   rcases iv a with ⟨B,a⟩|⟨B,a⟩
   ·refine jH (bt B) (wk (q (oF (q (oJ j [] [0,1] [] (by kernel_rfl) ?_)))))
    replace j:=j.drew
    have m:=j
    refine pF 0 r (mH r) m (pF 1 r (mi r) m ?_)
    obtain ⟨K,o,a⟩:=bs a
    obtain ⟨S,C,o⟩:=kG o
    refine pF 2 r (kZ kM qc r r C (j.dl 0 r) o) m (tU 3 r (fun _ hS=>kC uk r r ((vB (ds:=[T K]) (hS.dl 0 r) o (fun _ h=>h)) 0 _ r)) (sF m) (pF 4 r (mH r) m (pF 5 r (mi r) m ?_)))
    obtain ⟨L,p,a⟩:=bs a
    obtain ⟨U,D,p⟩:=kG p
    refine pF 6 r (kZ kM qc r r D (j.dl 1 r) p) m (tU 7 r (fun _ hS=>kC uk r r ((vB (ds:=[T L]) (hS.dl 1 r) p (fun _ h=>h)) 0 _ r)) (sF m) (pF 8 r (yJ r r) m (hD ?_)))
    rcases iv a with ⟨E,a⟩|⟨E,a⟩
    ·refine jH (bt E) (q (g (s (jT r) (n (kP ?_)))))
     obtain rfl:=sm a
     replace k:=oi k
     obtain rfl:=sm k
     exact jC r (kT r) ⟨r,(j.dp [])⟩
    exact jI (bf E) (wk (g (s (mi r) (s (kN r r) (s (xi r) (n (A z _ _ (Nat.lt_succ_self _) ⟨(wr (b+1)),⟨r,r,r,y⟩,j,a⟩)))))))
   exact jI (bf B) (ve (x _ _ ⟨b,y,j,sm a⟩))
 clear j
 rintro f w ⟨b,hf,j,F⟩
 obtain ⟨X,rfl⟩:=gP _ _ hf
 clear hf
 subst F
 replace k:=gi k
 refine q (g (s (jT r) (n (kP ?_))))
 obtain rfl:=sm k
 exact jC r (kT r) ⟨r,(j.dp [])⟩
abbrev BB:=(List jL)→(List jL)→Option (Bool)
def yY (m:(List Ge)→(List Ge)→Option (Bool)):Prop:=∀ {e:World} {j:Nat→Prop} {f:(List Ge)} {h:(List Ge)} {a:Option Addr} {b:Nat} {c:Option Addr} {d:Nat} {i:Bool},Pre e j [] [.l a b f,.l c d h]→m f h=some i→
 Calls Try.prog 105 #[Z a f b,Z c h d] e (rA fun v w=>v=.bool i∧Bx e w j (lT []) [] [])
def tL (fu:Nat)(r_same_Exprs:BB) (e:(List Ge)) (f:(List Ge)):Nat→Int→Option (Ld (Int) (Bool))
 | 0,_=>none
 | h+1,a=>
 if a < (e.length:Int) then
  (ix e a).bind fun c=>
  (ix f a).bind fun d=>
  if c.e≠d.e then
   some (.out false)
  else
   if c.d≠d.d then
    some (.out false)
   else
    if c.j≠d.j then
     some (.out false)
    else
     if ¬ c.a=d.a then
      some (.out false)
     else
      if ¬ c.c=d.c then
       some (.out false)
      else
       (r_same_Exprs c.b d.b).bind fun b=>
       if (!b)=true then
        some (.out false)
       else
        tL fu r_same_Exprs e f h (wr (a+1))
 else
  some (.go a)
def yz (fu:Nat)(r_same_Exprs:BB) (a:(List Ge)) (b:(List Ge)):Option (Bool):=
 if (a.length:Int)≠(b.length:Int) then
  some false
 else
  (tL fu r_same_Exprs a b fu 0).bind fun d=>d.el (fun c=>
  some true
  ) (fun o=>some o)
def BX:Nat→((List Ge)→(List Ge)→Option (Bool))
 | 0=>(fun _ _=>none)
 | fu+1=>yz fu (BX fu)
def rT (fu:Nat):=(BX fu)
theorem H9 (fu:Nat)(r_same_Exprs:BB) (H_same_Exprs:yY r_same_Exprs):yY (yz fu r_same_Exprs):=by
 intro S ax H I m o p t r0 hP j
 unfold yz at j
 have b:=hP.bx
 clear hP
 generalize hG:lT _=G at b ⊢
 refine cf Try.func105 r (l8 [(0,Z m H o),(1,Z p I t)] ⟨r,r,y⟩ fun ay=>q (g (s (jT r) (n (q (q (g (s (mH r) (s (lg qN r) (s (mH r) (s (lg qN r) (s (mI r r) (n ?_)))))))))))))
 rcases iv j with ⟨U,j⟩|⟨U,j⟩
 ·refine jH (bt U) (q (g (s (jT r) (n (kP ?_)))))
  obtain rfl:=sm j
  exact jC r (kT r) ⟨r,(b.dp [])⟩
 refine jI (bf U) (wk (q (q (g (s (xi r) (n ?_))))))
 obtain ⟨Y2,a,j⟩:=bs j
 refine oG (fun f w=>∃ (h:Int),Has f []∧Bx S w ax G [] [.l m o H,.l p t I]∧Ld.go h=Y2) (fun J2 W=>?_) ?_
 ·refine oF (kI (fun az f w=>∃ (h:Int),Has f [(0,Z m H o),(1,Z p I t),(5,V h)]∧Bx S w ax G [] [.l m o H,.l p t I]∧tL fu r_same_Exprs H I az h=some Y2) fu ⟨0,⟨r,r,r,y⟩,b,a⟩ ?_)
  clear b a
  rintro X f w ⟨h,hf,b,a⟩ K2 Y
  obtain ⟨ay,rfl⟩:=gP _ _ hf
  clear hf
  cases X with
  | zero=>exact nn a
  | succ X=>
   rw [tL] at a
   refine q (q (g (s (mi r) (s (mH r) (s (lg qN r) (s (qR r r) (n ?_)))))))
   rcases iv a with ⟨h3,a⟩|⟨h3,a⟩
   ·refine jH (bt h3) (wk (q (oF (q ?_))))
    obtain ⟨c,E,a⟩:=bs a
    obtain ⟨k4,a1,E⟩:=kG E
    obtain ⟨ac,a2,b⟩:=b.nm 0 rfl E
    obtain ⟨u,v,rfl,Q⟩:=jL.out a2
    replace b:=b.ku (d:=.l u v c.b) Q
    obtain ⟨e,F,a⟩:=bs a
    obtain ⟨k6,a3,F⟩:=kG F
    obtain ⟨ae,a4,b⟩:=b.nm 3 rfl F
    obtain ⟨x,z,rfl,R⟩:=jL.out a4
    replace b:=b.ku (d:=.l x z e.b) R
    refine oG (fun f w=>∃ (B:Nat)(C:Nat),Has f [(0,Z m H o),(1,Z p I t),(5,V h),(6,Pt B),(7,Pt C)]∧Bx S w ax G [.box B 138 #[V c.e,V c.d,V c.j,T c.a,T c.c,Z u c.b v],.box C 138 #[V e.e,V e.d,V e.j,T e.a,T e.c,Z x e.b z]] [.l x z e.b,.l u v c.b,.l m o H,.l p t I]) (fun Jd hJd=>?_) ?_
    ·refine oJ b [] [0,1,2,3,4,5] [] (by kernel_rfl) ?_
     replace b:=b.drew
     have A:=b
     refine pF 0 r (mH r) A (pF 1 r (mi r) A (pF 2 r (kZ qN jS r r a1 (b.dl 4 r) E) A (uF 3 r (fun hS=>oH [V c.e,V c.d,V c.j,T c.a,T c.c,Z u c.b v] mr r jS r r (hS.dc 3 r)) A (pF 4 r (mH r) A (pF 5 r (mi r) A (pF 6 r (kZ qN jS r r a3 (b.dl 5 r) F) A (uF 7 r (fun hS=>oH [V e.e,V e.d,V e.j,T e.a,T e.c,Z x e.b z] mr r jS r r (hS.dc 1 r)) A (nJ 8 [9] (by kernel_rfl) (jR ?_ (jR ?_ lX))))))))))
     ·refine oo r r (rF b (ko jS)) ?_
      rintro _ af ⟨B,rfl,b⟩
      have A:=(b.arr [] r)
      refine ⟨(sF A),(hO 9 (oo r r (rF b (ko jS)) ?_))⟩
      rintro _ ag ⟨C,rfl,b⟩
      have A:=(b.arr [] r)
      refine ⟨(sF A),(hO 10 (os r r (nE b 1 [V c.e,V c.d,V c.j,T c.a,T c.c,Z u c.b v] r jS r r) fun ah b=>?_))⟩
      have A:=(b.arr [] r)
      refine ⟨(sF A),(hO 11 (os r r (nE b 0 [V e.e,V e.d,V e.j,T e.a,T e.c,Z x e.b z] r jS r r) fun ai b=>?_))⟩
      have A:=(b.arr [] r)
      exact ⟨(sF A),(hD (hJd _ _ ⟨B,C,⟨r,r,r,r,r,y⟩,(b.ad [1,0] [0,2,4,5])⟩))⟩
     refine oo r r (rF b (ko jS)) ?_
     rintro _ aj ⟨a5,rfl,b⟩
     have A:=(b.arr [] r)
     refine ⟨(sF A),(hO 8 (oo r r (rF b (ko jS)) ?_))⟩
     rintro _ ak ⟨a6,rfl,b⟩
     have A:=(b.arr [] r)
     refine ⟨(sF A),(hO 10 (os r r (nE b 0 [V c.e,V c.d,V c.j,T c.a,T c.c,Z u c.b v] r jS r r) fun al b=>?_))⟩
     have A:=(b.arr [] r)
     refine ⟨(sF A),(hO 11 (os r r (nE b 1 [V e.e,V e.d,V e.j,T e.a,T e.c,Z x e.b z] r jS r r) fun am b=>?_))⟩
     have A:=(b.arr [] r)
     exact ⟨(sF A),(hD (hJd _ _ ⟨a6,a5,⟨r,r,r,r,r,y⟩,(b.dp [0,2,4,5])⟩))⟩
    clear b
    rintro f w ⟨B,C,hf,b⟩
    obtain ⟨ay,rfl⟩:=gP _ _ hf
    clear hf
    refine q (g (s (wz r) (s (l3 r (b.bk 0 r) r) (s (wz r) (s (l3 r (b.bk 1 r) r) (s (mI r r) (s (jY r) ?_)))))))
    rcases iv a with ⟨J,a⟩|⟨J,a⟩
    ·rw [decide_eq_true J]
     refine jB r (jB r (jB r (jB r (jB r (s (jO r r) (s (jY r) (jB r (jB r (jB r (jB r (jB r (s (jO r r) (s (jY r) (jB r (jB r (jB r (jB r (jB r (s (jO r r) (s (jY r) (jB r (jB r (jB r (jB r (jB r (s (jO r r) (s (jY r) (jB r (jB r (jB r (jB r (jB r (jB r (s (jO r r) (n (jH r (q (g (s (jT r) (n (kP ?_)))))))))))))))))))))))))))))))))))))))))
     obtain rfl:=sm a
     replace j:=oi j
     obtain rfl:=sm j
     exact jC r (kT r) ⟨r,(b.ad [] [])⟩
    rw [decide_eq_false J]
    refine jW r (s (BZ r) (jW r (s (l3 r (b.bk 0 r) r) (jW r (s (BZ r) (jW r (s (l3 r (b.bk 1 r) r) (jW r (s (mI r r) (s (jZ r r) (s (jY r) ?_)))))))))))
    rcases iv a with ⟨K,a⟩|⟨K,a⟩
    ·rw [decide_eq_true K]
     refine jB r (jB r (jB r (jB r (jB r (s (jO r r) (s (jY r) (jB r (jB r (jB r (jB r (jB r (s (jO r r) (s (jY r) (jB r (jB r (jB r (jB r (jB r (s (jO r r) (s (jY r) (jB r (jB r (jB r (jB r (jB r (jB r (s (jO r r) (n (jH r (q (g (s (jT r) (n (kP ?_))))))))))))))))))))))))))))))))))
     obtain rfl:=sm a
     replace j:=oi j
     obtain rfl:=sm j
     exact jC r (kT r) ⟨r,(b.ad [] [])⟩
    rw [decide_eq_false K]
    refine jW r (s (Ha r) (jW r (s (l3 r (b.bk 0 r) r) (jW r (s (Ha r) (jW r (s (l3 r (b.bk 1 r) r) (jW r (s (mI r r) (s (jZ r r) (s (jY r) ?_)))))))))))
    rcases iv a with ⟨L,a⟩|⟨L,a⟩
    ·rw [decide_eq_true L]
     refine jB r (jB r (jB r (jB r (jB r (s (jO r r) (s (jY r) (jB r (jB r (jB r (jB r (jB r (s (jO r r) (s (jY r) (jB r (jB r (jB r (jB r (jB r (jB r (s (jO r r) (n (jH r (q (g (s (jT r) (n (kP ?_)))))))))))))))))))))))))))
     obtain rfl:=sm a
     replace j:=oi j
     obtain rfl:=sm j
     exact jC r (kT r) ⟨r,(b.ad [] [])⟩
    rw [decide_eq_false L]
    refine jW r (s (Dn r) (jW r (s (l9 r (b.bk 0 r) r) (jW r (s (Dn r) (jW r (s (l9 r (b.bk 1 r) r) (jW r (s (yJ r r) (s (jZ r r) (s (jY r) ?_)))))))))))
    rcases iv a with ⟨M,a⟩|⟨M,a⟩
    ·rw [decide_eq_true M]
     refine jB r (jB r (jB r (jB r (jB r (s (jO r r) (s (jY r) (jB r (jB r (jB r (jB r (jB r (jB r (s (jO r r) (n (jH r (q (g (s (jT r) (n (kP ?_))))))))))))))))))))
     obtain rfl:=sm a
     replace j:=oi j
     obtain rfl:=sm j
     exact jC r (kT r) ⟨r,(b.ad [] [])⟩
    rw [decide_eq_false M]
    refine jW r (s (Hm r) (jW r (s (l9 r (b.bk 0 r) r) (jW r (s (Hm r) (jW r (s (l9 r (b.bk 1 r) r) (jW r (s (yJ r r) (s (jZ r r) (s (jY r) ?_)))))))))))
    rcases iv a with ⟨N,a⟩|⟨N,a⟩
    ·rw [decide_eq_true N]
     refine jB r (jB r (jB r (jB r (jB r (jB r (s (jO r r) (n (jH r (q (g (s (jT r) (n (kP ?_)))))))))))))
     obtain rfl:=sm a
     replace j:=oi j
     obtain rfl:=sm j
     exact jC r (kT r) ⟨r,(b.ad [] [])⟩
    rw [decide_eq_false N]
    refine jW r (s (yI r) (jW r (s (xh r (b.bk 0 r) r) (jW r (s (yI r) (jW r (s (xh r (b.bk 1 r) r) ?_)))))))
    obtain ⟨a7,a8,a⟩:=bs a
    refine jW r ?_
    have hc:=H_same_Exprs (b.pr [] [0,1] [1,0] r)  a8
    refine sc (ec Md r) hc ?_
    rintro _ an ⟨rfl,hK⟩
    replace b:=b.cn [] [0,1] hK
    refine jW r (s (xc r) (s (jZ r r) (n ?_)))
    rcases iv a with ⟨D,a⟩|⟨D,a⟩
    ·refine jH (cb D) (q (g (s (jT r) (n (kP ?_)))))
     obtain rfl:=sm a
     replace j:=oi j
     obtain rfl:=sm j
     exact jC r (kT r) ⟨r,(b.ad [] [])⟩
    replace D:=nt D
    exact jI (cb D) (wk (g (s (mi r) (s (kN r r) (s (xi r) (n (Y X _ _ (Nat.lt_succ_self _) ⟨(wr (h+1)),⟨r,r,r,y⟩,(b.ad [] [2,3]),a⟩)))))))
   exact jI (bf h3) (ve (W _ _ ⟨h,y,b,sm a⟩))
 clear b
 rintro f w ⟨h,hf,b,a9⟩
 obtain ⟨ay,rfl⟩:=gP _ _ hf
 clear hf
 subst a9
 replace j:=gi j
 refine q (g (s (jT r) (n (kP ?_))))
 obtain rfl:=sm j
 exact jC r (kT r) ⟨r,(b.dp [])⟩
theorem F8 (fu:Nat):yY (rT fu):=by
 induction fu with
 | zero=>exact by intro a b;intros;exact nn (by assumption)
 | succ fu ih=>exact H9 fu (rT fu) ih
theorem Cy (fu:Nat):yY (rT fu):=(F8 fu)
abbrev zR:=(List jM)→(List jM)→Bool→Option (Bool)
def yQ (m:(List Gs)→(List Gs)→Bool→Option (Bool)):Prop:=∀ {e:World} {k:Nat→Prop} {f:(List Gs)} {h:(List Gs)} {i:Bool} {a:Option Addr} {b:Nat} {c:Option Addr} {d:Nat} {j:Bool},Pre e k [] [.l a b f,.l c d h]→m f h i=some j→
 Calls Try.prog 77 #[Z a f b,Z c h d,.bool i] e (rA fun v w=>v=.bool j∧Bx e w k (lT []) [] [])
def wQ (fu:Nat)(r_same_Stmts:zR) (c:Bool) (a:Gs) (b:Gs):Option (Ld (Unit) (Bool)):=
 if a.e≠b.e then
  some (.out false)
 else
  if a.n≠b.n then
   some (.out false)
  else
   if ¬ a.a=b.a then
    some (.out false)
   else
    if ¬ a.g=b.g then
     some (.out false)
    else
     if a.m≠b.m then
      some (.out false)
     else
      if a.j≠b.j then
       some (.out false)
      else
       if ¬ a.k=b.k then
        some (.out false)
       else
        if a.h≠b.h then
         some (.out false)
        else
         if c=true then
          if a.c≠b.c then
           some (.out false)
          else
           some (.go ())
         else
          some (.go ())
def tK (fu:Nat)(r_same_Stmts:zR) (j:(List Gs)) (k:(List Gs)) (i:Bool):Nat→Int→Option (Ld (Int) (Bool))
 | 0,_=>none
 | l+1,a=>
 if a < (j.length:Int) then
  (ix j a).bind fun f=>
  (ix k a).bind fun h=>
  (wQ fu r_same_Stmts i f h).bind fun m=>m.el (fun _=>
  (rT fu f.d h.d).bind fun b=>
  if (!b)=true then
   some (.out false)
  else
   (rT fu f.b h.b).bind fun c=>
   if (!c)=true then
    some (.out false)
   else
    (r_same_Stmts f.f h.f i).bind fun d=>
    if (!d)=true then
     some (.out false)
    else
     (r_same_Stmts f.i h.i i).bind fun e=>
     if (!e)=true then
      some (.out false)
     else
      tK fu r_same_Stmts j k i l (wr (a+1))
  ) (fun o=>some (.out o))
 else
  some (.go a)
def x8 (fu:Nat)(r_same_Stmts:zR) (a:(List Gs)) (b:(List Gs)) (d:Bool):Option (Bool):=
 if (a.length:Int)≠(b.length:Int) then
  some false
 else
  (tK fu r_same_Stmts a b d fu 0).bind fun e=>e.el (fun c=>
  some true
  ) (fun o=>some o)
def Ck:Nat→((List Gs)→(List Gs)→Bool→Option (Bool))
 | 0=>(fun _ _ _=>none)
 | fu+1=>x8 fu (Ck fu)
def rQ (fu:Nat):=(Ck fu)
theorem Ib (fu:Nat)(r_same_Stmts:zR) (H_same_Stmts:yQ r_same_Stmts):yQ (x8 fu r_same_Stmts):=by
 intro w0 bc x0 x1 x2 m o p t r0 hP j
 unfold x8 at j
 have c:=hP.bx
 clear hP
 generalize hG:lT _=G at c ⊢
 refine cf Try.func77 r (l8 [(0,Z m x0 o),(1,Z p x1 t),(2,.bool x2)] ⟨r,r,r,y⟩ fun bd=>q (g (s (jT r) (n (q (q (g (s (mH r) (s (lg yC r) (s (mH r) (s (lg yC r) (s (mI r r) (n ?_)))))))))))))
 rcases iv j with ⟨h1,j⟩|⟨h1,j⟩
 ·refine jH (bt h1) (q (g (s (jT r) (n (kP ?_)))))
  obtain rfl:=sm j
  exact jC r (kT r) ⟨r,(c.dp [])⟩
 refine jI (bf h1) (wk (q (q (g (s (xi r) (n ?_))))))
 obtain ⟨Y2,a,j⟩:=bs j
 refine oG (fun f w=>∃ (u:Int),Has f []∧Bx w0 w bc G [] [.l m o x0,.l p t x1]∧Ld.go u=Y2) (fun J2 aw=>?_) ?_
 ·refine oF (kI (fun bg f w=>∃ (u:Int),Has f [(0,Z m x0 o),(1,Z p x1 t),(2,.bool x2),(7,V u)]∧Bx w0 w bc G [] [.l m o x0,.l p t x1]∧tK fu r_same_Stmts x0 x1 x2 bg u=some Y2) fu ⟨0,⟨r,r,r,r,y⟩,c,a⟩ ?_)
  clear c a
  rintro n2 f w ⟨u,hf,c,a⟩ K2 a6
  obtain ⟨bd,rfl⟩:=gP _ _ hf
  clear hf
  cases n2 with
  | zero=>exact nn a
  | succ n2=>
   rw [tK] at a
   refine q (q (g (s (mi r) (s (mH r) (s (lg yC r) (s (qR r r) (n ?_)))))))
   rcases iv a with ⟨h3,a⟩|⟨h3,a⟩
   ·refine jH (bt h3) (wk (q (oF (q ?_))))
    obtain ⟨e,a4,a⟩:=bs a
    obtain ⟨k4,az,a4⟩:=kG a4
    obtain ⟨aR,aA,c⟩:=c.nm 0 rfl a4
    obtain ⟨v,x,z,A,B,C,D,E,rfl,aj,ak,al,am⟩:=jM.out aA
    replace c:=c.ku (d:=.l v x e.d) aj
    replace c:=c.ku (d:=.l z A e.b) ak
    replace c:=c.ku (d:=.l B C e.f) al
    replace c:=c.ku (d:=.l D E e.i) am
    obtain ⟨h,a5,a⟩:=bs a
    obtain ⟨k6,aB,a5⟩:=kG a5
    obtain ⟨aS,aC,c⟩:=c.nm 6 rfl a5
    obtain ⟨F,H,I,J,K,L,M,N,rfl,an,ao,ap,aq⟩:=jM.out aC
    replace c:=c.ku (d:=.l F H h.d) an
    replace c:=c.ku (d:=.l I J h.b) ao
    replace c:=c.ku (d:=.l K L h.f) ap
    replace c:=c.ku (d:=.l M N h.i) aq
    refine oG (fun f w=>∃ (S:Nat)(U:Nat),Has f [(0,Z m x0 o),(1,Z p x1 t),(2,.bool x2),(7,V u),(8,Pt S),(9,Pt U)]∧Bx w0 w bc G [.box S 111 #[V e.e,V e.c,V e.n,T e.a,T e.g,V e.m,V e.j,Z v e.d x,T e.k,V e.h,Z z e.b A,Z B e.f C,Z D e.i E],.box U 111 #[V h.e,V h.c,V h.n,T h.a,T h.g,V h.m,V h.j,Z F h.d H,T h.k,V h.h,Z I h.b J,Z K h.f L,Z M h.i N]] [.l M N h.i,.l K L h.f,.l I J h.b,.l F H h.d,.l D E e.i,.l B C e.f,.l z A e.b,.l v x e.d,.l m o x0,.l p t x1]) (fun Jd hJd=>?_) ?_
    ·refine oJ c [] [0,1,2,3,4,5,6,7,8,9,10,11] [] (by kernel_rfl) ?_
     replace c:=c.drew
     have Q:=c
     refine pF 0 r (mH r) Q (pF 1 r (mi r) Q (pF 2 r (kZ yC jP r r az (c.dl 10 r) a4) Q (uF 3 r (fun hS=>oH [V e.e,V e.c,V e.n,T e.a,T e.g,V e.m,V e.j,Z v e.d x,T e.k,V e.h,Z z e.b A,Z B e.f C,Z D e.i E] lF r jP r r (hS.dc 9 r)) Q (pF 4 r (mH r) Q (pF 5 r (mi r) Q (pF 6 r (kZ yC jP r r aB (c.dl 11 r) a5) Q (uF 7 r (fun hS=>oH [V h.e,V h.c,V h.n,T h.a,T h.g,V h.m,V h.j,Z F h.d H,T h.k,V h.h,Z I h.b J,Z K h.f L,Z M h.i N] lF r jP r r (hS.dc 4 r)) Q (nJ 8 [9] (by kernel_rfl) (jR ?_ (jR ?_ lX))))))))))
     ·refine oo r r (rF c (ko jP)) ?_
      rintro _ aT ⟨S,rfl,c⟩
      have Q:=(c.arr [] r)
      refine ⟨(sF Q),(hO 9 (oo r r (rF c (ko jP)) ?_))⟩
      rintro _ aU ⟨U,rfl,c⟩
      have Q:=(c.arr [] r)
      refine ⟨(sF Q),(hO 10 (os r r (nE c 1 [V e.e,V e.c,V e.n,T e.a,T e.g,V e.m,V e.j,Z v e.d x,T e.k,V e.h,Z z e.b A,Z B e.f C,Z D e.i E] r jP r r) fun aV c=>?_))⟩
      have Q:=(c.arr [] r)
      refine ⟨(sF Q),(hO 11 (os r r (nE c 0 [V h.e,V h.c,V h.n,T h.a,T h.g,V h.m,V h.j,Z F h.d H,T h.k,V h.h,Z I h.b J,Z K h.f L,Z M h.i N] r jP r r) fun aW c=>?_))⟩
      have Q:=(c.arr [] r)
      exact ⟨(sF Q),(hD (hJd _ _ ⟨S,U,⟨r,r,r,r,r,r,y⟩,(c.ad [1,0] [0,1,2,3,5,6,7,8,10,11])⟩))⟩
     refine oo r r (rF c (ko jP)) ?_
     rintro _ aX ⟨aD,rfl,c⟩
     have Q:=(c.arr [] r)
     refine ⟨(sF Q),(hO 8 (oo r r (rF c (ko jP)) ?_))⟩
     rintro _ aY ⟨aE,rfl,c⟩
     have Q:=(c.arr [] r)
     refine ⟨(sF Q),(hO 10 (os r r (nE c 0 [V e.e,V e.c,V e.n,T e.a,T e.g,V e.m,V e.j,Z v e.d x,T e.k,V e.h,Z z e.b A,Z B e.f C,Z D e.i E] r jP r r) fun aZ c=>?_))⟩
     have Q:=(c.arr [] r)
     refine ⟨(sF Q),(hO 11 (os r r (nE c 1 [V h.e,V h.c,V h.n,T h.a,T h.g,V h.m,V h.j,Z F h.d H,T h.k,V h.h,Z I h.b J,Z K h.f L,Z M h.i N] r jP r r) fun b0 c=>?_))⟩
     have Q:=(c.arr [] r)
     exact ⟨(sF Q),(hD (hJd _ _ ⟨aE,aD,⟨r,r,r,r,r,r,y⟩,(c.dp [0,1,2,3,5,6,7,8,10,11])⟩))⟩
    clear c
    rintro f w ⟨S,U,hf,c⟩
    obtain ⟨bd,rfl⟩:=gP _ _ hf
    clear hf
    refine q ?_
    obtain ⟨aF,b,a⟩:=bs a
    refine oG (fun f w=>Has f [(0,Z m x0 o),(1,Z p x1 t),(2,.bool x2),(7,V u),(8,Pt S),(9,Pt U)]∧Bx w0 w bc G [.box S 111 #[V e.e,V e.c,V e.n,T e.a,T e.g,V e.m,V e.j,Z v e.d x,T e.k,V e.h,Z z e.b A,Z B e.f C,Z D e.i E],.box U 111 #[V h.e,V h.c,V h.n,T h.a,T h.g,V h.m,V h.j,Z F h.d H,T h.k,V h.h,Z I h.b J,Z K h.f L,Z M h.i N]] [.l M N h.i,.l K L h.f,.l I J h.b,.l F H h.d,.l D E e.i,.l B C e.f,.l z A e.b,.l v x e.d,.l m o x0,.l p t x1]∧Ld.go ()=aF) (fun b1 W=>?_) ?_
    ·unfold wQ at b
     refine q (g (s (uG r) (s (l3 r (c.bk 0 r) r) (s (uG r) (s (l3 r (c.bk 1 r) r) (s (mI r r) (s (jY r) ?_)))))))
     rcases iv b with ⟨a7,b⟩|⟨a7,b⟩
     ·rw [decide_eq_true a7]
      refine jB r (jB r (jB r (jB r (jB r (s (jO r r) (s (jY r) (jB r (jB r (jB r (jB r (jB r (s (jO r r) (s (jY r) (jB r (jB r (jB r (jB r (jB r (s (jO r r) (s (jY r) (jB r (jB r (jB r (jB r (jB r (s (jO r r) (s (jY r) (jB r (jB r (jB r (jB r (jB r (s (jO r r) (s (jY r) (jB r (jB r (jB r (jB r (jB r (s (jO r r) (s (jY r) (jB r (jB r (jB r (jB r (jB r (s (jO r r) (s (jY r) (jB r (jB r (jB r (jB r (jB r (jB r (jB r (jB r (s (jO r r) (n (jH r (q (g (s (jT r) (n (kP ?_))))))))))))))))))))))))))))))))))))))))))))))))))))))))))))))))
      obtain rfl:=sm b
      replace a:=oi a
      obtain rfl:=sm a
      replace j:=oi j
      obtain rfl:=sm j
      exact jC r (kT r) ⟨r,(c.ad [] [])⟩
     rw [decide_eq_false a7]
     refine jW r (s (CZ r) (jW r (s (l3 r (c.bk 0 r) r) (jW r (s (CZ r) (jW r (s (l3 r (c.bk 1 r) r) (jW r (s (mI r r) (s (jZ r r) (s (jY r) ?_)))))))))))
     rcases iv b with ⟨a8,b⟩|⟨a8,b⟩
     ·rw [decide_eq_true a8]
      refine jB r (jB r (jB r (jB r (jB r (s (jO r r) (s (jY r) (jB r (jB r (jB r (jB r (jB r (s (jO r r) (s (jY r) (jB r (jB r (jB r (jB r (jB r (s (jO r r) (s (jY r) (jB r (jB r (jB r (jB r (jB r (s (jO r r) (s (jY r) (jB r (jB r (jB r (jB r (jB r (s (jO r r) (s (jY r) (jB r (jB r (jB r (jB r (jB r (s (jO r r) (s (jY r) (jB r (jB r (jB r (jB r (jB r (jB r (jB r (jB r (s (jO r r) (n (jH r (q (g (s (jT r) (n (kP ?_)))))))))))))))))))))))))))))))))))))))))))))))))))))))))
      obtain rfl:=sm b
      replace a:=oi a
      obtain rfl:=sm a
      replace j:=oi j
      obtain rfl:=sm j
      exact jC r (kT r) ⟨r,(c.ad [] [])⟩
     rw [decide_eq_false a8]
     refine jW r (s (wZ r) (jW r (s (l9 r (c.bk 0 r) r) (jW r (s (wZ r) (jW r (s (l9 r (c.bk 1 r) r) (jW r (s (yJ r r) (s (jZ r r) (s (jY r) ?_)))))))))))
     rcases iv b with ⟨a9,b⟩|⟨a9,b⟩
     ·rw [decide_eq_true a9]
      refine jB r (jB r (jB r (jB r (jB r (s (jO r r) (s (jY r) (jB r (jB r (jB r (jB r (jB r (s (jO r r) (s (jY r) (jB r (jB r (jB r (jB r (jB r (s (jO r r) (s (jY r) (jB r (jB r (jB r (jB r (jB r (s (jO r r) (s (jY r) (jB r (jB r (jB r (jB r (jB r (s (jO r r) (s (jY r) (jB r (jB r (jB r (jB r (jB r (jB r (jB r (jB r (s (jO r r) (n (jH r (q (g (s (jT r) (n (kP ?_))))))))))))))))))))))))))))))))))))))))))))))))))
      obtain rfl:=sm b
      replace a:=oi a
      obtain rfl:=sm a
      replace j:=oi j
      obtain rfl:=sm j
      exact jC r (kT r) ⟨r,(c.ad [] [])⟩
     rw [decide_eq_false a9]
     refine jW r (s (Bq r) (jW r (s (l9 r (c.bk 0 r) r) (jW r (s (Bq r) (jW r (s (l9 r (c.bk 1 r) r) (jW r (s (yJ r r) (s (jZ r r) (s (jY r) ?_)))))))))))
     rcases iv b with ⟨aa,b⟩|⟨aa,b⟩
     ·rw [decide_eq_true aa]
      refine jB r (jB r (jB r (jB r (jB r (s (jO r r) (s (jY r) (jB r (jB r (jB r (jB r (jB r (s (jO r r) (s (jY r) (jB r (jB r (jB r (jB r (jB r (s (jO r r) (s (jY r) (jB r (jB r (jB r (jB r (jB r (s (jO r r) (s (jY r) (jB r (jB r (jB r (jB r (jB r (jB r (jB r (jB r (s (jO r r) (n (jH r (q (g (s (jT r) (n (kP ?_)))))))))))))))))))))))))))))))))))))))))))
      obtain rfl:=sm b
      replace a:=oi a
      obtain rfl:=sm a
      replace j:=oi j
      obtain rfl:=sm j
      exact jC r (kT r) ⟨r,(c.ad [] [])⟩
     rw [decide_eq_false aa]
     refine jW r (s (zL r) (jW r (s (l3 r (c.bk 0 r) r) (jW r (s (zL r) (jW r (s (l3 r (c.bk 1 r) r) (jW r (s (mI r r) (s (jZ r r) (s (jY r) ?_)))))))))))
     rcases iv b with ⟨ab,b⟩|⟨ab,b⟩
     ·rw [decide_eq_true ab]
      refine jB r (jB r (jB r (jB r (jB r (s (jO r r) (s (jY r) (jB r (jB r (jB r (jB r (jB r (s (jO r r) (s (jY r) (jB r (jB r (jB r (jB r (jB r (s (jO r r) (s (jY r) (jB r (jB r (jB r (jB r (jB r (jB r (jB r (jB r (s (jO r r) (n (jH r (q (g (s (jT r) (n (kP ?_))))))))))))))))))))))))))))))))))))
      obtain rfl:=sm b
      replace a:=oi a
      obtain rfl:=sm a
      replace j:=oi j
      obtain rfl:=sm j
      exact jC r (kT r) ⟨r,(c.ad [] [])⟩
     rw [decide_eq_false ab]
     refine jW r (s (Dm r) (jW r (s (l3 r (c.bk 0 r) r) (jW r (s (Dm r) (jW r (s (l3 r (c.bk 1 r) r) (jW r (s (mI r r) (s (jZ r r) (s (jY r) ?_)))))))))))
     rcases iv b with ⟨ac,b⟩|⟨ac,b⟩
     ·rw [decide_eq_true ac]
      refine jB r (jB r (jB r (jB r (jB r (s (jO r r) (s (jY r) (jB r (jB r (jB r (jB r (jB r (s (jO r r) (s (jY r) (jB r (jB r (jB r (jB r (jB r (jB r (jB r (jB r (s (jO r r) (n (jH r (q (g (s (jT r) (n (kP ?_)))))))))))))))))))))))))))))
      obtain rfl:=sm b
      replace a:=oi a
      obtain rfl:=sm a
      replace j:=oi j
      obtain rfl:=sm j
      exact jC r (kT r) ⟨r,(c.ad [] [])⟩
     rw [decide_eq_false ac]
     refine jW r (s (Ae r) (jW r (s (l9 r (c.bk 0 r) r) (jW r (s (Ae r) (jW r (s (l9 r (c.bk 1 r) r) (jW r (s (yJ r r) (s (jZ r r) (s (jY r) ?_)))))))))))
     rcases iv b with ⟨ae,b⟩|⟨ae,b⟩
     ·rw [decide_eq_true ae]
      refine jB r (jB r (jB r (jB r (jB r (s (jO r r) (s (jY r) (jB r (jB r (jB r (jB r (jB r (jB r (jB r (jB r (s (jO r r) (n (jH r (q (g (s (jT r) (n (kP ?_))))))))))))))))))))))
      obtain rfl:=sm b
      replace a:=oi a
      obtain rfl:=sm a
      replace j:=oi j
      obtain rfl:=sm j
      exact jC r (kT r) ⟨r,(c.ad [] [])⟩
     rw [decide_eq_false ae]
     refine jW r (s (Ef r) (jW r (s (l3 r (c.bk 0 r) r) (jW r (s (Ef r) (jW r (s (l3 r (c.bk 1 r) r) (jW r (s (mI r r) (s (jZ r r) (s (jY r) ?_)))))))))))
     rcases iv b with ⟨af,b⟩|⟨af,b⟩
     ·rw [decide_eq_true af]
      refine jB r (jB r (jB r (jB r (jB r (jB r (jB r (jB r (s (jO r r) (n (jH r (q (g (s (jT r) (n (kP ?_)))))))))))))))
      obtain rfl:=sm b
      replace a:=oi a
      obtain rfl:=sm a
      replace j:=oi j
      obtain rfl:=sm j
      exact jC r (kT r) ⟨r,(c.ad [] [])⟩
     rw [decide_eq_false af]
     refine jW r (s (jY r) (jW r (s (jY r) ?_)))
     rcases iv b with ⟨R,b⟩|⟨R,b⟩
     ·rw [R]
      rw [R] at a6
      rw [R] at W
      try dsimp only [Z] at b
      try rw [R] at b
      refine jW r (s (xe r) (jW r (s (l3 r (c.bk 0 r) r) (jW r (s (xe r) (jW r (s (l3 r (c.bk 1 r) r) (jW r (s (mI r r) (jW r (s (jO r r) (s (jZ r r) (n ?_)))))))))))))
      rcases iv b with ⟨ag,b⟩|⟨ag,b⟩
      ·refine jH (bt ag) (q (g (s (jT r) (n (kP ?_)))))
       obtain rfl:=sm b
       replace a:=oi a
       obtain rfl:=sm a
       replace j:=oi j
       obtain rfl:=sm j
       exact jC r (kT r) ⟨r,(c.ad [] [])⟩
      exact jI (bf ag) (wk (W _ _ ⟨⟨r,r,r,r,r,r,y⟩,c,sm b⟩))
     replace R:=nt R
     rw [R]
     rw [R] at a6
     rw [R] at W
     try dsimp only [Z] at b
     try rw [R] at b
     exact jB r (jB r (jB r (jB r (jB r (jW r (s (jZ r r) (s (jZ r r) (n (jI r (wk (W _ _ ⟨⟨r,r,r,r,r,r,y⟩,c,sm b⟩)))))))))))
    clear c
    rintro f w ⟨hf,c,ar⟩
    obtain ⟨bd,rfl⟩:=gP _ _ hf
    clear hf
    subst ar
    replace a:=gi a
    refine q (g (s (uq r) (s (xh r (c.bk 0 r) r) (s (uq r) (s (xh r (c.bk 1 r) r) ?_)))))
    obtain ⟨aG,aH,a⟩:=bs a
    have hc:=(Cy fu) (c.pr [] [0,1] [7,3] r)  aH
    refine sc (ec Md r) hc ?_
    rintro _ b2 ⟨rfl,hK⟩
    replace c:=c.cn [] [0,1] hK
    refine s (xc r) (s (jY r) ?_)
    rcases iv a with ⟨X,a⟩|⟨X,a⟩
    ·rw [X]
     refine jB r (jB r (jB r (jB r (jB r (jB r (s (jO r r) (s (jY r) (jB r (jB r (jB r (jB r (jB r (jB r (jB r (s (jO r r) (s (jY r) (jB r (jB r (jB r (jB r (jB r (jB r (jB r (s (jO r r) (n (jH r (q (g (s (jT r) (n (kP ?_)))))))))))))))))))))))))))))))
     obtain rfl:=sm a
     replace j:=oi j
     obtain rfl:=sm j
     exact jC r (kT r) ⟨r,(c.ad [] [])⟩
    replace X:=nt X
    rw [X]
    refine jW r (s (qA r) (jW r (s (xh r (c.bk 0 r) r) (jW r (s (qA r) (jW r (s (xh r (c.bk 1 r) r) ?_)))))))
    obtain ⟨aI,aJ,a⟩:=bs a
    refine jW r ?_
    have hc:=(Cy fu) (c.pr [] [0,1] [6,2] r)  aJ
    refine sc (ec Md r) hc ?_
    rintro _ b3 ⟨rfl,hK⟩
    replace c:=c.cn [] [0,1] hK
    refine jW r (s (xc r) (s (jZ r r) (s (jY r) ?_)))
    rcases iv a with ⟨Y,a⟩|⟨Y,a⟩
    ·rw [Y]
     refine jB r (jB r (jB r (jB r (jB r (jB r (jB r (s (jO r r) (s (jY r) (jB r (jB r (jB r (jB r (jB r (jB r (jB r (s (jO r r) (n (jH r (q (g (s (jT r) (n (kP ?_)))))))))))))))))))))))
     obtain rfl:=sm a
     replace j:=oi j
     obtain rfl:=sm j
     exact jC r (kT r) ⟨r,(c.ad [] [])⟩
    replace Y:=nt Y
    rw [Y]
    refine jW r (s (tO r) (jW r (s (FO r (c.bk 0 r) r) (jW r (s (tO r) (jW r (s (FO r (c.bk 1 r) r) (jW r (s (jY r) ?_)))))))))
    obtain ⟨aK,aL,a⟩:=bs a
    refine jW r ?_
    have hc:=H_same_Stmts (c.pr [] [0,1] [5,1] r)  aL
    refine sc (ec MI r) hc ?_
    rintro _ b4 ⟨rfl,hK⟩
    replace c:=c.cn [] [0,1] hK
    refine jW r (s (xc r) (s (jZ r r) (s (jY r) ?_)))
    rcases iv a with ⟨a0,a⟩|⟨a0,a⟩
    ·rw [a0]
     refine jB r (jB r (jB r (jB r (jB r (jB r (jB r (s (jO r r) (n (jH r (q (g (s (jT r) (n (kP ?_))))))))))))))
     obtain rfl:=sm a
     replace j:=oi j
     obtain rfl:=sm j
     exact jC r (kT r) ⟨r,(c.ad [] [])⟩
    replace a0:=nt a0
    rw [a0]
    refine jW r (s (uj r) (jW r (s (FO r (c.bk 0 r) r) (jW r (s (uj r) (jW r (s (FO r (c.bk 1 r) r) (jW r (s (jY r) ?_)))))))))
    obtain ⟨aM,aN,a⟩:=bs a
    refine jW r ?_
    have hc:=H_same_Stmts (c.pr [] [0,1] [4,0] r)  aN
    refine sc (ec MI r) hc ?_
    rintro _ b5 ⟨rfl,hK⟩
    replace c:=c.cn [] [0,1] hK
    refine jW r (s (xc r) (s (jZ r r) (n ?_)))
    rcases iv a with ⟨a1,a⟩|⟨a1,a⟩
    ·refine jH (cb a1) (q (g (s (jT r) (n (kP ?_)))))
     obtain rfl:=sm a
     replace j:=oi j
     obtain rfl:=sm j
     exact jC r (kT r) ⟨r,(c.ad [] [])⟩
    replace a1:=nt a1
    exact jI (cb a1) (wk (g (s (mi r) (s (kN r r) (s (xi r) (n (a6 n2 _ _ (Nat.lt_succ_self _) ⟨(wr (u+1)),⟨r,r,r,r,y⟩,(c.ad [] [8,9]),a⟩)))))))
   exact jI (bf h3) (ve (aw _ _ ⟨u,y,c,sm a⟩))
 clear c
 rintro f w ⟨u,hf,c,aO⟩
 obtain ⟨bd,rfl⟩:=gP _ _ hf
 clear hf
 subst aO
 replace j:=gi j
 refine q (g (s (jT r) (n (kP ?_))))
 obtain rfl:=sm j
 exact jC r (kT r) ⟨r,(c.dp [])⟩
theorem G7 (fu:Nat):yQ (rQ fu):=by
 induction fu with
 | zero=>exact by intro a b;intros;exact nn (by assumption)
 | succ fu ih=>exact Ib fu (rQ fu) ih
theorem CP (fu:Nat):yQ (rQ fu):=(G7 fu)
def FB (m:jJ→jJ→Bool→Option (Bool)):Prop:=∀ {o:World} {u:Nat→Prop} {j:jJ} {k:jJ} {p:Bool} {a:Option Addr} {b:Nat} {c:Option Addr} {d:Nat} {e:Option Addr} {f:Nat} {h:Option Addr} {i:Nat} {t:Bool},Pre o u [] [.l a b j.a,.l c d j.b,.l e f k.a,.l h i k.b]→m j k p=some t→
 Calls Try.prog 52 #[.agg #[Z a j.a b,Z c j.b d],.agg #[Z e k.a f,Z h k.b i],.bool p] o (rA fun v w=>v=.bool t∧Bx o w u (lT []) [] [])
def qV (fu:Nat)(c:jJ) (d:jJ):Nat→Int→Option (Ld (Int) (Bool))
 | 0,_=>none
 | h+1,a=>
 if a < (c.a.length:Int) then
  (ix c.a a).bind fun e=>
  (ix d.a a).bind fun f=>
  if ¬ e.a=f.a then
   some (.out false)
  else
   (uA fu e.b f.b).bind fun b=>
   if (!b)=true then
    some (.out false)
   else
    qV fu c d h (wr (a+1))
 else
  some (.go a)
def qb (fu:Nat)(j:jJ) (k:jJ) (l:Bool):Nat→Int→Option (Ld (Int) (Bool))
 | 0,_=>none
 | i+1,a=>
 if a < (j.b.length:Int) then
  (ix j.b a).bind fun b=>
  (ix k.b a).bind fun c=>
  if ¬ b.a=c.a then
   some (.out false)
  else
   if l=true then
    if b.c≠c.c then
     some (.out false)
    else
     (uA fu b.b c.b).bind fun d=>
     if (!d)=true then
      some (.out false)
     else
      (rQ fu b.f c.f true).bind fun e=>
      if (!e)=true then
       some (.out false)
      else
       qb fu j k l i (wr (a+1))
   else
    (uA fu b.b c.b).bind fun f=>
    if (!f)=true then
     some (.out false)
    else
     (rQ fu b.f c.f false).bind fun h=>
     if (!h)=true then
      some (.out false)
     else
      qb fu j k l i (wr (a+1))
 else
  some (.go a)
def vM (fu:Nat)(a:jJ) (b:jJ) (e:Bool):Option (Bool):=
 if (a.a.length:Int)≠(b.a.length:Int) then
  some false
 else
  if (a.b.length:Int)≠(b.b.length:Int) then
   some false
  else
   (qV fu a b fu 0).bind fun f=>f.el (fun d=>
   (qb fu a b e fu 0).bind fun f=>f.el (fun c=>
   some true
   ) (fun o=>some o)
   ) (fun o=>some o)
theorem Fj (fu:Nat):FB (vM fu):=by
 intro w0 bD M N x2 m o p t u v x z r0 hP B
 unfold vM at B
 have b:=hP.bx
 clear hP
 generalize hG:lT _=G at b ⊢
 refine cf Try.func52 r (l8 [(0,.agg #[Z m M.a o,Z p M.b t]),(1,.agg #[Z u N.a v,Z x N.b z]),(2,.bool x2)] ⟨r,r,r,y⟩ fun bE=>q (g (tH b (yD r) fun w1 b1 b=>tH b (yD r) fun w2 b2 b=>s (jT r) (n (q (q (g (s (wE r) (s (JS r (b.bk 1 r) r) (s (lg Az r) (s (wE r) (s (JS r (b.bk 0 r) r) (s (lg Az r) (s (mI r r) (s (jY r) ?_)))))))))))))))
 rcases iv B with ⟨h3,B⟩|⟨h3,B⟩
 ·rw [decide_eq_true h3]
  refine jB r (jB r (jB r (jB r (jB r (jB r (jB r (s (jO r r) (n (jH r (q (g (s (jT r) (n (kP ?_))))))))))))))
  obtain rfl:=sm B
  exact jC r (kT r) ⟨r,(b.ad [] [])⟩
 rw [decide_eq_false h3]
 refine jW r (s (vF r) (jW r (s (Ij r (b.bk 1 r) r) (jW r (s (lg yM r) (jW r (s (vF r) (jW r (s (Ij r (b.bk 0 r) r) (jW r (s (lg yM r) (jW r (s (mI r r) (s (jZ r r) (n ?_)))))))))))))))
 rcases iv B with ⟨h4,B⟩|⟨h4,B⟩
 ·refine jH (bt h4) (q (g (s (jT r) (n (kP ?_)))))
  obtain rfl:=sm B
  exact jC r (kT r) ⟨r,(b.ad [] [])⟩
 refine jI (bf h4) (wk (q (q (g (s (xi r) (n ?_))))))
 obtain ⟨Y5,j,B⟩:=bs B
 refine oG (fun f w=>∃ (L:Int),Has f [(2,.bool x2),(3,Pt b1),(4,Pt b2)]∧Bx w0 w bD G [.box b2 26 #[Z u N.a v,Z x N.b z],.box b1 26 #[Z m M.a o,Z p M.b t]] [.l m o M.a,.l p t M.b,.l u v N.a,.l x z N.b]∧Ld.go L=Y5) (fun J5 aF=>?_) ?_
 ·refine oF (kI (fun bF f w=>∃ (L:Int),Has f [(2,.bool x2),(3,Pt b1),(4,Pt b2),(7,V L)]∧Bx w0 w bD G [.box b2 26 #[Z u N.a v,Z x N.b z],.box b1 26 #[Z m M.a o,Z p M.b t]] [.l m o M.a,.l p t M.b,.l u v N.a,.l x z N.b]∧qV fu M N bF L=some Y5) fu ⟨0,⟨r,r,r,r,y⟩,b,j⟩ ?_)
  clear b j
  rintro n5 f w ⟨L,hf,b,j⟩ K5 aH
  obtain ⟨bE,rfl⟩:=gP _ _ hf
  clear hf
  cases n5 with
  | zero=>exact nn j
  | succ n5=>
   rw [qV] at j
   refine q (q (g (s (mi r) (s (wE r) (s (JS r (b.bk 1 r) r) (s (lg Az r) (s (qR r r) (n ?_))))))))
   rcases iv j with ⟨h6,j⟩|⟨h6,j⟩
   ·refine jH (bt h6) (wk (q (oF (q ?_))))
    obtain ⟨e7,W,j⟩:=bs j
    obtain ⟨k7,ao,W⟩:=kG W
    obtain ⟨b5,aJ,b⟩:=b.nm 0 rfl W
    obtain ⟨ap,aq,rfl,ar⟩:=kD.out aJ
    replace b:=b.ku (d:=.l ap aq e7.b) ar
    obtain ⟨e9,X,j⟩:=bs j
    obtain ⟨k9,au,X⟩:=kG X
    obtain ⟨aZ,av,b⟩:=b.nm 4 rfl X
    obtain ⟨aa,ab,rfl,ac⟩:=kD.out av
    replace b:=b.ku (d:=.l aa ab e9.b) ac
    refine oJ b [0,1] [0,1,2,3,4,6] [] (by kernel_rfl) ?_
    replace b:=b.drew
    have c:=(b.dp [0,1,2,3,4,6])
    refine pF 0 r (wE r) c (uF 1 r (fun hS=>JS r (hS.bk 1 r) r) c (pF 2 r (mi r) c (pF 3 r (kZ Az sK r r ao (b.dl 4 r) W) c (pF 4 r (BS r) c (uF 5 r (fun hS=>kC uk r r ((hS.dc 3 r) 0 _ r)) c (pF 6 r (wE r) c (uF 7 r (fun hS=>JS r (hS.bk 0 r) r) c (pF 8 r (mi r) c (pF 9 r (kZ Az sK r r au (b.dl 6 r) X) c (pF 10 r (BS r) c (uF 11 r (fun hS=>kC uk r r ((hS.dc 1 r) 0 _ r)) c (pF 12 r (yJ r r) c (pF 13 r (jY r) c ?_)))))))))))))
    rcases iv j with ⟨ae,j⟩|⟨ae,j⟩
    ·rw [decide_eq_true ae]
     have c:=(b.dp [0,1,2,3,4,6])
     refine pR 14 r (by kernel_rfl) r (sF c) (pR 15 r (by kernel_rfl) r (sF c) (pR 16 r (by kernel_rfl) r (sF c) (pR 17 r (by kernel_rfl) r (sF c) (pR 18 r (by kernel_rfl) r (sF c) (pR 19 r (by kernel_rfl) r (sF c) (pR 20 r (by kernel_rfl) r (sF c) (pR 21 r (by kernel_rfl) r (sF c) (pR 22 r (by kernel_rfl) r (sF c) (pR 23 r (by kernel_rfl) r (sF c) (pR 24 r (by kernel_rfl) r (sF c) (pR 25 r (by kernel_rfl) r (sF c) (pR 26 r (by kernel_rfl) r (sF c) (pR 27 r (by kernel_rfl) r (sF c) (pF 28 r (jO r r) c (hD (jH r (q (g (s (jT r) (n (kP ?_)))))))))))))))))))))
     obtain rfl:=sm j
     replace B:=oi B
     obtain rfl:=sm B
     exact jC r (kT r) ⟨r,(b.ad [] [])⟩
    rw [decide_eq_false ae]
    have c:=(b.dp [0,1,2,3,4,6])
    refine pF 14 r (wE r) c (uF 15 r (fun hS=>JS r (hS.bk 1 r) r) c (pF 16 r (mi r) c (pF 17 r (kZ Az sK r r ao (b.dl 4 r) W) c (pF 18 r (ww r) c (uF 19 r (fun hS=>kC kM r r ((hS.dc 3 r) 1 _ r)) c (pF 20 r (wE r) c (uF 21 r (fun hS=>JS r (hS.bk 0 r) r) c (pF 22 r (mi r) c (pF 23 r (kZ Az sK r r au (b.dl 6 r) X) c (pF 24 r (ww r) c (uF 25 r (fun hS=>kC kM r r ((hS.dc 1 r) 1 _ r)) c ?_)))))))))))
    obtain ⟨aK,aL,j⟩:=bs j
    have hc:=(Aj fu) (b.pr [] [0,1] [2,0] r)  aL
    refine hO 26 (oc r r (ec NS r) hc ?_)
    rintro _ b7 ⟨rfl,hK⟩
    replace b:=b.cn [] [0,1] hK
    have c:=(b.dp [0,1,2,3,4,6])
    refine ⟨(sF c),(pF 27 r (xc r) c (pF 28 r (jZ r r) c (hD ?_)))⟩
    rcases iv j with ⟨Y,j⟩|⟨Y,j⟩
    ·refine jH (cb Y) (q (g (s (jT r) (n (kP ?_)))))
     obtain rfl:=sm j
     replace B:=oi B
     obtain rfl:=sm B
     exact jC r (kT r) ⟨r,(b.ad [] [])⟩
    replace Y:=nt Y
    exact jI (cb Y) (wk (g (s (mi r) (s (kN r r) (s (xi r) (n (aH n5 _ _ (Nat.lt_succ_self _) ⟨(wr (L+1)),⟨r,r,r,r,y⟩,(b.dp [4,5,6,7]),j⟩)))))))
   exact jI (bf h6) (ve (aF _ _ ⟨L,⟨r,r,r,y⟩,b,sm j⟩))
 clear b
 rintro f w ⟨L,hf,b,aM⟩
 obtain ⟨bE,rfl⟩:=gP _ _ hf
 clear hf
 subst aM
 replace B:=gi B
 refine q (q (g (s (xi r) (n ?_))))
 obtain ⟨aw,a,B⟩:=bs B
 refine oG (fun f w=>∃ (A:Int),Has f []∧Bx w0 w bD G [.box b2 26 #[Z u N.a v,Z x N.b z],.box b1 26 #[Z m M.a o,Z p M.b t]] [.l m o M.a,.l p t M.b,.l u v N.a,.l x z N.b]∧Ld.go A=aw) (fun b8 ax=>?_) ?_
 ·refine oF (kI (fun bF f w=>∃ (A:Int),Has f [(2,.bool x2),(3,Pt b1),(4,Pt b2),(8,V A)]∧Bx w0 w bD G [.box b2 26 #[Z u N.a v,Z x N.b z],.box b1 26 #[Z m M.a o,Z p M.b t]] [.l m o M.a,.l p t M.b,.l u v N.a,.l x z N.b]∧qb fu M N x2 bF A=some aw) fu ⟨0,⟨r,r,r,r,y⟩,b,a⟩ ?_)
  clear b a
  rintro a9 f w ⟨A,hf,b,a⟩ b9 R
  obtain ⟨bE,rfl⟩:=gP _ _ hf
  clear hf
  cases a9 with
  | zero=>exact nn a
  | succ a9=>
   rw [qb] at a
   refine q (q (g (s (mi r) (s (vF r) (s (Ij r (b.bk 1 r) r) (s (lg yM r) (s (qR r r) (n ?_))))))))
   rcases iv a with ⟨af,a⟩|⟨af,a⟩
   ·refine jH (bt af) (wk (q (oF (q ?_))))
    obtain ⟨e,S,a⟩:=bs a
    obtain ⟨ba,ay,S⟩:=kG S
    obtain ⟨b0,az,b⟩:=b.nm 1 rfl S
    obtain ⟨C,D,E,F,rfl,ag,ah⟩:=kz.out az
    replace b:=b.ku (d:=.l C D e.b) ag
    replace b:=b.ku (d:=.l E F e.f) ah
    obtain ⟨h,U,a⟩:=bs a
    obtain ⟨bb,aA,U⟩:=kG U
    obtain ⟨b3,aB,b⟩:=b.nm 6 rfl U
    obtain ⟨H,I,J,K,rfl,ai,aj⟩:=kz.out aB
    replace b:=b.ku (d:=.l H I h.b) ai
    replace b:=b.ku (d:=.l J K h.f) aj
    refine oG (fun f w=>∃ (a0:Nat)(a1:Nat),Has f [(2,.bool x2),(3,Pt b1),(4,Pt b2),(8,V A),(9,Pt a0),(10,Pt a1)]∧Bx w0 w bD G [.box b2 26 #[Z u N.a v,Z x N.b z],.box b1 26 #[Z m M.a o,Z p M.b t],.box a0 82 #[T e.a,V e.c,Z C e.b D,Z E e.f F],.box a1 82 #[T h.a,V h.c,Z H h.b I,Z J h.f K]] [.l J K h.f,.l H I h.b,.l E F e.f,.l C D e.b,.l m o M.a,.l p t M.b,.l u v N.a,.l x z N.b]) (fun Jd hJd=>?_) ?_
    ·refine oJ b [0,1] [0,1,2,3,4,5,7,9] [] (by kernel_rfl) ?_
     replace b:=b.drew
     have c:=(b.dp [0,1,2,3,4,5,7,9])
     refine pF 0 r (vF r) c (uF 1 r (fun hS=>Ij r (hS.bk 1 r) r) c (pF 2 r (mi r) c (pF 3 r (kZ yM mX r r ay (b.dl 7 r) S) c (uF 4 r (fun hS=>oH [T e.a,V e.c,Z C e.b D,Z E e.f F] Bu r mX r r (hS.dc 5 r)) c (pF 5 r (vF r) c (uF 6 r (fun hS=>Ij r (hS.bk 0 r) r) c (pF 7 r (mi r) c (pF 8 r (kZ yM mX r r aA (b.dl 9 r) U) c (uF 9 r (fun hS=>oH [T h.a,V h.c,Z H h.b I,Z J h.f K] Bu r mX r r (hS.dc 2 r)) c (nJ 10 [11] (by kernel_rfl) (jR ?_ (jR ?_ lX))))))))))))
     ·refine oo r r (rF b (ko mX)) ?_
      rintro _ bc ⟨a0,rfl,b⟩
      have c:=(b.ad [1,2] [0,1,2,3,4,5,7,9])
      refine ⟨(sF c),(hO 11 (oo r r (rF b (ko mX)) ?_))⟩
      rintro _ bd ⟨a1,rfl,b⟩
      have c:=(b.ad [2,3] [0,1,2,3,4,5,7,9])
      refine ⟨(sF c),(hO 12 (os r r (nE b 1 [T e.a,V e.c,Z C e.b D,Z E e.f F] r mX r r) fun bg b=>?_))⟩
      have c:=(b.ad [2,3] [0,1,2,3,4,5,7,9])
      refine ⟨(sF c),(hO 13 (os r r (nE b 0 [T h.a,V h.c,Z H h.b I,Z J h.f K] r mX r r) fun bh b=>?_))⟩
      have c:=(b.ad [2,3] [0,1,2,3,4,5,7,9])
      exact ⟨(sF c),(hD (hJd _ _ ⟨a0,a1,⟨r,r,r,r,r,r,y⟩,(b.ad [2,3,1,0] [0,1,3,4,6,7,8,9])⟩))⟩
     refine oo r r (rF b (ko mX)) ?_
     rintro _ bi ⟨aN,rfl,b⟩
     have c:=(b.ad [1,2] [0,1,2,3,4,5,7,9])
     refine ⟨(sF c),(hO 10 (oo r r (rF b (ko mX)) ?_))⟩
     rintro _ bj ⟨aO,rfl,b⟩
     have c:=(b.ad [2,3] [0,1,2,3,4,5,7,9])
     refine ⟨(sF c),(hO 12 (os r r (nE b 0 [T e.a,V e.c,Z C e.b D,Z E e.f F] r mX r r) fun bl b=>?_))⟩
     have c:=(b.ad [2,3] [0,1,2,3,4,5,7,9])
     refine ⟨(sF c),(hO 13 (os r r (nE b 1 [T h.a,V h.c,Z H h.b I,Z J h.f K] r mX r r) fun bm b=>?_))⟩
     have c:=(b.ad [2,3] [0,1,2,3,4,5,7,9])
     exact ⟨(sF c),(hD (hJd _ _ ⟨aO,aN,⟨r,r,r,r,r,r,y⟩,(b.ad [2,3,0,1] [0,1,3,4,6,7,8,9])⟩))⟩
    clear b
    rintro f w ⟨a0,a1,hf,b⟩
    obtain ⟨bE,rfl⟩:=gP _ _ hf
    clear hf
    refine q (g (s (CR r) (s (l9 r (b.bk 2 r) r) (s (CR r) (s (l9 r (b.bk 3 r) r) (s (yJ r r) (s (jY r) ?_)))))))
    rcases iv a with ⟨ak,a⟩|⟨ak,a⟩
    ·rw [decide_eq_true ak]
     refine jB r (jB r (jB r (jB r (jB r (jB r (jB r (jB r (s (jO r r) (s (jY r) (jB r (jB r (jB r (jB r (jB r (jB r (s (jO r r) (s (jY r) (jB r (jB r (jB r (jB r (jB r (jB r (jB r (s (jO r r) (n (jH r (q (g (s (jT r) (n (kP ?_))))))))))))))))))))))))))))))))
     obtain rfl:=sm a
     replace B:=oi B
     obtain rfl:=sm B
     exact jC r (kT r) ⟨r,(b.ad [] [])⟩
    rw [decide_eq_false ak]
    refine jW r (s (jY r) (jW r (s (jY r) ?_)))
    rcases iv a with ⟨Q,a⟩|⟨Q,a⟩
    ·rw [Q]
     rw [Q] at R
     try dsimp only [Z] at a
     try rw [Q] at a
     refine jW r (s (EM r) (jW r (s (l3 r (b.bk 2 r) r) (jW r (s (EM r) (jW r (s (l3 r (b.bk 3 r) r) (jW r (s (mI r r) (jW r (s (jO r r) (s (jZ r r) (s (jY r) ?_)))))))))))))
     rcases iv a with ⟨al,a⟩|⟨al,a⟩
     ·rw [decide_eq_true al]
      refine jB r (jB r (jB r (jB r (jB r (jB r (s (jO r r) (s (jY r) (jB r (jB r (jB r (jB r (jB r (jB r (jB r (s (jO r r) (n (jH r (q (g (s (jT r) (n (kP ?_))))))))))))))))))))))
      obtain rfl:=sm a
      replace B:=oi B
      obtain rfl:=sm B
      exact jC r (kT r) ⟨r,(b.ad [] [])⟩
     rw [decide_eq_false al]
     refine jW r (s (zB r) (jW r (s (yE r (b.bk 2 r) r) (jW r (s (zB r) (jW r (s (yE r (b.bk 3 r) r) ?_)))))))
     obtain ⟨aP,aQ,a⟩:=bs a
     refine jW r ?_
     have hc:=(Aj fu) (b.pr [] [0,1,2,3] [3,1] r)  aQ
     refine sc (ec NS r) hc ?_
     rintro _ bn ⟨rfl,hK⟩
     replace b:=b.cn [] [0,1,2,3] hK
     refine jW r (s (xc r) (s (jZ r r) (s (jY r) ?_)))
     rcases iv a with ⟨a2,a⟩|⟨a2,a⟩
     ·rw [a2]
      refine jB r (jB r (jB r (jB r (jB r (jB r (jB r (s (jO r r) (n (jH r (q (g (s (jT r) (n (kP ?_))))))))))))))
      obtain rfl:=sm a
      replace B:=oi B
      obtain rfl:=sm B
      exact jC r (kT r) ⟨r,(b.ad [] [])⟩
     replace a2:=nt a2
     rw [a2]
     refine jW r (s (Ab r) (jW r (s (FO r (b.bk 2 r) r) (jW r (s (Ab r) (jW r (s (FO r (b.bk 3 r) r) (jW r (s (jY r) ?_)))))))))
     obtain ⟨aR,aS,a⟩:=bs a
     refine jW r ?_
     have hc:=(CP fu) (b.pr [] [0,1,2,3] [2,0] r)  aS
     refine sc (ec MI r) hc ?_
     rintro _ bo ⟨rfl,hK⟩
     replace b:=b.cn [] [0,1,2,3] hK
     refine jW r (s (xc r) (s (jZ r r) (n ?_)))
     rcases iv a with ⟨a3,a⟩|⟨a3,a⟩
     ·refine jH (cb a3) (q (g (s (jT r) (n (kP ?_)))))
      obtain rfl:=sm a
      replace B:=oi B
      obtain rfl:=sm B
      exact jC r (kT r) ⟨r,(b.ad [] [])⟩
     replace a3:=nt a3
     exact jI (cb a3) (wk (g (s (mi r) (s (kN r r) (s (xi r) (n (R a9 _ _ (Nat.lt_succ_self _) ⟨(wr (A+1)),⟨r,r,r,r,y⟩,(b.ad [0,1] [4,5,6,7]),a⟩)))))))
    replace Q:=nt Q
    rw [Q]
    rw [Q] at R
    try dsimp only [Z] at a
    try rw [Q] at a
    refine jB r (jB r (jB r (jB r (jB r (jW r (s (jZ r r) (s (jZ r r) (s (jY r) (jW r (s (zB r) (jW r (s (yE r (b.bk 2 r) r) (jW r (s (zB r) (jW r (s (yE r (b.bk 3 r) r) ?_))))))))))))))))
    obtain ⟨aT,aU,a⟩:=bs a
    refine jW r ?_
    have hc:=(Aj fu) (b.pr [] [0,1,2,3] [3,1] r)  aU
    refine sc (ec NS r) hc ?_
    rintro _ bp ⟨rfl,hK⟩
    replace b:=b.cn [] [0,1,2,3] hK
    refine jW r (s (xc r) (s (jZ r r) (s (jY r) ?_)))
    rcases iv a with ⟨a4,a⟩|⟨a4,a⟩
    ·rw [a4]
     refine jB r (jB r (jB r (jB r (jB r (jB r (jB r (s (jO r r) (n (jH r (q (g (s (jT r) (n (kP ?_))))))))))))))
     obtain rfl:=sm a
     replace B:=oi B
     obtain rfl:=sm B
     exact jC r (kT r) ⟨r,(b.ad [] [])⟩
    replace a4:=nt a4
    rw [a4]
    refine jW r (s (Ab r) (jW r (s (FO r (b.bk 2 r) r) (jW r (s (Ab r) (jW r (s (FO r (b.bk 3 r) r) (jW r (s (jY r) ?_)))))))))
    obtain ⟨aV,aW,a⟩:=bs a
    refine jW r ?_
    have hc:=(CP fu) (b.pr [] [0,1,2,3] [2,0] r)  aW
    refine sc (ec MI r) hc ?_
    rintro _ bq ⟨rfl,hK⟩
    replace b:=b.cn [] [0,1,2,3] hK
    refine jW r (s (xc r) (s (jZ r r) (n ?_)))
    rcases iv a with ⟨a5,a⟩|⟨a5,a⟩
    ·refine jH (cb a5) (q (g (s (jT r) (n (kP ?_)))))
     obtain rfl:=sm a
     replace B:=oi B
     obtain rfl:=sm B
     exact jC r (kT r) ⟨r,(b.ad [] [])⟩
    replace a5:=nt a5
    exact jI (cb a5) (wk (g (s (mi r) (s (kN r r) (s (xi r) (n (R a9 _ _ (Nat.lt_succ_self _) ⟨(wr (A+1)),⟨r,r,r,r,y⟩,(b.ad [0,1] [4,5,6,7]),a⟩)))))))
   exact jI (bf af) (ve (ax _ _ ⟨A,y,b,sm a⟩))
 clear b
 rintro f w ⟨A,hf,b,aC⟩
 obtain ⟨bE,rfl⟩:=gP _ _ hf
 clear hf
 subst aC
 replace B:=gi B
 refine q (g (s (jT r) (n (kP ?_))))
 obtain rfl:=sm B
 exact jC r (kT r) ⟨r,(b.ad [] [])⟩
def Ez (m:(List Gi)→(List Gi)→Option (Bool)):Prop:=∀ {e:World} {j:Nat→Prop} {f:(List Gi)} {h:(List Gi)} {a:Option Addr} {b:Nat} {c:Option Addr} {d:Nat} {i:Bool},Pre e j [] [.l a b f,.l c d h]→m f h=some i→
 Calls Try.prog 53 #[Z a f b,Z c h d] e (rA fun v w=>v=.bool i∧Bx e w j (lT []) [] [])
def qw (fu:Nat)(b:(List Gi)) (e:(List Gi)):Nat→Int→Option (Ld (Int) (Bool))
 | 0,_=>none
 | f+1,a=>
 if a < (b.length:Int) then
  (ix b a).bind fun c=>
  (ix e a).bind fun d=>
  if ¬ [c.k,c.e,c.c]=[d.k,d.e,d.c] then
   some (.out false)
  else
   qw fu b e f (wr (a+1))
 else
  some (.go a)
def uV (fu:Nat)(a:(List Gi)) (b:(List Gi)):Option (Bool):=
 if (a.length:Int)≠(b.length:Int) then
  some false
 else
  (qw fu a b fu 0).bind fun d=>d.el (fun c=>
  some true
  ) (fun o=>some o)
theorem Eg (fu:Nat):Ez (uV fu):=by
 intro J W v x c d e i M K k
 unfold uV at k
 have j:=K.bx
 clear K
 generalize N:lT _=G at j ⊢
 refine cf Try.func53 r (l8 [(0,Z c v d),(1,Z e x i)] ⟨r,r,y⟩ fun X=>q (g (s (jT r) (n (q (q (g (s (mH r) (s (lg Ch r) (s (mH r) (s (lg Ch r) (s (mI r r) (n ?_)))))))))))))
 rcases iv k with ⟨z,k⟩|⟨z,k⟩
 ·refine jH (bt z) (q (g (s (jT r) (n (kP ?_)))))
  obtain rfl:=sm k
  exact jC r (kT r) ⟨r,(j.dp [])⟩
 refine jI (bf z) (wk (q (q (g (s (xi r) (n ?_))))))
 obtain ⟨L,a,k⟩:=bs k
 refine oG (fun f w=>∃ (b:Int),Has f []∧Bx J w W G [] [.l c d v,.l e i x]∧Ld.go b=L) (fun Q A=>?_) ?_
 ·refine oF (kI (fun Y f w=>∃ (b:Int),Has f [(0,Z c v d),(1,Z e x i),(5,V b)]∧Bx J w W G [] [.l c d v,.l e i x]∧qw fu v x Y b=some L) fu ⟨0,⟨r,r,r,y⟩,j,a⟩ ?_)
  clear j a
  rintro B f w ⟨b,hf,j,a⟩ R C
  obtain ⟨X,rfl⟩:=gP _ _ hf
  clear hf
  cases B with
  | zero=>exact nn a
  | succ B=>
   rw [qw] at a
   refine q (q (g (s (mi r) (s (mH r) (s (lg Ch r) (s (qR r r) (n ?_)))))))
   rcases iv a with ⟨D,a⟩|⟨D,a⟩
   ·refine jH (bt D) (wk (q (oF (q (oJ j [] [0,1] [] (by kernel_rfl) ?_)))))
    replace j:=j.drew
    have m:=j
    refine pF 0 r (mH r) m (pF 1 r (mi r) m ?_)
    obtain ⟨t,o,a⟩:=bs a
    obtain ⟨S,E,o⟩:=kG o
    refine pF 2 r (kZ Ch NA r r E (j.dl 0 r) o) m (uF 3 r (fun hS=>L9 [V t.k,V t.e,V t.c] R6 NA r (hS.dl 0 r) o) m (pF 4 r (mH r) m (pF 5 r (mi r) m ?_)))
    obtain ⟨u,p,a⟩:=bs a
    obtain ⟨U,F,p⟩:=kG p
    refine pF 6 r (kZ Ch NA r r F (j.dl 1 r) p) m (uF 7 r (fun hS=>L9 [V u.k,V u.e,V u.c] R6 NA r (hS.dl 1 r) p) m (pF 8 r (RO R6 (by kernel_rfl) (by kernel_rfl) (by kernel_rfl) r r) m (hD ?_)))
    rcases iv a with ⟨H,a⟩|⟨H,a⟩
    ·refine jH (bt H) (q (g (s (jT r) (n (kP ?_)))))
     obtain rfl:=sm a
     replace k:=oi k
     obtain rfl:=sm k
     exact jC r (kT r) ⟨r,(j.dp [])⟩
    exact jI (bf H) (wk (g (s (mi r) (s (kN r r) (s (xi r) (n (C B _ _ (Nat.lt_succ_self _) ⟨(wr (b+1)),⟨r,r,r,y⟩,j,a⟩)))))))
   exact jI (bf D) (ve (A _ _ ⟨b,y,j,sm a⟩))
 clear j
 rintro f w ⟨b,hf,j,I⟩
 obtain ⟨X,rfl⟩:=gP _ _ hf
 clear hf
 subst I
 replace k:=gi k
 refine q (g (s (jT r) (n (kP ?_))))
 obtain rfl:=sm k
 exact jC r (kT r) ⟨r,(j.dp [])⟩
def FD (m:(List Gv)→(List Gv)→Option (Bool)):Prop:=∀ {e:World} {j:Nat→Prop} {f:(List Gv)} {h:(List Gv)} {a:Option Addr} {b:Nat} {c:Option Addr} {d:Nat} {i:Bool},Pre e j [] [.l a b f,.l c d h]→m f h=some i→
 Calls Try.prog 54 #[Z a f b,Z c h d] e (rA fun v w=>v=.bool i∧Bx e w j (lT []) [] [])
def qX (fu:Nat)(e:(List Gv)) (f:(List Gv)):Nat→Int→Option (Ld (Int) (Bool))
 | 0,_=>none
 | h+1,a=>
 if a < (e.length:Int) then
  (ix e a).bind fun c=>
  (ix f a).bind fun d=>
  if ¬ ([.t c.a,.i c.e,.i c.b,.i c.f,.b c.c,.i c.d,.i c.g]:List Lf)=([.t d.a,.i d.e,.i d.b,.i d.f,.b d.c,.i d.d,.i d.g]:List Lf) then
   some (.out false)
  else
   qX fu e f h (wr (a+1))
 else
  some (.go a)
def vQ (fu:Nat)(a:(List Gv)) (b:(List Gv)):Option (Bool):=
 if (a.length:Int)≠(b.length:Int) then
  some false
 else
  (qX fu a b fu 0).bind fun d=>d.el (fun c=>
  some true
  ) (fun o=>some o)
theorem FC (fu:Nat):FD (vQ fu):=by
 intro M a0 A B j k m o R N u
 unfold vQ at u
 have p:=N.bx
 clear N
 generalize S:lT _=G at p ⊢
 refine cf Try.func54 r (l8 [(0,Z j A k),(1,Z m B o)] ⟨r,r,y⟩ fun a1=>q (g (s (jT r) (n (q (q (g (s (mH r) (s (lg uX r) (s (mH r) (s (lg uX r) (s (mI r r) (n ?_)))))))))))))
 rcases iv u with ⟨C,u⟩|⟨C,u⟩
 ·refine jH (bt C) (q (g (s (jT r) (n (kP ?_)))))
  obtain rfl:=sm u
  exact jC r (kT r) ⟨r,(p.dp [])⟩
 refine jI (bf C) (wk (q (q (g (s (xi r) (n ?_))))))
 obtain ⟨Q,a,u⟩:=bs u
 refine oG (fun f w=>∃ (c:Int),Has f []∧Bx M w a0 G [] [.l j k A,.l m o B]∧Ld.go c=Q) (fun U D=>?_) ?_
 ·refine oF (kI (fun a2 f w=>∃ (c:Int),Has f [(0,Z j A k),(1,Z m B o),(5,V c)]∧Bx M w a0 G [] [.l j k A,.l m o B]∧qX fu A B a2 c=some Q) fu ⟨0,⟨r,r,r,y⟩,p,a⟩ ?_)
  clear p a
  rintro E f w ⟨c,hf,p,a⟩ W F
  obtain ⟨a1,rfl⟩:=gP _ _ hf
  clear hf
  cases E with
  | zero=>exact nn a
  | succ E=>
   rw [qX] at a
   refine q (q (g (s (mi r) (s (mH r) (s (lg uX r) (s (qR r r) (n ?_)))))))
   rcases iv a with ⟨H,a⟩|⟨H,a⟩
   ·refine jH (bt H) (wk (q (oF (q (oJ p [] [0,1] [] (by kernel_rfl) ?_)))))
    replace p:=p.drew
    have v:=p
    refine pF 0 r (mH r) v (pF 1 r (mi r) v ?_)
    obtain ⟨d,x,a⟩:=bs a
    obtain ⟨X,I,x⟩:=kG x
    refine pF 2 r (kZ uX wB r r I (p.dl 0 r) x) v (uF 3 r (fun hS=>L9 [T d.a,V d.e,V d.b,V d.f,.bool d.c,V d.d,V d.g] H8 wB r (hS.dl 0 r) x) v (pF 4 r (mH r) v (pF 5 r (mi r) v ?_)))
    obtain ⟨e,z,a⟩:=bs a
    obtain ⟨Y,J,z⟩:=kG z
    refine pF 6 r (kZ uX wB r r J (p.dl 1 r) z) v (uF 7 r (fun hS=>L9 [T e.a,V e.e,V e.b,V e.f,.bool e.c,V e.d,V e.g] H8 wB r (hS.dl 1 r) z) v (pF 8 r (U5 [.t d.a,.i d.e,.i d.b,.i d.f,.b d.c,.i d.d,.i d.g] [.t e.a,.i e.e,.i e.b,.i e.f,.b e.c,.i e.d,.i e.g] H8 (by kernel_rfl) r (by kernel_rfl) (by kernel_rfl) r r) v (hD ?_)))
    rcases iv a with ⟨K,a⟩|⟨K,a⟩
    ·refine jH (bt K) (q (g (s (jT r) (n (kP ?_)))))
     obtain rfl:=sm a
     replace u:=oi u
     obtain rfl:=sm u
     exact jC r (kT r) ⟨r,(p.dp [])⟩
    exact jI (bf K) (wk (g (s (mi r) (s (kN r r) (s (xi r) (n (F E _ _ (Nat.lt_succ_self _) ⟨(wr (c+1)),⟨r,r,r,y⟩,p,a⟩)))))))
   exact jI (bf H) (ve (D _ _ ⟨c,y,p,sm a⟩))
 clear p
 rintro f w ⟨c,hf,p,L⟩
 obtain ⟨a1,rfl⟩:=gP _ _ hf
 clear hf
 subst L
 replace u:=gi u
 refine q (g (s (jT r) (n (kP ?_))))
 obtain rfl:=sm u
 exact jC r (kT r) ⟨r,(p.dp [])⟩
def Hg (m:jU→jU→Option (Bool)):Prop:=∀ {C:World} {E:Nat→Prop} {A:jU} {B:jU} {a:Option Addr} {b:Nat} {c:Option Addr} {d:Nat} {e:Option Addr} {f:Nat} {h:Option Addr} {i:Nat} {j:Option Addr} {k:Nat} {o:Option Addr} {p:Nat} {t:Option Addr} {u:Nat} {x:Option Addr} {z:Nat} {D:Bool},Pre C E [] [.l a b A.a.a,.l c d A.a.b,.l e f A.c,.l h i A.b,.l j k B.a.a,.l o p B.a.b,.l t u B.c,.l x z B.b]→m A B=some D→
 Calls Try.prog 41 #[.agg #[Z a A.a.a b,Z c A.a.b d,Z e A.c f,Z h A.b i],.agg #[Z j B.a.a k,Z o B.a.b p,Z t B.c u,Z x B.b z]] C (rA fun v w=>v=.bool D∧Bx C w E (lT []) [] [])
def sH (fu:Nat)(c:jU) (f:jU):Nat→Int→Option (Ld (Int) (Bool))
 | 0,_=>none
 | h+1,a=>
 if a < (c.c.length:Int) then
  (ix c.c a).bind fun d=>
  (ix f.c a).bind fun e=>
  (vQ fu d e).bind fun b=>
  if (!b)=true then
   some (.out false)
  else
   sH fu c f h (wr (a+1))
 else
  some (.go a)
def vv (fu:Nat)(c:jU) (d:jU):Option (Bool):=
 (vM fu c.a d.a true).bind fun a=>
 if (!a)=true then
  some false
 else
  if (c.c.length:Int)≠(d.c.length:Int) then
   some false
  else
   (uV fu c.b d.b).bind fun b=>
   if (!b)=true then
    some false
   else
    (sH fu c d fu 0).bind fun f=>f.el (fun e=>
    some true
    ) (fun o=>some o)
theorem Gp (fu:Nat):Hg (vv fu):=by
 intro w0 aF x z c e h j A B C D m o p t E F H I r0 hP v
 unfold vv at v
 have a:=hP.bx
 clear hP
 generalize hG:lT _=G at a ⊢
 refine cf Try.func41 r (l8 [(0,.agg #[Z c x.a.a e,Z h x.a.b j,Z A x.c B,Z C x.b D]),(1,.agg #[Z m z.a.a o,Z p z.a.b t,Z E z.c F,Z H z.b I])] ⟨r,r,y⟩ fun aG=>q (g (tH a (yD r) fun w1 b1 a=>tH a (yD r) fun w2 b2 a=>s (jT r) (n (q (q (g (s (zM r) (s (mD [Z c x.a.a e,Z h x.a.b j] Bw uI r (a.bk 1 r)) (s (zM r) (s (mD [Z m z.a.a o,Z p z.a.b t] Bw uI r (a.bk 0 r)) ?_)))))))))))
 obtain ⟨ak,h3,v⟩:=bs v
 have hc:=(Fj fu) (a.pr [] [0,1] [0,1,4,5] r)  h3
 refine sc (ec Tc r) hc ?_
 rintro _ w3 ⟨rfl,X⟩
 replace a:=a.cn [] [0,1] X
 refine s (xc r) (s (jY r) ?_)
 rcases iv v with ⟨Y,v⟩|⟨Y,v⟩
 ·rw [Y]
  refine jB r (jB r (jB r (jB r (jB r (jB r (jB r (s (jO r r) (s (jY r) (jB r (jB r (jB r (jB r (jB r (jB r (s (jO r r) (n (jH r (q (g (s (jT r) (n (kP ?_))))))))))))))))))))))
  obtain rfl:=sm v
  exact jC r (kT r) ⟨r,(a.ad [] [])⟩
 replace Y:=nt Y
 rw [Y]
 refine jW r (s (vR r) (jW r (s (Hy r (a.bk 1 r) r) (jW r (s (lg AX r) (jW r (s (vR r) (jW r (s (Hy r (a.bk 0 r) r) (jW r (s (lg AX r) (jW r (s (mI r r) (s (jZ r r) (s (jY r) ?_)))))))))))))))
 rcases iv v with ⟨h5,v⟩|⟨h5,v⟩
 ·rw [decide_eq_true h5]
  refine jB r (jB r (jB r (jB r (jB r (jB r (s (jO r r) (n (jH r (q (g (s (jT r) (n (kP ?_)))))))))))))
  obtain rfl:=sm v
  exact jC r (kT r) ⟨r,(a.ad [] [])⟩
 rw [decide_eq_false h5]
 refine jW r (s (zO r) (jW r (s (Ms r (a.bk 1 r) r) (jW r (s (zO r) (jW r (s (Ms r (a.bk 0 r) r) ?_)))))))
 obtain ⟨al,h6,v⟩:=bs v
 refine jW r ?_
 have hc:=(Eg fu) (a.pr [] [0,1] [3,7] r)  h6
 refine sc (ec Ug r) hc ?_
 rintro _ w6 ⟨rfl,X⟩
 replace a:=a.cn [] [0,1] X
 refine jW r (s (xc r) (s (jZ r r) (n ?_)))
 rcases iv v with ⟨h7,v⟩|⟨h7,v⟩
 ·refine jH (cb h7) (q (g (s (jT r) (n (kP ?_)))))
  obtain rfl:=sm v
  exact jC r (kT r) ⟨r,(a.ad [] [])⟩
 replace h7:=nt h7
 refine jI (cb h7) (wk (q (q (g (s (xi r) (n ?_))))))
 obtain ⟨Y8,b,v⟩:=bs v
 refine oG (fun f w=>∃ (u:Int),Has f []∧Bx w0 w aF G [.box b2 30 #[Z m z.a.a o,Z p z.a.b t,Z E z.c F,Z H z.b I],.box b1 30 #[Z c x.a.a e,Z h x.a.b j,Z A x.c B,Z C x.b D]] [.l c e x.a.a,.l h j x.a.b,.l A B x.c,.l C D x.b,.l m o z.a.a,.l p t z.a.b,.l E F z.c,.l H I z.b]∧Ld.go u=Y8) (fun J8 a8=>?_) ?_
 ·refine oF (kI (fun aH f w=>∃ (u:Int),Has f [(2,Pt b1),(3,Pt b2),(5,V u)]∧Bx w0 w aF G [.box b2 30 #[Z m z.a.a o,Z p z.a.b t,Z E z.c F,Z H z.b I],.box b1 30 #[Z c x.a.a e,Z h x.a.b j,Z A x.c B,Z C x.b D]] [.l c e x.a.a,.l h j x.a.b,.l A B x.c,.l C D x.b,.l m o z.a.a,.l p t z.a.b,.l E F z.c,.l H I z.b]∧sH fu x z aH u=some Y8) fu ⟨0,⟨r,r,r,y⟩,a,b⟩ ?_)
  clear a b
  rintro n8 f w ⟨u,hf,a,b⟩ K8 aa
  obtain ⟨aG,rfl⟩:=gP _ _ hf
  clear hf
  cases n8 with
  | zero=>exact nn b
  | succ n8=>
   rw [sH] at b
   refine q (q (g (s (mi r) (s (vR r) (s (Hy r (a.bk 1 r) r) (s (lg AX r) (s (qR r r) (n ?_))))))))
   rcases iv b with ⟨h9,b⟩|⟨h9,b⟩
   ·refine jH (bt h9) (wk (q (oF (q ?_))))
    obtain ⟨ac,J,b⟩:=bs b
    obtain ⟨au,a1,J⟩:=kG J
    obtain ⟨an,a2,a⟩:=a.nm 2 rfl J
    obtain ⟨N,Q,rfl,R⟩:=a2
    replace a:=a.ku (d:=.l N Q ac) R
    obtain ⟨ae,K,b⟩:=bs b
    obtain ⟨av,a3,K⟩:=kG K
    obtain ⟨ao,a4,a⟩:=a.nm 8 rfl K
    obtain ⟨S,U,rfl,W⟩:=a4
    replace a:=a.ku (d:=.l S U ae) W
    refine oJ a [0,1] [0,1,2,3,6,10] [] (by kernel_rfl) ?_
    replace a:=a.drew
    have L:=(a.dp [0,1,2,3,6,10])
    refine pF 0 r (vR r) L (uF 1 r (fun hS=>Hy r (hS.bk 1 r) r) L (pF 2 r (mi r) L (pF 3 r (kZ AX Bi r r a1 (a.dl 6 r) J) L (uF 4 r (fun hS=>kC uX r r ((hS.dc 3 r) 0 _ r)) L (pF 5 r (vR r) L (uF 6 r (fun hS=>Hy r (hS.bk 0 r) r) L (pF 7 r (mi r) L (pF 8 r (kZ AX Bi r r a3 (a.dl 10 r) K) L (uF 9 r (fun hS=>kC uX r r ((hS.dc 1 r) 0 _ r)) L ?_)))))))))
    obtain ⟨af,ag,b⟩:=bs b
    have hc:=(FC fu) (a.pr [] [0,1] [2,0] r)  ag
    refine hO 10 (oc r r (ec Tn r) hc ?_)
    rintro _ aw ⟨rfl,X⟩
    replace a:=a.cn [] [0,1] X
    have L:=(a.dp [0,1,2,3,6,10])
    refine ⟨(sF L),(pF 11 r (xc r) L (hD ?_))⟩
    rcases iv b with ⟨M,b⟩|⟨M,b⟩
    ·refine jH (cb M) (q (g (s (jT r) (n (kP ?_)))))
     obtain rfl:=sm b
     replace v:=oi v
     obtain rfl:=sm v
     exact jC r (kT r) ⟨r,(a.ad [] [])⟩
    replace M:=nt M
    exact jI (cb M) (wk (g (s (mi r) (s (kN r r) (s (xi r) (n (aa n8 _ _ (Nat.lt_succ_self _) ⟨(wr (u+1)),⟨r,r,r,y⟩,(a.dp [4,5,6,7,8,9,10,11]),b⟩)))))))
   exact jI (bf h9) (ve (a8 _ _ ⟨u,y,a,sm b⟩))
 clear a
 rintro f w ⟨u,hf,a,ah⟩
 obtain ⟨aG,rfl⟩:=gP _ _ hf
 clear hf
 subst ah
 replace v:=gi v
 refine q (g (s (jT r) (n (kP ?_))))
 obtain rfl:=sm v
 exact jC r (kT r) ⟨r,(a.ad [] [])⟩
end
end Go.Proofs.Ytfglbdkfnphjgaa
