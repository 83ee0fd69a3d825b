/- Contracts, printed by gen3.py. -/
import Derived.Test.YtfglbdkfnphjgaaZt
import Derived.Test.YtfglbdkfnphjgaaLa
set_option linter.unusedVariables false
set_option maxHeartbeats 12800000
set_option linter.unusedSimpArgs false
set_option maxRecDepth 4000
namespace Go.Proofs.Ytfglbdkfnphjgaa
open Go.RowKit Go.Fw
noncomputable section
def Ct_same_int (m:(List Int)→(List Int)→Option (Bool)):Prop:=∀ {e:World} {j:Nat→Prop} {f:(List Int)} {h:(List Int)} {a:Option Addr} {b:Nat} {c:Option Addr} {d:Nat} {i:Bool},Pre e j [] [.l a b f,.l c d h]→m f h=some i→
 Calls Try.prog 21 #[Z a f b,Z c h d] e (Ret fun v w=>v=.bool i∧Bx e w j (Gof []) [] [])
def m_same_int_L0 (fu:Nat)(b:(List Int)) (c:(List Int)):Nat→Int→Option (Ld (Int) (Bool))
 | 0,_=>none
 | d+1,a=>
 if a < (b.length:Int) then
  (ix b a).bind fun e=>
  (ix c a).bind fun f=>
  if e≠f then
   some (.out false)
  else
   m_same_int_L0 fu b c d (wr (a+1))
 else
  some (.go a)
def m_same_int (fu:Nat)(a:(List Int)) (b:(List Int)):Option (Bool):=
 if (a.length:Int)≠(b.length:Int) then
  some false
 else
  (m_same_int_L0 fu a b fu 0).bind fun d=>d.el (fun c=>
  some true
  ) (fun o=>some o)
theorem sp_same_int (fu:Nat):Ct_same_int (m_same_int fu):=by
 intro H W t u c d e i M I k
 unfold m_same_int at k
 have j:=I.bx
 clear I
 generalize N:Gof _=G at j ⊢
 refine cf Try.func21 r ?_
 refine wCut [(0,Z c t d),(1,Z e u i)] ⟨r,r,y⟩ fun X=>?_
 refine q (g (s (xAsB r) (n (q (q (g (s (xMvS r) (s (xLnR u22_ r) (s (xMvS r) (s (xLnR u22_ r) (s (xNeqD r r) (n ?_))))))))))))
 rcases iv k with ⟨v,k⟩|⟨v,k⟩
 ·refine wIfT (bt v) (q (g (s (xAsB r) (n (wRt ?_)))))
  obtain rfl:=sm k
  refine resV1 r (rdT r) ?_
  exact ⟨r,(j.dp [])⟩
 refine wIfF (bf v) (wk (q (q (g (s (xi r) (n ?_))))))
 obtain ⟨J,a,k⟩:=bs k
 refine wJd (fun f w=>∃ (b:Int),Has f []∧Bx H w W G [] [.l c d t,.l e i u]∧Ld.go b=J) (fun Q x=>?_) ?_
 ·refine wBk (wLoopGd (fun Y f w=>∃ (b:Int),Has f [(0,Z c t d),(1,Z e u i),(5,V b)]∧Bx H w W G [] [.l c d t,.l e i u]∧m_same_int_L0 fu t u Y b=some J) fu ⟨0,⟨r,r,r,y⟩,j,a⟩ ?_)
  clear j a
  rintro z f w ⟨b,hf,j,a⟩ R A
  obtain ⟨X,rfl⟩:=has_updL _ _ hf
  clear hf
  cases z with
  | zero=>exact nn a
  | succ z=>
   rw [m_same_int_L0] at a
   refine q (q (g (s (mi r) (s (xMvS r) (s (xLnR u22_ r) (s (xLss r r) (n ?_)))))))
   rcases iv a with ⟨B,a⟩|⟨B,a⟩
   ·refine wIfT (bt B) (wk (q (wBk (q (wDr1 j [] [0,1] [] (by kernel_rfl) ?_)))))
    replace j:=j.drew
    have m:=j
    refine pF 0 r (xMvS r) m (pF 1 r (mi r) m ?_)
    obtain ⟨K,o,a⟩:=bs a
    obtain ⟨S,C,o⟩:=ix_inv o
    refine pF 2 r (xIdR u22_ ti3 r r C (j.dl 0 r) o) m (tU 3 r (fun _ hS=>xLoad u3_ r r ((elF (ds:=[V K]) (hS.dl 0 r) o (fun _ h=>h)) 0 _ r)) (sF m) (pF 4 r (xMvS r) m (pF 5 r (mi r) m ?_)))
    obtain ⟨L,p,a⟩:=bs a
    obtain ⟨U,D,p⟩:=ix_inv p
    refine pF 6 r (xIdR u22_ ti3 r r D (j.dl 1 r) p) m (tU 7 r (fun _ hS=>xLoad u3_ r r ((elF (ds:=[V L]) (hS.dl 1 r) p (fun _ h=>h)) 0 _ r)) (sF m) (pF 8 r (xNeqD r r) m (hD ?_)))
    rcases iv a with ⟨E,a⟩|⟨E,a⟩
    ·refine wIfT (bt E) (q (g (s (xAsB r) (n (wRt ?_)))))
     obtain rfl:=sm a
     replace k:=oi k
     obtain rfl:=sm k
     refine resV1 r (rdT r) ?_
     exact ⟨r,(j.dp [])⟩
    refine wIfF (bf E) (wk (g (s (mi r) (s (xAddW r r) (s (xi r) (n ?_))))))
    exact A z _ _ (Nat.lt_succ_self _) ⟨(wr (b+1)),⟨r,r,r,y⟩,j,a⟩
   refine wIfF (bf B) (wEx ?_)
   exact x _ _ ⟨b,y,j,sm a⟩
 clear j
 rintro f w ⟨b,hf,j,F⟩
 obtain ⟨X,rfl⟩:=has_updL _ _ hf
 clear hf
 subst F
 replace k:=gi k
 refine q (g (s (xAsB r) (n (wRt ?_))))
 obtain rfl:=sm k
 refine resV1 r (rdT r) ?_
 exact ⟨r,(j.dp [])⟩
end
end Go.Proofs.Ytfglbdkfnphjgaa
