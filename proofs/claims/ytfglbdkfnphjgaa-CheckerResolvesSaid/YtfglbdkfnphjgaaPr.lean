/- The scanner answers for any text, and the whole parser. -/
import Derived.Test.YtfglbdkfnphjgaaPq
set_option linter.unusedVariables false
set_option linter.unusedSimpArgs false
namespace Go.Proofs.Ytfglbdkfnphjgaa
open Go.RowKit Go.Fw
theorem t_letter {fu:Nat} {c:Int}:Tot (m_r02_letter fu c) (fun _=>True):=by
 unfold m_r02_letter
 repeat' (first | exact .mk trivial | refine .ite (fun _=>?_) fun _=>?_)
theorem t_digit {fu:Nat} {c:Int}:Tot (m_r02_digit fu c) (fun _=>True):=by
 unfold m_r02_digit
 repeat' (first | exact .mk trivial | refine .ite (fun _=>?_) fun _=>?_)
theorem t_Reserved_L0 {fu:Nat} {s:ByteArray}:∀ (l:List ByteArray) (k:Nat),Tot (m_r02_Reserved_L0 fu s l k) (LdP (fun _=>True) (fun _=>True))
 | [],_=>.go trivial
 | u :: r,k=>by
  rw [m_r02_Reserved_L0]
  exact .ite (fun _=>.out trivial) fun _=>t_Reserved_L0 r (k+1)
theorem t_Reserved {fu:Nat} {s:ByteArray}:Tot (m_r02_Reserved fu s) (fun _=>True):=by
 unfold m_r02_Reserved
 exact .eo (t_Reserved_L0 _ 0) fun _ _=>.mk trivial
theorem t_sign_L1 {fu:Nat} {s:ByteArray} {at_:Int} (h0:0≤at_) (h1:at_+2≤s.size) (h2:s.size≤4000):∀ (l:List ByteArray) (k:Nat),(∀ u ∈ l,u.size=2)→Tot (m_r02_sign_L1 fu s at_ l k) (LdP (fun _=>True) (fun r=>r.size=2))
 | [],_,_=>.go trivial
 | u :: r,k,hl=>by
  rw [m_r02_sign_L1]
  have hw:wr (at_+2)=at_+2:=wr_id (by omega) (by omega)
  rw [hw]
  refine .bd (.sls (by omega)) fun g hg=>.ite (fun _=>.out (hl u (.head _))) fun _=>t_sign_L1 h0 h1 h2 r (k+1) fun u hu=>hl u (.tail _ hu)
theorem t_sign_L2 {fu:Nat} {s:ByteArray} {at_:Int} (h0:0≤at_) (h1:at_ < s.size) (h2:s.size≤4000):∀ (l:List GU8) (k:Nat),Tot (m_r02_sign_L2 fu s at_ l k) (LdP (fun _=>True) (fun r=>r.size=1))
 | [],_=>.go trivial
 | u :: r,k=>by
  rw [m_r02_sign_L2]
  have hw:wr (at_+1)=at_+1:=wr_id (by omega) (by omega)
  rw [hw]
  refine .bd (.ixs h0 h1) fun c hc=>.ite (fun _=>?_) fun _=>t_sign_L2 h0 h1 h2 r (k+1)
  refine .bd (.sls (by omega)) fun g hg=>.out ?_
  subst hg
  rw [ByteArray.size_extract]
  omega
theorem t_sign {fu:Nat} {s:ByteArray} {at_:Int} (h0:0≤at_) (h1:at_ < s.size) (h2:s.size≤4000):Tot (m_r02_sign fu s at_) (fun r=>r≠(⟨#[]⟩:ByteArray)→1≤r.size∧at_+r.size≤s.size):=by
 unfold m_r02_sign
 have hw:wr (at_+1)=at_+1:=wr_id (by omega) (by omega)
 have hJ:Tot (m_r02_sign_J0 fu s at_) (LdP (fun _=>True) (fun r=>r.size=2∧at_+2≤s.size)):=by
  unfold m_r02_sign_J0
  rw [hw]
  refine .ite (fun c=>?_) fun _=>.go trivial
  refine .el (t_sign_L1 h0 (by omega) h2 _ 0 ?_) (fun _ _=>.go trivial) fun o ho=>.out ⟨ho,by omega⟩
  decide
 refine .el hJ (fun _ _=>?_) fun o ho=>.mk fun _=>by omega
 exact .el (t_sign_L2 h0 h1 h2 _ 0) (fun _ _=>.mk fun z=>absurd rfl z) fun o ho=>.mk fun _=>by omega
theorem t_skip_L2 {fu:Nat} {s:ByteArray} (h2:s.size≤4000) {O:Int × Int→Prop}:∀ (n:Nat) (at_:Int),0≤at_→at_≤s.size→s.size+1≤n+at_→Tot (m_r02_skip_L2 fu s n at_) (LdP (fun a=>at_≤a∧a≤s.size) O)
 | 0,a,h0,h1,hn=>by omega
 | n+1,a,h0,h1,hn=>by
  rw [m_r02_skip_L2]
  refine .ite (fun c=>?_) fun c=>.go ⟨Int.le_refl _,h1⟩
  have hw:wr (a+1)=a+1:=wr_id (by omega) (by omega)
  rw [hw]
  refine .bd (.ixs h0 c) fun x hx=>.ite (fun _=>?_) fun _=>.go ⟨Int.le_refl _,h1⟩
  refine (t_skip_L2 (O:=O) h2 n (a+1) (by omega) (by omega) (by omega)).imp fun v hv=>?_
  obtain v | v:=v
  · exact ⟨by have:=hv.1;omega,hv.2⟩
  · exact hv
theorem t_skip_L0 {fu:Nat} {s:ByteArray} (h2:s.size≤4000) (hf:4001≤fu):∀ (n:Nat) (at_ line:Int),0≤at_→at_≤s.size→s.size+1≤n+at_→Tot (m_r02_skip_L0 fu s n at_ line) (LdP (fun r=>pel r fun a _=>at_≤a∧a≤s.size) (fun r=>pel r fun a _=>at_≤a∧a≤s.size))
 | 0,a,ln,h0,h1,hn=>by omega
 | n+1,a,ln,h0,h1,hn=>by
  rw [m_r02_skip_L0]
  refine .ite (fun c=>?_) fun c=>.go ⟨Int.le_refl _,h1⟩
  have hw:wr (a+1)=a+1:=wr_id (by omega) (by omega)
  refine Tot.bde (.ixs h0 c) fun x hx0 hx=>?_
  have hJ:Tot (m_r02_skip_J1 fu s a x) (LdP (fun b=>b=true→x=47) (fun _=>False)):=by
    unfold m_r02_skip_J1
    rw [hw]
    refine .ite (fun c=>?_) fun c=>.go fun z=>(by cases z)
    exact .ite (fun c2=>.bd (.ixs (by omega) c2) fun y _=>.go fun _=>c) fun _=>.go fun z=>(by cases z)
  have up:∀ (b l2:Int),a < b→b≤s.size→Tot (m_r02_skip_L0 fu s n b l2) (LdP (fun r=>pel r fun a' _=>a≤a'∧a'≤s.size) (fun r=>pel r fun a' _=>a≤a'∧a'≤s.size)):=fun b l2 k1 k2=>by
    refine (t_skip_L0 h2 hf n b l2 (by omega) k2 (by omega)).imp fun v hv=>?_
    obtain v | v:=v
    all_goals
     obtain ⟨p,q⟩:=v
     exact ⟨by have:=hv.1;omega,hv.2⟩
  refine .el hJ (fun b hb=>?_) fun _ z=>z.elim
  refine .ite (fun d=>?_) fun d=>?_
  · -- the comment's first byte is no end of a line
    obtain ⟨fu',rfl⟩:∃ k,fu=k+1:=⟨fu - 1,by omega⟩
    have hx47:=hb d
    rw [m_r02_skip_L2,if_pos c,hx0]
    show Tot (Option.bind (if x≠10 then _ else _) _) _
    rw [if_pos (by omega),hw]
    exact .eoo (t_skip_L2 h2 fu' (a+1) (by omega) (by omega) (by omega)) fun b hb=>up b ln (by omega) hb.2
  · have hJ3:Tot (m_r02_skip_J3 fu a ln x) (LdP (fun _=>True) (fun r=>pel r fun a' _=>a≤a'∧a'≤s.size)):=by
     unfold m_r02_skip_J3
     repeat' (first | exact .go trivial | exact .out ⟨Int.le_refl _,h1⟩ | refine .ite (fun _=>?_) fun _=>?_)
    refine .eoo hJ3 fun _ _=>?_
    rw [hw]
    exact .ite (fun _=>up _ _ (by omega) (by omega)) fun _=>up _ _ (by omega) (by omega)
theorem t_skip {fu:Nat} {s:ByteArray} {at_ line:Int} (h2:s.size≤4000) (hf:4001≤fu) (h0:0≤at_) (h1:at_≤s.size):Tot (m_r02_skip fu s at_ line) (fun r=>pel r fun a _=>at_≤a∧a≤s.size):=by
 unfold m_r02_skip
 exact .eo (t_skip_L0 h2 hf fu at_ line h0 h1 (by omega)) fun r hs=>.pp hs fun a b hs=>.mk hs
theorem t_one_J1 {fu:Nat} {s:ByteArray} {a:Int} (h0:0≤a):Tot (m_r02_one_J1 fu s a) (LdP (fun b=>b=true→a < s.size) (fun _=>False)):=by
 unfold m_r02_one_J1
 refine .ite (fun c=>?_) fun c=>.go fun z=>(by cases z)
 refine .bd (.ixs h0 c) fun x hx=>.bd t_letter fun b _=>.ite (fun _=>.go fun _=>c) fun _=>?_
 exact .bd (.ixs h0 c) fun x hx=>.bd t_digit fun b _=>.go fun _=>c
theorem t_one_L0 {fu:Nat} {s:ByteArray} (h2:s.size≤4000) {O:GToken × Int × Int→Prop}:∀ (n:Nat) (a:Int),0≤a→a≤s.size→s.size+1≤n+a→Tot (m_r02_one_L0 fu s n a) (LdP (fun b=>a≤b∧b≤s.size) O)
 | 0,a,h0,h1,hn=>by omega
 | n+1,a,h0,h1,hn=>by
  rw [m_r02_one_L0]
  refine .el (t_one_J1 h0) (fun b hb=>?_) fun _ z=>z.elim
  refine .ite (fun c=>?_) fun c=>.go ⟨Int.le_refl _,h1⟩
  have:=hb c
  have hw:wr (a+1)=a+1:=wr_id (by omega) (by omega)
  rw [hw]
  refine (t_one_L0 (O:=O) h2 n (a+1) (by omega) (by omega) (by omega)).imp fun v hv=>?_
  obtain v | v:=v
  · exact ⟨by have:=hv.1;omega,hv.2⟩
  · exact hv
theorem t_one_L2 {fu:Nat} {s:ByteArray} {at_:Int} (h2:s.size≤4000) (h3:0≤at_) {O:GToken × Int × Int→Prop}:∀ (n:Nat) (a m:Int),at_≤a→a≤s.size→s.size+1≤n+a→Tot (m_r02_one_L2 fu s at_ n a m) (LdP (fun r=>pel r fun b _=>a≤b∧b≤s.size) O)
 | 0,a,m,h0,h1,hn=>by omega
 | n+1,a,m,h0,h1,hn=>by
  rw [m_r02_one_L2]
  refine .ite (fun c=>?_) fun c=>.go ⟨Int.le_refl _,h1⟩
  refine .bd (.ixs (by omega) c) fun x hx=>.bd t_digit fun b _=>.ite (fun _=>?_) fun c=>.go ⟨Int.le_refl _,h1⟩
  have hw:wr (a+1)=a+1:=wr_id (by omega) (by omega)
  rw [hw]
  have up:∀ m2:Int,Tot (m_r02_one_L2 fu s at_ n (a+1) m2) (LdP (fun r=>pel r fun b _=>a≤b∧b≤s.size) O):=fun m2=>by
   refine (t_one_L2 (O:=O) h2 h3 n (a+1) m2 (by omega) (by omega) (by omega)).imp fun v hv=>?_
   obtain v | v:=v
   · obtain ⟨p,q⟩:=v
     exact ⟨by have:=hv.1;omega,hv.2⟩
   · exact hv
  exact .ite (fun _=>.bd (.ixs (by omega) c) fun _ _=>up _) fun _=>up _
theorem t_one {fu:Nat} {s:ByteArray} {at_ line:Int} (h2:s.size≤4000) (hf:4001≤fu) (h0:0≤at_) (h1:at_ < s.size):Tot (m_r02_one fu s at_ line) (fun r=>pel r fun t r=>pel r fun nx e=>e=0→at_ < nx∧nx≤s.size∧(t.Kind=1→t.Text≠(⟨#[]⟩:ByteArray))):=by
 unfold m_r02_one
 have bad:∀ (t:GToken) (n e:Int),e≠0→Tot (some (t,n,e)) (fun r=>pel r fun t r=>pel r fun nx e=>e=0→at_ < nx∧nx≤s.size∧(t.Kind=1→t.Text≠(⟨#[]⟩:ByteArray))):=fun t n e he=>.mk fun z=>absurd z he
 obtain ⟨fu',rfl⟩:∃ k,fu=k+1:=⟨fu - 1,by omega⟩
 have hw:wr (at_+1)=at_+1:=wr_id (by omega) (by omega)
 refine Tot.bde (.ixs h0 h1) fun x hx0 hx=>Tot.bde t_letter fun b hb _=>.ite (fun c=>?_) fun c=>?_
 · have hL:Tot (m_r02_one_L0 (fu'+1) s (fu'+1) at_) (LdP (fun b=>at_ < b∧b≤s.size) (fun _=>False)):=by
    rw [m_r02_one_L0]
    have hJ:m_r02_one_J1 (fu'+1) s at_=some (.go true):=by
      unfold m_r02_one_J1
      rw [if_pos h1,hx0]
      show Option.bind (m_r02_letter (fu'+1) x) _=_
      rw [hb,c]
      rfl
    rw [hJ]
    show Tot (if true=true then m_r02_one_L0 (fu'+1) s fu' (wr (at_+1)) else some (.go at_)) _
    rw [if_pos rfl,hw]
    refine (t_one_L0 (O:=fun _=>False) h2 fu' (at_+1) (by omega) (by omega) (by omega)).imp fun v hv=>?_
    obtain v | v:=v
    · exact ⟨by have:=hv.1;omega,hv.2⟩
    · exact hv
   refine .el hL (fun a ha=>?_) fun _ z=>z.elim
   refine .ite (fun _=>bad _ _ _ (by decide)) fun _=>?_
   refine .bd (.sls (by omega)) fun g hg=>.bd t_Reserved fun b _=>?_
   refine .ite (fun _=>.mk fun _=>⟨ha.1,ha.2,fun z=>(by cases z)⟩) fun _=>.mk fun _=>⟨ha.1,ha.2,fun _ z=>?_⟩
   have z2:=congrArg ByteArray.size z
   dsimp only at z2
   rw [hg,ByteArray.size_extract] at z2
   have z3:(⟨#[]⟩:ByteArray).size=0:=rfl
   omega
 refine Tot.bde (.ixs h0 h1) fun x2 hx2 _=>Tot.bde t_digit fun b2 hb2 _=>.ite (fun c2=>?_) fun c2=>?_
 · have hL:Tot (m_r02_one_L2 (fu'+1) s at_ (fu'+1) at_ 0) (LdP (fun r=>pel r fun b _=>at_ < b∧b≤s.size) (fun _=>False)):=by
    rw [m_r02_one_L2,if_pos h1,hx2,Option.bind_some,hb2,Option.bind_some,if_pos c2,hw]
    have up:∀ m2:Int,Tot (m_r02_one_L2 (fu'+1) s at_ fu' (at_+1) m2) (LdP (fun r=>pel r fun b _=>at_ < b∧b≤s.size) (fun _=>False)):=fun m2=>by
      refine (t_one_L2 (O:=fun _=>False) h2 h0 fu' (at_+1) m2 (by omega) (by omega) (by omega)).imp fun v hv=>?_
      obtain v | v:=v
      · obtain ⟨p,q⟩:=v
        exact ⟨by have:=hv.1;omega,hv.2⟩
      · exact hv
    exact .ite (fun _=>up _) fun _=>up _
   refine .el hL (fun r hs=>.pp hs fun a m ha=>?_) fun _ z=>z.elim
   refine .ite (fun _=>bad _ _ _ (by decide)) fun _=>?_
   have hJ:Tot (m_r02_one_J3 (fu'+1) s a) (LdP (fun _=>True) (fun r=>pel r fun t r=>pel r fun nx e=>e≠0)):=by
    unfold m_r02_one_J3
    refine .ite (fun c=>?_) fun _=>.go trivial
    exact .bd (.ixs (by omega) c) fun _ _=>.bd t_letter fun _ _=>.ite (fun _=>.out (show (6:Int)≠0 by decide)) fun _=>.go trivial
   refine .el hJ (fun _ _=>.mk fun _=>⟨ha.1,ha.2,fun z=>(by cases z)⟩) fun o ho=>.mk ?_
   obtain ⟨t,n,e⟩:=o
   exact fun z=>absurd z ho
 refine .bd (t_sign h0 h1 h2) fun g hg=>.ite (fun _=>bad _ _ _ (by decide)) fun c3=>.mk fun _=>?_
 have:=hg c3
 have hw2:wr (at_+((g.size:Nat):Int))=at_+g.size:=wr_id (by omega) (by omega)
 rw [hw2]
 exact ⟨by omega,by omega,fun z=>(by cases z)⟩
def Nm (l:List GToken):Prop:=∀ (k:Nat) (t:GToken),l[k]?=some t→t.Kind=1→t.Text≠(⟨#[]⟩:ByteArray)
theorem Nm.app {l:List GToken} (h:Nm l) {t:GToken} (ht:t.Kind=1→t.Text≠(⟨#[]⟩:ByteArray)):Nm (l ++ [t]):=fun k t' hk=>by
 rw [List.getElem?_append] at hk
 split at hk
 · exact h k t' hk
 · have:k - l.length=0:=by have:=lt_of_get hk;simp only [List.length_cons,List.length_nil] at this;omega
   rw [this] at hk
   obtain rfl:=Option.some.inj hk
   exact ht
theorem t_Scan_L0 {fu:Nat} {s:ByteArray} (h2:s.size≤4000) (hf:4001≤fu):∀ (n:Nat) (a line:Int) (l:List GToken),0≤a→a≤s.size→s.size+1≤n+a→l.length≤2000→Nm l→Tot (m_r02_Scan_L0 fu s n a line l) (LdP (fun r=>pel r fun _ r=>pel r fun _ l=>l.length≤2000∧Nm l) (fun r=>pel r fun _ r=>pel r fun _ e=>e≠0))
 | 0,a,ln,l,h0,h1,hn,hl,hm=>by omega
 | n+1,a,ln,l,h0,h1,hn,hl,hm=>by
  rw [m_r02_Scan_L0]
  refine .ite (fun c=>?_) fun c=>.go ⟨hl,hm⟩
  refine .bp (t_one h2 hf h0 c) fun t r ht=>.pp ht fun nx e ht=>?_
  have hJ:Tot (m_r02_Scan_J1 fu l e) (LdP (fun e'=>e'=0→e=0∧l.length < 2000) (fun _=>False)):=by
   unfold m_r02_Scan_J1
   refine .ite (fun c=>?_) fun c=>.go fun z=>absurd z c
   exact .ite (fun c=>.go fun z=>(by cases z)) fun c2=>.go fun _=>⟨c,by omega⟩
  refine .el hJ (fun e' he=>?_) fun _ z=>z.elim
  refine .ite (fun d=>.out d) fun d=>?_
  have he:=he (by omega)
  have ht:=ht he.1
  refine .bd (.app (by simp only [List.length_cons,List.length_nil];omega)) fun r hr=>?_
  refine .bp (t_skip h2 hf (by omega) ht.2.1) fun a2 ln2 ha=>?_
  subst hr
  exact t_Scan_L0 h2 hf n a2 ln2 _ (by omega) ha.2 (by omega) (by simp only [List.length_append,List.length_cons,List.length_nil];omega) (hm.app ht.2.2)
theorem t_Scan {fu:Nat} {s:ByteArray} (hf:4001≤fu):Tot (m_r02_Scan fu s) (fun r=>pel r fun l r=>pel r fun _ e=>e=0→TL l∧1≤l.length∧l.length≤2001):=by
 unfold m_r02_Scan
 refine .ite (fun c=>.mk fun z=>(by cases z)) fun c=>?_
 have h2:s.size≤4000:=by omega
 refine .bp (t_skip h2 hf (Int.le_refl _) (by omega)) fun a ln ha=>?_
 refine .el (t_Scan_L0 h2 hf fu a ln [] ha.1 ha.2 (by omega) (by decide) fun k t hk=>(by cases hk)) (fun r hs=>.pp hs fun _ r hs=>.pp hs fun b l hs=>?_) fun o ho=>?_
 · refine .bd (.app (by simp only [List.length_cons,List.length_nil];omega)) fun r hr=>.mk fun _=>?_
   subst hr
   refine ⟨⟨by simp only [List.length_append,List.length_cons,List.length_nil];omega,fun k t hk ht=>?_,hs.2.app fun z=>(by cases z)⟩,by simp only [List.length_append,List.length_cons,List.length_nil];omega,by simp only [List.length_append,List.length_cons,List.length_nil];omega⟩
   simp only [List.length_append,List.length_cons,List.length_nil] at hk
   obtain rfl:k=l.length:=by omega
   rw [List.getElem?_append_right (Nat.le_refl _),Nat.sub_self] at ht
   obtain rfl:=Option.some.inj ht
   rfl
 · obtain ⟨l,b,e⟩:=o
   exact .mk fun z=>absurd z ho
end Go.Proofs.Ytfglbdkfnphjgaa
