/- The text of a made program begins with its record and a function: what is parsed has a function. -/
import Derived.Test.YtfglbdkfnphjgaaPl
set_option linter.unusedVariables false
set_option linter.unusedSimpArgs false
namespace Go.Proofs.Ytfglbdkfnphjgaa
open Go.RowKit Go.Fw
theorem sb {α β:Type} {x:α} {f:α→Option β} {X:Option β} (h:(some x).bind f=X):f x=X:=h
def bgn:ByteArray:=⟨#[114,101,99,111,114,100,32,80,32,123,32,120,44,32,121,32,125,10,102,117,110,99,32]⟩
def Exb (s r:ByteArray):Prop:=∃ t,r=s ++ t
theorem Exb.rfl' {s:ByteArray}:Exb s s:=⟨ByteArray.empty,by rw [ByteArray.append_empty]⟩
theorem Exb.trans {s r t:ByteArray} (h:Exb s r) (k:Exb r t):Exb s t:=by
 obtain ⟨a,rfl⟩:=h
 obtain ⟨b,rfl⟩:=k
 exact ⟨a ++ b,ByteArray.append_assoc⟩
theorem Exb.cat {s t r:ByteArray} (h:cat s t=some r):Exb s r:=⟨t,(cat_inv h).2.symm⟩
theorem x_L1 {fu:Nat}:∀ (l:List GFunc) (k:Nat) (s:ByteArray) (r:Ld ByteArray ByteArray),m_r03_Print_L1 fu l k s=some r→∃ q,r=.go q∧Exb s q
 | [],k,s,r,h=>by
  rw [m_r03_Print_L1] at h
  exact ⟨s,(sm h).symm,.rfl'⟩
 | x :: l,k,s,r,h=>by
  rw [m_r03_Print_L1] at h
  obtain ⟨g1,e1,h⟩:=bs h
  obtain ⟨g2,e2,h⟩:=bs h
  obtain ⟨g3,e3,h⟩:=bs h
  obtain ⟨w1,_,h⟩:=bs h
  obtain ⟨g4,e4,h⟩:=bs h
  obtain ⟨g5,e5,h⟩:=bs h
  obtain ⟨w2,_,h⟩:=bs h
  obtain ⟨g6,e6,h⟩:=bs h
  obtain ⟨g7,e7,h⟩:=bs h
  obtain ⟨q,h1,h2⟩:=x_L1 l (k+1) g7 r h
  exact ⟨q,h1,(Exb.cat e1).trans <| (Exb.cat e2).trans <| (Exb.cat e3).trans <| (Exb.cat e4).trans <| (Exb.cat e5).trans <| (Exb.cat e6).trans <| (Exb.cat e7).trans h2⟩
theorem x_rec:m_r03_Print_L0 10100 [⟨⟨#[80]⟩,[⟨#[120]⟩,⟨#[121]⟩]⟩] 0 ⟨#[]⟩=some (.go ⟨#[114,101,99,111,114,100,32,80,32,123,32,120,44,32,121,32,125,10]⟩):=by kernel_rfl
theorem x_fn:cat ⟨#[114,101,99,111,114,100,32,80,32,123,32,120,44,32,121,32,125,10]⟩ ⟨#[102,117,110,99,32]⟩=some bgn:=by kernel_rfl
theorem x_Print {p:GProgram} (hp:GPr p) {s:ByteArray} (h:m_r03_Print 10100 p=some s):Exb bgn s:=by
 unfold m_r03_Print at h
 rw [hp.recs,x_rec] at h
 obtain ⟨r,h1,h⟩:=bs h
 obtain rfl:=sm h1
 replace h:=gi h
 obtain ⟨r,h2,h⟩:=bs h
 cases hF:p.Funcs with
 | nil=>have:=hp.funcs.1;rw [hF] at this;exact absurd this (by decide)
 | cons f l=>
  rw [hF,m_r03_Print_L1] at h2
  obtain ⟨g1,e1,h2⟩:=bs h2
  rw [x_fn] at e1
  obtain rfl:=sm e1
  obtain ⟨g2,e2,h2⟩:=bs h2
  obtain ⟨g3,e3,h2⟩:=bs h2
  obtain ⟨w1,_,h2⟩:=bs h2
  obtain ⟨g4,e4,h2⟩:=bs h2
  obtain ⟨g5,e5,h2⟩:=bs h2
  obtain ⟨w2,_,h2⟩:=bs h2
  obtain ⟨g6,e6,h2⟩:=bs h2
  obtain ⟨g7,e7,h2⟩:=bs h2
  obtain ⟨q,rfl,h3⟩:=x_L1 l _ g7 r h2
  obtain rfl:=sm h
  exact (Exb.cat e2).trans <| (Exb.cat e3).trans <| (Exb.cat e4).trans <| (Exb.cat e5).trans <| (Exb.cat e6).trans <| (Exb.cat e7).trans h3
theorem bgn_size:bgn.size=23:=rfl
section
variable {s:ByteArray} (H:Exb bgn s)
include H
theorem y_size:23≤s.size:=by
 obtain ⟨t,rfl⟩:=H
 rw [cat_size,bgn_size]
 omega
theorem y_ixs {i:Int} (h:i < 23):ixs s i=ixs bgn i:=by
 obtain ⟨t,rfl⟩:=H
 unfold Go.Fw.ixs
 by_cases c:i < 0
 · rw [if_pos c,if_pos c]
 rw [if_neg c,if_neg c]
 have hk:i.toNat < bgn.size:=by rw [bgn_size];omega
 rw [getElem?_pos (bgn ++ t) i.toNat (by rw [cat_size];omega),getElem?_pos bgn i.toNat hk,ByteArray.getElem_append_left hk]
theorem y_sls {i j:Int} (h:j≤23):sls s i j=sls bgn i j:=by
 have hs:=y_size H
 obtain ⟨t,rfl⟩:=H
 unfold Go.Fw.sls
 by_cases c:0≤i∧i≤j∧j≤bgn.size
 · rw [if_pos c,if_pos ⟨c.1,c.2.1,by omega⟩,ByteArray.extract_append]
   have h0:j.toNat - bgn.size=0:=by rw [bgn_size];omega
   have h1:t.extract (i.toNat - bgn.size) (j.toNat - bgn.size)=ByteArray.empty:=by
    rw [h0]
    apply ByteArray.size_eq_zero_iff.1
    rw [ByteArray.size_extract]
    omega
   rw [h1,ByteArray.append_empty]
 · rw [if_neg c,if_neg fun z=>c ⟨z.1,z.2.1,by rw [bgn_size];omega⟩]
theorem y_word {fu:Nat}:∀ (n:Nat) (p q:Int),m_r02_one_L0 fu bgn n p=some (.go q)→q < 23→m_r02_one_L0 fu s n p=some (.go q)
 | 0,_,_,h,_=>by cases h
 | n+1,p,q,h,hq=>by
  rw [m_r02_one_L0] at h ⊢
  by_cases c:p < 23
  · have e:m_r02_one_J1 fu s p=m_r02_one_J1 fu bgn p:=by
     unfold m_r02_one_J1
     have:=y_size H
     rw [y_ixs H c,if_pos (by omega),if_pos (by rw [bgn_size];omega)]
    rw [e]
    obtain ⟨r,h1,h⟩:=bs h
    rw [h1]
    show Option.bind (some r) _=_
    cases r with
    | out o=>cases h
    | go b=>
     show (if b=true then _ else _)=_
     replace h:=gi h
     rcases ite_inv h with ⟨h2,h⟩|⟨h2,h⟩
     · rw [if_pos h2];exact y_word n _ _ h hq
     · rw [if_neg h2];exact h
  · have e:m_r02_one_J1 fu bgn p=some (.go false):=by
     unfold m_r02_one_J1
     rw [if_neg (by rw [bgn_size];omega)]
    rw [e] at h
    have:q=p:=by
     have h2:=sm (show some (Ld.go (ρ:=GToken × Int × Int) p)=some (.go q) from h)
     injection h2 with h2
     exact h2.symm
    omega
theorem y_sign1 {fu:Nat} {p:Int} (hp:p+2≤23) (h0:0≤p):∀ (l:List ByteArray) (k:Nat),m_r02_sign_L1 fu s p l k=m_r02_sign_L1 fu bgn p l k
 | [],_=>rfl
 | x :: l,k=>by
  rw [m_r02_sign_L1,m_r02_sign_L1,wr_id (by omega) (by omega),y_sls H hp,y_sign1 hp h0 l]
theorem y_sign2 {fu:Nat} {p:Int} (hp:p+2≤23) (h0:0≤p):∀ (l:List GU8) (k:Nat),m_r02_sign_L2 fu s p l k=m_r02_sign_L2 fu bgn p l k
 | [],_=>rfl
 | x :: l,k=>by
  rw [m_r02_sign_L2,m_r02_sign_L2,wr_id (by omega) (by omega),y_ixs H (by omega),y_sls H (by omega),y_sign2 hp h0 l]
theorem y_sign {fu:Nat} {p:Int} (hp:p+2≤23) (h0:0≤p):m_r02_sign fu s p=m_r02_sign fu bgn p:=by
 have:=y_size H
 unfold m_r02_sign m_r02_sign_J0
 rw [y_sign2 H hp h0,y_sign1 H hp h0,wr_id (by omega) (by omega),if_pos (by omega),if_pos (by rw [bgn_size];omega)]
theorem y_one {fu:Nat} {p ln q:Int} {g:Int} {b:Bool} (hp:p+2≤23) (h0:0≤p) (hg:ixs bgn p=some g) (hb:m_r02_letter fu g=some b) (hd:m_r02_digit fu g=some false) (hq:q < 23) (hw:b=true→m_r02_one_L0 fu bgn fu p=some (.go q)):m_r02_one fu s p ln=m_r02_one fu bgn p ln:=by
 unfold m_r02_one
 rw [y_ixs H (by omega),y_sign H hp h0,hg]
 show (m_r02_letter fu g).bind _=(m_r02_letter fu g).bind _
 rw [hb]
 show (if b=true then _ else _)=(if b=true then _ else _)
 cases b with
 | true=>
  rw [if_pos rfl,if_pos rfl,y_word H fu p q (hw rfl) hq,hw rfl]
  show (if _ then _ else Option.bind (sls s p q) _)=(if _ then _ else Option.bind (sls bgn p q) _)
  rw [y_sls H (by omega)]
 | false=>
  rw [if_neg (by decide),if_neg (by decide)]
  show (m_r02_digit fu g).bind _=(m_r02_digit fu g).bind _
  rw [hd]
  rfl
end
theorem b47 {p g:Int} (h:ixs bgn p=some g):g≠47∧p < 23:=by
 obtain ⟨k,rfl,b,h1,rfl⟩:=ixs_inv h
 have hk:k < 23:=by
  by_cases c:k < bgn.size
  · exact c
  · rw [getElem?_neg bgn k c] at h1;cases h1
 refine ⟨fun z=>?_,by omega⟩
 have hall:∀ j:Nat,j < 23→∀ b,bgn[j]?=some b→b.toNat≠47:=by decide
 exact hall k hk b h1 (by omega)
theorem y_skip {s:ByteArray} (H:Exb bgn s) {fu:Nat}:∀ (n:Nat) (p l:Int) (v:Int × Int),m_r02_skip_L0 fu bgn n p l=some (.out v)→m_r02_skip_L0 fu s n p l=some (.out v)
 | 0,_,_,_,h=>by cases h
 | n+1,p,l,v,h=>by
  have hs:=y_size H
  rw [m_r02_skip_L0] at h ⊢
  rcases ite_inv h with ⟨c,h⟩|⟨_,h⟩
  · rw [bgn_size] at c
    rw [if_pos (by omega),y_ixs H c]
    obtain ⟨g,hg,h⟩:=bs h
    rw [hg]
    show (m_r02_skip_J1 fu s p g).bind _=_
    have e:∀ u,m_r02_skip_J1 fu u p g=some (.go false):=fun u=>by
     unfold m_r02_skip_J1
     rw [if_neg (b47 hg).1]
    rw [e s]
    rw [e bgn] at h
    show (m_r02_skip_J3 fu p l g).bind _=_
    replace h:=gi (sb h)
    rw [if_neg (by decide)] at h
    obtain ⟨r,h1,h⟩:=bs h
    rw [h1]
    cases r with
    | out o=>exact h
    | go u=>
     show (if g=10 then _ else _)=_
     replace h:=gi h
     rcases ite_inv h with ⟨h2,h⟩|⟨h2,h⟩
     · rw [if_pos h2];exact y_skip H n _ _ _ h
     · rw [if_neg h2];exact y_skip H n _ _ _ h
  · cases h
theorem y_skip' {s:ByteArray} (H:Exb bgn s) {fu:Nat} {p l p' l':Int} (h:m_r02_skip_L0 fu bgn fu p l=some (.out (p',l'))):m_r02_skip fu s p l=some (p',l'):=by
 unfold m_r02_skip
 rw [y_skip H fu p l _ h]
 rfl
theorem y_ext {fu:Nat} {s:ByteArray}:∀ (n:Nat) (p l:Int) (out:List GToken) (a b:Int) (o:List GToken),m_r02_Scan_L0 fu s n p l out=some (.go (a,b,o))→∃ t,o=out ++ t
 | 0,_,_,_,_,_,_,h=>by cases h
 | n+1,p,l,out,a,b,o,h=>by
  rw [m_r02_Scan_L0] at h
  rcases ite_inv h with ⟨_,h⟩|⟨_,h⟩
  · obtain ⟨⟨v0,v1,v2⟩,_,h⟩:=bs h
    replace h:=pi (pi h)
    obtain ⟨r,_,h⟩:=bs h
    cases r with
    | out o=>cases h
    | go e=>
     replace h:=gi h
     rcases ite_inv h with ⟨_,h⟩|⟨_,h⟩
     · cases h
     · obtain ⟨r,hr,h⟩:=bs h
       obtain ⟨⟨w0,w1⟩,_,h⟩:=bs h
       replace h:=pi h
       obtain ⟨t,rfl⟩:=y_ext n _ _ _ _ _ _ h
       rw [← (app_inv hr).2]
       exact ⟨[v0] ++ t,by rw [List.append_assoc]⟩
  · have h:=sm h
    injection h with h
    injection h with _ h
    injection h with _ h
    exact ⟨[],by rw [List.append_nil,h]⟩
theorem y_out {fu:Nat} {s:ByteArray}:∀ (n:Nat) (p l:Int) (out:List GToken) (a:List GToken) (b e:Int),m_r02_Scan_L0 fu s n p l out=some (.out (a,b,e))→e≠0
 | 0,_,_,_,_,_,_,h=>by cases h
 | n+1,p,l,out,a,b,e,h=>by
  rw [m_r02_Scan_L0] at h
  rcases ite_inv h with ⟨_,h⟩|⟨_,h⟩
  · obtain ⟨⟨v0,v1,v2⟩,_,h⟩:=bs h
    replace h:=pi (pi h)
    obtain ⟨r,hr,h⟩:=bs h
    cases r with
    | out o=>
     unfold m_r02_Scan_J1 at hr
     rcases ite_inv hr with ⟨_,hr⟩|⟨_,hr⟩
     · rcases ite_inv hr with ⟨_,hr⟩|⟨_,hr⟩ <;> cases hr
     · cases hr
    | go x=>
     replace h:=gi h
     rcases ite_inv h with ⟨hx,h⟩|⟨_,h⟩
     · have h:=sm h
       injection h with h
       injection h with _ h
       injection h with _ h
       rw [← h]
       exact hx
     · obtain ⟨r,hr,h⟩:=bs h
       obtain ⟨⟨w0,w1⟩,_,h⟩:=bs h
       exact y_out n _ _ _ _ _ _ (pi h)
  · cases h
theorem y_step {fu:Nat} {s:ByteArray} {n:Nat} {p l q p' l':Int} {out:List GToken} {t:GToken} (hp:p < s.size) (h1:m_r02_one fu s p l=some (t,q,0)) (h2:out.length < 2000) (h3:m_r02_skip fu s q l=some (p',l')) :
  m_r02_Scan_L0 fu s (n+1) p l out=m_r02_Scan_L0 fu s n p' l' (out ++ [t]):=by
 rw [m_r02_Scan_L0,if_pos hp,h1]
 show (m_r02_Scan_J1 fu out 0).bind _=_
 have e:m_r02_Scan_J1 fu out 0=some (.go 0):=by
  unfold m_r02_Scan_J1
  rw [if_pos rfl,if_neg (by omega)]
 rw [e]
 show (app out [t]).bind _=_
 have e2:app out [t]=some (out ++ [t]):=if_pos (by simp only [List.length_cons,List.length_nil];omega)
 rw [e2]
 show (m_r02_skip fu s q l).bind _=_
 rw [h3]
 rfl
def tk7:List GToken:=[⟨3,1,⟨#[114,101,99,111,114,100]⟩,0⟩,⟨1,1,⟨#[80]⟩,0⟩,⟨4,1,⟨#[123]⟩,0⟩,⟨1,1,⟨#[120]⟩,0⟩,⟨4,1,⟨#[44]⟩,0⟩,⟨1,1,⟨#[121]⟩,0⟩,⟨4,1,⟨#[125]⟩,0⟩]
def tk8:GToken:=⟨3,2,⟨#[102,117,110,99]⟩,0⟩
theorem y_Scan {s:ByteArray} (H:Exb bgn s) {l:List GToken} {ln:Int} (h:m_r02_Scan 10100 s=some (l,ln,0)):∃ t,l=tk7 ++ [tk8] ++ t:=by
 have hs:=y_size H
 unfold m_r02_Scan at h
 rcases ite_inv h with ⟨_,h⟩|⟨_,h⟩
 · have h:=sm h
   injection h with _ h
   injection h with _ h
   exact absurd h (by decide)
 rw [y_skip' H (show m_r02_skip_L0 10100 bgn 10100 0 1=some (.out (0,1)) by kernel_rfl)] at h
 replace h:=pi (sb h)
 obtain ⟨r,h1,h⟩:=bs h
 have one:∀ {p ln q g:Int} {b:Bool} {t:GToken} (q':Int),p+2≤23→0≤p→ixs bgn p=some g→m_r02_letter 10100 g=some b→m_r02_digit 10100 g=some false→q' < 23→(b=true→m_r02_one_L0 10100 bgn 10100 p=some (.go q'))→m_r02_one 10100 bgn p ln=some (t,q,0)→m_r02_one 10100 s p ln=some (t,q,0):=fun q' a1 a2 a3 a4 a5 a6 a7 a8=>by rw [y_one H a1 a2 a3 a4 a5 a6 a7];exact a8
 rw [y_step (by omega) (one (t:=⟨3,1,⟨#[114,101,99,111,114,100]⟩,0⟩) (q:=6) (g:=114) (b:=true) 6 (by decide) (by decide) (by kernel_rfl) (by kernel_rfl) (by kernel_rfl) (by decide) (fun _=>by kernel_rfl) (by kernel_rfl)) (by decide) (y_skip' H (p':=7) (l':=1) (by kernel_rfl)),
   y_step (by omega) (one (t:=⟨1,1,⟨#[80]⟩,0⟩) (q:=8) (g:=80) (b:=true) 8 (by decide) (by decide) (by kernel_rfl) (by kernel_rfl) (by kernel_rfl) (by decide) (fun _=>by kernel_rfl) (by kernel_rfl)) (by decide) (y_skip' H (p':=9) (l':=1) (by kernel_rfl)),
   y_step (by omega) (one (t:=⟨4,1,⟨#[123]⟩,0⟩) (q:=10) (g:=123) (b:=false) 0 (by decide) (by decide) (by kernel_rfl) (by kernel_rfl) (by kernel_rfl) (by decide) (fun z=>(by cases z)) (by kernel_rfl)) (by decide) (y_skip' H (p':=11) (l':=1) (by kernel_rfl)),
   y_step (by omega) (one (t:=⟨1,1,⟨#[120]⟩,0⟩) (q:=12) (g:=120) (b:=true) 12 (by decide) (by decide) (by kernel_rfl) (by kernel_rfl) (by kernel_rfl) (by decide) (fun _=>by kernel_rfl) (by kernel_rfl)) (by decide) (y_skip' H (p':=12) (l':=1) (by kernel_rfl)),
   y_step (by omega) (one (t:=⟨4,1,⟨#[44]⟩,0⟩) (q:=13) (g:=44) (b:=false) 0 (by decide) (by decide) (by kernel_rfl) (by kernel_rfl) (by kernel_rfl) (by decide) (fun z=>(by cases z)) (by kernel_rfl)) (by decide) (y_skip' H (p':=14) (l':=1) (by kernel_rfl)),
   y_step (by omega) (one (t:=⟨1,1,⟨#[121]⟩,0⟩) (q:=15) (g:=121) (b:=true) 15 (by decide) (by decide) (by kernel_rfl) (by kernel_rfl) (by kernel_rfl) (by decide) (fun _=>by kernel_rfl) (by kernel_rfl)) (by decide) (y_skip' H (p':=16) (l':=1) (by kernel_rfl)),
   y_step (by omega) (one (t:=⟨4,1,⟨#[125]⟩,0⟩) (q:=17) (g:=125) (b:=false) 0 (by decide) (by decide) (by kernel_rfl) (by kernel_rfl) (by kernel_rfl) (by decide) (fun z=>(by cases z)) (by kernel_rfl)) (by decide) (y_skip' H (p':=18) (l':=2) (by kernel_rfl))] at h1
 rw [m_r02_Scan_L0,if_pos (by omega),one (t:=tk8) (q:=22) (g:=102) (b:=true) 22 (by decide) (by decide) (by kernel_rfl) (by kernel_rfl) (by kernel_rfl) (by decide) (fun _=>by kernel_rfl) (by kernel_rfl)] at h1
 replace h1:=pi (pi (sb h1))
 obtain ⟨r1,h2,h1⟩:=bs h1
 obtain rfl:Ld.go (0:Int)=r1:=sm h2
 replace h1:=gi h1
 rw [if_neg (by decide)] at h1
 obtain ⟨r2,h3,h1⟩:=bs h1
 obtain ⟨⟨v0,v1⟩,_,h1⟩:=bs h1
 replace h1:=pi h1
 obtain ⟨_,rfl⟩:=app_inv h3
 cases r with
 | out o=>
   obtain ⟨a,b,e⟩:=o
   have h:=sm (show some (a,b,e)=some (l,ln,0) from h)
   injection h with _ h
   injection h with _ h
   exact absurd h (y_out _ _ _ _ _ _ _ h1)
 | go u=>
   obtain ⟨a,b,o⟩:=u
   obtain ⟨t,rfl⟩:=y_ext _ _ _ _ _ _ _ h1
   replace h:=gi h
   replace h:=pi (pi h)
   obtain ⟨r2,h3,h⟩:=bs h
   have h:=sm h
   injection h with h _
   subst h
   rw [← (app_inv h3).2]
   exact ⟨t ++ _,by rw [List.append_assoc];rfl⟩
end Go.Proofs.Ytfglbdkfnphjgaa
