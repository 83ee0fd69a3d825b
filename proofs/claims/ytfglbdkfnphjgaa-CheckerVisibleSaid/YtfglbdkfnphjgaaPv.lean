/- What is parsed of a made program has a function; the law of what is visible. -/
import Derived.Test.YtfglbdkfnphjgaaPs
import Derived.Test.YtfglbdkfnphjgaaPo
set_option linter.unusedVariables false
set_option linter.unusedSimpArgs false
namespace Go.Proofs.Ytfglbdkfnphjgaa
open Go.RowKit Go.Fw
theorem ob {α β:Type} {x:α} {f:α→Option β}:(some x).bind f=f x:=rfl
theorem pl {α β γ:Type} {a:α} {b:β} {f:α→β→γ}:pel (a,b) f=f a b:=rfl
section
variable {fu:Nat} {l:List GToken} {a ln:Int} {t:GToken}
theorem q_is (h0:0≤a) (h1:a≤1000) (ht:l[a.toNat]?=some t) {w:ByteArray} {b:Bool} (hb:(if t.Kind=3 then some (decide (t.Text=w)) else if t.Kind=4 then some (decide (t.Text=w)) else some false)=some b):m_r03_is fu ⟨l,a,ln,0⟩ 0 w=some b:=by
 have hl:=lt_of_get ht
 unfold m_r03_is
 dsimp only
 rw [wr_id (by omega) (by omega),if_neg (by omega),Int.add_zero]
 have e:ix l a=some t:=by
  unfold Go.Fw.ix
  rw [if_neg (by omega),ht]
 rw [e]
 exact hb
theorem q_take (h0:0≤a) (h1:a≤1000) (ht:l[a.toNat]?=some t) {w:ByteArray} (hb:(if t.Kind=3 then some (decide (t.Text=w)) else if t.Kind=4 then some (decide (t.Text=w)) else some false)=some true):m_r03_take fu ⟨l,a,ln,0⟩ w=some ⟨l,a+1,ln,0⟩:=by
 unfold m_r03_take
 rw [if_neg (by simp),q_is h0 h1 ht hb]
 rw [ob,if_neg (by decide)]
 dsimp only
 rw [wr_id (by omega) (by omega)]
theorem q_name (h0:0≤a) (h1:a≤1000) (ht:l[a.toNat]?=some t) (hk:t.Kind=1):m_r03_name fu ⟨l,a,ln,0⟩=some (t.Text,⟨l,a+1,ln,0⟩):=by
 have hl:=lt_of_get ht
 have e:ix l a=some t:=by
  unfold Go.Fw.ix
  rw [if_neg (by omega),ht]
 unfold m_r03_name
 rw [if_neg (by simp)]
 have e2:m_r03_kind fu ⟨l,a,ln,0⟩ 0 1=some true:=by
  unfold m_r03_kind
  dsimp only
  rw [wr_id (by omega) (by omega),Int.add_zero,if_pos (by omega),e]
  show some (decide (t.Kind=1))=_
  rw [hk]
  rfl
 rw [e2]
 rw [ob,if_neg (by decide)]
 dsimp only
 rw [wr_id (n:=a+1) (by omega) (by omega),wr_id (by omega) (by omega),Int.add_sub_cancel,e,ob]
end
theorem q_L0 {l:List GToken} (h:∃ t,l=tk7 ++ [tk8] ++ t):m_r03_program_L0 10100 10100 [] l 0 0 0=some (.go ([⟨⟨#[80]⟩,[⟨#[120]⟩,⟨#[121]⟩]⟩],l,7,0,0)):=by
 have hk:∀ i:Nat,i < 8→l[i]?=(tk7 ++ [tk8])[i]?:=by
  obtain ⟨t,rfl⟩:=h
  intro i hi
  exact List.getElem?_append_left (by simpa [tk7] using hi)
 have n2:m_r03_names_L0 10100 10099 [⟨#[120]⟩,⟨#[121]⟩] l 6 0 0=some (.go ([⟨#[120]⟩,⟨#[121]⟩],l,6,0,0)):=by
  rw [m_r03_names_L0,if_pos rfl,q_is (b:=false) (by decide) (by decide) (hk 6 (by decide)) (by kernel_rfl),ob,if_neg (by decide)]
 have n1:m_r03_names_L0 10100 10100 [⟨#[120]⟩] l 4 0 0=some (.go ([⟨#[120]⟩,⟨#[121]⟩],l,6,0,0)):=by
  rw [m_r03_names_L0,if_pos rfl,q_is (b:=true) (by decide) (by decide) (hk 4 (by decide)) (by kernel_rfl),ob,if_pos rfl,q_take (by decide) (by decide) (hk 4 (by decide)) (by kernel_rfl),ob,q_name (by decide) (by decide) (hk 5 (by decide)) rfl,ob,pl]
  exact n2
 have hn:m_r03_names 10100 ⟨l,3,0,0⟩=some ([⟨#[120]⟩,⟨#[121]⟩],⟨l,6,0,0⟩):=by
  unfold m_r03_names
  rw [q_name (by decide) (by decide) (hk 3 (by decide)) rfl,ob,pl]
  have n1':m_r03_names_L0 10100 10100 [(⟨#[120]⟩:ByteArray)] l (3+1) 0 0=some (.go ([⟨#[120]⟩,⟨#[121]⟩],l,6,0,0)):=n1
  exact (congrArg (fun z=>Option.bind z _) n1').trans rfl
 have p2:m_r03_program_L0 10100 10099 [⟨⟨#[80]⟩,[⟨#[120]⟩,⟨#[121]⟩]⟩] l 7 0 0=some (.go ([⟨⟨#[80]⟩,[⟨#[120]⟩,⟨#[121]⟩]⟩],l,7,0,0)):=by
  rw [m_r03_program_L0,if_pos rfl,q_is (b:=false) (by decide) (by decide) (hk 7 (by decide)) (by kernel_rfl),ob,if_neg (by decide)]
 rw [m_r03_program_L0,if_pos rfl,q_is (b:=true) (by decide) (by decide) (hk 0 (by decide)) (by kernel_rfl),ob,if_pos rfl,wr_id (by decide) (by decide),q_name (by decide) (by decide) (hk 1 (by decide)) rfl,ob,pl,q_take (by decide) (by decide) (hk 2 (by decide)) (by kernel_rfl),ob]
 have hn':m_r03_names 10100 ⟨l,0+1+1+1,0,0⟩=some ([⟨#[120]⟩,⟨#[121]⟩],⟨l,6,0,0⟩):=hn
 rw [hn',ob,pl,q_take (by decide) (by decide) (hk 6 (by decide)) (by kernel_rfl),ob]
 exact p2
theorem q_len {fu:Nat}:∀ (n:Nat) (out:List GFunc) (l:List GToken) (a b e:Int) (o:List GFunc) (l':List GToken) (a' b' e':Int),m_r03_program_L1 fu n out l a b e=some (.go (o,l',a',b',e'))→out.length≤o.length
 | 0,_,_,_,_,_,_,_,_,_,_,h=>by cases h
 | n+1,out,l,a,b,e,o,l',a',b',e',h=>by
  have fin:∀ {c d:Int} {m:List GToken} {x:Int},some (Ld.go (ρ:=GProgram × GState) (out,m,c,d,x))=some (.go (o,l',a',b',e'))→out.length≤o.length:=fun h=>by
    have h:=sm h
    injection h with h
    injection h with h _
    rw [h]
    exact Nat.le_refl _
  rw [m_r03_program_L1] at h
  rcases ite_inv h with ⟨_,h⟩|⟨_,h⟩
  · obtain ⟨v,_,h⟩:=bs h
    rcases ite_inv h with ⟨_,h⟩|⟨_,h⟩
    · obtain ⟨v,_,h⟩:=bs h
      obtain ⟨⟨v1,v2⟩,_,h⟩:=bs h
      replace h:=pi h
      obtain ⟨v,_,h⟩:=bs h
      obtain ⟨r,_,h⟩:=bs h
      cases r with
      | out o=>cases h
      | go x=>
       obtain ⟨x1,x2,x3,x4,x5⟩:=x
       replace h:=gi h
       replace h:=pi (pi (pi (pi h)))
       obtain ⟨v,_,h⟩:=bs h
       obtain ⟨⟨v1,v2,v3⟩,_,h⟩:=bs h
       replace h:=pi (pi h)
       obtain ⟨v,_,h⟩:=bs h
       obtain ⟨r,hr,h⟩:=bs h
       have:=q_len n _ _ _ _ _ _ _ _ _ _ h
       rw [← (app_inv hr).2,len_snoc] at this
       omega
    · exact fin h
  · exact fin h
theorem q_out {fu:Nat}:∀ (n:Nat) (out:List GFunc) (l:List GToken) (a b e:Int) (o:GProgram × GState),m_r03_program_L1 fu n out l a b e=some (.out o)→False
 | 0,_,_,_,_,_,_,h=>by cases h
 | n+1,out,l,a,b,e,o,h=>by
  rw [m_r03_program_L1] at h
  rcases ite_inv h with ⟨_,h⟩|⟨_,h⟩
  · obtain ⟨v,_,h⟩:=bs h
    rcases ite_inv h with ⟨_,h⟩|⟨_,h⟩
    · obtain ⟨v,_,h⟩:=bs h
      obtain ⟨⟨v1,v2⟩,_,h⟩:=bs h
      replace h:=pi h
      obtain ⟨v,_,h⟩:=bs h
      obtain ⟨r,hr,h⟩:=bs h
      cases r with
      | out o=>
       unfold m_r03_program_J2 at hr
       rcases ite_inv hr with ⟨_,hr⟩|⟨_,hr⟩
       · obtain ⟨v,_,hr⟩:=bs hr
         rcases ite_inv hr with ⟨_,hr⟩|⟨_,hr⟩
         · obtain ⟨⟨v1,v2⟩,_,hr⟩:=bs hr
           cases pi hr
         · cases hr
       · cases hr
      | go x=>
       obtain ⟨x1,x2,x3,x4,x5⟩:=x
       replace h:=gi h
       replace h:=pi (pi (pi (pi h)))
       obtain ⟨v,_,h⟩:=bs h
       obtain ⟨⟨v1,v2,v3⟩,_,h⟩:=bs h
       replace h:=pi (pi h)
       obtain ⟨v,_,h⟩:=bs h
       obtain ⟨r,hr,h⟩:=bs h
       exact q_out n _ _ _ _ _ _ h
    · cases h
  · cases h
theorem q_L1 {l:List GToken} (h:∃ t,l=tk7 ++ [tk8] ++ t) {o:List GFunc} {l':List GToken} {a' b' e':Int} (k:m_r03_program_L1 10100 10100 [] l 7 0 0=some (.go (o,l',a',b',e'))):1≤o.length:=by
 have hk:l[7]?=some tk8:=by
  obtain ⟨t,rfl⟩:=h
  rfl
 rw [m_r03_program_L1,if_pos rfl,q_is (b:=true) (by decide) (by decide) hk (by kernel_rfl)] at k
 replace k:=sb k
 rw [if_pos rfl] at k
 obtain ⟨v,_,k⟩:=bs k
 obtain ⟨⟨v1,v2⟩,_,k⟩:=bs k
 replace k:=pi k
 obtain ⟨v,_,k⟩:=bs k
 obtain ⟨r,_,k⟩:=bs k
 cases r with
 | out o=>cases k
 | go x=>
  obtain ⟨x1,x2,x3,x4,x5⟩:=x
  replace k:=gi k
  replace k:=pi (pi (pi (pi k)))
  obtain ⟨v,_,k⟩:=bs k
  obtain ⟨⟨v1,v2,v3⟩,_,k⟩:=bs k
  replace k:=pi (pi k)
  obtain ⟨v,_,k⟩:=bs k
  obtain ⟨r,hr,k⟩:=bs k
  have:=q_len _ _ _ _ _ _ _ _ _ _ _ k
  rw [← (app_inv hr).2,len_snoc] at this
  omega
theorem q_Parse {s:ByteArray} (H:Exb bgn s) {p:GProgram} {ln:Int} (h:m_r03_Parse 10100 s=some (p,ln,0)):1≤p.Funcs.length:=by
 unfold m_r03_Parse at h
 obtain ⟨⟨l,x1,x2⟩,h1,h⟩:=bs h
 replace h:=pi (pi h)
 rcases ite_inv h with ⟨hx,h⟩|⟨hx,h⟩
 · have h:=sm h
   injection h with _ h
   injection h with _ h
   exact absurd h hx
 obtain rfl:x2=0:=by simpa using hx
 have hl:=y_Scan H h1
 obtain ⟨⟨p',S⟩,h2,h⟩:=bs h
 replace h:=pi h
 rcases ite_inv h with ⟨hx,h⟩|⟨_,h⟩
 · have h:=sm h
   injection h with _ h
   injection h with _ h
   exact absurd h hx
 have h:=sm h
 injection h with h _
 subst h
 unfold m_r03_program at h2
 rw [q_L0 hl] at h2
 replace h2:=sb h2
 replace h2:=gi h2
 replace h2:=pi (pi (pi (pi h2)))
 obtain ⟨r,h3,h2⟩:=bs h2
 cases r with
 | out o=>
   exfalso
   exact q_out _ _ _ _ _ _ _ h3
 | go x=>
   obtain ⟨x1,x2,x3,x4,x5⟩:=x
   have h4:=q_L1 hl h3
   replace h2:=gi h2
   replace h2:=pi (pi (pi (pi h2)))
   rcases ite_inv h2 with ⟨_,h2⟩|⟨_,h2⟩
   · obtain ⟨v,_,h2⟩:=bs h2
     rcases ite_inv h2 with ⟨_,h2⟩|⟨_,h2⟩
     · obtain ⟨v,_,h2⟩:=bs h2
       have h2:=sm h2
       injection h2 with h2 _
       rw [← h2]
       exact h4
     · have h2:=sm h2
       injection h2 with h2 _
       rw [← h2]
       exact h4
   · have h2:=sm h2
     injection h2 with h2 _
     rw [← h2]
     exact h4
theorem c_TextB {l:List Int} (hl:l.length≤1000):Tot (m_kit_Text 10100 l) (fun s=>Exb bgn s):=by
 unfold m_kit_Text
 exact .bd (g_Program (by decide) hl) fun p hp=>.bde (p_Print (by decide) hp) fun s e hs=>.mk (x_Print hp e)
theorem c_CheckedB {l:List Int}:Tot (m_kit_Checked 10100 l) (fun r=>pel r fun s b=>b=true→CK s∧1≤s.Vars.length∧s.Vars.length≤5000):=by
 unfold m_kit_Checked
 refine .bd g_Short fun l2 h2=>.bd (c_TextB (by omega)) fun t ht=>?_
 refine .bde (t_Parse (by decide)) fun v ev hr=>?_
 obtain ⟨p,a,e⟩:=v
 refine .ite (fun _=>.mk fun z=>(by cases z)) fun c=>?_
 obtain rfl:e=0:=by simpa using c
 have hp:=q_Parse ht ev
 refine .bp (u_Check (Nat.le_refl _) (hr rfl)) fun s r hs=>.pp hs fun a e hs=>.mk fun z=>?_
 have q:=hs (of_decide_eq_true z)
 exact ⟨⟨fun V hV=>(q.1.2 V hV).1,fun V hV=>(q.1.2 V hV).2,q.2⟩,by rw [q.1.1];exact hp,by rw [q.1.1];exact (hr rfl).funcs⟩
theorem r_vis_L0 {fu:Nat} {i:Int}:∀ (r:List GVarInfo) (k:Nat) (acc:List Int),m_r04_Visible_L0 fu i r k acc=m_checker_Visible_L0 fu i r k acc
 | [],k,acc=>rfl
 | x :: r,k,acc=>by
  rw [m_r04_Visible_L0,m_checker_Visible_L0,r_vis_L0 r,funext fun a=>r_vis_L0 r (k+1) a]
theorem r_Visible {fu:Nat} {s:GSource} {f i:Int}:m_r04_Visible fu s f i=m_checker_Visible fu s f i:=by
 unfold m_r04_Visible m_checker_Visible
 simp only [r_vis_L0]
theorem r_Find_L0 {fu:Nat} {x:ByteArray}:∀ (r:List GFunc) (k:Nat),m_r04_Find_L0 fu x r k=m_checker_Find_L0 fu x r k
 | [],k=>rfl
 | y :: r,k=>by rw [m_r04_Find_L0,m_checker_Find_L0,r_Find_L0 r]
theorem r_Find {fu:Nat} {s:GSource} {x:ByteArray}:m_r04_Find fu s x=m_checker_Find fu s x:=by
 unfold m_r04_Find m_checker_Find
 rw [r_Find_L0]
theorem c_Find_L0 {fu:Nat} {x:ByteArray}:∀ (r:List GFunc) (k:Nat),Tot (m_checker_Find_L0 fu x r k) (LdP (fun _=>True) (fun _=>True))
 | [],k=>.go trivial
 | y :: r,k=>by
  rw [m_checker_Find_L0]
  exact .ite (fun _=>.out trivial) fun _=>c_Find_L0 r (k+1)
theorem c_Find {fu:Nat} {s:GSource} {x:ByteArray}:Tot (m_checker_Find fu s x) (fun _=>True):=by
 unfold m_checker_Find
 exact .el (c_Find_L0 _ _) (fun _ _=>.mk trivial) fun _ _=>.mk trivial
theorem same_L0 {fu:Nat} {l:List Int} (hl:l.length≤1000):∀ (n i:Nat),l.length+1≤n+i→i≤l.length→Tot (m_same_int_L0 fu l l n i) (LdP (fun _=>True) (fun _=>False))
 | 0,_,h,h2=>by omega
 | n+1,i,h,h2=>by
  rw [m_same_int_L0]
  refine .ite (fun c=>?_) fun _=>.go trivial
  refine .bde (.ix (by omega) c) fun x ex _=>?_
  rw [ex]
  show Tot (if x≠x then _ else _) _
  rw [if_neg (by simp),wr_id (by omega) (by omega)]
  exact same_L0 hl n (i+1) (by omega) (by omega)
theorem same_int {fu:Nat} (hf:1001≤fu) {l:List Int} (hl:l.length≤1000):m_same_int fu l l=some true:=by
 have h:Tot (m_same_int fu l l) (fun b=>b=true):=by
  unfold m_same_int
  rw [if_neg (by simp)]
  exact .el (same_L0 hl fu 0 (by omega) (Nat.zero_le _)) (fun _ _=>.mk rfl) fun _ z=>z.elim
 obtain ⟨v,h1,rfl⟩:=h
 exact h1
theorem vis_L0 {s:GSource} (hs:CK s) {f:Int}:∀ (n i:Nat),i≤s.Stmts.length→201≤n+i→Tot (m_l04_CheckerVisible_L0 10100 s f n i) (LdP (fun _=>True) (fun _=>False))
 | 0,_,h,h2=>by have:=hs.st;omega
 | n+1,i,hi,hn=>by
  have hst:=hs.st
  rw [m_l04_CheckerVisible_L0]
  refine .ite (fun c=>?_) fun _=>.go trivial
  rw [r_Visible,v_Visible hs.vn,ob,ob,same_int (by decide) (Nat.le_trans (visS_len hs.vn) (by decide)),ob,if_neg (by decide),wr_id (by omega) (by omega)]
  exact vis_L0 hs n (i+1) (by omega) (by omega)
theorem visible_true (l:List Int) (f i:Int) (x:ByteArray):m_l04_CheckerVisible 10100 l f i x=some true:=by
 have h:Tot (m_l04_CheckerVisible 10100 l f i x) (fun b=>b=true):=by
  unfold m_l04_CheckerVisible
  rw [k_known]
  refine .bp c_CheckedB fun s b hs=>.ite (fun _=>.mk rfl) fun c=>?_
  obtain ⟨hs,h1,h5⟩:=hs (by simpa using c)
  refine .bde c_Find fun v ev _=>?_
  obtain ⟨a,b⟩:=v
  rw [pl,r_Find,ev,ob,pl,if_neg (by simp),if_neg (by simp),r_Visible,v_Visible hs.vn,ob,ob,same_int (by decide) (Nat.le_trans (visS_len hs.vn) (by decide)),ob,if_neg (by decide)]
  refine .bd (g_Mod (by omega) (by omega)) fun k hk=>?_
  refine .el (vis_L0 hs 10100 0 (Nat.zero_le _) (by decide)) (fun _ _=>.mk rfl) fun _ z=>z.elim
 obtain ⟨v,h1,rfl⟩:=h
 exact h1
end Go.Proofs.Ytfglbdkfnphjgaa
