/- The maker of programs answers for any tape: expressions. -/
import Derived.Test.YtfglbdkfnphjgaaPf
import Derived.Test.YtfglbdkfnphjgaaLc
set_option linter.unusedVariables false
set_option linter.unusedSimpArgs false
namespace Go.Proofs.Ytfglbdkfnphjgaa
open Go.RowKit Go.Fw
structure TQ (T:GTape):Prop where
 lo:0≤T.at_
 hi:T.at_≤T.l.length
 len:T.l.length≤1000
def GE:Nat→GExpr→Prop
 | 0,_=>False
 | d+1,x=>(x.Name.size≤4∧x.Field.size≤4∧0≤x.Number∧x.Number≤999999999999999999)∧x.Args.length≤2∧∀ y ∈ x.Args,GE d y
theorem GE.mono:∀ {n m:Nat} {x:GExpr},GE n x→n≤m→GE m x
 | 0,_,_,h,_=>h.elim
 | n+1,0,_,h,k=>by omega
 | n+1,m+1,x,h,k=>⟨h.1,h.2.1,fun y hy=>GE.mono (h.2.2 y hy) (by omega)⟩
structure MP (M:GMaker):Prop where
 params:M.params.length=4∧∀ p ∈ M.params,0≤p∧p≤4
 f:0≤M.f∧M.f < M.funcs∧M.funcs≤4
 ns:(M.scalars.length:Int)+M.left≤40∧∀ n ∈ M.scalars,n.size≤4
 np:(M.points.length:Int)+M.left≤40∧∀ n ∈ M.points,n.size≤4
 na:(M.arrays.length:Int)+M.left≤40∧∀ n ∈ M.arrays,n.size≤4
 c:0≤M.count∧M.count+M.left≤22
 l:0≤M.left
theorem g_Mod {fu:Nat} {n k:Int} (h1:1≤k) (h2:k≤1000000000):Tot (m_kit_Mod fu n k) (fun v=>0≤v∧v < k):=by
 unfold m_kit_Mod
 have e1:n.tmod k < k:=Int.tmod_lt_of_pos n (by omega)
 have e2:-k < n.tmod k:=by
  have h:=Int.natAbs_tmod n k
  have h3:n.natAbs % k.natAbs < k.natAbs:=Nat.mod_lt _ (by omega)
  omega
 rw [if_neg (by omega)]
 refine .ite (fun c=>.mk ?_) fun c=>.mk ⟨by omega,e1⟩
 rw [wr_id (by omega) (by omega)]
 omega
theorem g_next {fu:Nat} {T:GTape} {k:Int} (h:TQ T) (h1:1≤k) (h2:k≤1000):Tot (m_kit_next fu T k) (fun r=>pel r fun v T'=>(0≤v∧v < k)∧TQ T'):=by
 have h3:=h.lo;have h4:=h.hi;have h5:=h.len
 unfold m_kit_next
 refine .ite (fun c=>.mk ⟨⟨Int.le_refl _,by omega⟩,h⟩) fun c=>?_
 rw [wr_id (n:=T.at_+1) (by omega) (by omega),wr_id (n:=T.at_+1 - 1) (by omega) (by omega)]
 refine .bd (.ix (by omega) (by omega)) fun e _=>.bd (g_Mod h1 (by omega)) fun v hv=>.mk ⟨hv,⟨by dsimp only;omega,by dsimp only;omega,h5⟩⟩
theorem g_more {fu:Nat} {T:GTape}:Tot (m_kit_more fu T) (fun _=>True):=.mk trivial
theorem g_pick {α:Type} {fu:Nat} {T:GTape} {l:List α} {β:Type} {f:α→GTape→Option β} {P:β→Prop} (h:TQ T) (h1:1≤l.length) (h2:l.length≤1000) (k:∀ x T',x ∈ l→TQ T'→Tot (f x T') P):Tot ((m_kit_next fu T ((l.length:Nat):Int)).bind fun r=>pel r fun v T'=>(ix l v).bind fun x=>f x T') P:=
 .bp (g_next h (by omega) (by omega)) fun v T' hv=>.bd (.ix hv.1.1 hv.1.2) fun x hx=>k x T' (List.mem_of_getElem? hx) hv.2
theorem g_number {fu:Nat} {T:GTape} (h:TQ T):Tot (m_kit_number fu T) (fun r=>pel r fun v T'=>(0≤v∧v≤999999999999999999)∧TQ T'):=by
 unfold m_kit_number
 refine g_pick h (by decide) (by decide) fun x T' hx hT=>.mk ⟨?_,hT⟩
 revert x
 decide
theorem g_literal {fu:Nat} {n:Int} (h:0≤n∧n≤999999999999999999):Tot (m_kit_literal fu n) (fun x=>GE 1 x):=.mk ⟨⟨Nat.zero_le _,Nat.zero_le _,h.1,h.2⟩,Nat.zero_le _,fun y hy=>(by cases hy)⟩
theorem g_variable {fu:Nat} {n:ByteArray} (h:n.size≤4):Tot (m_kit_variable fu n) (fun x=>GE 1 x):=.mk ⟨⟨h,Nat.zero_le _,(by decide:(0:Int)≤0),(by decide:(0:Int)≤999999999999999999)⟩,Nat.zero_le _,fun y hy=>(by cases hy)⟩
theorem foldl_size:∀ (l:List Int) (r:ByteArray),(l.foldl (fun r n=>r.push (UInt8.ofNat n.toNat)) r).size=r.size+l.length
 | [],r=>rfl
 | x :: l,r=>by
  rw [List.foldl_cons,foldl_size l,ByteArray.size_push,List.length_cons]
  omega
theorem bst_size {l:List GU8}:(bst l).size=l.length:=by
 unfold bst Go.Fw.strOf
 rw [foldl_size,List.length_map]
 exact Nat.zero_add _
theorem g_Digits:∀ {d fu:Nat} {n:Int},0≤n→n < 10 ^ d→1≤d→d≤18→d≤fu→Tot (m_r03_Digits fu n) (fun s=>s.size≤d)
 | 0,_,_,_,_,h,_,_=>by omega
 | d+1,0,_,_,_,_,_,h=>by omega
 | d+1,fu+1,n,h0,h1,_,h3,h4=>by
  show Tot (F_r03_Digits fu (m_r03_Digits fu) n) _
  unfold F_r03_Digits
  rw [if_neg (by omega)]
  refine .ite (fun c=>.mk (by rw [bst_size];exact Nat.succ_le_succ (Nat.zero_le _))) fun c=>?_
  have hd:1≤d:=by
   rcases d with _ | d
   · omega
   · omega
  have e1:n.tdiv 10=n / 10:=Int.tdiv_eq_ediv_of_nonneg h0
  have e2:n.tmod 10=n % 10:=Int.tmod_eq_emod_of_nonneg h0
  have e3:n / 10 < 10 ^ d:=by
   rw [Int.pow_succ] at h1
   omega
  have e4:(10:Int) ^ d≤10 ^ 17:=by
   have h5:(10:Nat) ^ d≤10 ^ 17:=Nat.pow_le_pow_right (by decide) (by omega)
   exact_mod_cast h5
  rw [e1,e2,wr_id (by omega) (by omega)]
  refine .bd (g_Digits (d:=d) (by omega) e3 hd (by omega) (by omega)) fun s hs=>?_
  refine .bd (g_Digits (d:=1) (by omega) (by omega) (by omega) (by omega) (by omega)) fun t ht=>?_
  refine .bd (.cat (by omega)) fun r hr=>.mk ?_
  rw [hr,cat_size]
  omega
theorem g_fresh {fu:Nat} {M:GMaker} {T:GTape} (hf:3≤fu) (h0:0≤M.count) (h1:M.count≤30):Tot (m_kit_fresh fu M T) (fun r=>pel r fun s M'=>s.size≤4∧M'=⟨M.f,M.funcs,M.params,M.scalars,M.points,M.arrays,M.count+1,M.left⟩):=by
 unfold m_kit_fresh
 rw [wr_id (by omega) (by omega)]
 refine .bd (g_Digits (d:=2) (by omega) (by omega) (by omega) (by omega) (by omega)) fun s hs=>?_
 refine .bd (.cat (by have:(⟨#[118]⟩:ByteArray).size=1:=rfl;omega)) fun r hr=>.mk ⟨?_,rfl⟩
 have:(⟨#[118]⟩:ByteArray).size=1:=rfl
 rw [hr,cat_size]
 omega
def XP (d:Nat) (M:GMaker) (r:GExpr × GMaker × GTape):Prop:=pel r fun x r=>pel r fun M' T'=>GE d x∧M'=M∧TQ T'
theorem GE.mk1 {d:Nat} {op:Int} {n f:ByteArray} {y:GExpr} (h1:n.size≤4) (h2:f.size≤4) (h:GE d y):GE (d+1) ⟨op,0,0,n,f,[y]⟩:=⟨⟨h1,h2,(by decide:(0:Int)≤0),(by decide:(0:Int)≤999999999999999999)⟩,(by decide:1≤2),fun z hz=>by
 simp only [List.mem_cons,List.not_mem_nil,or_false] at hz
 subst hz
 exact h⟩
theorem GE.mk2 {d:Nat} {op:Int} {n f:ByteArray} {y y':GExpr} (h1:n.size≤4) (h2:f.size≤4) (h:GE d y) (h':GE d y'):GE (d+1) ⟨op,0,0,n,f,[y,y']⟩:=⟨⟨h1,h2,(by decide:(0:Int)≤0),(by decide:(0:Int)≤999999999999999999)⟩,(by decide:2≤2),fun z hz=>by
 simp only [List.mem_cons,List.not_mem_nil,or_false] at hz
 rcases hz with hz | hz <;> subst hz
 · exact h
 · exact h'⟩
theorem GE.mk0 {d:Nat} {op:Int} {n f:ByteArray} (h1:n.size≤4) (h2:f.size≤4):GE (d+1) ⟨op,0,0,n,f,[]⟩:=⟨⟨h1,h2,(by decide:(0:Int)≤0),(by decide:(0:Int)≤999999999999999999)⟩,(by decide:0≤2),fun z hz=>by cases hz⟩
theorem xy_size:∀ x ∈ ([(⟨#[120]⟩:ByteArray),(⟨#[121]⟩:ByteArray)]:List ByteArray),x.size≤4:=by
 intro x hx
 simp only [List.mem_cons,List.not_mem_nil,or_false] at hx
 rcases hx with rfl | rfl <;> decide
def Kexp (fu:Nat):Prop:=∀ (M:GMaker) (T:GTape) (e:Nat),MP M→TQ T→e≤3→2 * e+3≤fu→Tot (m_kit_expr fu M T (3 - e)) (XP (e+1) M)
def Kele (fu:Nat):Prop:=∀ (M:GMaker) (T:GTape) (e:Nat),MP M→TQ T→e≤2→2 * e+4≤fu→0 < M.arrays.length→Tot (m_kit_element fu M T (3 - e)) (XP (e+2) M)
theorem Kexp.dn {fu:Nat} (h:Kexp fu) {M:GMaker} {T:GTape} {e:Nat} {x:Int} (h1:MP M) (h2:TQ T) (h3:e≤3) (h4:2 * e+3≤fu) (hx:x=3 - e):Tot (m_kit_expr fu M T x) (XP (e+1) M):=by subst hx;exact h M T e h1 h2 h3 h4
theorem g_pair:∀ (fu:Nat),Kexp fu∧Kele fu
 | 0=>⟨fun _ _ _ _ _ _ h=>by omega,fun _ _ _ _ _ _ h=>by omega⟩
 | fu+1=>by
  have ih:=g_pair fu
  constructor
  · intro M T e hM hT he hf
    show Tot (F_kit_expr fu (m_kit_expr fu) (m_kit_element fu) M T _) _
    unfold F_kit_expr
    have n1:=hM.ns;have n2:=hM.np;have n3:=hM.na;have hl:=hM.l
    refine .bp (g_next hT (by decide) (by decide)) fun k T1 h1=>?_
    have hJ0:Tot (F_kit_expr_J0 fu (m_kit_expr fu) (m_kit_element fu) (3 - e) k) (LdP (fun b=>b=false→1≤e) (fun _=>False)):=by
      unfold F_kit_expr_J0
      exact .ite (fun c=>.go fun z=>(by cases z)) fun c=>.go fun _=>by omega
    refine .el hJ0 (fun b hb=>?_) fun _ z=>z.elim
    refine .ite (fun _=>?_) fun hb0=>?_
    · exact .bp (g_number h1.2) fun v T2 h2=>.bd (g_literal h2.1) fun x hx=>.mk ⟨hx.mono (by omega),rfl,h2.2⟩
    have he1:1≤e:=hb (by simpa using hb0)
    have hJ1:Tot (F_kit_expr_J1 fu (m_kit_expr fu) (m_kit_element fu) M k) (LdP (fun b=>b=true→0 < M.scalars.length) (fun _=>False)):=by
      unfold F_kit_expr_J1
      exact .ite (fun c=>.go fun z=>by have:=of_decide_eq_true z;omega) fun c=>.go fun z=>(by cases z)
    refine .el hJ1 (fun b hb=>?_) fun _ z=>z.elim
    refine .ite (fun hb0=>?_) fun hb0=>?_
    · have:=hb hb0
      exact g_pick h1.2 (by omega) (by omega) fun s T2 hs h2=>.bd (g_variable (n1.2 s hs)) fun x hx=>.mk ⟨hx.mono (by omega),rfl,h2⟩
    have hJ2:Tot (F_kit_expr_J2 fu (m_kit_expr fu) (m_kit_element fu) M k) (LdP (fun b=>b=true→0 < M.points.length) (fun _=>False)):=by
      unfold F_kit_expr_J2
      exact .ite (fun c=>.go fun z=>by have:=of_decide_eq_true z;omega) fun c=>.go fun z=>(by cases z)
    refine .el hJ2 (fun b hb=>?_) fun _ z=>z.elim
    refine .ite (fun hb0=>?_) fun hb0=>?_
    · have:=hb hb0
      exact g_pick h1.2 (by omega) (by omega) fun s T2 hs h2=>.bp (g_next h2 (by decide) (by decide)) fun v T3 h3=>.bd (.ix h3.1.1 h3.1.2) fun f hf=>.mk ⟨GE.mk0 (n2.2 s hs) (xy_size f (List.mem_of_getElem? hf)),rfl,h3.2⟩
    have hJ3:Tot (F_kit_expr_J3 fu (m_kit_expr fu) (m_kit_element fu) M k) (LdP (fun b=>b=true→0 < M.arrays.length) (fun _=>False)):=by
      unfold F_kit_expr_J3
      exact .ite (fun c=>.go fun z=>by have:=of_decide_eq_true z;omega) fun c=>.go fun z=>(by cases z)
    refine .el hJ3 (fun b hb3=>?_) fun _ z=>z.elim
    obtain ⟨e,rfl⟩:∃ e',e=e'+1:=⟨e - 1,by omega⟩
    have hw:wr ((3:Int) - ((e+1:Nat):Int)+1)=3 - (e:Int):=by rw [wr_id (by omega) (by omega)];omega
    rw [hw]
    refine .ite (fun hb0=>?_) fun hb0=>?_
    · refine .bp (ih.2 M T1 e hM h1.2 (by omega) (by omega) (hb3 hb0)) fun x r hx=>.pp hx fun M' T' hx=>.mk ?_
      exact hx
    refine .ite (fun _=>?_) fun _=>?_
    · refine .bp (g_next h1.2 (by decide) (by decide)) fun v T2 h2=>.bp (ih.1 M T2 e hM h2.2 (by omega) (by omega)) fun x r hx=>.pp hx fun M' T' hx=>.mk ⟨?_,hx.2⟩
      exact GE.mk1 (Nat.zero_le _) (Nat.zero_le _) hx.1
    · refine .bp (g_next h1.2 (by decide) (by decide)) fun v T2 h2=>.bp (ih.1 M T2 e hM h2.2 (by omega) (by omega)) fun x r hx=>.pp hx fun M' T' hx=>?_
      obtain ⟨hx1,rfl,hx3⟩:=hx
      refine .bp (ih.1 M' T' e hM hx3 (by omega) (by omega)) fun y r hy=>.pp hy fun M2 T3 hy=>.mk ⟨?_,hy.2⟩
      exact GE.mk2 (Nat.zero_le _) (Nat.zero_le _) hx1 hy.1
  · intro M T e hM hT he hf ha
    show Tot (F_kit_element fu (m_kit_expr fu) (m_kit_element fu) M T _) _
    unfold F_kit_element
    have n3:=hM.na;have hl:=hM.l
    refine g_pick hT (by omega) (by omega) fun s T1 hs h1=>.bp (g_next h1 (by decide) (by decide)) fun v T2 h2=>?_
    refine .ite (fun _=>?_) fun _=>?_
    · exact .bp (g_next h2.2 (by decide) (by decide)) fun v3 T3 h3=>.bd (g_literal ⟨h3.1.1,by have:=h3.1.2;omega⟩) fun x hx=>.mk ⟨GE.mk1 (n3.2 s hs) (Nat.zero_le _) (hx.mono (by omega)),rfl,h3.2⟩
    · exact .bp (ih.1 M T2 e hM h2.2 (by omega) (by omega)) fun x r hx=>.pp hx fun M' T' hx=>.mk ⟨GE.mk1 (n3.2 s hs) (Nat.zero_le _) hx.1,hx.2⟩
theorem g_expr {fu:Nat} (hf:9≤fu) {M:GMaker} {T:GTape} (hM:MP M) (hT:TQ T) {d:Int} (h0:0≤d) (h3:d≤3):Tot (m_kit_expr fu M T d) (XP 4 M):=by
 have h:=(g_pair fu).1 M T (3 - d.toNat) hM hT (by omega) (by omega)
 rw [show (3:Int) - ((3 - d.toNat:Nat):Int)=d from by omega] at h
 exact h.imp fun v hv=>⟨hv.1.mono (by omega),hv.2⟩
theorem g_element {fu:Nat} (hf:8≤fu) {M:GMaker} {T:GTape} (hM:MP M) (hT:TQ T) (ha:0 < M.arrays.length):Tot (m_kit_element fu M T 1) (XP 4 M):=(g_pair fu).2 M T 2 hM hT (by decide) (by omega) ha
end Go.Proofs.Ytfglbdkfnphjgaa
