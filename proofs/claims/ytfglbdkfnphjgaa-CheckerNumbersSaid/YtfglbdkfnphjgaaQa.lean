/- The law of numbers. -/
import Derived.Test.YtfglbdkfnphjgaaPz
import Derived.Test.YtfglbdkfnphjgaaPl
import Derived.Test.YtfglbdkfnphjgaaPn
set_option linter.unusedVariables false
set_option linter.unusedSimpArgs false
namespace Go.Proofs.Ytfglbdkfnphjgaa
open Go.RowKit Go.Fw
theorem o_b {α β:Type} {x:α} {f:α→Option β}:(some x).bind f=f x:=rfl
theorem SN.le {K:List GStmtInfo} {V:List GVarInfo} {S:List Int} {f:Int} {l:List GStmt} {a b:Nat} (h:SN K V S f l a b):a≤b:=by
 induction h with
 | nil=>exact Nat.le_refl _
 | cons h k r1 r2 _ _ _ i1 i2 i3=>omega
theorem num_L0 {s:GSource} {V:List GVarInfo} {S:List Int} {f:Int} (h200:s.Stmts.length≤200) {fu:Nat} (ih:∀ (l:List GStmt) (a b:Nat),SN s.Stmts V S f l a b→b≤200→b - a+1≤fu→m_l04_numbered fu s f l a=some (b:Int)) {l:List GStmt} {a b:Nat} (h:SN s.Stmts V S f l a b):∀ k:Nat,b≤200→b - a≤fu→F_l04_numbered_L0 fu (m_l04_numbered fu) s f l k a=some (.go (b:Int)):=by
 induction h with
 | nil=>intro k _ _;rw [F_l04_numbered_L0]
 | @cons x l a c d b hid hk r1 r2 s1 s2 s3 i1 i2 i3=>
  intro k hb hf
  have l1:=s1.le;have l2:=s2.le;have l3:=s3.le
  have ha:=lt_of_get hk
  rw [F_l04_numbered_L0,if_neg (by omega),if_neg (by rw [hid];simp),if_neg (by omega)]
  have e:ix s.Stmts (a:Int)=some ⟨f,x.Kind,x.Line⟩:=by
   unfold Go.Fw.ix
   rw [if_neg (by omega),Int.toNat_natCast,hk]
  rw [e]
  show (if ¬ [f,x.Kind,x.Line]=[f,x.Kind,x.Line] then _ else _)=_
  rw [if_neg (by simp),wr_id (by omega) (by omega)]
  have e1:m_l04_numbered fu s f x.Body ((a:Int)+1)=some (c:Int):=ih x.Body (a+1) c s1 (by omega) (by omega)
  have e2:m_l04_numbered fu s f x.Else (c:Int)=some (d:Int):=ih x.Else c d s2 (by omega) (by omega)
  rw [e1]
  show (m_l04_numbered fu s f x.Else (c:Int)).bind _=_
  rw [e2]
  exact i3 (k+1) hb (by omega)
theorem num_ok {s:GSource} {V:List GVarInfo} {S:List Int} {f:Int} (h200:s.Stmts.length≤200):∀ (fu:Nat) (l:List GStmt) (a b:Nat),SN s.Stmts V S f l a b→b≤200→b - a+1≤fu→m_l04_numbered fu s f l a=some (b:Int)
 | 0,_,_,_,_,_,h=>by omega
 | fu+1,l,a,b,h,hb,hf=>by
  show F_l04_numbered fu (m_l04_numbered fu) s f l a=_
  unfold F_l04_numbered
  rw [num_L0 h200 (num_ok h200 fu) h 0 hb (by omega)]
  rfl
theorem num_L2 {fu:Nat} {a b:Nat} (hb:b≤200) (hab:a≤200):∀ (V:List GVarInfo) (k:Nat),(∀ x ∈ V,(a:Int)≤x.From∧x.From≤b∧x.From - 1≤x.To∧x.To≤(b:Int) - 1∧(x.Param=true→x.From=a∧x.To=(b:Int) - 1))→m_l04_CheckerNumbers_L2 fu a b V k=some (.go ())
 | [],_,_=>by rw [m_l04_CheckerNumbers_L2]
 | x :: V,k,h=>by
  obtain ⟨h1,h2,h3,h4,h5⟩:=h x (List.mem_cons_self ..)
  have ih:=num_L2 (fu:=fu) hb hab V (k+1) fun y hy=>h y (List.mem_cons_of_mem _ hy)
  rw [m_l04_CheckerNumbers_L2,if_neg (by omega),if_neg (by omega),wr_id (by omega) (by omega),if_neg (by omega),wr_id (by omega) (by omega),if_neg (by omega)]
  by_cases c:x.Param=true
  · have:=h5 c
    rw [if_pos c,if_neg (by omega),if_neg (by omega)]
    exact ih
  · rw [if_neg c]
    exact ih
theorem num_L1 {s:GSource} (h:SrcOk s.Program.Funcs s.Vars s.Stmts) (h5:s.Program.Funcs.length≤5000) {B:Nat→Nat} (hB:B s.Vars.length=s.Stmts.length) (hF:∀ (i:Nat) (fn:GFunc) (V:List GVarInfo),s.Program.Funcs[i]?=some fn→s.Vars[i]?=some V→FK s.Stmts i fn V (B i) (B (i+1))) (hm:∀ i,i≤s.Vars.length→B i≤200):∀ (n i:Nat),i≤s.Vars.length→5001≤n+i→Tot (m_l04_CheckerNumbers_L1 10100 s n (B i) i) (LdP (fun r=>pel r fun a _=>a=(s.Stmts.length:Int)) (fun _=>False))
 | 0,i,h1,h2=>by have:=h.2.1;omega
 | n+1,i,h1,h2=>by
  have hl:=h.2.1
  rw [m_l04_CheckerNumbers_L1]
  have fin:i=s.Vars.length→Tot (some (Ld.go (ρ:=Bool) (((B i:Nat):Int),(i:Int)))) (LdP (fun r=>pel r fun a _=>a=(s.Stmts.length:Int)) (fun _=>False)):=fun e=>.go (by show ((B i:Nat):Int)=_;rw [e,hB])
  refine .ite (fun c=>.ite (fun c2=>?_) fun c2=>fin (by omega)) fun c=>fin (by omega)
  obtain ⟨fn,hfn⟩:=get_ex (l:=s.Program.Funcs) (k:=i) (by omega)
  obtain ⟨V,hV⟩:=get_ex (l:=s.Vars) (k:=i) (by omega)
  have k:=hF i fn V hfn hV
  have b1:=hm i (by omega);have b2:=hm (i+1) (by omega)
  refine .bd (.ix (by omega) c) fun fn' hfn'=>?_
  rw [Int.toNat_natCast,hfn] at hfn'
  cases hfn'
  rw [num_ok h.1 10100 fn.Body (B i) (B (i+1)) k.sn b2 (by omega)]
  rw [o_b,if_neg (by omega)]
  refine .bd (.ix (by omega) c2) fun V' hV'=>?_
  rw [Int.toNat_natCast,hV] at hV'
  cases hV'
  rw [num_L2 b2 b1 V 0 k.vr]
  rw [o_b]
  show Tot (m_l04_CheckerNumbers_L1 10100 s n (B (i+1)) (wr ((i:Int)+1))) _
  rw [wr_id (by omega) (by omega)]
  exact num_L1 h h5 hB hF hm n (i+1) (by omega) (by omega)
theorem Parse_err {fu:Nat} {s:ByteArray} {p:GProgram} {ln e:Int} (h:m_r03_Parse fu s=some (p,ln,e)) (he:e≠0):p=⟨[],[]⟩:=by
 unfold m_r03_Parse at h
 obtain ⟨⟨l,x1,x2⟩,_,h⟩:=bs h
 replace h:=pi (pi h)
 rcases ite_inv h with ⟨_,h⟩|⟨_,h⟩
 · have h:=sm h
   injection h with h _
   exact h.symm
 obtain ⟨⟨p',S⟩,_,h⟩:=bs h
 replace h:=pi h
 rcases ite_inv h with ⟨_,h⟩|⟨_,h⟩
 · have h:=sm h
   injection h with h _
   exact h.symm
 · have h:=sm h
   injection h with _ h
   injection h with _ h
   exact absurd h.symm he
theorem POk.nil {N:Nat}:POk N ⟨[],[]⟩:=⟨Nat.zero_le _,fun r hr=>(by cases hr),Nat.zero_le _,fun r hr=>(by cases hr)⟩
theorem d_Text {fu:Nat} (hf:50≤fu) {l:List Int} (hl:l.length≤1000):Tot (m_kit_Text fu l) (fun _=>True):=by
 unfold m_kit_Text
 exact .bd (g_Program (by omega) hl) fun p hp=>.bd (p_Print hf hp) fun s hs=>.mk trivial
theorem d_Parse {fu:Nat} (hf:5300≤fu) {s:ByteArray}:Tot (m_r03_Parse fu s) (fun r=>pel r fun p r=>pel r fun _ e=>POk 5000 p):=by
 obtain ⟨⟨p,ln,e⟩,h1,h2⟩:=t_Parse (fu:=fu) (s:=s) hf
 refine ⟨_,h1,?_⟩
 by_cases c:e=0
 · exact h2 c
 · rw [Parse_err h1 c]
   exact POk.nil
theorem B_le {s:GSource} {B:Nat→Nat} (h200:s.Stmts.length≤200) (hl:s.Program.Funcs.length=s.Vars.length) (hB:B s.Vars.length=s.Stmts.length) (hF:∀ (i:Nat) (fn:GFunc) (V:List GVarInfo),s.Program.Funcs[i]?=some fn→s.Vars[i]?=some V→FK s.Stmts i fn V (B i) (B (i+1))):∀ (k i:Nat),i+k=s.Vars.length→B i≤200
 | 0,i,h=>by rw [show i=s.Vars.length from by omega,hB];exact h200
 | k+1,i,h=>by
  obtain ⟨fn,hfn⟩:=get_ex (l:=s.Program.Funcs) (k:=i) (by omega)
  obtain ⟨V,hV⟩:=get_ex (l:=s.Vars) (k:=i) (by omega)
  have:=(hF i fn V hfn hV).sn.le
  have:=B_le h200 hl hB hF k (i+1) (by omega)
  omega
theorem numbers_true (l:List Int):m_l04_CheckerNumbers 10100 l=some true:=by
 have h:Tot (m_l04_CheckerNumbers 10100 l) (fun b=>b=true):=by
  unfold m_l04_CheckerNumbers
  rw [k_known]
  refine .bd g_Short fun l2 h2=>.bd (d_Text (by decide) (by omega)) fun t _=>.bp (d_Parse (by decide)) fun p r hp=>.pp hp fun a e hp=>?_
  refine .bp (w_Check (Nat.le_refl _) hp) fun s r hs=>.pp hs fun a2 e2 hs=>?_
  have hJ:Tot (m_l04_CheckerNumbers_J0 10100 e e2) (LdP (fun b=>b=false→e2=0) (fun _=>False)):=by
   unfold m_l04_CheckerNumbers_J0
   exact .ite (fun _=>.go fun z=>(by cases z)) fun _=>.go fun z=>by
    have:=of_decide_eq_false z
    omega
  refine .el hJ (fun b hb=>.ite (fun _=>.mk rfl) fun c=>?_) fun _ z=>z.elim
  obtain ⟨ok,h5⟩:=hs (hb (by simpa using c))
  obtain ⟨h1,h3,B,b0,b1,bF⟩:=id ok
  have hm:∀ i,i≤s.Vars.length→B i≤200:=fun i hi=>B_le h1 h3 b1 bF (s.Vars.length - i) i (by omega)
  have hl:=num_L1 ok h5 b1 bF hm 10100 0 (Nat.zero_le _) (by decide)
  rw [b0] at hl
  refine .el hl (fun r hr=>.pp hr fun a _ ha=>?_) fun _ z=>z.elim
  rw [if_pos ha,if_pos (by rw [h3])]
  exact .mk rfl
 obtain ⟨v,h1,rfl⟩:=h
 exact h1
end Go.Proofs.Ytfglbdkfnphjgaa
