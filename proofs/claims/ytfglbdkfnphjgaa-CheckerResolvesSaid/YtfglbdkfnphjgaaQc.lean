/- The law of resolving. -/
import Derived.Test.YtfglbdkfnphjgaaQa
import Derived.Test.YtfglbdkfnphjgaaPo
set_option linter.unusedVariables false
set_option linter.unusedSimpArgs false
namespace Go.Proofs.Ytfglbdkfnphjgaa
open Go.RowKit Go.Fw
theorem visF_in {i:Int}:∀ (r:List GVarInfo) (k j:Nat) (x:GVarInfo),r[j]?=some x→x.From≤i→i≤x.To→((k+j:Nat):Int) ∈ visF i r k
 | [],_,_,_,h,_,_=>by cases h
 | y :: r,k,0,x,h,h1,h2=>by
  obtain rfl:y=x:=Option.some.inj h
  unfold visF
  rw [if_pos ⟨h1,h2⟩]
  exact List.mem_cons_self ..
 | y :: r,k,j+1,x,h,h1,h2=>by
  have ih:=visF_in r (k+1) j x h h1 h2
  rw [show k+1+j=k+(j+1) from by omega] at ih
  unfold visF
  split
  · exact List.mem_cons_of_mem _ ih
  · exact ih
theorem res_L3 {fu:Nat} {r:GSource→Int→Int→List GExpr→Option Bool} {x:GExpr}:∀ (l:List Int) (k:Nat) (b:Bool),(b=true ∨ x.Var ∈ l)→F_l04_names_L3 fu r x l k b=some (.go true)
 | [],_,b,h=>by
  rcases h with h | h
  · rw [F_l04_names_L3,h]
  · cases h
 | u :: l,k,b,h=>by
  rw [F_l04_names_L3]
  by_cases c:b=true
  · rw [if_pos c];exact res_L3 l (k+1) true (.inl rfl)
  · rw [if_neg c]
    refine res_L3 l (k+1) _ ?_
    have h:=h.resolve_left c
    rcases List.mem_cons.1 h with h | h
    · exact .inl (by rw [h];simp)
    · exact .inr h
theorem res_names {s:GSource} (hv:∀ V ∈ s.Vars,V.length≤24) {f:Nat} {V:List GVarInfo} (hV:s.Vars[f]?=some V) {id:Int}:∀ (fu:Nat) (d:Nat) (l:List GExpr),RE V [] id l→(∀ y ∈ l,EOk d y)→d+1≤fu→m_l04_names fu s f id l=some true
 | 0,_,_,_,_,h=>by omega
 | fu+1,d,l,h,he,hf=>by
  show F_l04_names fu (m_l04_names fu) s f id l=_
  unfold F_l04_names
  rw [v_Visible hv,o_b]
  have hL:∀ (l:List GExpr) (k:Nat),RE V [] id l→(∀ y ∈ l,EOk d y)→F_l04_names_L0 fu (m_l04_names fu) s f id (visS s f id) l k=some (.go ()):=by
   intro l k h he
   induction h generalizing k with
   | nil=>rw [F_l04_names_L0]
   | @cons x l h a b ih1 ih2=>
    rw [F_l04_names_L0]
    have hx:=he x (List.mem_cons_self ..)
    obtain _ | d:=d
    · exact hx.elim
    have hA:m_l04_names fu s f id x.Args=some true:=res_names hv hV fu d x.Args a hx.2 (by omega)
    have hJ:F_l04_names_J1 fu (m_l04_names fu) s f (visS s f id) x=some (.go ()):=by
      unfold F_l04_names_J1
      have hJ2:∃ b,F_l04_names_J2 fu (m_l04_names fu) x=some (.go b)∧(b=true→x.Op=1 ∨ x.Op=2 ∨ x.Op=3):=by
        unfold F_l04_names_J2
        by_cases c1:x.Op=1
        · rw [if_pos c1];exact ⟨true,rfl,fun _=>.inl c1⟩
        · rw [if_neg c1]
          by_cases c2:x.Op=2
          · rw [if_pos c2];exact ⟨true,rfl,fun _=>.inr (.inl c2)⟩
          · rw [if_neg c2];exact ⟨_,rfl,fun z=>.inr (.inr (of_decide_eq_true z))⟩
      obtain ⟨b,hb,hb2⟩:=hJ2
      rw [hb,o_b]
      show (if b=true then _ else _)=_
      by_cases c:b=true
      · rw [if_pos c]
        obtain ⟨v,h0,h1,h2,h3,h4,h5⟩:=h (hb2 c)
        have h5:=h5.resolve_left (fun z=>(by cases z))
        have hin:x.Var ∈ visS s f id:=by
          unfold visS
          rw [if_neg (by omega),Int.toNat_natCast,hV]
          have:=visF_in V 0 x.Var.toNat v h1 h4 h5
          rw [Nat.zero_add,Int.toNat_of_nonneg h0] at this
          exact this
        rw [res_L3 _ _ _ (.inr hin),o_b]
        have e1:ix s.Vars (f:Int)=some V:=by
          unfold Go.Fw.ix
          rw [if_neg (by omega),Int.toNat_natCast,hV]
        have e2:ix V x.Var=some v:=by
          unfold Go.Fw.ix
          rw [if_neg (by omega),h1]
        show (ix s.Vars (f:Int)).bind _=_
        rw [e1,o_b,if_neg (by decide),e2,o_b,if_neg (by rw [h2];simp)]
        have hop:=hb2 c
        rw [wr_id (n:=1+x.Op) (by omega) (by omega),wr_id (by omega) (by omega),if_neg (by omega)]
      · rw [if_neg c]
    rw [hJ,o_b]
    show (m_l04_names fu s f id x.Args).bind _=_
    rw [hA,o_b,if_neg (by decide)]
    exact ih2 (k+1) fun y hy=>he y (List.mem_cons_of_mem _ hy)
  rw [hL l 0 h he]
  rfl
theorem res_L0 {s:GSource} (hv:∀ V ∈ s.Vars,V.length≤24) {f:Nat} {V:List GVarInfo} (hV:s.Vars[f]?=some V) {fu:Nat} (hf:5001≤fu) (ih:∀ (l:List GStmt) (a b:Nat),SN s.Stmts V [] f l a b→b≤200→b - a+5010≤fu→m_l04_all fu s f l=some true) {l:List GStmt} {a b:Nat} (h:SN s.Stmts V [] f l a b):∀ k:Nat,b≤200→b - a+5009≤fu→F_l04_all_L0 fu (m_l04_all fu) s f l k=some (.go ()):=by
 induction h with
 | nil=>intro k _ _;rw [F_l04_all_L0]
 | @cons x l a c d b hid hk r1 r2 s1 s2 s3 i1 i2 i3=>
  intro k hb hf2
  have l1:=s1.le;have l2:=s2.le;have l3:=s3.le
  rw [F_l04_all_L0,hid,res_names hv hV fu 5000 x.Args r1.1 r1.2 hf,o_b,if_neg (by decide),res_names hv hV fu 5000 x.Target r2.1 r2.2 hf,o_b,if_neg (by decide),ih x.Body (a+1) c s1 (by omega) (by omega),o_b,if_neg (by decide),ih x.Else c d s2 (by omega) (by omega),o_b,if_neg (by decide)]
  exact i3 (k+1) hb (by omega)
theorem res_all {s:GSource} (hv:∀ V ∈ s.Vars,V.length≤24) {f:Nat} {V:List GVarInfo} (hV:s.Vars[f]?=some V):∀ (fu:Nat) (l:List GStmt) (a b:Nat),SN s.Stmts V [] f l a b→b≤200→b - a+5010≤fu→m_l04_all fu s f l=some true
 | 0,_,_,_,_,_,h=>by omega
 | fu+1,l,a,b,h,hb,hf=>by
  show F_l04_all fu (m_l04_all fu) s f l=_
  unfold F_l04_all
  rw [res_L0 hv hV (by omega) (res_all hv hV fu) h 0 hb (by omega)]
  rfl
theorem res_L1 {s:GSource} (h:SrcOk s.Program.Funcs s.Vars s.Stmts) (h5:s.Program.Funcs.length≤5000) (hv:∀ V ∈ s.Vars,V.length≤24) {B:Nat→Nat} (hF:∀ (i:Nat) (fn:GFunc) (V:List GVarInfo),s.Program.Funcs[i]?=some fn→s.Vars[i]?=some V→FK s.Stmts i fn V (B i) (B (i+1))) (hm:∀ i,i≤s.Vars.length→B i≤200):∀ (n i:Nat),i≤s.Vars.length→5001≤n+i→Tot (m_l04_CheckerResolves_L1 10100 s n i) (LdP (fun _=>True) (fun _=>False))
 | 0,i,h1,h2=>by have:=h.2.1;omega
 | n+1,i,h1,h2=>by
  have hl:=h.2.1
  rw [m_l04_CheckerResolves_L1]
  refine .ite (fun c=>.ite (fun c2=>?_) fun c2=>.go trivial) fun c=>.go trivial
  obtain ⟨fn,hfn⟩:=get_ex (l:=s.Program.Funcs) (k:=i) (by omega)
  obtain ⟨V,hV⟩:=get_ex (l:=s.Vars) (k:=i) (by omega)
  have k:=hF i fn V hfn hV
  have b2:=hm (i+1) (by omega)
  refine .bd (.ix (by omega) c) fun fn' hfn'=>?_
  rw [Int.toNat_natCast,hfn] at hfn'
  cases hfn'
  rw [res_all hv hV 10100 fn.Body (B i) (B (i+1)) k.sn b2 (by omega),o_b,if_neg (by decide),wr_id (by omega) (by omega)]
  exact res_L1 h h5 hv hF hm n (i+1) (by omega) (by omega)
theorem resolves_true (l:List Int):m_l04_CheckerResolves 10100 l=some true:=by
 have h:Tot (m_l04_CheckerResolves 10100 l) (fun b=>b=true):=by
  unfold m_l04_CheckerResolves
  rw [k_known]
  refine .bd g_Short fun l2 h2=>.bd (d_Text (by decide) (by omega)) fun t _=>.bp (d_Parse (by decide)) fun p r hp=>.pp hp fun a e hp=>?_
  refine .bp (w_Check (Nat.le_refl _) hp) fun s r hs=>.pp hs fun a2 e2 hs=>?_
  have hJ:Tot (m_l04_CheckerResolves_J0 10100 e e2) (LdP (fun b=>b=false→e2=0) (fun _=>False)):=by
   unfold m_l04_CheckerResolves_J0
   exact .ite (fun _=>.go fun z=>(by cases z)) fun _=>.go fun z=>by
    have:=of_decide_eq_false z
    omega
  refine .el hJ (fun b hb=>.ite (fun _=>.mk rfl) fun c=>?_) fun _ z=>z.elim
  obtain ⟨ok,h5⟩:=hs (hb (by simpa using c))
  obtain ⟨h1,h3,B,b0,b1,bF⟩:=id ok
  have hm:∀ i,i≤s.Vars.length→B i≤200:=fun i hi=>B_le h1 h3 b1 bF (s.Vars.length - i) i (by omega)
  have hv:∀ V ∈ s.Vars,V.length≤24:=fun V hV=>by
   obtain ⟨i,hi⟩:=List.mem_iff_getElem?.1 hV
   obtain ⟨fn,hfn⟩:=get_ex (l:=s.Program.Funcs) (k:=i) (by have:=lt_of_get hi;omega)
   exact (bF i fn V hfn hi).vn
  exact .el (res_L1 ok h5 hv bF hm 10100 0 (Nat.zero_le _) (by decide)) (fun _ _=>.mk rfl) fun _ z=>z.elim
 obtain ⟨v,h1,rfl⟩:=h
 exact h1
end Go.Proofs.Ytfglbdkfnphjgaa
