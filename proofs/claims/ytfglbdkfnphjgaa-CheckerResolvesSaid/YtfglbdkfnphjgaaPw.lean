/- The program's checker answers: names, scopes, expressions. -/
import Derived.Test.YtfglbdkfnphjgaaPu
import Derived.Test.YtfglbdkfnphjgaaLj
set_option linter.unusedVariables false
set_option linter.unusedSimpArgs false
namespace Go.Proofs.Ytfglbdkfnphjgaa
open Go.RowKit Go.Fw
structure CI (F:Int) (C:GChecker):Prop where
 vn:C.vars.length≤24
 sc:∀ v ∈ C.scope,0≤v∧v < C.vars.length
 sl:C.scope.length≤C.vars.length
 st:C.source.Stmts.length≤200
 rm:∀ n i,mget C.records n=some i→0≤i∧i < C.source.Program.Records.length
 fm:∀ n i,mget C.funcs n=some i→0≤i∧i < C.params.length
 rk:∀ x ∈ C.vars,x.Kind=2→0≤x.Record∧x.Record < C.source.Program.Records.length
 vr:∀ (i:Nat) (x:GVarInfo),C.vars[i]?=some x→F≤x.From∧x.From≤C.source.Stmts.length∧((i:Int) ∈ C.scope ∨ x.From - 1≤x.To∧x.To≤(C.source.Stmts.length:Int) - 1)∧(x.Param=true→x.From=F∧(i:Int) ∈ C.scope)
structure CS (C C':GChecker):Prop where
 rc:C'.records=C.records
 fc:C'.funcs=C.funcs
 pg:C'.source.Program=C.source.Program
 vs:C'.source.Vars=C.source.Vars
 pa:C'.params=C.params
 cu:C'.current=C.current
 st:∃ e,C'.source.Stmts=C.source.Stmts ++ e
 vr:∀ (i:Nat) (x:GVarInfo),C.vars[i]?=some x→∃ y,C'.vars[i]?=some y∧y.Name=x.Name∧y.Kind=x.Kind∧y.From=x.From∧((i:Int) ∈ C.scope→(i:Int) ∈ C'.scope ∨ (C.source.Stmts.length:Int) - 1≤y.To)∧((i:Int) ∉ C.scope→(i:Int) ∉ C'.scope∧y.To=x.To)
 np:∀ (i:Nat) (y:GVarInfo),C'.vars[i]?=some y→y.Param=true→∃ x,C.vars[i]?=some x∧x.Param=true
theorem CS.len {C C':GChecker} (h:CS C C'):C.source.Stmts.length≤C'.source.Stmts.length:=by
 obtain ⟨e,he⟩:=h.st
 rw [he,List.length_append]
 omega
theorem CS.rfl' {C:GChecker}:CS C C:=⟨rfl,rfl,rfl,rfl,rfl,rfl,⟨[],(List.append_nil _).symm⟩,fun i x h=>⟨x,h,rfl,rfl,rfl,fun k=>.inl k,fun k=>⟨k,rfl⟩⟩,fun i y h k=>⟨y,h,k⟩⟩
theorem CS.trans {C C1 C2:GChecker} (h:CS C C1) (k:CS C1 C2):CS C C2:=⟨k.rc.trans h.rc,k.fc.trans h.fc,k.pg.trans h.pg,k.vs.trans h.vs,k.pa.trans h.pa,k.cu.trans h.cu,by
 obtain ⟨e,he⟩:=h.st
 obtain ⟨d,hd⟩:=k.st
 exact ⟨e ++ d,by rw [hd,he,List.append_assoc]⟩,fun i x hx=>by
 have hl:=h.len
 obtain ⟨y,hy,a1,a2,a3,a4,a5⟩:=h.vr i x hx
 obtain ⟨z,hz,b1,b2,b3,b4,b5⟩:=k.vr i y hy
 refine ⟨z,hz,b1.trans a1,b2.trans a2,b3.trans a3,fun c=>?_,fun c=>?_⟩
 · by_cases d:(i:Int) ∈ C1.scope
   · rcases b4 d with b4 | b4
     · exact .inl b4
     · exact .inr (by omega)
   · rcases a4 c with a4 | a4
     · exact absurd a4 d
     · have:=(b5 d).2
       exact .inr (by omega)
 · have:=a5 c
   exact ⟨(b5 this.1).1,(b5 this.1).2.trans this.2⟩,fun i y hy hp=>by
 obtain ⟨x,h1,h2⟩:=k.np i y hy hp
 exact h.np i x h1 h2⟩
inductive RE (V:List GVarInfo) (S:List Int) (id:Int):List GExpr→Prop
 | nil:RE V S id []
 | cons {x:GExpr} {l:List GExpr} (h:(x.Op=1 ∨ x.Op=2 ∨ x.Op=3)→∃ v,0≤x.Var∧V[x.Var.toNat]?=some v∧v.Name=x.Name∧v.Kind=x.Op∧v.From≤id∧(x.Var ∈ S ∨ id≤v.To)) (a:RE V S id x.Args) (k:RE V S id l):RE V S id (x :: l)
theorem RE.snoc {V:List GVarInfo} {S:List Int} {id:Int} {x:GExpr} {l:List GExpr} (h:RE V S id l) (k:RE V S id [x]):RE V S id (l ++ [x]):=by
 induction h with
 | nil=>exact k
 | cons h a _ _ ih=>exact .cons h a ih
theorem RE.mv {C C':GChecker} {id:Int} {l:List GExpr} (h:RE C.vars C.scope id l) (k:CS C C') (hid:id+1≤C.source.Stmts.length):RE C'.vars C'.scope id l:=by
 induction h with
 | nil=>exact .nil
 | @cons x l h a _ ih1 ih2=>
  refine .cons (fun c=>?_) ih1 ih2
  obtain ⟨v,h1,h2,h3,h4,h5,h6⟩:=h c
  obtain ⟨y,hy,a1,a2,a3,a4,a5⟩:=k.vr _ _ h2
  rw [Int.toNat_of_nonneg h1] at a4 a5
  refine ⟨y,h1,hy,a1.trans h3,a2.trans h4,by omega,?_⟩
  by_cases d:x.Var ∈ C.scope
  · rcases a4 d with a4 | a4
    · exact .inl a4
    · exact .inr (by omega)
  · have:=(a5 d).2
    rcases h6 with h6 | h6
    · exact absurd h6 d
    · exact .inr (by omega)
def REE (V:List GVarInfo) (S:List Int) (id:Int) (l:List GExpr):Prop:=RE V S id l∧∀ y ∈ l,EOk 5000 y
theorem REE.nil {V:List GVarInfo} {S:List Int} {id:Int}:REE V S id []:=⟨.nil,fun y hy=>(by cases hy)⟩
theorem REE.mv {C C':GChecker} {id:Int} {l:List GExpr} (h:REE C.vars C.scope id l) (k:CS C C') (hid:id+1≤C.source.Stmts.length):REE C'.vars C'.scope id l:=⟨h.1.mv k hid,h.2⟩
theorem w_find_L0 {fu:Nat} {C:GChecker} {n:ByteArray} {O:Int × Bool→Prop} (hO:∀ v x,v ∈ C.scope→C.vars[v.toNat]?=some x→x.Name=n→O (v,true)):∀ (l:List Int) (k:Nat),(∀ v ∈ l,v ∈ C.scope∧0≤v∧v < C.vars.length)→Tot (m_checker_find_L0 fu C n l k) (LdP (fun _=>True) O)
 | [],k,h=>.go trivial
 | u :: r,k,h=>by
  rw [m_checker_find_L0]
  obtain ⟨h1,h2,h3⟩:=h u (List.mem_cons_self ..)
  refine .bd (.ix h2 h3) fun x hx=>.ite (fun c=>.out (hO u x h1 hx c)) fun _=>w_find_L0 hO r (k+1) fun v hv=>h v (List.mem_cons_of_mem _ hv)
theorem w_find {fu:Nat} {F:Int} {C:GChecker} (h:CI F C) {n:ByteArray}:Tot (m_checker_find fu C n) (fun r=>pel r fun v b=>b=true→v ∈ C.scope∧∃ x,C.vars[v.toNat]?=some x∧x.Name=n):=by
 unfold m_checker_find
 refine .el (w_find_L0 (O:=fun r=>pel r fun v b=>b=true→v ∈ C.scope∧∃ x,C.vars[v.toNat]?=some x∧x.Name=n) (fun v x h1 h2 h3=>fun _=>⟨h1,x,h2,h3⟩) _ _ fun v hv=>⟨hv,h.sc v hv⟩) (fun _ _=>.mk fun z=>(by cases z)) fun o ho=>.mk ho
theorem w_Index_L0 {fu:Nat} {x:ByteArray}:∀ (l:List ByteArray) (k:Nat),Tot (m_slices_Index_L0 fu x l k) (LdP (fun _=>True) (fun _=>True))
 | [],_=>.go trivial
 | u :: r,k=>by
  rw [m_slices_Index_L0]
  exact .ite (fun _=>.out trivial) fun _=>w_Index_L0 r (k+1)
theorem w_Index {fu:Nat} {l:List ByteArray} {x:ByteArray}:Tot (m_slices_Index fu l x) (fun _=>True):=by
 unfold m_slices_Index
 exact .el (w_Index_L0 _ _) (fun _ _=>.mk trivial) fun _ _=>.mk trivial
def Wexs (fu:Nat):Prop:=∀ (F id:Int) (C:GChecker) (l:List GExpr) (d:Nat),CI F C→(∀ (i:Nat) (x:GVarInfo),(i:Int) ∈ C.scope→C.vars[i]?=some x→x.From≤id)→l.length≤5000→(∀ y ∈ l,EOk d y)→2 * d+2≤fu→Tot (m_checker_expressions fu C l) (fun r=>pel r fun l' r=>pel r fun e C'=>C'=C∧(e=0→RE C.vars C.scope id l'∧l'.length=l.length∧∀ y ∈ l',EOk d y))
def Wex (fu:Nat):Prop:=∀ (F id:Int) (C:GChecker) (x:GExpr) (d:Nat),CI F C→(∀ (i:Nat) (x:GVarInfo),(i:Int) ∈ C.scope→C.vars[i]?=some x→x.From≤id)→EOk d x→2 * d+1≤fu→Tot (m_checker_expression fu C x) (fun r=>pel r fun y r=>pel r fun e C'=>C'=C∧(e=0→RE C.vars C.scope id [y]∧EOk d y))
theorem w_exs_L0 {fu:Nat} (hE:Wex fu) {F id:Int} {C:GChecker} (hC:CI F C) (hid:∀ (i:Nat) (x:GVarInfo),(i:Int) ∈ C.scope→C.vars[i]?=some x→x.From≤id) {d:Nat} (hd:2 * d+1≤fu):∀ (l:List GExpr) (k:Nat) (out:List GExpr),(∀ y ∈ l,EOk d y)→out.length+l.length≤5000→RE C.vars C.scope id out→(∀ y ∈ out,EOk d y)→
  Tot (F_checker_expressions_L0 fu (m_checker_expressions fu) (m_checker_expression fu) l k out C.current C.line C.records C.funcs C.source.Program.Records C.source.Program.Funcs C.source.Vars C.source.Stmts C.params C.vars C.scope)
   (LdP (fun r=>pel r fun o r=>pel r fun a1 r=>pel r fun a2 r=>pel r fun a3 r=>pel r fun a4 r=>pel r fun a5 r=>pel r fun a6 r=>pel r fun a7 r=>pel r fun a8 r=>pel r fun a9 r=>pel r fun a10 a11=>(⟨a3,a4,⟨⟨a5,a6⟩,a7,a8⟩,a9,a10,a11,a1,a2⟩:GChecker)=C∧RE C.vars C.scope id o∧o.length=out.length+l.length∧∀ y ∈ o,EOk d y)
    (fun r=>pel r fun l' r=>pel r fun e C'=>C'=C∧e≠0))
 | [],k,out,_,_,ho,he=>.go ⟨rfl,ho,rfl,he⟩
 | x :: l,k,out,hl,hn,ho,he=>by
  rw [F_checker_expressions_L0]
  rw [List.length_cons] at hn
  refine .bp (hE F id C x d hC hid (hl x (List.mem_cons_self ..)) hd) fun y r hr=>.pp hr fun e C' hr=>?_
  obtain ⟨rfl,hr⟩:=hr
  refine .ite (fun c=>.out ⟨rfl,c⟩) fun c=>.bd (.app (by simp only [List.length_cons,List.length_nil];omega)) fun q hq=>?_
  subst hq
  have hy:=hr (by omega)
  refine (w_exs_L0 hE hC hid hd l (k+1) (out ++ [y]) (fun y hy=>hl y (List.mem_cons_of_mem _ hy)) (by rw [len_snoc];omega) (ho.snoc hy.1) (mem_snoc he hy.2)).imp fun v hv=>?_
  cases v with
  | out o=>exact hv
  | go v=>
   obtain ⟨o,a1,a2,a3,a4,a5,a6,a7,a8,a9,a10,a11⟩:=v
   refine ⟨hv.1,hv.2.1,?_,hv.2.2.2⟩
   have:=hv.2.2.1
   rw [len_snoc] at this
   rw [List.length_cons]
   omega
theorem w_exps:∀ fu:Nat,Wexs fu∧Wex fu
 | 0=>⟨fun _ _ _ _ _ _ _ _ _ h=>by omega,fun _ _ _ _ _ _ _ _ h=>by omega⟩
 | fu+1=>by
  have ih:=w_exps fu
  constructor
  · intro F id C l d hC hid hl he hf
    show Tot (F_checker_expressions fu (m_checker_expressions fu) (m_checker_expression fu) C l) _
    unfold F_checker_expressions
    refine .el (w_exs_L0 ih.2 hC hid (by omega) l 0 [] he (by rw [List.length_nil];omega) .nil fun y hy=>(by cases hy)) (fun r hr=>?_) fun o ho=>.mk ?_
    · exact .pp hr fun o r hr=>.pp hr fun a1 r hr=>.pp hr fun a1 r hr=>.pp hr fun a1 r hr=>.pp hr fun a1 r hr=>.pp hr fun a1 r hr=>.pp hr fun a1 r hr=>.pp hr fun a1 r hr=>.pp hr fun a1 r hr=>.pp hr fun a1 r hr=>.pp hr fun a1 a2 hr=>.mk ⟨hr.1,fun _=>⟨hr.2.1,by rw [hr.2.2.1,List.length_nil,Nat.zero_add],hr.2.2.2⟩⟩
    · obtain ⟨a,e,C'⟩:=o
      exact ⟨ho.1,fun z=>absurd z ho.2⟩
  · intro F id C x d hC hid hx hf
    obtain _ | d:=d
    · exact hx.elim
    show Tot (F_checker_expression fu (m_checker_expressions fu) (m_checker_expression fu) C x) _
    unfold F_checker_expression
    have hJ0:Tot (F_checker_expression_J0 fu (m_checker_expressions fu) (m_checker_expression fu) x) (LdP (fun k=>(k≠0→k=x.Op∧(x.Op=1 ∨ x.Op=2 ∨ x.Op=3))∧((x.Op=1 ∨ x.Op=2 ∨ x.Op=3)→k≠0)) (fun _=>False)):=by
      unfold F_checker_expression_J0
      exact .ite (fun _=>.go ⟨fun _=>by omega,fun _=>by omega⟩) fun _=>.ite (fun _=>.go ⟨fun _=>by omega,fun _=>by omega⟩) fun _=>.ite (fun _=>.go ⟨fun _=>by omega,fun _=>by omega⟩) fun _=>.go ⟨fun z=>absurd rfl z,fun _=>by omega⟩
    refine .el hJ0 (fun k hk=>?_) fun _ z=>z.elim
    have hJ1:Tot (F_checker_expression_J1 fu (m_checker_expressions fu) (m_checker_expression fu) C x k) (LdP (fun v=>(x.Op=1 ∨ x.Op=2 ∨ x.Op=3)→v ∈ C.scope∧∃ y,C.vars[v.toNat]?=some y∧y.Name=x.Name∧y.Kind=x.Op) (fun r=>pel r fun y r=>pel r fun e C'=>C'=C∧e≠0)):=by
      unfold F_checker_expression_J1
      refine .ite (fun c=>?_) fun c=>.go fun z=>absurd (hk.2 z) c
      refine .bp (w_find hC) fun v b hv=>.ite (fun _=>.out ⟨rfl,by show (8:Int)≠0;decide⟩) fun d=>?_
      obtain ⟨h1,y,h2,h3⟩:=hv (by simpa using d)
      have h4:=hC.sc v h1
      refine .bd (.ix h4.1 h4.2) fun y' hy'=>.ite (fun _=>.out ⟨rfl,by show (10:Int)≠0;decide⟩) fun e=>.go fun _=>?_
      rw [h2] at hy'
      cases hy'
      exact ⟨h1,y,h2,h3,by have:=(hk.1 c).1;omega⟩
    refine .el hJ1 (fun v hv=>?_) fun o ho=>.mk ?_
    · have hJ2:Tot (F_checker_expression_J2 fu (m_checker_expressions fu) (m_checker_expression fu) C x v) (LdP (fun _=>True) (fun r=>pel r fun y r=>pel r fun e C'=>C'=C∧e≠0)):=by
        unfold F_checker_expression_J2
        refine .ite (fun c=>?_) fun c=>.go trivial
        obtain ⟨h1,y,h2,h3,h5⟩:=hv (by omega)
        have h4:=hC.sc v h1
        refine .bd (.ix h4.1 h4.2) fun y' hy'=>?_
        rw [h2] at hy'
        cases hy'
        have h6:=hC.rk y (List.mem_of_getElem? h2) (by omega)
        exact .bd (.ix h6.1 h6.2) fun rc _=>.bd w_Index fun i _=>.ite (fun _=>.out ⟨rfl,by show (8:Int)≠0;decide⟩) fun _=>.go trivial
      refine .el hJ2 (fun n _=>?_) fun o ho=>.mk ?_
      · refine .bp (ih.1 F id C x.Args d hC hid hx.1 hx.2 (by omega)) fun l r hr=>.pp hr fun e C' hr=>.mk ⟨hr.1,fun z=>?_⟩
        have hx1:=hx.1
        have q:=hr.2 z
        refine ⟨.cons (fun c=>?_) q.1 .nil,⟨by dsimp only;omega,q.2.2⟩⟩
        obtain ⟨h1,y,h2,h3,h5⟩:=hv c
        have h4:=hC.sc v h1
        exact ⟨y,h4.1,h2,h3,h5,hid v.toNat y (by rw [Int.toNat_of_nonneg h4.1];exact h1) h2,.inl h1⟩
      · obtain ⟨a,e,C'⟩:=o
        exact ⟨ho.1,fun z=>absurd z ho.2⟩
    · obtain ⟨a,e,C'⟩:=o
      exact ⟨ho.1,fun z=>absurd z ho.2⟩
end Go.Proofs.Ytfglbdkfnphjgaa
