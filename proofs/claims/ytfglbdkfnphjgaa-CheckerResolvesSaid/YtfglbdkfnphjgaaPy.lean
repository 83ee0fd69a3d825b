/- The program's checker answers: blocks. -/
import Derived.Test.YtfglbdkfnphjgaaPx
set_option linter.unusedVariables false
set_option linter.unusedSimpArgs false
namespace Go.Proofs.Ytfglbdkfnphjgaa
open Go.RowKit Go.Fw
def LP (F:Int) (C:GChecker) (l:List GStmt) (e:Int) (C':GChecker):Prop:=CI F C'∧CS C C'∧(∃ s,C'.scope=C.scope ++ s)∧(e=0→SN C'.source.Stmts C'.vars C'.scope C.current l C.source.Stmts.length C'.source.Stmts.length)
def Wli (fu:Nat):Prop:=∀ (F:Int) (C:GChecker) (l:List GStmt) (n:Nat),CI F C→F≤C.source.Stmts.length→l.length≤5001→(∀ y ∈ l,SOk 5000 n y)→4 * n+10005≤fu→Tot (m_checker_list fu C l) (fun r=>pel r fun l' r=>pel r fun e C'=>LP F C l' e C')
def Wst (fu:Nat):Prop:=∀ (F:Int) (C:GChecker) (x:GStmt) (n:Nat),CI F C→F≤C.source.Stmts.length→SOk 5000 n x→4 * n+10004≤fu→Tot (m_checker_statement fu C x) (fun r=>pel r fun y r=>pel r fun e C'=>LP F C [y] e C')
def Wpa (fu:Nat):Prop:=∀ (F:Int) (C:GChecker) (x:GStmt) (n id:Nat),CI F C→F≤id→C.source.Stmts.length=id+1→(∀ (i:Nat) (x:GVarInfo),C.vars[i]?=some x→x.From≤id)→SOk 5000 n x→4 * n+10003≤fu→Tot (m_checker_parts fu C x) (fun r=>pel r fun e r=>pel r fun C' y=>CI F C'∧CS C C'∧(∃ s,C'.scope=C.scope ++ s)∧y.Kind=x.Kind∧y.Line=x.Line∧y.Id=x.Id∧(e=0→REE C'.vars C'.scope id y.Target∧REE C'.vars C'.scope id y.Args∧∃ c,SN C'.source.Stmts C'.vars C'.scope C.current y.Body (id+1) c∧SN C'.source.Stmts C'.vars C'.scope C.current y.Else c C'.source.Stmts.length))
def Wbl (fu:Nat):Prop:=∀ (F:Int) (C:GChecker) (l:List GStmt) (n:Nat),CI F C→F≤C.source.Stmts.length→l.length≤5000→(∀ y ∈ l,SOk 5000 n y)→4 * n+10006≤fu→Tot (m_checker_block fu C l) (fun r=>pel r fun l' r=>pel r fun e C'=>CI F C'∧CS C C'∧C'.scope=C.scope∧(e=0→SN C'.source.Stmts C'.vars C'.scope C.current l' C.source.Stmts.length C'.source.Stmts.length))
theorem par_in {F:Int} {C C':GChecker} (h:CI F C) (k:CS C C') {s:List Int} (hs:C'.scope=C.scope ++ s):∀ (i:Nat) (x:GVarInfo),C'.vars[i]?=some x→x.Param=true→(i:Int) ∈ C'.scope.take C.scope.length:=fun i x hx hp=>by
 obtain ⟨y,hy,hyp⟩:=k.np i x hx hp
 rw [hs,List.take_left']
 · exact ((h.vr i y hy).2.2.2 hyp).2
 · rfl
theorem w_block {fu:Nat} (ih:Wli fu):Wbl (fu+1):=by
 intro F C l n hC hF hl he hf
 show Tot (F_checker_block fu (m_checker_list fu) (m_checker_statement fu) (m_checker_parts fu) (m_checker_block fu) C l) _
 unfold F_checker_block
 refine .bp (ih F C l n hC hF (by omega) he (by omega)) fun l' r hr=>.pp hr fun e C1 hr=>?_
 obtain ⟨h1,h2,⟨s,h3⟩,h4⟩:=hr
 refine .bd (w_leave h1 (by rw [h3,List.length_append];omega) (par_in hC h2 h3)) fun C2 hC2=>.mk ?_
 obtain ⟨k1,k2,k3,k4⟩:=hC2
 refine ⟨k1,h2.trans k2,by rw [k3,h3,List.take_left' rfl],fun z=>?_⟩
 have:=(h4 z).mv k2
 rw [k4] at this ⊢
 exact this
theorem w_list_L0 {fu:Nat} (hS:Wst fu) {F:Int} {C0:GChecker} (hF:F≤C0.source.Stmts.length) {n:Nat} (hn:4 * n+10004≤fu):∀ (l:List GStmt) (k:Nat) (out:List GStmt) (C:GChecker),(∀ y ∈ l,SOk 5000 n y)→out.length+l.length≤5001→LP F C0 out 0 C→
  Tot (F_checker_list_L0 fu (m_checker_list fu) (m_checker_statement fu) (m_checker_parts fu) (m_checker_block fu) l k out C.current C.line C.records C.funcs C.source.Program.Records C.source.Program.Funcs C.source.Vars C.source.Stmts C.params C.vars C.scope)
   (LdP (fun r=>pel r fun o r=>pel r fun a1 r=>pel r fun a2 r=>pel r fun a3 r=>pel r fun a4 r=>pel r fun a5 r=>pel r fun a6 r=>pel r fun a7 r=>pel r fun a8 r=>pel r fun a9 r=>pel r fun a10 a11=>LP F C0 o 0 ⟨a3,a4,⟨⟨a5,a6⟩,a7,a8⟩,a9,a10,a11,a1,a2⟩)
    (fun r=>pel r fun l' r=>pel r fun e C'=>LP F C0 l' e C'))
 | [],k,out,C,_,_,ho=>.go ho
 | x :: l,k,out,C,hl,hlen,ho=>by
  rw [F_checker_list_L0]
  rw [List.length_cons] at hlen
  obtain ⟨h1,h2,⟨s,h3⟩,h4⟩:=ho
  refine .bp (hS F C x n h1 (by have:=h2.len;omega) (hl x (List.mem_cons_self ..)) hn) fun y r hr=>.pp hr fun e C' hr=>?_
  obtain ⟨k1,k2,⟨s2,k3⟩,k4⟩:=hr
  have q1:∃ s,C'.scope=C0.scope ++ s:=⟨s ++ s2,by rw [k3,h3,List.append_assoc]⟩
  refine .ite (fun c=>.out ⟨k1,h2.trans k2,q1,fun z=>absurd z c⟩) fun c=>.bd (.app (by simp only [List.length_cons,List.length_nil];omega)) fun q hq=>?_
  subst hq
  refine w_list_L0 hS hF hn l (k+1) (out ++ [y]) C' (fun y hy=>hl y (List.mem_cons_of_mem _ hy)) (by rw [len_snoc];omega) ⟨k1,h2.trans k2,q1,fun _=>?_⟩
  have a1:=(h4 rfl).mv k2
  have a2:=k4 (by omega)
  rw [h2.cu] at a2
  exact a1.snoc a2
theorem w_list {fu:Nat} (ih:Wst fu):Wli (fu+1):=by
 intro F C l n hC hF hl he hf
 show Tot (F_checker_list fu (m_checker_list fu) (m_checker_statement fu) (m_checker_parts fu) (m_checker_block fu) C l) _
 unfold F_checker_list
 refine .el (w_list_L0 ih hF (n:=n) (by omega) l 0 [] C he (by rw [List.length_nil];omega) ⟨hC,.rfl',⟨[],(List.append_nil _).symm⟩,fun _=>.nil _⟩) (fun r hr=>?_) fun o ho=>.mk ho
 exact .pp hr fun o r hr=>.pp hr fun a1 r hr=>.pp hr fun a1 r hr=>.pp hr fun a1 r hr=>.pp hr fun a1 r hr=>.pp hr fun a1 r hr=>.pp hr fun a1 r hr=>.pp hr fun a1 r hr=>.pp hr fun a1 r hr=>.pp hr fun a1 r hr=>.pp hr fun a1 a2 hr=>.mk hr
theorem w_parts {fu:Nat} (ih:Wbl fu):Wpa (fu+1):=by
 intro F C x n id hC hF hid hfr hx hf
 obtain _ | n:=n
 · exact hx.elim
 obtain ⟨x1,x2,x3,x4,x5⟩:=hx
 show Tot (F_checker_parts fu (m_checker_list fu) (m_checker_statement fu) (m_checker_parts fu) (m_checker_block fu) C x) _
 unfold F_checker_parts
 have same:∃ s,C.scope=C.scope ++ s:=⟨[],(List.append_nil _).symm⟩
 refine .bp ((w_exps fu).1 F id C x.Target 5000 hC (fun i x _ hx=>hfr i x hx) (by omega) x1.2 (by omega)) fun tg r hr=>.pp hr fun e C' hr=>?_
 obtain ⟨rfl,t1⟩:=hr
 refine .ite (fun c=>.mk ⟨hC,.rfl',same,rfl,rfl,rfl,fun z=>absurd z c⟩) fun c=>?_
 refine .bp ((w_exps fu).1 F id C' x.Args 5000 hC (fun i x _ hx=>hfr i x hx) x2.1 x2.2 (by omega)) fun ar r hr=>.pp hr fun e2 C2 hr=>?_
 obtain ⟨rfl,t2⟩:=hr
 refine .ite (fun c=>.mk ⟨hC,.rfl',same,rfl,rfl,rfl,fun z=>absurd z c⟩) fun c2=>?_
 refine .bp (ih F C2 x.Body n hC (by omega) x3.1 x3.2 (by omega)) fun bo r hr=>.pp hr fun e3 C3 hr=>?_
 obtain ⟨b1,b2,b3,b4⟩:=hr
 refine .ite (fun c=>.mk ⟨b1,b2,⟨[],by rw [b3,List.append_nil]⟩,rfl,rfl,rfl,fun z=>absurd z c⟩) fun c3=>?_
 have hb:=b4 (by omega)
 have hl3:=b2.len
 have hJ:Tot (F_checker_parts_J0 fu (m_checker_list fu) (m_checker_statement fu) (m_checker_parts fu) (m_checker_block fu) x tg ar bo C3) (LdP (fun r=>pel r fun a1 r=>pel r fun a2 r=>pel r fun a3 r=>pel r fun a4 r=>pel r fun a5 r=>pel r fun a6 r=>pel r fun a7 r=>pel r fun a8 r=>pel r fun a9 r=>pel r fun a10 r=>pel r fun a11 _=>∃ L,DP F ⟨C3.records,C3.funcs,C3.source,C3.params,C3.vars,C3.scope,C3.current,L⟩ (0,0,⟨a3,a4,⟨⟨a5,a6⟩,a7,a8⟩,a9,a10,a11,a1,a2⟩))
     (fun r=>pel r fun e r=>pel r fun C' y=>CI F C'∧CS C2 C'∧(∃ s,C'.scope=C2.scope ++ s)∧y.Kind=x.Kind∧y.Line=x.Line∧y.Id=x.Id∧e≠0)):=by
   unfold F_checker_parts_J0
   have hI:∀ L,CI F ⟨C3.records,C3.funcs,C3.source,C3.params,C3.vars,C3.scope,C3.current,L⟩:=fun L=>⟨b1.vn,b1.sc,b1.sl,b1.st,b1.rm,b1.fm,b1.rk,b1.vr⟩
   refine .ite (fun _=>?_) fun _=>.go ⟨C3.line,b1,.rfl',⟨[],(List.append_nil _).symm⟩,rfl⟩
   refine .bp (w_declare (v:=⟨x.Name,1,-1,1,false,0,0⟩) (hI x.Line) (fun z=>absurd z (by show ¬ (1:Int)=2;decide)) (by dsimp only;omega) rfl) fun i r hr=>.pp hr fun e4 C4 hr=>.ite (fun c=>?_) fun c=>.go ⟨x.Line,hr⟩
   obtain ⟨d1,d2,⟨s,d3⟩,d4⟩:=hr
   refine .out ⟨d1,b2.trans ⟨d2.rc,d2.fc,d2.pg,d2.vs,d2.pa,d2.cu,d2.st,d2.vr,d2.np⟩,⟨s,by rw [d3];show C3.scope ++ s=_;rw [b3]⟩,rfl,rfl,rfl,c⟩
 refine .el hJ (fun r hr=>?_) fun o ho=>.mk ?_
 · refine .pp hr fun a1 r hr=>.pp hr fun a2 r hr=>.pp hr fun a3 r hr=>.pp hr fun a4 r hr=>.pp hr fun a5 r hr=>.pp hr fun a6 r hr=>.pp hr fun a7 r hr=>.pp hr fun a8 r hr=>.pp hr fun a9 r hr=>.pp hr fun a10 r hr=>.pp hr fun a11 a12 hr=>?_
   obtain ⟨L,d1,d2,⟨s,d3⟩,d4⟩:=hr
   have d2':CS C3 ⟨a3,a4,⟨⟨a5,a6⟩,a7,a8⟩,a9,a10,a11,a1,a2⟩:=⟨d2.rc,d2.fc,d2.pg,d2.vs,d2.pa,d2.cu,d2.st,d2.vr,d2.np⟩
   have hst:(⟨⟨a5,a6⟩,a7,a8⟩:GSource).Stmts.length=C3.source.Stmts.length:=by rw [show (⟨⟨a5,a6⟩,a7,a8⟩:GSource)=C3.source from d4]
   refine .bp (ih F ⟨a3,a4,⟨⟨a5,a6⟩,a7,a8⟩,a9,a10,a11,a1,a2⟩ x.Else n d1 (by dsimp only at hst ⊢;omega) x4.1 x4.2 (by omega)) fun el r hr=>.pp hr fun e5 C5 hr=>?_
   obtain ⟨f1,f2,f3,f4⟩:=hr
   have hs5:C5.scope=C3.scope ++ s:=f3.trans d3
   have k5:CS C3 C5:=d2'.trans f2
   refine .bd (w_leave f1 (by rw [hs5,List.length_append];omega) (par_in b1 k5 hs5)) fun C6 hC6=>.mk ?_
   obtain ⟨g1,g2,g3,g4⟩:=hC6
   have hs6:C6.scope=C3.scope:=by rw [g3,hs5,List.take_left' rfl]
   have k6:CS C3 C6:=k5.trans g2
   refine ⟨g1,b2.trans k6,⟨[],by rw [hs6,b3,List.append_nil]⟩,rfl,rfl,rfl,fun z=>?_⟩
   have t1':=REE.mv ⟨(t1 (by omega)).1,(t1 (by omega)).2.2⟩ (b2.trans k6) (by omega)
   have t2':=REE.mv ⟨(t2 (by omega)).1,(t2 (by omega)).2.2⟩ (b2.trans k6) (by omega)
   refine ⟨t1',t2',C3.source.Stmts.length,?_,?_⟩
   · have:=hb.mv k6
     rw [hid] at this
     exact this
   · have:=(f4 z).mv g2
     have hcu:(⟨a3,a4,⟨⟨a5,a6⟩,a7,a8⟩,a9,a10,a11,a1,a2⟩:GChecker).current=C2.current:=d2'.cu.trans b2.cu
     rw [hcu] at this
     rw [g4] at this ⊢
     dsimp only at this hst
     rw [hst] at this
     exact this
 · obtain ⟨e,C',y⟩:=o
   obtain ⟨o1,o2,o3,o4,o5,o6,o7⟩:=ho
   exact ⟨o1,o2,o3,o4,o5,o6,fun z=>absurd z o7⟩
theorem w_stmt {fu:Nat} (ih:Wpa fu):Wst (fu+1):=by
 intro F C x n hC hF hx hf
 show Tot (F_checker_statement fu (m_checker_list fu) (m_checker_statement fu) (m_checker_parts fu) (m_checker_block fu) C x) _
 unfold F_checker_statement
 have hst:=hC.st
 refine .ite (fun c=>.mk ?_) fun c=>.bd (.app (by simp only [List.length_cons,List.length_nil];omega)) fun K hK=>?_
 · exact ⟨⟨hC.vn,hC.sc,hC.sl,hC.st,hC.rm,hC.fm,hC.rk,hC.vr⟩,⟨rfl,rfl,rfl,rfl,rfl,rfl,CS.rfl'.st,CS.rfl'.vr,CS.rfl'.np⟩,⟨[],(List.append_nil _).symm⟩,fun z=>absurd z (by decide)⟩
 subst hK
 have hlen:(C.source.Stmts ++ [(⟨C.current,x.Kind,x.Line⟩:GStmtInfo)]).length=C.source.Stmts.length+1:=len_snoc
 have hI:CI F ⟨C.records,C.funcs,⟨C.source.Program,C.source.Vars,C.source.Stmts ++ [⟨C.current,x.Kind,x.Line⟩]⟩,C.params,C.vars,C.scope,C.current,x.Line⟩:=⟨hC.vn,hC.sc,hC.sl,by dsimp only;omega,hC.rm,hC.fm,hC.rk,fun i v hv=>by
   obtain ⟨a1,a2,a3,a4⟩:=hC.vr i v hv
   refine ⟨a1,by dsimp only;omega,?_,a4⟩
   rcases a3 with a3 | a3
   · exact .inl a3
   · exact .inr ⟨a3.1,by dsimp only;omega⟩⟩
 have hS:CS C ⟨C.records,C.funcs,⟨C.source.Program,C.source.Vars,C.source.Stmts ++ [⟨C.current,x.Kind,x.Line⟩]⟩,C.params,C.vars,C.scope,C.current,x.Line⟩:=⟨rfl,rfl,rfl,rfl,rfl,rfl,⟨_,rfl⟩,CS.rfl'.vr,CS.rfl'.np⟩
 have hfr:∀ (i:Nat) (v:GVarInfo),C.vars[i]?=some v→v.From≤C.source.Stmts.length:=fun i v hv=>(hC.vr i v hv).2.1
 have hat:(C.source.Stmts ++ [(⟨C.current,x.Kind,x.Line⟩:GStmtInfo)])[C.source.Stmts.length]?=some ⟨C.current,x.Kind,x.Line⟩:=by
   rw [List.getElem?_append_right (Nat.le_refl _),Nat.sub_self];rfl
 have get:∀ {C':GChecker},CS ⟨C.records,C.funcs,⟨C.source.Program,C.source.Vars,C.source.Stmts ++ [⟨C.current,x.Kind,x.Line⟩]⟩,C.params,C.vars,C.scope,C.current,x.Line⟩ C'→C'.source.Stmts[C.source.Stmts.length]?=some ⟨C.current,x.Kind,x.Line⟩:=fun k=>by
   obtain ⟨e,he⟩:=k.st
   rw [he,List.getElem?_append_left (by dsimp only;omega)]
   exact hat
 refine .ite (fun ck=>?_) fun ck=>?_
 · refine .bp (w_variable hI (by dsimp only;omega)) fun v r hr=>.pp hr fun e C' hr=>.mk ?_
   obtain ⟨d1,d2,d3,d4⟩:=hr
   refine ⟨d1,hS.trans d2,d3,fun z=>?_⟩
   have hl:C'.source.Stmts.length=C.source.Stmts.length+1:=by rw [d4];exact hlen
   rw [hl]
   exact .one rfl (get d2) REE.nil REE.nil (.nil _) (.nil _)
 have hJ:Tot (F_checker_statement_J0 fu (m_checker_list fu) (m_checker_statement fu) (m_checker_parts fu) (m_checker_block fu) x) (LdP (fun _=>True) (fun _=>False)):=by
   unfold F_checker_statement_J0
   exact .ite (fun _=>.go trivial) fun _=>.ite (fun _=>.go trivial) fun _=>.go trivial
 refine .el hJ (fun b _=>.ite (fun _=>?_) fun _=>?_) fun _ z=>z.elim
 · obtain _ | n:=n
   · exact hx.elim
   obtain ⟨x1,x2,x3,x4,x5⟩:=hx
   refine .bp (w_call (x:=⟨x.Kind,x.Line,(C.source.Stmts.length:Int),x.Name,x.Type_,x.Len,x.Var,x.Target,x.Func,x.Callee,x.Args,[],[]⟩) (id:=C.source.Stmts.length) (by omega) hI (fun i v _ hv=>hfr i v hv) ⟨by dsimp only;omega,x1.2⟩ x2) fun e r hr=>.pp hr fun C' y hr=>.mk ?_
   obtain ⟨rfl,y1,y2,y3,y4,y5,y6⟩:=hr
   refine ⟨hI,hS,⟨[],(List.append_nil _).symm⟩,fun z=>?_⟩
   have q:=y6 z
   dsimp only
   rw [hlen]
   refine .one (c:=C.source.Stmts.length+1) y3 (by rw [y1,y2];exact hat) q.2 q.1 ?_ ?_
   · rw [y4];exact .nil _
   · rw [y5];exact .nil _
 · refine .bp (ih F _ ⟨x.Kind,x.Line,(C.source.Stmts.length:Int),x.Name,x.Type_,x.Len,x.Var,x.Target,x.Func,x.Callee,x.Args,x.Body,x.Else⟩ n C.source.Stmts.length hI hF hlen hfr ?_ (by omega)) fun e r hr=>.pp hr fun C' y hr=>.mk ?_
   · obtain _ | n:=n
     · exact hx.elim
     · exact ⟨hx.1,hx.2.1,hx.2.2.1,hx.2.2.2.1,⟨hx.2.2.2.2.decl,hx.2.2.2.2.call,hx.2.2.2.2.func,hx.2.2.2.2.type,hx.2.2.2.2.kind,hx.2.2.2.2.ret⟩⟩
   · obtain ⟨p1,p2,p3,p4,p5,p6,p7⟩:=hr
     refine ⟨p1,hS.trans p2,p3,fun z=>?_⟩
     obtain ⟨q1,q2,c,q3,q4⟩:=p7 z
     exact .one p6 (by rw [p4,p5];exact get p2) q2 q1 q3 q4
theorem w_blocks:∀ fu:Nat,Wli fu∧Wst fu∧Wpa fu∧Wbl fu
 | 0=>⟨fun _ _ _ _ _ _ _ _ h=>by omega,fun _ _ _ _ _ _ _ h=>by omega,fun _ _ _ _ _ _ _ _ _ _ h=>by omega,fun _ _ _ _ _ _ _ _ h=>by omega⟩
 | fu+1=>by
  have ih:=w_blocks fu
  exact ⟨w_list ih.2.1,w_stmt ih.2.2.1,w_parts ih.2.2.2,w_block ih.1⟩
end Go.Proofs.Ytfglbdkfnphjgaa
