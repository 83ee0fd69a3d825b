/- The program's checker answers: statements. -/
import Derived.Test.YtfglbdkfnphjgaaPw
set_option linter.unusedVariables false
set_option linter.unusedSimpArgs false
namespace Go.Proofs.Ytfglbdkfnphjgaa
open Go.RowKit Go.Fw
inductive SN (K:List GStmtInfo) (V:List GVarInfo) (S:List Int) (f:Int):List GStmt→Nat→Nat→Prop
 | nil (a:Nat):SN K V S f [] a a
 | cons {x:GStmt} {l:List GStmt} {a c d b:Nat} (h:x.Id=a) (k:K[a]?=some ⟨f,x.Kind,x.Line⟩) (r1:REE V S a x.Args) (r2:REE V S a x.Target) (s1:SN K V S f x.Body (a+1) c) (s2:SN K V S f x.Else c d) (s3:SN K V S f l d b):SN K V S f (x :: l) a b
theorem SN.snoc {K:List GStmtInfo} {V:List GVarInfo} {S:List Int} {f:Int} {l:List GStmt} {x:GStmt} {a b c:Nat} (h:SN K V S f l a b) (k:SN K V S f [x] b c):SN K V S f (l ++ [x]) a c:=by
 induction h with
 | nil=>exact k
 | cons h k' r1 r2 s1 s2 _ _ _ ih=>exact .cons h k' r1 r2 s1 s2 (ih k)
theorem SN.mv {C C':GChecker} {f:Int} {l:List GStmt} {a b:Nat} (h:SN C.source.Stmts C.vars C.scope f l a b) (k:CS C C'):SN C'.source.Stmts C'.vars C'.scope f l a b:=by
 induction h with
 | nil=>exact .nil _
 | cons h k' r1 r2 _ _ _ i1 i2 i3=>
  have hl:=lt_of_get k'
  refine .cons h ?_ (r1.mv k (by omega)) (r2.mv k (by omega)) i1 i2 i3
  obtain ⟨e,he⟩:=k.st
  rw [he,List.getElem?_append_left hl]
  exact k'
theorem SN.one {K:List GStmtInfo} {V:List GVarInfo} {S:List Int} {f:Int} {x:GStmt} {a c d:Nat} (h:x.Id=a) (k:K[a]?=some ⟨f,x.Kind,x.Line⟩) (r1:REE V S a x.Args) (r2:REE V S a x.Target) (s1:SN K V S f x.Body (a+1) c) (s2:SN K V S f x.Else c d):SN K V S f [x] a d:=.cons h k r1 r2 s1 s2 (.nil d)
theorem w_add {fu:Nat} {F:Int} {C:GChecker} {v:GVarInfo} (h:CI F C) (hn:C.vars.length < 24) (hk:v.Kind=2→0≤v.Record∧v.Record < C.source.Program.Records.length) (hF:F≤C.source.Stmts.length) (hp:v.Param=true→F=C.source.Stmts.length) :
   Tot (m_checker_add fu C v) (fun r=>pel r fun i C'=>CI F C'∧(v.Param=false→CS C C')∧C'.scope=C.scope ++ [(C.vars.length:Int)]∧C'.source=C.source∧C'.records=C.records∧C'.funcs=C.funcs∧C'.params=C.params∧C'.current=C.current∧C'.vars.length=C.vars.length+1):=by
 have hst:=h.st;have hsl:=h.sl
 unfold m_checker_add
 refine .bd (.app (by simp only [List.length_cons,List.length_nil];omega)) fun r hr=>?_
 subst hr
 rw [len_snoc,wr_id (by omega) (by omega)]
 refine .bd (.app (by simp only [List.length_cons,List.length_nil];omega)) fun q hq=>.mk ?_
 subst hq
 have e1:((C.vars.length+1:Nat):Int) - 1=C.vars.length:=by omega
 rw [e1]
 have old:∀ {i:Nat} {x:GVarInfo},C.vars[i]?=some x→∀ {y:GVarInfo},(C.vars ++ [y])[i]?=some x:=fun hi y=>by rw [List.getElem?_append_left (lt_of_get hi)];exact hi
 have cas:∀ {i:Nat} {x y:GVarInfo},(C.vars ++ [y])[i]?=some x→C.vars[i]?=some x ∨ i=C.vars.length∧x=y:=fun {i x y} hi=>by
   by_cases c:i < C.vars.length
   · rw [List.getElem?_append_left c] at hi;exact .inl hi
   · have hl:=lt_of_get hi
     rw [len_snoc] at hl
     obtain rfl:i=C.vars.length:=by omega
     rw [List.getElem?_append_right (Nat.le_refl _),Nat.sub_self] at hi
     exact .inr ⟨rfl,(Option.some.inj hi).symm⟩
 refine ⟨⟨by dsimp only;rw [len_snoc];omega,fun u hu=>?_,by dsimp only;rw [len_snoc,len_snoc];omega,hst,h.rm,h.fm,fun x hx=>?_,fun i x hx=>?_⟩,fun hpf=>?_,rfl,rfl,rfl,rfl,rfl,rfl,len_snoc⟩
 · dsimp only
   rw [len_snoc]
   rcases List.mem_append.1 hu with hu | hu
   · have:=h.sc u hu;omega
   · simp only [List.mem_cons,List.not_mem_nil,or_false] at hu
     omega
 · rcases List.mem_append.1 hx with hx | hx
   · exact h.rk x hx
   · simp only [List.mem_cons,List.not_mem_nil,or_false] at hx
     subst hx
     exact hk
 · rcases cas hx with hx | ⟨rfl,rfl⟩
   · obtain ⟨a1,a2,a3,a4⟩:=h.vr i x hx
     refine ⟨a1,a2,?_,fun z=>⟨(a4 z).1,List.mem_append.2 (.inl (a4 z).2)⟩⟩
     rcases a3 with a3 | a3
     · exact .inl (List.mem_append.2 (.inl a3))
     · exact .inr a3
   · exact ⟨hF,Int.le_refl _,.inl (List.mem_append.2 (.inr (.head _))),fun z=>⟨(hp z).symm,List.mem_append.2 (.inr (.head _))⟩⟩
 · refine ⟨rfl,rfl,rfl,rfl,rfl,rfl,⟨[],(List.append_nil _).symm⟩,fun i x hx=>⟨x,old hx,rfl,rfl,rfl,fun k=>.inl (List.mem_append.2 (.inl k)),fun k=>⟨fun z=>?_,rfl⟩⟩,fun i y hy hyp=>?_⟩
   · rcases List.mem_append.1 z with z | z
     · exact k z
     · simp only [List.mem_cons,List.not_mem_nil,or_false] at z
       have:=lt_of_get hx
       omega
   · rcases cas hy with hy | ⟨_,rfl⟩
     · exact ⟨y,hy,hyp⟩
     · exact absurd hyp (by rw [hpf];decide)
theorem w_leave_L0 {fu:Nat} {C:GChecker} {N:Int} (hN:N=(C.source.Stmts.length:Int) - 1) (h200:C.source.Stmts.length≤200) {O:GChecker→Prop}:∀ (l:List Int) (k:Nat) (V:List GVarInfo),(∀ v ∈ l,0≤v∧v < V.length)→
  Tot (m_checker_leave_L0 fu C l k V) (LdP (fun V'=>V'.length=V.length∧∀ (i:Nat) (x:GVarInfo),V[i]?=some x→∃ y,V'[i]?=some y∧y.Name=x.Name∧y.Kind=x.Kind∧y.Record=x.Record∧y.Param=x.Param∧y.From=x.From∧((i:Int) ∈ l→y.To=N)∧((i:Int) ∉ l→y.To=x.To)) O)
 | [],k,V,h=>.go ⟨rfl,fun i x hx=>⟨x,hx,rfl,rfl,rfl,rfl,rfl,fun z=>(by cases z),fun _=>rfl⟩⟩
 | u :: r,k,V,h=>by
  obtain ⟨h1,h2⟩:=h u (List.mem_cons_self ..)
  rw [m_checker_leave_L0]
  refine .bd (.ix h1 h2) fun z hz=>.bd (.st ⟨h1,h2⟩) fun W hW=>?_
  rw [wr_id (by omega) (by omega),← hN] at hW
  have hWl:W.length=V.length:=by rw [hW,List.length_set]
  refine (w_leave_L0 hN h200 (O:=O) r (k+1) W (fun v hv=>by rw [hWl];exact h v (List.mem_cons_of_mem _ hv))).imp fun v hv=>?_
  cases v with
  | out o=>exact hv
  | go V'=>
   refine ⟨hv.1.trans hWl,fun i x hx=>?_⟩
   by_cases c:i=u.toNat
   · subst c
     rw [hz] at hx
     cases hx
     obtain ⟨y,hy,a1,a2,a3,a4,a5,a6,a7⟩:=hv.2 u.toNat ⟨z.Name,z.Kind,z.Record,z.Words,z.Param,z.From,N⟩ (by rw [hW,List.getElem?_set_self (by omega)])
     refine ⟨y,hy,a1,a2,a3,a4,a5,fun _=>?_,fun k=>absurd (by rw [Int.toNat_of_nonneg h1];exact List.mem_cons_self ..) k⟩
     by_cases d:((u.toNat:Nat):Int) ∈ r
     · exact a6 d
     · exact a7 d
   · obtain ⟨y,hy,a1,a2,a3,a4,a5,a6,a7⟩:=hv.2 i x (by rw [hW,List.getElem?_set_ne (by omega)];exact hx)
     refine ⟨y,hy,a1,a2,a3,a4,a5,fun k=>?_,fun k=>a7 fun z=>k (List.mem_cons_of_mem _ z)⟩
     rcases List.mem_cons.1 k with k | k
     · omega
     · exact a6 k
theorem w_leave {fu:Nat} {F:Int} {C:GChecker} {n:Nat} (h:CI F C) (hn:n≤C.scope.length) (hp:∀ (i:Nat) (x:GVarInfo),C.vars[i]?=some x→x.Param=true→(i:Int) ∈ C.scope.take n) :
   Tot (m_checker_leave fu C n) (fun C'=>CI F C'∧CS C C'∧C'.scope=C.scope.take n∧C'.source=C.source):=by
 have hst:=h.st;have hsl:=h.sl;have hvn:=h.vn
 unfold m_checker_leave
 refine .bd (.sl ⟨by omega,by omega,Int.le_refl _⟩) fun l hl=>?_
 have hl':l=C.scope.drop n:=by
   rw [hl,Int.toNat_natCast,List.take_of_length_le (by rw [List.length_drop];omega)]
 subst hl'
 have hmem:∀ v,v ∈ C.scope ↔ v ∈ C.scope.take n ∨ v ∈ C.scope.drop n:=fun v=>by
   rw [← List.mem_append,List.take_append_drop]
 refine .el (w_leave_L0 rfl hst (O:=fun _=>False) (C.scope.drop n) 0 C.vars fun v hv=>h.sc v (List.mem_of_mem_drop hv)) (fun V hV=>?_) fun _ z=>z.elim
 refine .bd (.sl ⟨Int.le_refl _,by omega,by omega⟩) fun q hq=>.mk ?_
 have hq':q=C.scope.take n:=by
   rw [hq]
   simp
 subst hq'
 obtain ⟨v1,v2⟩:=hV
 have back:∀ {i:Nat} {y:GVarInfo},V[i]?=some y→∃ x,C.vars[i]?=some x∧y.Kind=x.Kind∧y.Record=x.Record∧y.Param=x.Param∧y.From=x.From∧((i:Int) ∈ C.scope.drop n→y.To=(C.source.Stmts.length:Int) - 1)∧((i:Int) ∉ C.scope.drop n→y.To=x.To):=fun {i y} hy=>by
   obtain ⟨x,hx⟩:=get_ex (l:=C.vars) (k:=i) (by have:=lt_of_get hy;omega)
   obtain ⟨y',hy',a1,a2,a3,a4,a5,a6,a7⟩:=v2 i x hx
   rw [hy] at hy'
   cases hy'
   exact ⟨x,hx,a2,a3,a4,a5,a6,a7⟩
 refine ⟨⟨by dsimp only;omega,fun v hv=>by dsimp only;rw [v1];exact h.sc v (List.mem_of_mem_take hv),by dsimp only;rw [List.length_take];omega,hst,h.rm,h.fm,fun y hy=>?_,fun i y hy=>?_⟩,⟨rfl,rfl,rfl,rfl,rfl,rfl,⟨[],(List.append_nil _).symm⟩,fun i x hx=>?_,fun i y hy hyp=>?_⟩,rfl,rfl⟩
 · obtain ⟨i,hi⟩:=List.mem_iff_getElem?.1 hy
   obtain ⟨x,hx,a1,a2,_⟩:=back hi
   rw [a1,a2]
   exact h.rk x (List.mem_of_getElem? hx)
 · obtain ⟨x,hx,a1,a2,a3,a4,a5,a6⟩:=back hy
   obtain ⟨b1,b2,b3,b4⟩:=h.vr i x hx
   rw [a3,a4]
   refine ⟨b1,b2,?_,fun z=>⟨(b4 z).1,hp i x hx z⟩⟩
   by_cases c:(i:Int) ∈ C.scope.drop n
   · have:=a5 c
     exact .inr ⟨by omega,by dsimp only;omega⟩
   · rcases b3 with b3 | b3
     · exact .inl (((hmem _).1 b3).resolve_right c)
     · have:=a6 c
       exact .inr ⟨by omega,by dsimp only;omega⟩
 · obtain ⟨y,hy,a1,a2,a3,a4,a5,a6,a7⟩:=v2 i x hx
   refine ⟨y,hy,a1,a2,a5,fun k=>?_,fun k=>⟨fun z=>k (List.mem_of_mem_take z),a7 fun z=>k (List.mem_of_mem_drop z)⟩⟩
   rcases (hmem _).1 k with k | k
   · exact .inl k
   · exact .inr (by have:=a6 k;omega)
 · obtain ⟨x,hx,a1,a2,a3,_⟩:=back hy
   exact ⟨x,hx,by rw [← a3];exact hyp⟩
def DP (F:Int) (C:GChecker) (r:Int × Int × GChecker):Prop:=pel r fun _ r=>pel r fun _ C'=>CI F C'∧CS C C'∧(∃ s,C'.scope=C.scope ++ s)∧C'.source=C.source
theorem w_declare {fu:Nat} {F:Int} {C:GChecker} {v:GVarInfo} (h:CI F C) (hk:v.Kind=2→0≤v.Record∧v.Record < C.source.Program.Records.length) (hF:F≤C.source.Stmts.length) (hp:v.Param=false):Tot (m_checker_declare fu C v) (DP F C):=by
 unfold m_checker_declare
 have same:CI F C∧CS C C∧(∃ s,C.scope=C.scope ++ s)∧C.source=C.source:=⟨h,.rfl',⟨[],(List.append_nil _).symm⟩,rfl⟩
 refine .bp (w_find h) fun i b _=>.ite (fun _=>.mk same) fun _=>.ite (fun _=>.mk same) fun c=>?_
 refine .bp (w_add h (by omega) hk hF (fun z=>by rw [hp] at z;cases z)) fun i C' hC=>.mk ?_
 exact ⟨hC.1,hC.2.1 hp,⟨_,hC.2.2.1⟩,hC.2.2.2.1⟩
theorem w_variable {fu:Nat} {F:Int} {C:GChecker} {x:GStmt} (h:CI F C) (hF:F≤C.source.Stmts.length):Tot (m_checker_variable fu C x) (DP F C):=by
 unfold m_checker_variable
 have same:CI F C∧CS C C∧(∃ s,C.scope=C.scope ++ s)∧C.source=C.source:=⟨h,.rfl',⟨[],(List.append_nil _).symm⟩,rfl⟩
 have hJ:Tot (m_checker_variable_J0 fu C x) (LdP (fun r=>pel r fun k r=>pel r fun rc _=>k=2→0≤rc∧rc < C.source.Program.Records.length) (DP F C)):=by
  unfold m_checker_variable_J0
  refine .ite (fun _=>.ite (fun _=>.out same) fun c=>?_) fun _=>.ite (fun _=>.go fun z=>absurd z (by decide)) fun _=>.go fun z=>absurd z (by decide)
  have hs:(mget C.records x.Type_).isSome=true:=by
   revert c
   cases (mget C.records x.Type_) <;> simp
  obtain ⟨i,hi⟩:=Option.isSome_iff_exists.1 hs
  have h1:=h.rm _ _ hi
  rw [hi]
  exact .bd (.ix h1.1 h1.2) fun e _=>.go fun _=>h1
 refine .el hJ (fun r hr=>.pp hr fun k r hr=>.pp hr fun rc w hr=>?_) fun o ho=>.mk ho
 exact .bp (w_declare h hr hF rfl) fun i r hr=>.pp hr fun e C' hr=>.mk hr
theorem w_call_L0 {fu:Nat} {C:GChecker} {x:GStmt}:∀ (l:List GExpr) (k:Nat),Tot (m_checker_call_L0 fu C x l k) (LdP (fun _=>True) (fun r=>pel r fun e r=>pel r fun C' y=>C'=C∧y=x∧e≠0))
 | [],_=>.go trivial
 | u :: r,k=>by
  rw [m_checker_call_L0]
  exact .ite (fun _=>.out ⟨rfl,rfl,by show (10:Int)≠0;decide⟩) fun _=>.ite (fun _=>.out ⟨rfl,rfl,by show (10:Int)≠0;decide⟩) fun _=>w_call_L0 r (k+1)
theorem w_call {fu:Nat} (hf:10002≤fu) {F id:Int} {C:GChecker} {x:GStmt} (h:CI F C) (hid:∀ (i:Nat) (x:GVarInfo),(i:Int) ∈ C.scope→C.vars[i]?=some x→x.From≤id) (h1:x.Target.length≤5000∧∀ y ∈ x.Target,EOk 5000 y) (h2:x.Args.length≤5000∧∀ y ∈ x.Args,EOk 5000 y) :
   Tot (m_checker_call fu C x) (fun r=>pel r fun e r=>pel r fun C' y=>C'=C∧y.Kind=x.Kind∧y.Line=x.Line∧y.Id=x.Id∧y.Body=x.Body∧y.Else=x.Else∧(e=0→REE C.vars C.scope id y.Target∧REE C.vars C.scope id y.Args)):=by
 unfold m_checker_call
 refine .el (w_call_L0 x.Target 0) (fun _ _=>?_) fun o ho=>.mk ?_
 · refine .bp ((w_exps fu).1 F id C x.Target 5000 h hid h1.1 h1.2 (by omega)) fun tg r hr=>.pp hr fun e C' hr=>?_
   obtain ⟨rfl,hr⟩:=hr
   refine .ite (fun c=>.mk ⟨rfl,rfl,rfl,rfl,rfl,rfl,fun z=>absurd z c⟩) fun c=>.ite (fun _=>.mk ⟨rfl,rfl,rfl,rfl,rfl,rfl,fun z=>absurd z (by decide)⟩) fun d=>?_
   have hs:(mget C'.funcs x.Func).isSome=true:=by
    revert d
    cases (mget C'.funcs x.Func) <;> simp
   obtain ⟨i,hi⟩:=Option.isSome_iff_exists.1 hs
   have h3:=h.fm _ _ hi
   rw [hi]
   refine .bd (.ix h3.1 h3.2) fun n _=>.ite (fun _=>.mk ⟨rfl,rfl,rfl,rfl,rfl,rfl,fun z=>absurd z (by decide)⟩) fun _=>?_
   refine .bp ((w_exps fu).1 F id C' x.Args 5000 h hid h2.1 h2.2 (by omega)) fun ar r hr2=>.pp hr2 fun e2 C2 hr2=>.mk ?_
   exact ⟨hr2.1,rfl,rfl,rfl,rfl,rfl,fun z=>⟨⟨(hr (by omega)).1,(hr (by omega)).2.2⟩,⟨(hr2.2 z).1,(hr2.2 z).2.2⟩⟩⟩
 · obtain ⟨e,C',y⟩:=o
   obtain ⟨rfl,rfl,ho⟩:=ho
   exact ⟨rfl,rfl,rfl,rfl,rfl,rfl,fun z=>absurd z ho⟩
end Go.Proofs.Ytfglbdkfnphjgaa
