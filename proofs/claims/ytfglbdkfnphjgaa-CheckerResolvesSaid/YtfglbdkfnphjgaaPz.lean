/- The program's checker answers: functions, programs. -/
import Derived.Test.YtfglbdkfnphjgaaPy
set_option linter.unusedVariables false
set_option linter.unusedSimpArgs false
namespace Go.Proofs.Ytfglbdkfnphjgaa
open Go.RowKit Go.Fw
theorem SN.ext {K e:List GStmtInfo} {V:List GVarInfo} {S:List Int} {f:Int} {l:List GStmt} {a b:Nat} (h:SN K V S f l a b):SN (K ++ e) V S f l a b:=by
 induction h with
 | nil=>exact .nil _
 | cons h k r1 r2 _ _ _ i1 i2 i3=>exact .cons h (by rw [List.getElem?_append_left (lt_of_get k)];exact k) r1 r2 i1 i2 i3
structure FK (K:List GStmtInfo) (i:Nat) (fn:GFunc) (V:List GVarInfo) (a b:Nat):Prop where
 sn:SN K V [] i fn.Body a b
 vr:∀ x ∈ V,(a:Int)≤x.From∧x.From≤b∧x.From - 1≤x.To∧x.To≤(b:Int) - 1∧(x.Param=true→x.From=a∧x.To=(b:Int) - 1)
 vn:V.length≤24
def SrcOk (Fs:List GFunc) (Vs:List (List GVarInfo)) (K:List GStmtInfo):Prop:=K.length≤200∧Fs.length=Vs.length∧∃ B:Nat→Nat,B 0=0∧B Vs.length=K.length∧∀ (i:Nat) (fn:GFunc) (V:List GVarInfo),Fs[i]?=some fn→Vs[i]?=some V→FK K i fn V (B i) (B (i+1))
theorem SrcOk.snoc {Fs:List GFunc} {Vs:List (List GVarInfo)} {K e:List GStmtInfo} {fn:GFunc} {V:List GVarInfo} (h:SrcOk Fs Vs K) (hl:(K ++ e).length≤200) (k:FK (K ++ e) Vs.length fn V K.length (K ++ e).length):SrcOk (Fs ++ [fn]) (Vs ++ [V]) (K ++ e):=by
 obtain ⟨h1,h2,B,h3,h4,h5⟩:=h
 refine ⟨hl,by rw [len_snoc,len_snoc,h2],fun j=>if j≤Vs.length then B j else (K ++ e).length,by dsimp only;rw [if_pos (Nat.zero_le _)];exact h3,by dsimp only;rw [len_snoc,if_neg (by omega)],fun i f W hf hW=>?_⟩
 dsimp only
 by_cases c:i < Vs.length
 · rw [List.getElem?_append_left (by omega)] at hf
   rw [List.getElem?_append_left c] at hW
   rw [if_pos (by omega),if_pos (by omega)]
   have:=h5 i f W hf hW
   exact ⟨this.sn.ext,this.vr,this.vn⟩
 · have hl:=lt_of_get hW
   rw [len_snoc] at hl
   obtain rfl:i=Vs.length:=by omega
   rw [List.getElem?_append_right (by omega),h2,Nat.sub_self] at hf
   rw [List.getElem?_append_right (Nat.le_refl _),Nat.sub_self] at hW
   obtain rfl:=Option.some.inj hf
   obtain rfl:=Option.some.inj hW
   rw [if_pos (Nat.le_refl _),if_neg (by omega),h4]
   exact k
theorem w_leave0 {fu:Nat} {F:Int} {C:GChecker} (h:CI F C):Tot (m_checker_leave fu C 0) (fun C'=>CS C C'∧C'.scope=[]∧C'.source=C.source∧C'.vars.length≤24∧∀ x ∈ C'.vars,F≤x.From∧x.From≤C.source.Stmts.length∧x.From - 1≤x.To∧x.To≤(C.source.Stmts.length:Int) - 1∧(x.Param=true→x.From=F∧x.To=(C.source.Stmts.length:Int) - 1)):=by
 have hst:=h.st;have hsl:=h.sl;have hvn:=h.vn
 unfold m_checker_leave
 refine .bd (.sl ⟨Int.le_refl _,by omega,Int.le_refl _⟩) fun l hl=>?_
 have hl':l=C.scope:=by
   rw [hl]
   simp
 subst hl'
 refine .el (w_leave_L0 rfl hst (O:=fun _=>False) C.scope 0 C.vars h.sc) (fun V hV=>?_) fun _ z=>z.elim
 refine .bd (.sl ⟨Int.le_refl _,Int.le_refl _,by omega⟩) fun q hq=>.mk ?_
 have hq':q=[]:=by
   rw [hq]
   simp
 subst hq'
 obtain ⟨v1,v2⟩:=hV
 have back:∀ {i:Nat} {y:GVarInfo},V[i]?=some y→∃ x,C.vars[i]?=some x∧y.Param=x.Param∧y.From=x.From∧((i:Int) ∈ C.scope→y.To=(C.source.Stmts.length:Int) - 1)∧((i:Int) ∉ C.scope→y.To=x.To):=fun {i y} hy=>by
   obtain ⟨x,hx⟩:=get_ex (l:=C.vars) (k:=i) (by have:=lt_of_get hy;omega)
   obtain ⟨y',hy',a1,a2,a3,a4,a5,a6,a7⟩:=v2 i x hx
   rw [hy] at hy'
   cases hy'
   exact ⟨x,hx,a4,a5,a6,a7⟩
 refine ⟨⟨rfl,rfl,rfl,rfl,rfl,rfl,⟨[],(List.append_nil _).symm⟩,fun i x hx=>?_,fun i y hy hyp=>?_⟩,rfl,rfl,by dsimp only;omega,fun y hy=>?_⟩
 · obtain ⟨y,hy,a1,a2,a3,a4,a5,a6,a7⟩:=v2 i x hx
   exact ⟨y,hy,a1,a2,a5,fun k=>.inr (by have:=a6 k;omega),fun k=>⟨fun z=>(by cases z),a7 k⟩⟩
 · obtain ⟨x,hx,a3,_⟩:=back hy
   exact ⟨x,hx,by rw [← a3];exact hyp⟩
 · obtain ⟨i,hi⟩:=List.mem_iff_getElem?.1 hy
   obtain ⟨x,hx,a3,a4,a5,a6⟩:=back hi
   obtain ⟨b1,b2,b3,b4⟩:=h.vr i x hx
   rw [a3,a4]
   by_cases c:(i:Int) ∈ C.scope
   · have:=a5 c
     exact ⟨b1,b2,by omega,by omega,fun z=>⟨(b4 z).1,this⟩⟩
   · have:=a6 c
     have:=b3.resolve_left c
     exact ⟨b1,b2,by omega,by omega,fun z=>absurd (b4 z).2 c⟩
theorem w_repeated_L0 {fu:Nat}:∀ (l:List ByteArray) (k:Nat) (s:List (ByteArray × Bool)),Tot (m_checker_repeated_L0 fu l k s) (LdP (fun _=>True) (fun _=>True))
 | [],_,_=>.go trivial
 | u :: r,k,s=>by
  rw [m_checker_repeated_L0]
  exact .ite (fun _=>.out trivial) fun _=>w_repeated_L0 r (k+1) _
theorem w_repeated {fu:Nat} {l:List ByteArray}:Tot (m_checker_repeated fu l) (fun _=>True):=by
 unfold m_checker_repeated
 exact .el (w_repeated_L0 _ _ _) (fun _ _=>.mk trivial) fun _ _=>.mk trivial
theorem w_Clone {fu:Nat} {l:List ByteArray} (h:l.length≤5000):Tot (m_slices_Clone fu l) (fun r=>r=l):=by
 unfold m_slices_Clone
 refine .bd (.app (by rw [List.length_nil];omega)) fun r hr=>.mk ?_
 rw [hr,List.nil_append]
structure PI (C:GChecker):Prop where
 rm:∀ n i,mget C.records n=some i→0≤i∧i < C.source.Program.Records.length
 fm:∀ n i,mget C.funcs n=some i→0≤i∧i < C.params.length
 fl:C.source.Program.Funcs.length≤5000
 ok:SrcOk C.source.Program.Funcs C.source.Vars C.source.Stmts
theorem w_function_L0 {fu:Nat} {S:GSource} {rc fc:List (ByteArray × Int)} {pa:List Int} {cu:Int} (h200:S.Stmts.length≤200) {O:Int × GChecker→Prop}:∀ (l:List ByteArray) (k:Nat) (C:GChecker),CI S.Stmts.length C→C.vars.length+l.length≤4→C.source=S∧C.records=rc∧C.funcs=fc∧C.params=pa∧C.current=cu→
  Tot (m_checker_function_L0 fu l k C.scope C.vars C.current C.line C.records C.funcs C.source.Program.Records C.source.Program.Funcs C.source.Vars C.source.Stmts C.params)
   (LdP (fun r=>pel r fun a1 r=>pel r fun a2 r=>pel r fun a3 r=>pel r fun a4 r=>pel r fun a5 r=>pel r fun a6 r=>pel r fun a7 r=>pel r fun a8 r=>pel r fun a9 r=>pel r fun a10 a11=>CI S.Stmts.length ⟨a5,a6,⟨⟨a7,a8⟩,a9,a10⟩,a11,a2,a1,a3,a4⟩∧(⟨⟨a7,a8⟩,a9,a10⟩:GSource)=S∧a5=rc∧a6=fc∧a11=pa∧a3=cu) O)
 | [],k,C,hC,_,h=>.go ⟨hC,h⟩
 | u :: r,k,C,hC,hl,h=>by
  rw [m_checker_function_L0]
  rw [List.length_cons] at hl
  have hlen:C.source.Stmts.length=S.Stmts.length:=by rw [h.1]
  refine .bp (w_add (C:=C) (v:=⟨u,1,-1,1,true,0,0⟩) hC (by omega) (fun z=>absurd z (by show ¬ (1:Int)=2;decide)) (by omega) (fun _=>by omega)) fun i C' hr=>?_
  obtain ⟨q1,q2,q3,q4,q5,q6,q7,q8,q9⟩:=hr
  exact w_function_L0 h200 r (k+1) C' q1 (by omega) ⟨q4.trans h.1,q5.trans h.2.1,q6.trans h.2.2.1,q7.trans h.2.2.2.1,q8.trans h.2.2.2.2⟩
theorem w_function {fu:Nat} (hf:10100≤fu) {C:GChecker} (h:PI C) {fn:GFunc} (hfn:FOk 5000 fn) (hi:C.source.Program.Funcs.length < 5000):Tot (m_checker_function fu C (C.source.Vars.length:Int) fn) (fun r=>pel r fun e C'=>e=0→PI C'∧C'.source.Program.Funcs.length=C.source.Program.Funcs.length+1):=by
 unfold m_checker_function
 refine .ite (fun _=>.mk fun z=>absurd z (by decide)) fun c=>.bd w_repeated fun b _=>.ite (fun _=>.mk fun z=>absurd z (by decide)) fun _=>?_
 have h200:=h.ok.1
 have hv:=h.ok.2.1
 refine .el (w_function_L0 (S:=C.source) (rc:=C.records) (fc:=C.funcs) (pa:=C.params) (cu:=(C.source.Vars.length:Int)) h200 (O:=fun _=>False) fn.Params 0 ⟨C.records,C.funcs,C.source,C.params,[],[],(C.source.Vars.length:Int),fn.Line⟩ ⟨Nat.zero_le _,fun v hv=>(by cases hv),Nat.le_refl _,h200,h.rm,h.fm,fun x hx=>(by cases hx),fun i x hx=>(by cases hx)⟩ (by show 0+fn.Params.length≤4;omega) ⟨rfl,rfl,rfl,rfl,rfl⟩) (fun r hr=>?_) fun _ z=>z.elim
 refine .pp hr fun a1 r hr=>.pp hr fun a2 r hr=>.pp hr fun a3 r hr=>.pp hr fun a4 r hr=>.pp hr fun a5 r hr=>.pp hr fun a6 r hr=>.pp hr fun a7 r hr=>.pp hr fun a8 r hr=>.pp hr fun a9 r hr=>.pp hr fun a10 a11 hr=>?_
 obtain ⟨i1,i2,i3,i4,i5,i6⟩:=hr
 have e1:a10.length=C.source.Stmts.length:=by rw [← i2]
 refine .bp ((w_blocks fu).1 _ _ fn.Body 10 i1 (by dsimp only;omega) hfn.body hfn.el (by omega)) fun bo r hr=>.pp hr fun e C2 hr=>?_
 obtain ⟨l1,l2,l3,l4⟩:=hr
 refine .ite (fun c=>.mk fun z=>absurd z c) fun c=>.bd (w_leave0 l1) fun C3 hC3=>.bd (w_Clone hfn.params) fun ps hps=>?_
 obtain ⟨k1,k2,k3,k4,k5⟩:=hC3
 have hpg:C3.source.Program=C.source.Program:=by rw [k3,l2.pg,← i2]
 have hvs:C3.source.Vars=C.source.Vars:=by rw [k3,l2.vs,← i2]
 refine .bd (.app (by rw [hpg];simp only [List.length_cons,List.length_nil];omega)) fun r1 hr1=>.bd (.app (by rw [hvs];simp only [List.length_cons,List.length_nil];omega)) fun r2 hr2=>.mk fun _=>?_
 subst hr1 hr2
 obtain ⟨d,hd⟩:=l2.st
 have hst:C3.source.Stmts=C.source.Stmts ++ d:=by rw [k3,hd,← i2]
 have hrc:C3.records=C.records:=by rw [k1.rc,l2.rc];exact i3
 have hfc:C3.funcs=C.funcs:=by rw [k1.fc,l2.fc];exact i4
 have hpa:C3.params=C.params:=by rw [k1.pa,l2.pa];exact i5
 refine ⟨⟨?_,?_,?_,?_⟩,?_⟩
 · dsimp only
   rw [hrc,hpg]
   exact h.rm
 · dsimp only
   rw [hfc,hpa]
   exact h.fm
 · dsimp only
   rw [len_snoc,hpg]
   omega
 · dsimp only
   rw [hpg,hvs,hst]
   have hl2:=l1.st
   have hK:C2.source.Stmts=C.source.Stmts ++ d:=by rw [← k3];exact hst
   refine h.ok.snoc (by rw [← hK];exact hl2) ⟨?_,?_,k4⟩
   · have:=(l4 (by omega)).mv k1
     rw [k2,k3,hK] at this
     dsimp only at this
     rw [i6,e1] at this
     exact this
   · intro x hx
     have:=k5 x hx
     rw [hK] at this
     exact this
 · dsimp only
   rw [len_snoc,hpg]
theorem w_program_L0 {fu:Nat} {C:GChecker}:∀ (l:List GRecord) (k:Nat) (m:List (ByteArray × Int)) (rs:List GRecord),rs.length=k→(∀ n i,mget m n=some i→0≤i∧i < (k:Int))→
  Tot (m_checker_program_L0 fu C l k m rs) (LdP (fun r=>pel r fun m' rs'=>∀ n i,mget m' n=some i→0≤i∧i < rs'.length) (fun r=>pel r fun e _=>e≠0))
 | [],k,m,rs,h1,h2=>.go fun n i hi=>by rw [h1];exact h2 n i hi
 | u :: r,k,m,rs,h1,h2=>by
  rw [m_checker_program_L0]
  refine .ite (fun _=>.out (by show (5:Int)≠0;decide)) fun c=>.ite (fun _=>.out (by show (5:Int)≠0;decide)) fun c2=>.ite (fun _=>.out (by show (9:Int)≠0;decide)) fun _=>.bd w_repeated fun b _=>.ite (fun _=>.out (by show (9:Int)≠0;decide)) fun _=>.bd (w_Clone (by omega)) fun fs _=>.bd (.app (by simp only [List.length_cons,List.length_nil];omega)) fun q hq=>?_
  subst hq
  refine w_program_L0 r (k+1) _ _ (by rw [len_snoc,h1]) fun n i hi=>?_
  rw [mget_put] at hi
  split at hi
  · cases hi;omega
  · have:=h2 n i hi;omega
theorem w_program_L1 {fu:Nat} {C:GChecker} {m:List (ByteArray × Int)} {rs:List GRecord}:∀ (l:List GFunc) (k:Nat) (ln:Int) (fm:List (ByteArray × Int)) (ps:List Int),ps.length=k→(∀ n i,mget fm n=some i→0≤i∧i < (k:Int))→
  Tot (m_checker_program_L1 fu C m rs l k ln fm ps) (LdP (fun r=>pel r fun _ r=>pel r fun fm' ps'=>∀ n i,mget fm' n=some i→0≤i∧i < ps'.length) (fun r=>pel r fun e _=>e≠0))
 | [],k,ln,fm,ps,h1,h2=>.go fun n i hi=>by rw [h1];exact h2 n i hi
 | u :: r,k,ln,fm,ps,h1,h2=>by
  rw [m_checker_program_L1]
  refine .ite (fun _=>.out (by show (5:Int)≠0;decide)) fun c=>.ite (fun _=>.out (by show (9:Int)≠0;decide)) fun _=>.bd (.app (by simp only [List.length_cons,List.length_nil];omega)) fun q hq=>?_
  subst hq
  refine w_program_L1 r (k+1) _ _ _ (by rw [len_snoc,h1]) fun n i hi=>?_
  rw [mget_put] at hi
  split at hi
  · cases hi;omega
  · have:=h2 n i hi;omega
theorem w_program_L2 {fu:Nat} (hf:10100≤fu):∀ (l:List GFunc) (k:Nat) (C:GChecker),PI C→C.source.Program.Funcs.length=k→k+l.length≤5000→(∀ f ∈ l,FOk 5000 f)→
  Tot (m_checker_program_L2 fu l k C.vars C.current C.line C.records C.funcs C.source.Program.Records C.source.Program.Funcs C.source.Vars C.source.Stmts C.params C.scope)
   (LdP (fun r=>pel r fun a1 r=>pel r fun a2 r=>pel r fun a3 r=>pel r fun a4 r=>pel r fun a5 r=>pel r fun a6 r=>pel r fun a7 r=>pel r fun a8 r=>pel r fun a9 r=>pel r fun a10 a11=>SrcOk a7 a8 a9∧a7.length≤5000) (fun r=>pel r fun e _=>e≠0))
 | [],k,C,hC,_,_,_=>.go ⟨hC.ok,hC.fl⟩
 | u :: r,k,C,hC,hk,hl,hF=>by
  rw [m_checker_program_L2]
  rw [List.length_cons] at hl
  have hv:=hC.ok.2.1
  have e:((k:Nat):Int)=(C.source.Vars.length:Int):=by omega
  rw [e]
  refine .bp (w_function hf hC (hF u (List.mem_cons_self ..)) (by omega)) fun e C' hr=>.ite (fun c=>.out c) fun c=>?_
  obtain ⟨h1,h2⟩:=hr (by omega)
  exact w_program_L2 hf r (k+1) C' h1 (by omega) (by omega) fun f hf=>hF f (List.mem_cons_of_mem _ hf)
theorem w_program {fu:Nat} (hf:10100≤fu) {p:GProgram} (hp:POk 5000 p):Tot (m_checker_program fu ⟨[],[],⟨⟨[],[]⟩,[],[]⟩,[],[],[],0,0⟩ p) (fun r=>pel r fun e C'=>e=0→SrcOk C'.source.Program.Funcs C'.source.Vars C'.source.Stmts∧C'.source.Program.Funcs.length≤5000):=by
 unfold m_checker_program
 have out:∀ {o:Int × GChecker},(pel o fun e _=>e≠0)→(fun r:Int × GChecker=>pel r fun e C'=>e=0→SrcOk C'.source.Program.Funcs C'.source.Vars C'.source.Stmts∧C'.source.Program.Funcs.length≤5000) o:=fun {o} h=>by
  obtain ⟨e,C'⟩:=o
  exact fun z=>absurd z h
 refine .el (w_program_L0 p.Records 0 [] [] rfl fun n i hi=>(by cases hi)) (fun r hr=>.pp hr fun m rs hm=>?_) fun o ho=>.mk (out ho)
 refine .el (w_program_L1 p.Funcs 0 _ [] [] rfl fun n i hi=>(by cases hi)) (fun r hr=>.pp hr fun ln r hr=>.pp hr fun fm ps hfm=>?_) fun o ho=>.mk (out ho)
 refine .el (w_program_L2 hf p.Funcs 0 ⟨m,fm,⟨⟨rs,[]⟩,[],[]⟩,ps,[],[],0,ln⟩ ⟨hm,hfm,Nat.zero_le _,Nat.zero_le _,rfl,fun _=>0,rfl,rfl,fun i fn V h=>(by cases h)⟩ rfl (by have:=hp.funcs;omega) hp.el) (fun r hr=>?_) fun o ho=>.mk (out ho)
 exact .pp hr fun a1 r hr=>.pp hr fun a1 r hr=>.pp hr fun a1 r hr=>.pp hr fun a1 r hr=>.pp hr fun a1 r hr=>.pp hr fun a1 r hr=>.pp hr fun a1 r hr=>.pp hr fun a1 r hr=>.pp hr fun a1 r hr=>.pp hr fun a1 a2 hr=>.mk fun _=>hr
theorem w_Check {fu:Nat} (hf:10100≤fu) {p:GProgram} (hp:POk 5000 p):Tot (m_checker_Check fu p) (fun r=>pel r fun s r=>pel r fun _ e=>e=0→SrcOk s.Program.Funcs s.Vars s.Stmts∧s.Program.Funcs.length≤5000):=by
 unfold m_checker_Check
 exact .bp (w_program hf hp) fun e C' hr=>.ite (fun c=>.mk fun z=>absurd z c) fun c=>.mk fun _=>hr (by omega)
end Go.Proofs.Ytfglbdkfnphjgaa
