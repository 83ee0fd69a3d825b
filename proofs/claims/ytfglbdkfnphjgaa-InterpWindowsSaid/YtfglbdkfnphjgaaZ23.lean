/- Trace. -/
import Derived.Test.YtfglbdkfnphjgaaZ22
import Derived.Test.YtfglbdkfnphjgaaZ5
import Derived.Test.YtfglbdkfnphjgaaZ18
import Derived.Test.YtfglbdkfnphjgaaLa
import Derived.Test.YtfglbdkfnphjgaaZ19
set_option linter.unusedVariables false
set_option maxRecDepth 4000
set_option maxHeartbeats 12800000
namespace Go.Proofs.Ytfglbdkfnphjgaa
open Go.RowKit Go.Fw
noncomputable def nK (fu:Nat) (s:jQ) (f:Int) (args:List Int) (n fr mo:Int):Option (List kI × nL):=traceM fu (jO fu s) s f args n fr mo
abbrev VJ (R:Rn) (b12 b13 b14:Nat) (e:Value) (o:List Value):List It:=[.box b12 36 #[e],.box b13 39 o.toArray,.box b14 86 #[Pt R.rb]]
abbrev Tro (R:Rn) (m:Gc) (hist:List kI) (out:List Int) (b12 b13 b14:Nat) (e:Int) (th:Bool) (v:Int):List It:=
 VJ R b12 b13 b14 (.slice m.eA (window hist R.fr R.mo).length m.eC) [V e,.bool th,V v,.slice m.oA out.length m.oC]
def Xm (x:Value) (v2 e:Int) (th:Bool) (v:Int):Prop:=
 (x=.nilIface∧e=0∧th=false∧v=v2) ∨ (∃ n,x=.iface 90 (V n)∧e=0∧th=true∧v=n) ∨ (∃ n,x=.iface 91 (V n)∧e=n∧th=false∧v=v2) ∨ (∃ t y,x=.iface t y∧t≠90∧t≠91∧e=4∧th=false∧v=v2)
theorem VR {N:Fz} {ops:Array Oper} {K:KK} {rest:List Oper} {f:Fr} {w:World} {d:Option Nat} {ty:TypeId} {pos:String} {af:Array Edge} {x:Operand} {t xt t2:TypeId} {k:IntKind} {v z:Value} {s by_:Nat} (hu:Try.prog.underlying t=some (.int k)) (hz:TI Try.prog t z s by_) (hx:ev f x=.iface t2 v) (hne:t2≠t)
  (h:∀ z',kQ Try.prog N ops K rest (kG f d (.tuple #[z',.bool false])) w):kQ Try.prog N ops K (⟨d,.typeAssert x xt t true,ty,pos,af,none⟩ :: rest) f w:=by
 obtain ⟨z',e⟩:=Xe (w:=w) (ρ:=ev f) (d:=d) (ty:=ty) (pos:=pos) (af:=af) (g:=none) (xt:=xt) hu hz hx hne
 exact jR e (h z')
theorem M8 {A G:Nat→Prop} {R:Rn} {m:Gc} {ptrs:List Nat} {hist:List kI} {out:List Int} {X:List It} {D:List Da} {w0 w:World} {b12 b13 b14:Nat} {u:FrameMode} {v2 e:Int} {th:Bool} {v:Int}
   (b:Bx w0 w A G (VJ R b12 b13 b14 sn [V 0,.bool false,V v2,sn] ++ (Mac R m ptrs hist out ++ X)) D) (hu:Xm (Ay u).1 v2 e th v) :
   CallsD Try.prog 38 #[Pt b13,Pt b14,Pt b12] u w (RD (Ay u).2 (fun w'=>Bx w0 w' A G (Tro R m hist out b12 b13 b14 e th v ++ (Mac R m ptrs hist out ++ X)) D) (fun _ _=>False)):=by
 refine Mj Try.func38 rfl rfl rfl ?_
 refine nV (fun f w'=>Has f [(0,Pt b13),(1,Pt b14),(2,Pt b12)]∧Bx w0 w' A G (VJ R b12 b13 b14 sn [V e,.bool th,V v,sn] ++ (Mac R m ptrs hist out ++ X)) D) (fun J hJ=>?_) ?_
 · rcases hu with ⟨hx,rfl,rfl,rfl⟩|⟨n,hx,rfl,rfl,rfl⟩|⟨n,hx,rfl,rfl,rfl⟩|⟨t,y,hx,h90,h91,rfl,rfl,rfl⟩
   · rw [hx]
     refine oD ?_
     refine Iz (zZ ?_)
     refine jR (Fx Try.underlying20 rfl rfl (.inl ⟨rfl,rfl⟩)) ?_
     refine go ?_
     refine jR (OC .nilIface rfl) ?_
     refine go ?_
     exact hJ _ _ ⟨⟨rfl,rfl,rfl,trivial⟩,b⟩
   · rw [hx]
     refine lJ [(0,Pt b13),(1,Pt b14),(2,Pt b12),(7,.iface 90 (V v))] ⟨rfl,rfl,rfl,rfl,trivial⟩ fun av=>?_
     refine oD ?_
     refine Iz (zZ ?_)
     refine jR (Fx Try.underlying20 rfl rfl (.inr ⟨90,V v,rfl,rfl⟩)) ?_
     refine go ?_
     refine jR (U5 Try.underlying90 rfl) ?_
     refine go ?_
     refine jR (Nc rfl) ?_
     refine lq (t_n b 1 [.bool true] rfl LD rfl rfl) fun w1 b=>?_
     refine jR (Kc rfl) ?_
     refine lq (t_n b 1 [V v] rfl mK rfl rfl) fun w2 b=>?_
     refine go ?_
     exact hJ _ _ ⟨⟨rfl,rfl,rfl,trivial⟩,b⟩
   · rw [hx]
     refine lJ [(0,Pt b13),(1,Pt b14),(2,Pt b12),(7,.iface 91 (V e))] ⟨rfl,rfl,rfl,rfl,trivial⟩ fun av=>?_
     refine oD ?_
     refine Iz (zZ ?_)
     refine jR (Fx Try.underlying20 rfl rfl (.inr ⟨91,V e,rfl,rfl⟩)) ?_
     refine go ?_
     refine VR Try.underlying90 WT rfl (by decide) fun z'=>?_
     refine go ?_
     refine jR (U5 Try.underlying91 rfl) ?_
     refine go ?_
     refine jR (KJ rfl) ?_
     refine lq (t_n b 1 [V e] rfl KO rfl rfl) fun w1 b=>?_
     refine go ?_
     exact hJ _ _ ⟨⟨rfl,rfl,rfl,trivial⟩,b⟩
   · rw [hx]
     refine lJ [(0,Pt b13),(1,Pt b14),(2,Pt b12),(7,.iface t y)] ⟨rfl,rfl,rfl,rfl,trivial⟩ fun av=>?_
     refine oD ?_
     refine Iz (zZ ?_)
     refine jR (Fx Try.underlying20 rfl rfl (.inr ⟨t,y,rfl,rfl⟩)) ?_
     refine go ?_
     refine VR Try.underlying90 WT rfl h90 fun z'=>?_
     refine go ?_
     refine VR Try.underlying91 Z5 rfl h91 fun z'=>?_
     refine go ?_
     refine jR (OC (.iface t y) rfl) ?_
     refine go ?_
     refine jR (KJ rfl) ?_
     refine lq (t_n b 1 [V 4] rfl KO rfl rfl) fun w1 b=>?_
     refine go ?_
     exact hJ _ _ ⟨⟨rfl,rfl,rfl,trivial⟩,b⟩
 rintro f w' ⟨hf,b⟩
 obtain ⟨av,rfl⟩:=gP _ _ hf
 clear hf
 refine uV (fun u=>mM u b14 86 #[Pt R.rb]∧mM u R.rb 89 (oJ R m ptrs.length (window hist R.fr R.mo).length hist.length out.length).toArray) (fun _=>True) [] (by kernel_rfl) ?_
 replace b:=b.drew
 have q1:mM w'.drew b14 86 #[Pt R.rb]∧mM w'.drew R.rb 89 (oJ R m ptrs.length (window hist R.fr R.mo).length hist.length out.length).toArray:=⟨b.bk 2 rfl,b.bk 3 rfl⟩
 refine uF 0 r (fun h=>DF r h.1 r) q1 (pF 1 r (xn r) q1 (pF 2 r (IE r) q1 (uF 3 r (fun h=>Om r h.2 r) q1 (uF 4 r (fun h=>DF r h.1 r) q1 (pF 5 r (xn r) q1 (pF 6 r (Jb r) q1 (uF 7 r (fun h=>UH r h.2 r) q1 ?_)))))))
 refine hO 8 (os r r (t_n b 0 [.slice m.eA (window hist R.fr R.mo).length m.eC] r MC r r) fun w2 b=>⟨sF ⟨b.bk 2 rfl,b.bk 3 rfl⟩,pF 9 r (QA r) ⟨b.bk 2 rfl,b.bk 3 rfl⟩ ?_⟩)
 refine hO 10 (os r r (t_n b 1 [.slice m.oA out.length m.oC] r Ak r r) fun w3 b=>⟨sF ⟨b.bk 2 rfl,b.bk 3 rfl⟩,hD ?_⟩)
 refine go ?_
 exact b
theorem JM {P:Program} {fn:Func} {d:Deferred} {fv:Fn} {cap:Array Value} {g:FuncId} {args:Array Value} {R:Ending→World→Prop} {f:Fr} {a:Act} {w:World} {M:Fz} {R1:World→Prop}
  (hT:d.target=.fn fv cap) (hi:(invoke d.target d.args).run P w=.ok (.enter g args) w) (hc:CallsD P g args .returning w (RD .returning R1 (fun _ _=>False)))
  (h:∀ w',R1 w'→Reads P fn (fun v w'=>R (.returned v) w') f w') (ha:Ck M f a):Leaves P fn a.tmps R [d] .returning w:=by
 refine ⟨by simp,fv,cap,g,args,hT,hi,?_⟩
 intro c cs hu
 obtain ⟨e,u',w',fr,h1,h2,h3⟩:=hc c cs hu
 refine ⟨e,u',w',fr,?_,h2,h3⟩
 cases e with
 | returned v=>
  obtain ⟨rfl,h1⟩:=h1
  have h:=h w' h1
  unfold Reads at h
  obtain ⟨v2,hv,hR⟩:=h a.tmps ha.get
  exact ⟨v2,hv,hR⟩
 | panicked c=>exact h1.2.elim
 | outgrown=>exact h1.elim
theorem Vn {ρ:Operand→Value} {w:World} {d:Option Nat} {ty:TypeId} {pos:String} {af:Array Edge} {g:Option (Nat × Bool)} {x:Operand} {n:Int} (h:ρ x=V n):Yl Try.prog ρ (.build 39 #[(0,x)]) d ty pos af g w (.agg #[V n,.bool false,V 0,sn]):=by
 have e:(Instr.build 39 #[(0,V n)]).run Try.prog w=.ok (.agg #[V n,.bool false,V 0,sn]) w:=by kernel_rfl
 simp [Yl,execOp,h,e]
theorem XB {ρ:Operand→Value} {w:World} {d:Option Nat} {ty:TypeId} {pos:String} {af:Array Edge} {g:Option (Nat × Bool)} {x y z u:Operand} {n m k:Int} {s1 s2 s3 s4:Option Addr} {n1 n2 n3 n4 c1 c2 c3 c4:Nat} (h:ρ x=.agg #[.slice s1 n1 c1,.slice s2 n2 c2,.slice s3 n3 c3,.slice s4 n4 c4]) (h1:ρ y=V n) (h2:ρ z=V m) (h3:ρ u=V k) :
  Yl Try.prog ρ (.build 89 #[(0,x),(3,y),(4,z),(5,u)]) d ty pos af g w (.agg #[.slice s1 n1 c1,.slice s2 n2 c2,.slice s3 n3 c3,.slice s4 n4 c4,sn,V 0,V n,V m,V k,sn,sn]):=by
 have e:(Instr.build 89 #[(0,.agg #[.slice s1 n1 c1,.slice s2 n2 c2,.slice s3 n3 c3,.slice s4 n4 c4]),(3,V n),(4,V m),(5,V k)]).run Try.prog w=.ok (.agg #[.slice s1 n1 c1,.slice s2 n2 c2,.slice s3 n3 c3,.slice s4 n4 c4,sn,V 0,V n,V m,V k,sn,sn]) w:=by kernel_rfl
 simp [Yl,execOp,h,h1,h2,h3,e]
def X8 (fu:Nat) (s:jQ) (f:Int) (args:List Int) (n fr mo:Int) (R:List kI × nL):Prop:=
 (0≤n∧n≤5000)∧0≤fr∧(0≤mo∧mo≤100)∧(Ef (stM (jO fu s) s n.toNat fu) s [] f args [] []).bind (fun (p,h,o)=>some (window h fr.toNat mo.toNat,match p with
  | .ok v=>(⟨0,false,v,o⟩:nL)
  | .Ey v=>⟨0,true,v,o⟩
  | .err e=>⟨e,false,0,o⟩
  | .rt=>⟨4,false,0,o⟩))=some R
theorem SH {fu:Nat} {s:jQ} {f:Int} {args:List Int} {n fr mo:Int} {R:List kI × nL} (h:nK fu s f args n fr mo=some R) :
  (¬ (0≤f∧f < s.a.b.length)∧R=([],⟨1,false,0,[]⟩)) ∨ ∃ k fn,f=((k:Nat):Int)∧s.a.b[k]?=some fn∧
    ((¬ (args.length:Int)=fn.a.length ∨ n < 0 ∨ 5000 < n ∨ fr < 0 ∨ mo < 0 ∨ 100 < mo)∧R=([],⟨1,false,0,[]⟩) ∨ (¬ (¬ (args.length:Int)=fn.a.length ∨ n < 0 ∨ 5000 < n ∨ fr < 0 ∨ mo < 0 ∨ 100 < mo))∧X8 fu s f args n fr mo R):=by
 unfold nK traceM at h
 cases hf:ix? s.a.b f with
 | none=>rw [hf] at h;exact .inl ⟨Ai hf,(sm h).symm⟩
 | some fn=>
  rw [hf] at h
  obtain ⟨k,hk,hfn⟩:=VE hf
  refine .inr ⟨k,fn,hk,hfn,?_⟩
  rcases mR h with ⟨hc,h⟩|⟨hc,h⟩
  · exact .inl ⟨by omega,(sm h).symm⟩
  · exact .inr ⟨by omega,⟨by omega,by omega⟩,by omega,⟨by omega,by omega⟩,h⟩
theorem pQ (fu:Nat):Er (nK fu):=by
 intro w0 Y s f args n fr mo a1 c1 a2 c2 a3 c3 a4 c4 a c R hP hM
 have b:=hP.bx
 clear hP
 generalize hG:lK []=G at b ⊢
 replace hM:=SH hM
 obtain ⟨ev,out⟩:=R
 have key:Calls Try.prog 17 #[.agg #[Z a1 s.a.a c1,Z a2 s.a.b c2,Z a3 s.b c3,Z a4 s.c c4],V f,Z a args c,V n,V fr,V mo] w0
    (RP (fun v w'=>∃ o p t u,v=.tuple #[.slice o ev.length p,.agg #[V out.d,.bool out.b,V out.c,.slice t out.a.length u]]∧Bx w0 w' Y G [] [.l o p ev,.l t u out.a]) (fun _ _=>False)):=by
  refine Ht Try.func17 rfl ?_
  refine NN [(0,.agg #[Z a1 s.a.a c1,Z a2 s.a.b c2,Z a3 s.b c3,Z a4 s.c c4]),(1,V f),(2,Z a args c),(3,V n),(4,V fr),(5,V mo)] ⟨rfl,rfl,rfl,rfl,rfl,rfl,trivial⟩ fun av=>?_
  refine Nq (zZ ?_)
  refine tF b (xG rfl) fun w1 b6 b=>?_
  refine tF b (jW MC) fun w2 b12 b=>?_
  refine tF b (jW zO) fun w3 b13 b=>?_
  refine LX ?_
  have hbd:=(b.dl 4 rfl).bd
  refine Wo (R:=fun f w'=>Reads Try.prog Try.f17 (fun v w'=>∃ o p t u,v=.tuple #[.slice o ev.length p,.agg #[V out.d,.bool out.b,V out.c,.slice t out.a.length u]]∧Bx w0 w' Y G [] [.l o p ev,.l t u out.a]) f w') (X:=fun _ _ _=>False) (V:=fun _ _ _=>False) ?_ (fun e a w q=>?_)
  rotate_left
  · cases e with
    | ret=>
      obtain ⟨f,h1,h2⟩:=q
      show Leaves Try.prog Try.f17 a.tmps _ a.defers .returning w
      rw [h1.dfr]
      unfold Reads at h2
      obtain ⟨v,hv,hR⟩:=h2 a.tmps h1.get
      exact ⟨v,hv,hR⟩
    | normal=>obtain ⟨f,h1,h2⟩:=q;exact h2.elim
    | exit i=>obtain ⟨f,h1,h2⟩:=q;exact h2.elim
    | panic c=>obtain ⟨f,h1,h2⟩:=q;exact h2.elim
    | _=>exact q.elim
  refine Iz (nV (fun f' w'=>w'=w3∧∃ q:Bool,Has f' [(1,V f),(2,Z a args c),(3,V n),(4,V fr),(5,V mo),(6,Pt b6),(12,Pt b12),(13,Pt b13),(57,.bool q)]∧(q=true→(ev,out)=([],⟨1,false,0,[]⟩))∧(q=false→X8 fu s f args n fr mo (ev,out))) (fun J hJ=>?_) ?_)
  · refine zZ ?_
    have hE:¬ (0≤f∧f < s.a.b.length)→(ev,out)=([],⟨1,false,0,[]⟩):=fun h=>by
      rcases hM with ⟨_,h⟩|⟨k,fn,hk,hfn,_⟩
      · exact h
      · have:=kU hfn;omega
    refine goB b ?_
    by_cases h0:f < 0
    · rw [decide_eq_true h0]
      refine goB b ?_
      exact hJ _ _ ⟨rfl,true,⟨rfl,rfl,rfl,rfl,rfl,rfl,rfl,rfl,rfl,trivial⟩,fun _=>hE (by omega),fun h=>by cases h⟩
    rw [decide_eq_false h0]
    refine goB b ?_
    by_cases h1:(s.a.b.length:Int)≤f
    · rw [decide_eq_true h1]
      refine goB b ?_
      exact hJ _ _ ⟨rfl,true,⟨rfl,rfl,rfl,rfl,rfl,rfl,rfl,rfl,rfl,trivial⟩,fun _=>hE (by omega),fun h=>by cases h⟩
    rw [decide_eq_false h1]
    clear hE
    rcases hM with ⟨h2,_⟩|⟨k,fn,rfl,hfn,hM⟩
    · exact (h2 ⟨by omega,by omega⟩).elim
    obtain ⟨cs0,hr0,b0⟩:=b.nm 1 rfl hfn
    obtain ⟨a5,c5,a6,c6,rfl,h5,h6⟩:=nH.out hr0
    have hE:(¬ (args.length:Int)=fn.a.length ∨ n < 0 ∨ 5000 < n ∨ fr < 0 ∨ mo < 0 ∨ 100 < mo)→(ev,out)=([],⟨1,false,0,[]⟩):=fun h=>by
      rcases hM with ⟨_,h⟩|⟨h',_⟩
      · exact h
      · exact absurd h h'
    refine goB b ?_
    refine jR (kV Try.underlying24 nT rfl rfl rfl (b.dl 1 rfl) hfn) ?_
    refine goB b ?_
    refine jR (jM Try.underlying70 rfl rfl ((b0.dc 0 rfl) 2 _ rfl)) ?_
    refine goB b ?_
    by_cases h2:¬ (args.length:Int)=fn.a.length
    · rw [decide_eq_true (p:=(args.length:Int)≠fn.a.length) h2]
      refine goB b ?_
      exact hJ _ _ ⟨rfl,true,⟨rfl,rfl,rfl,rfl,rfl,rfl,rfl,rfl,rfl,trivial⟩,fun _=>hE (.inl h2),fun h=>by cases h⟩
    rw [decide_eq_false (p:=(args.length:Int)≠fn.a.length) h2]
    refine goB b ?_
    by_cases h3:n < 0
    · rw [decide_eq_true h3]
      refine goB b ?_
      exact hJ _ _ ⟨rfl,true,⟨rfl,rfl,rfl,rfl,rfl,rfl,rfl,rfl,rfl,trivial⟩,fun _=>hE (by omega),fun h=>by cases h⟩
    rw [decide_eq_false h3]
    refine goB b ?_
    by_cases h4:5000 < n
    · rw [decide_eq_true h4]
      refine goB b ?_
      exact hJ _ _ ⟨rfl,true,⟨rfl,rfl,rfl,rfl,rfl,rfl,rfl,rfl,rfl,trivial⟩,fun _=>hE (by omega),fun h=>by cases h⟩
    rw [decide_eq_false h4]
    refine goB b ?_
    by_cases h5:fr < 0
    · rw [decide_eq_true h5]
      refine goB b ?_
      exact hJ _ _ ⟨rfl,true,⟨rfl,rfl,rfl,rfl,rfl,rfl,rfl,rfl,rfl,trivial⟩,fun _=>hE (by omega),fun h=>by cases h⟩
    rw [decide_eq_false h5]
    refine goB b ?_
    by_cases h6:mo < 0
    · rw [decide_eq_true h6]
      refine goB b ?_
      exact hJ _ _ ⟨rfl,true,⟨rfl,rfl,rfl,rfl,rfl,rfl,rfl,rfl,rfl,trivial⟩,fun _=>hE (by omega),fun h=>by cases h⟩
    rw [decide_eq_false h6]
    refine goB b ?_
    by_cases h7:100 < mo
    · rw [decide_eq_true h7]
      refine goB b ?_
      exact hJ _ _ ⟨rfl,true,⟨rfl,rfl,rfl,rfl,rfl,rfl,rfl,rfl,rfl,trivial⟩,fun _=>hE (by omega),fun h=>by cases h⟩
    rw [decide_eq_false h7]
    refine goB b ?_
    refine hJ _ _ ⟨rfl,false,⟨rfl,rfl,rfl,rfl,rfl,rfl,rfl,rfl,rfl,trivial⟩,fun h=>(by cases h),fun _=>?_⟩
    rcases hM with ⟨h,_⟩|⟨_,h⟩
    · omega
    · exact h
  rintro f' w' ⟨rfl,q,hf,hT,hF⟩
  obtain ⟨av,rfl⟩:=gP _ _ hf
  clear hf hM
  cases q with
  | true=>
    obtain ⟨rfl,rfl⟩:=Prod.mk.inj (hT rfl)
    refine jK rfl ?_
    refine Iz (zZ ?_)
    refine jR (Vn rfl) ?_
    refine lq (t_n b 1 [sn] rfl MC rfl rfl) fun w4 b=>?_
    refine lq (t_n b 0 [V 1,.bool false,V 0,sn] rfl zO rfl rfl) fun w5 b=>?_
    refine LX ?_
    refine kS ?_
    refine qb (fn:=Try.f17) rfl (Q6 rfl (fun ρ h=>Om h (b.bk 1 rfl) rfl) (b.bk 1 rfl)) (Q6 rfl (fun ρ h=>mY [V 1,.bool false,V 0,sn] P7 zO h (b.bk 0 rfl)) (b.bk 0 rfl)) ?_
    exact ⟨none,0,none,0,rfl,((b.arr [] rfl).kr (d:=.l none 0 ([]:List Int)) kL.nil).kr (d:=.l none 0 ([]:List kI)) kL.nil |>.dp [0,1]⟩
  | false=>
  refine jD rfl (FY ?_)
  clear hT
  obtain ⟨hn,hfr,hmo,hA⟩:=hF rfl
  clear hF
  obtain ⟨N,rfl⟩:∃ N:Nat,n=(N:Int):=⟨n.toNat,by omega⟩
  obtain ⟨F,rfl⟩:∃ F:Nat,fr=(F:Int):=⟨fr.toNat,by omega⟩
  obtain ⟨M,rfl⟩:∃ M:Nat,mo=(M:Int):=⟨mo.toNat,by omega⟩
  rw [Int.toNat_natCast,Int.toNat_natCast,Int.toNat_natCast] at hA
  obtain ⟨⟨p,h,o⟩,hc,hA⟩:=bs hA
  dsimp only at hA
  refine Nq (zZ ?_)
  refine jR (mY [Z a1 s.a.a c1,Z a2 s.a.b c2,Z a3 s.b c3,Z a4 s.c c4] DW vZ rfl (b.bk 2 rfl)) ?_
  refine goB b ?_
  refine jR (XB rfl rfl rfl rfl) ?_
  refine tF b (xG rfl) fun w4 b89 b=>?_
  refine tF b (jW YB) fun w5 b14 b=>?_
  refine lq (t_n b 0 [Pt b89] rfl YB rfl rfl) fun w6 b=>?_
  refine LX ?_
  replace b:=((b.BU kI 50).BU Int 3).owN 117 1
  replace b:=(b.arr [6,5,3,4,0,2,1] rfl).dp [1,0,2,3,4,5,6]
  let R:Rn:=⟨w0.heap.size,b89,⟨a1,c1,a2,c2,a3,c3,a4,c4⟩,s,N,F,M⟩
  let m:Gc:=⟨none,0,none,0,[],none,0,[]⟩
  have hw:window ([]:List kI) F M=[]:=by simp [window]
  replace b:Bx w0 w6 Y G (VJ R b12 b13 b14 sn [V 0,.bool false,V 0,sn] ++ (Mac R m [] [] [] ++ [])) (tN R m [] [] ++ [.l a c args]):=by
    show Bx w0 w6 Y G (VJ R b12 b13 b14 sn [V 0,.bool false,V 0,sn] ++ ([.box b89 89 (oJ R m 0 (window ([]:List kI) F M).length 0 0).toArray,.own R.B none 0 117 1 [],.own R.B none 0 50 (Rp.sz kI) [],.own R.B none 0 3 (Rp.sz Int) []] ++ [])) ([.els [] (window ([]:List kI) F M),.els [] ([]:List Int),.l a1 c1 s.a.a,.l a2 c2 s.a.b,.l a3 c3 s.b,.l a4 c4 s.c] ++ [.l a c args])
    rw [hw]
    exact b
  refine NN [(1,V f),(2,Z a args c),(12,Pt b12),(13,Pt b13),(14,Pt b14)] ⟨rfl,rfl,rfl,rfl,rfl,trivial⟩ fun av2=>?_
  refine O6 (V7 (vs:=[Pt b13,Pt b14,Pt b12]) rfl) (X3 rfl) ?_
  refine Tp (Q:=⟨fun _ _=>False,fun _ _ _=>False,fun f w'=>(f 12=Pt b12∧f 13=Pt b13)∧∃ v m',p=.ok v∧Bx w0 w' Y G (VJ R b12 b13 b14 sn [V 0,.bool false,V v,sn] ++ (Mac R m' [] h o ++ [])) (tN R m' h o),
    fun f ch w'=>(f 12=Pt b12∧f 13=Pt b13)∧Pb p ch∧∃ more m',Bx w0 w' Y G (VJ R b12 b13 b14 sn [V 0,.bool false,V 0,sn] ++ (Mac R m' more h o ++ [])) (tN R m' h o)⟩) ?_ ?_
  · refine Iz (zZ ?_)
    refine jR (DF rfl (b.bk 2 rfl) rfl) ?_
    refine goB b ?_
    have hCl:Zq R (stM (jO fu R.src) R.src R.st fu):=NK (NC (cst ⟨by show N≤5000;omega,by show M≤100;omega⟩ fu))
    have hq:=hCl (b.pr [3,4,5,6] [0,1,2] [6,0,1,2,3,4,5] rfl) (xs:=[]) (gs:=[]) trivial b.q9.size rfl (Nat.zero_le _) hc
    refine IZ (pY Pq rfl) hq (fun ch w7 hq=>?_) ?_
    · obtain ⟨hq,more,m4,hK⟩:=hq
      have hb:=b.cn [3,4,5,6] [0,1,2] hK
      exact ⟨⟨rfl,rfl⟩,hq,more,m4,(hb.arr [4,5,6,0,1,2,3] rfl).dp [0,1,2,3,4,5]⟩
    rintro _ w7 ⟨v,rfl,rfl,m4,hK⟩
    replace b:=b.cn [3,4,5,6] [0,1,2] hK
    replace b:=(b.arr [4,5,6,0,1,2,3] rfl).dp [0,1,2,3,4,5]
    refine jR (Kc rfl) ?_
    refine lq (t_n b 1 [V v] rfl mK rfl rfl) fun w8 b=>?_
    refine go ?_
    refine uV (fun u=>mM u b12 36 #[sn]∧mM u b13 39 #[V 0,.bool false,V v,sn]) (fun _=>True) [] (by kernel_rfl) ?_
    replace b:=b.drew
    refine uF 0 r (fun h=>Om r h.1 r) ⟨b.bk 0 rfl,b.bk 1 rfl⟩ (uF 1 r (fun h=>mY [V 0,.bool false,V v,sn] P7 zO r h.2) ⟨b.bk 0 rfl,b.bk 1 rfl⟩ ?_)
    refine hO 2 (os r r (t_n b 0 [sn] r MC r r) fun w9 b=>⟨sF ⟨b.bk 0 rfl,b.bk 1 rfl⟩,?_⟩)
    refine hO 3 (os r r (t_n b 1 [V 0,.bool false,V v,sn] r zO r r) fun w10 b=>⟨sF ⟨b.bk 0 rfl,b.bk 1 rfl⟩,hD ?_⟩)
    refine go ?_
    refine kS ?_
    exact ⟨⟨rfl,rfl⟩,v,m4,rfl,b⟩
  · have fin:∀ {f:Fr} {w':World} {m':Gc} {more:List Nat} {e v:Int} {th:Bool},f 12=Pt b12→f 13=Pt b13→(window h F M,(⟨e,th,v,o⟩:nL))=(ev,out)→Bx w0 w' Y G (Tro R m' h o b12 b13 b14 e th v ++ (Mac R m' more h o ++ [])) (tN R m' h o)→
        Reads Try.prog Try.f17 (fun v w'=>∃ o p t u,v=.tuple #[.slice o ev.length p,.agg #[V out.d,.bool out.b,V out.c,.slice t out.a.length u]]∧Bx w0 w' Y G [] [.l o p ev,.l t u out.a]) f w':=fun {f w' m' more e v th} h12 h13 he b=>by
      obtain ⟨rfl,rfl⟩:=Prod.mk.inj he
      refine qb (fn:=Try.f17) rfl (Q6 h12 (fun ρ h=>Om h (b.bk 0 rfl) rfl) (b.bk 0 rfl)) (Q6 h13 (fun ρ h'=>mY [V e,.bool th,V v,.slice m'.oA o.length m'.oC] P7 zO h' (b.bk 1 rfl)) (b.bk 1 rfl)) ?_
      exact ⟨_,_,_,_,rfl,((b.PL 5 0 rfl rfl).PL 5 1 rfl rfl).ad [] [1,0]⟩
    intro e a1' w1' q
    cases e with
    | normal=>obtain ⟨f,h1,h2⟩:=q;exact h2.elim
    | exit i=>obtain ⟨f,h1,h2⟩:=q;exact h2.elim
    | ret=>
      obtain ⟨f,h1,⟨h12,h13⟩,v,m',rfl,b⟩:=q
      show Leaves Try.prog Try.f17 a1'.tmps _ a1'.defers .returning w1'
      rw [h1.dfr]
      exact JM rfl rfl (M8 b (.inl ⟨rfl,rfl,rfl,rfl⟩)) (fun w2 b=>fin h12 h13 (sm hA) b) h1
    | panic ch=>
      obtain ⟨f,h1,⟨h12,h13⟩,hq,more,m',b⟩:=q
      show Leaves Try.prog Try.f17 a1'.tmps _ a1'.defers (.panicking ch) w1'
      rw [h1.dfr]
      cases p with
      | ok v=>exact hq.elim
      | Ey v=>
        obtain ⟨lc,rfl,hlc⟩:=hq
        exact zD rfl rfl hlc (M8 b (.inr (.inl ⟨v,rfl,rfl,rfl,rfl⟩))) (fun w2 b=>fin h12 h13 (sm hA) b) (fun c w' h=>h.elim) h1
      | err v=>
        obtain ⟨lc,rfl,hlc⟩:=hq
        exact zD rfl rfl hlc (M8 b (.inr (.inr (.inl ⟨v,rfl,rfl,rfl,rfl⟩)))) (fun w2 b=>fin h12 h13 (sm hA) b) (fun c w' h=>h.elim) h1
      | rt=>
        obtain ⟨u,lc,rfl,hlc⟩:=hq
        exact zD rfl rfl hlc (M8 b (.inr (.inr (.inr ⟨_,_,rfl,by decide,by decide,rfl,rfl,rfl⟩)))) (fun w2 b=>fin h12 h13 (sm hA) b) (fun c w' h=>h.elim) h1
    | _=>exact q.elim
 exact key.mono fun e w he=>by
  cases e with
  | returned v=>exact ⟨v,rfl,he⟩
  | panicked c=>exact he.elim
  | outgrown=>exact he.elim
end Go.Proofs.Ytfglbdkfnphjgaa
set_option linter.unusedVariables false
set_option maxHeartbeats 12800000
set_option linter.unusedSimpArgs false
set_option maxRecDepth 4000
namespace Go.Proofs.Ytfglbdkfnphjgaa
open Go.RowKit Go.Fw
noncomputable section
def GI (m:BA→Option (jQ)):Prop:=∀ {k:World} {p:Nat→Prop} {o:BA}  {j:jQ},Pre k p [] []→m o=some j→
 Calls Try.prog 37 #[T o] k (qx fun v w=>∃ (a:OA)(b:Nat)(c:OA)(d:Nat)(e:OA)(f:Nat)(h:OA)(i:Nat),v=.agg #[Z a j.a.a b,Z c j.a.b d,Z e j.b f,Z h j.c i]∧Bx k w p (lK []) [] [.l a b j.a.a,.l c d j.a.b,.l e f j.b,.l h i j.c])
def AR (fu:Nat)(h:BA):Option (jQ):=
 (vS fu h).bind fun i=>
 jy i fun a i=>jy i fun c d=>
 (vT fu a).bind fun i=>
 jy i fun b i=>jy i fun e f=>
 some b
theorem Gz (fu:Nat):GI (AR fu):=by
 intro H Y C I w u
 unfold AR at u
 have k:=w.bx
 clear w
 generalize J:lK _=G at k ⊢
 refine cf Try.func37 r ?_
 refine lJ [(0,T C)] ⟨r,y⟩ fun a0=>?_
 refine q (g (nO (nG k (jW vZ)) ?_))
 rintro _ K ⟨L,rfl,k⟩
 refine n (q (g (s (kZ r) ?_)))
 obtain ⟨⟨t,x,z⟩,D,u⟩:=bs u
 replace u:=pi u
 replace u:=pi u
 have hc:=(Dn fu) (k.pr [] [0] [] r)  D
 refine sc (ec TK r) hc ?_
 rintro _ M ⟨l,m,o,p,rfl,v⟩
 replace k:=k.cl [] [0] r v r
 try dsimp only [pick,nth,ca,na] at k
 refine s rQ (s (jX r r) (s (jX r r) (s (jX r r) (nO (nG k (jW sD)) ?_))))
 rintro _ N ⟨Q,rfl,k⟩
 refine lq (tb k 0 [Z l t.a m,Z o t.b p] r sD r r r r r (show _=#[Z l t.a m,Z o t.b p] from r)) ?_
 intro R k
 try dsimp only [List.set] at k
 refine s (xi r) (s (xi r) (n (q (g (s (nE [Z l t.a m,Z o t.b p] Cx r sD r r (Cells.part (k.bk 0 r).cells (o2:=0) r)) ?_)))))
 obtain ⟨⟨a,A,B⟩,F,u⟩:=bs u
 replace u:=pi u
 replace u:=pi u
 have hc:=(Di fu) (k.pr [] [0,1] [0,1] r)  F
 refine sc (ec Tw r) hc ?_
 rintro _ S ⟨b,c,d,e,f,h,i,j,rfl,v⟩
 replace k:=k.cl [] [0,1] r v r
 try dsimp only [pick,nth,ca,na] at k
 refine s rQ (s (jX r r) (s (jX r r) (s (jX r r) (nO (nG k (jW vZ)) ?_))))
 rintro _ U ⟨W,rfl,k⟩
 refine lq (tb k 0 [Z b a.a.a c,Z d a.a.b e,Z f a.b h,Z i a.c j] r vZ r r r r r (show _=#[Z b a.a.a c,Z d a.a.b e,Z f a.b h,Z i a.c j] from r)) ?_
 intro X k
 try dsimp only [List.set] at k
 refine s (xi r) (s (xi r) (n (q (g (s (nE [Z b a.a.a c,Z d a.a.b e,Z f a.b h,Z i a.c j] DW r vZ r r (Cells.part (k.bk 0 r).cells (o2:=0) r)) (lq (tb k 2 [Z b a.a.a c,Z d a.a.b e,Z f a.b h,Z i a.c j] r vZ r r r r r (show _=#[Z b a.a.a c,Z d a.a.b e,Z f a.b h,Z i a.c j] from r)) ?_))))))
 intro w8 k
 try dsimp only [List.set] at k
 refine n (kS ?_)
 obtain rfl:=sm u
 refine jB r (tK r DW r vZ r (k.bk 2 r)) ?_
 exact ⟨b,c,d,e,f,h,i,j,r,(k.ad [] [0,1,2,3])⟩
def Im (m:Option (Bool)):Prop:=∀ {a:World} {c:Nat→Prop}  {b:Bool},Pre a c [] []→m=some b→
 Calls Try.prog 14 #[] a (qx fun v w=>v=.bool b∧Bx a w c (lK []) [] [])
def yT (fu:Nat):Option (Bool):=
 (AR fu (⟨#[102,117,110,99,32,102,40,97,41,32,123,32,97,32,61,32,97,32,43,32,49,59,32,114,101,116,117,114,110,32,97,59,32,125]⟩:BA)).bind fun c=>
 (nK fu c 0 ([4]:List Int) 10 0 10).bind fun i=>
 jy i fun b a=>
 if a.d=0 then
  if a.c=5 then
   if (!a.b)=true then
    if (b.length:Int)=2 then
     (ix b 1).bind fun d=>
     if (d.a.length:Int)=1 then
      (ix d.a 0).bind fun e=>
      if (e.b.length:Int)=1 then
       (ix e.b 0).bind fun f=>
       (ix f.a 0).bind fun h=>
       some (decide (h=5))
      else
       some false
     else
      some false
    else
     some false
   else
    some false
  else
   some false
 else
  some false
theorem CJ (fu:Nat):Im (yT fu):=by
 intro w0 aD r0 hP b
 unfold yT at b
 have a:=hP.bx
 clear hP
 generalize hG:lK _=G at a ⊢
 refine cf Try.func14 r ?_
 refine lJ [] y fun aE=>?_
 refine q (g (s (jZ r) (n (q (g ?_)))))
 obtain ⟨ag,h1,b⟩:=bs b
 have hc:=(Gz fu) (a.pr [] [] [] r)  h1
 refine sc (ec Xn r) hc ?_
 rintro _ w1 ⟨M,N,Q,R,S,U,W,X,rfl,hK⟩
 replace a:=a.cl [] [] r hK r
 try dsimp only [pick,nth,ca,na] at a
 refine nO (jL a [[V 4]] ([4]:List Int) (Am r) r r (by decide) ⟨r,y⟩) ?_
 rintro _ w2 ⟨b2,rfl,a⟩
 replace a:=a.PL 0 0 r r
 try dsimp only [List.eraseIdx] at a
 obtain ⟨⟨ah,c⟩,h4,b⟩:=bs b
 replace b:=pi b
 have hc:=(pQ fu) (a.pr [] [] [1,2,3,4,0] r)  h4
 refine sc (ec FM r) hc ?_
 rintro _ w4 ⟨Y,a0,f,j,rfl,hK⟩
 replace a:=a.cl [] [] r hK r
 try dsimp only [pick,nth,ca,na] at a
 refine s rQ (s (jX r r) (s (jX r r) (nO (nG a (jW zO)) ?_)))
 rintro _ w5 ⟨b5,rfl,a⟩
 refine s (mO r) (lq (tb a 0 [V c.d,.bool c.b,V c.c,Z f c.a j] r zO r r r r r (show _=#[V c.d,.bool c.b,V c.c,Z f c.a j] from r)) ?_)
 intro w6 a
 try dsimp only [List.set] at a
 refine n (q (g (s (KJ r) (s (Bf r (a.bk 0 r) r) (s (kF r r) (s (kM r) ?_))))))
 rcases iv b with ⟨h7,b⟩|⟨h7,b⟩
 ·rw [decide_eq_true h7]
  refine ko r (s (Kc r) (ko r (s (l3 r (a.bk 0 r) r) (ko r (s (kF r r) (s (kC r r) (s (kM r) ?_)))))))
  rcases iv b with ⟨h8,b⟩|⟨h8,b⟩
  ·rw [decide_eq_true h8]
   refine ko r (s (Nc r) (ko r (s (l4 r (a.bk 0 r) r) (ko r (s (zL r) (s (kC r r) (s (kM r) ?_)))))))
   rcases iv b with ⟨h9,b⟩|⟨h9,b⟩
   ·rw [h9]
    refine ko r (s (l6 r) (ko r (s (lu Cg r) (ko r (s (kF r r) (s (kC r r) (s (kM r) ?_)))))))
    rcases iv b with ⟨v,b⟩|⟨v,b⟩
    ·rw [decide_eq_true v]
     refine ko r (s (l6 r) ?_)
     obtain ⟨ab,e,b⟩:=bs b
     obtain ⟨an,t,e⟩:=kH e
     obtain ⟨ai,a2,a⟩:=a.nm 0 rfl e
     obtain ⟨w,x,rfl,z⟩:=kI.out a2
     replace a:=a.kr (d:=.l w x ab.a) z
     refine ko r (s (kV Cg Ei r r t (a.dl 2 r) e) (ko r (s (D6 r) (ko r (s (jM BK r r ((a.dc 1 r) 0 _ r)) (ko r (s (lu BK r) (ko r (s (kF r r) (s (kC r r) (s (kM r) ?_)))))))))))
     rcases iv b with ⟨A,b⟩|⟨A,b⟩
     ·rw [decide_eq_true A]
      refine ko r (s (l6 r) (ko r (s (kV Cg Ei r r t (a.dl 2 r) e) (ko r (s (D6 r) (ko r (s (jM BK r r ((a.dc 1 r) 0 _ r)) ?_)))))))
      obtain ⟨ac,m,b⟩:=bs b
      obtain ⟨ao,u,m⟩:=kH m
      obtain ⟨aj,a3,a⟩:=a.nm 0 rfl m
      obtain ⟨B,C,rfl,D⟩:=nI.out a3
      replace a:=a.kr (d:=.l B C ac.b) D
      refine ko r (s (kV BK Dy r r u (a.dl 2 r) m) (ko r (s (Bj r) (ko r (s (jM DC r r ((a.dc 1 r) 2 _ r)) (ko r (s (lu DC r) (ko r (s (kF r r) (s (kC r r) (s (kM r) ?_)))))))))))
      rcases iv b with ⟨E,b⟩|⟨E,b⟩
      ·rw [decide_eq_true E]
       refine ko r (s (l6 r) (ko r (s (kV Cg Ei r r t (a.dl 4 r) e) (ko r (s (D6 r) (ko r (s (jM BK r r ((a.dc 3 r) 0 _ r)) (ko r (s (kV BK Dy r r u (a.dl 2 r) m) (ko r (s (Bj r) (ko r (s (jM DC r r ((a.dc 1 r) 2 _ r)) ?_)))))))))))))
       obtain ⟨a4,o,b⟩:=bs b
       obtain ⟨ap,a5,o⟩:=kH o
       obtain ⟨ak,a6,a⟩:=a.nm 0 rfl o
       obtain ⟨F,H,I,J,rfl,K,L⟩:=rT.out a6
       replace a:=a.kr (d:=.l F H a4.b) K
       replace a:=a.kr (d:=.l I J a4.a) L
       refine ko r (s (kV DC Ka r r a5 (a.dl 3 r) o) (ko r (s (Pw r) (ko r (s (jM sG r r ((a.dc 2 r) 2 _ r)) ?_)))))
       obtain ⟨ae,p,b⟩:=bs b
       obtain ⟨aq,a7,p⟩:=kH p
       refine ko r (s (kV sG mK r r a7 (a.dl 0 r) p) (ko r (s (jM EK r r ((uG (ds:=[V ae]) (a.dl 0 r) p (fun _ h=>h)) 0 _ r)) (ko r (s (kF r r) (s (kC r r) (s (jZ r) (n (kS ?_)))))))))
       obtain rfl:=sm b
       refine jB r (kW r) ?_
       exact ⟨r,(a.ad [] [])⟩
      rw [decide_eq_false E]
      refine jH r (jH r (jH r (jH r (jH r (jH r (jH r (jH r (jH r (jH r (jH r (jH r (jH r (s (jY r r) ?_)))))))))))))
      refine s (jZ r) (n (kS ?_))
      obtain rfl:=sm b
      refine jB r (kW r) ?_
      exact ⟨r,(a.ad [] [])⟩
     rw [decide_eq_false A]
     refine jH r (jH r (jH r (jH r (jH r (jH r (jH r (jH r (jH r (s (jY r r) (s (kM r) (jH r (jH r (jH r ?_)))))))))))))
     refine jH r (jH r (jH r (jH r (jH r (jH r (jH r (jH r (jH r (jH r (s (jY r r) (s (jZ r) (n (kS ?_)))))))))))))
     obtain rfl:=sm b
     refine jB r (kW r) ?_
     exact ⟨r,(a.ad [] [])⟩
    rw [decide_eq_false v]
    refine jH r (jH r (jH r (jH r (jH r (jH r (s (jY r r) (s (kM r) (jH r (jH r (jH r (jH r (jH r (jH r ?_)))))))))))))
    refine jH r (jH r (jH r (s (jY r r) (s (kM r) (jH r (jH r (jH r (jH r (jH r (jH r (jH r (jH r (jH r ?_)))))))))))))
    refine jH r (jH r (jH r (jH r (s (jY r r) (s (jZ r) (n (kS ?_)))))))
    obtain rfl:=sm b
    refine jB r (kW r) ?_
    exact ⟨r,(a.ad [] [])⟩
   replace h9:=nt h9
   rw [h9]
   refine jH r (jH r (jH r (s (jY r r) (s (kM r) (jH r (jH r (jH r (jH r (jH r (jH r (s (jY r r) (s (kM r) (jH r ?_)))))))))))))
   refine jH r (jH r (jH r (jH r (jH r (jH r (jH r (jH r (s (jY r r) (s (kM r) (jH r (jH r (jH r (jH r ?_)))))))))))))
   refine jH r (jH r (jH r (jH r (jH r (jH r (jH r (jH r (jH r (s (jY r r) (s (jZ r) (n (kS ?_))))))))))))
   obtain rfl:=sm b
   refine jB r (kW r) ?_
   exact ⟨r,(a.ad [] [])⟩
  rw [decide_eq_false h8]
  refine jH r (jH r (jH r (s (jY r r) (s (kM r) (jH r (jH r (jH r (s (jY r r) (s (kM r) (jH r (jH r (jH r (jH r ?_)))))))))))))
  refine jH r (jH r (s (jY r r) (s (kM r) (jH r (jH r (jH r (jH r (jH r (jH r (jH r (jH r (jH r (s (jY r r) ?_)))))))))))))
  refine s (kM r) (jH r (jH r (jH r (jH r (jH r (jH r (jH r (jH r (jH r (jH r (jH r (jH r (jH r ?_)))))))))))))
  refine s (jY r r) (s (jZ r) (n (kS ?_)))
  obtain rfl:=sm b
  refine jB r (kW r) ?_
  exact ⟨r,(a.ad [] [])⟩
 rw [decide_eq_false h7]
 refine jH r (jH r (jH r (s (jY r r) (s (kM r) (jH r (jH r (jH r (s (jY r r) (s (kM r) (jH r (jH r (jH r (s (jY r r) ?_)))))))))))))
 refine s (kM r) (jH r (jH r (jH r (jH r (jH r (jH r (s (jY r r) (s (kM r) (jH r (jH r (jH r (jH r (jH r ?_)))))))))))))
 refine jH r (jH r (jH r (jH r (s (jY r r) (s (kM r) (jH r (jH r (jH r (jH r (jH r (jH r (jH r (jH r ?_)))))))))))))
 refine jH r (jH r (jH r (jH r (jH r (s (jY r r) (s (jZ r) (n (kS ?_))))))))
 obtain rfl:=sm b
 refine jB r (kW r) ?_
 exact ⟨r,(a.ad [] [])⟩
def Bb (m:(List Int)→(List Int)→Int→Int→Int→Option (Bool)):Prop:=∀ {e:World} {p:Nat→Prop} {f:(List Int)} {h:(List Int)} {i:Int} {j:Int} {k:Int} {a:Option Addr} {b:Nat} {c:Option Addr} {d:Nat} {o:Bool},Pre e p [] [.l a b f,.l c d h]→m f h i j k=some o→
 Calls Try.prog 3 #[Z a f b,Z c h d,V i,V j,V k] e (qx fun v w=>v=.bool o∧Bx e w p (lK []) [] [])
def p9 (fu:Nat)(w:(List Int)) (x:(List Int)) (v:Int)(z:Int)(A:Int):Option (Bool):=
 (uZ fu w).bind fun B=>
 jy B fun d o=>
 if (!o)=true then
  (yT fu).bind fun p=>
  some p
 else
  (zu fu x 2).bind fun e=>
  (vR fu z 40).bind fun b=>
  (vR fu A 20).bind fun c=>
  (vQ fu v).bind fun t=>
  (nK fu d 0 e t 0 60).bind fun B=>
  jy B fun a f=>
  (vQ fu v).bind fun h=>
  (nK fu d 0 e h b c).bind fun B=>
  jy B fun i j=>
  (sl a (if (a.length:Int) < b then (a.length:Int) else b) (if (a.length:Int) < (wr ((if (a.length:Int) < b then (a.length:Int) else b)+c)) then (a.length:Int) else (wr ((if (a.length:Int) < b then (a.length:Int) else b)+c)))).bind fun u=>
  (u6 fu i u).bind fun k=>
  if k=true then
   (uy fu f j).bind fun l=>
   if l=true then
    (yT fu).bind fun m=>
    some m
   else
    some false
  else
   some false
theorem Bh (fu:Nat):Bb (p9 fu):=by
 intro w0 bq x0 x1 x2 x3 x4 a7 a8 a9 aa r0 hP v
 unfold p9 at v
 have a:=hP.bx
 clear hP
 generalize hG:lK _=G at a ⊢
 refine cf Try.func3 r ?_
 refine lJ [(0,Z a7 x0 a8),(1,Z a9 x1 aa),(2,V x2),(3,V x3),(4,V x4)] ⟨r,r,r,r,r,y⟩ fun br=>?_
 refine q (g (s (jZ r) (n (q (g (s (l6 r) ?_))))))
 obtain ⟨⟨p,aK⟩,h1,v⟩:=bs v
 replace v:=pi v
 have hc:=(FT fu) (a.pr [] [] [0] r)  h1
 refine sc (ec Yk r) hc ?_
 rintro _ w1 ⟨x,z,B,D,E,F,H,I,rfl,J⟩
 replace a:=a.cl [] [] r J r
 try dsimp only [pick,nth,ca,na] at a
 refine s rQ (s (jX r r) (s (jX r r) (nO (nG a (jW vZ)) ?_)))
 rintro _ w2 ⟨b2,rfl,a⟩
 refine lq (tb a 0 [Z x p.a.a z,Z B p.a.b D,Z E p.b F,Z H p.c I] r vZ r r r r r (show _=#[Z x p.a.a z,Z B p.a.b D,Z E p.b F,Z H p.c I] from r)) ?_
 intro w3 a
 try dsimp only [List.set] at a
 refine s (jZ r) (n (q (q (g (s (kM r) (s (zL r) (n ?_)))))))
 rcases iv v with ⟨h4,v⟩|⟨h4,v⟩
 ·refine jK (cb h4) (q (g ?_))
  obtain ⟨aM,h5,v⟩:=bs v
  have hc:=(CJ fu) (a.pr [] [0] [] r)  h5
  refine sc (ec Tv r) hc ?_
  rintro _ w5 ⟨rfl,J⟩
  replace a:=a.cl [] [0] r J r
  try dsimp only [pick,nth,ca,na] at a
  refine s (jZ r) (n (kS ?_))
  obtain rfl:=sm v
  refine jB r (kW r) ?_
  exact ⟨r,(a.ad [] [])⟩
 replace h4:=nt h4
 refine jD (cb h4) (wk (q (g (s (l6 r) ?_))))
 obtain ⟨a0,h6,v⟩:=bs v
 have hc:=(KD fu) (a.pr [] [0] [5] r)  h6
 refine sc (ec Zi r) hc ?_
 rintro _ w6 ⟨M,N,aj,rfl,J⟩
 have au:=a.q9.size
 replace a:=a.cl [] [0] r J r
 try dsimp only [pick,nth,ca,na] at a
 replace a:=a.reb 0 w0.heap.size r au
 try dsimp only [List.set] at a
 refine s (mO r) (n (q (g (s (mi r) ?_))))
 obtain ⟨a1,h7,v⟩:=bs v
 have hc:=(AJ fu) (a.pr [] [0,1] [] r)  h7
 refine sc (ec Nt r) hc ?_
 rintro _ w7 ⟨rfl,J⟩
 replace a:=a.cl [] [0,1] r J r
 try dsimp only [pick,nth,ca,na] at a
 refine s (mi r) ?_
 obtain ⟨a2,h8,v⟩:=bs v
 have hc:=(AJ fu) (a.pr [] [0,1] [] r)  h8
 refine sc (ec Nt r) hc ?_
 rintro _ w8 ⟨rfl,J⟩
 replace a:=a.cl [] [0,1] r J r
 try dsimp only [pick,nth,ca,na] at a
 refine s (xi r) (s (xi r) (n (q ?_)))
 obtain ⟨aN,h9,v⟩:=bs v
 obtain ⟨⟨K,b⟩,ab,v⟩:=bs v
 replace v:=pi v
 refine nV (fun f w=>∃ (k:OA)(m:Nat)(Q:Nat)(e:OA)(h:Nat),Has f [(2,V x2),(11,Pt b2),(13,Z M a0 N),(14,V a1),(15,V a2),(16,Z k K m),(17,Pt Q)]∧Bx w0 w bq G [.box b2 30 #[Z x p.a.a z,Z B p.a.b D,Z E p.b F,Z H p.c I],.box Q 39 #[V b.d,.bool b.b,V b.c,Z e b.a h]] [.l x z p.a.a,.l B D p.a.b,.l E F p.b,.l H I p.c,.l k m K,.l e h b.a,.l M N a0]) (fun Jd hJd=>?_) ?_
 ·refine oK a [1] [] [] (by kernel_rfl) ?_
  replace a:=a.drew
  have o:=(a.ad [1] [])
  refine uF 0 r (fun hS=>nE [Z x p.a.a z,Z B p.a.b D,Z E p.b F,Z H p.c I] DW r vZ r r (Cells.part (hS.bk 0 r).cells (o2:=0) r)) o (pF 1 r (l6 r) o (pF 2 r (mi r) o ?_))
  refine mE 3 [8] (by kernel_rfl) (jI ?_ (jI ?_ lH))
  ·have hc:=(zh fu) (a.pr [] [0,1] [] r)  h9
   refine oc r r (ec MS r) hc ?_
   rintro _ w9 ⟨rfl,J⟩
   replace a:=a.cl [] [0,1] r J r
   try dsimp only [pick,nth,ca,na] at a
   have o:=(a.ad [1] [])
   refine ⟨(sF o),?_⟩
   refine mE 4 [8] (by kernel_rfl) (jI ?_ (jI ?_ lH))
   ·replace a:=a.PL 0 0 r r
    try dsimp only [List.eraseIdx] at a
    have hc:=(pQ fu) (a.pr [] [0] [1,2,3,4,0] r)  ab
    refine oc r r (ec FM r) hc ?_
    rintro _ ak ⟨k,m,e,h,rfl,J⟩
    replace a:=a.cl [] [0] r J r
    try dsimp only [pick,nth,ca,na] at a
    have o:=(a.dp [])
    refine ⟨(sF o),?_⟩
    refine pF 5 r (rQ) o (pF 6 r (jX r r) o (pF 7 r (jX r r) o ?_))
    refine hO 8 (oo r r (nG a (jW zO)) ?_)
    rintro _ aZ ⟨Q,rfl,a⟩
    have o:=(a.ad [1] [])
    refine ⟨(sF o),?_⟩
    refine pF 9 r (mO r) o ?_
    refine hO 10 (os r r (tb a 0 [V b.d,.bool b.b,V b.c,Z e b.a h] r zO r r r r r (show _=#[V b.d,.bool b.b,V b.c,Z e b.a h] from r)) ?_)
    intro b0 a
    try dsimp only [List.set] at a
    have o:=(a.ad [1] [])
    refine ⟨(sF o),?_⟩
    refine hD ?_
    exact hJd _ _ ⟨k,m,Q,e,h,⟨r,r,r,r,r,r,r,y⟩,(a.ad [1,0] [3,4,5,6,0,1,2])⟩
   refine oo r r (nG a (jW zO)) ?_
   rintro _ b1 ⟨aw,rfl,a⟩
   have o:=(a.ad [2] [])
   refine ⟨(sF o),?_⟩
   replace a:=a.PL 1 0 r r
   try dsimp only [List.eraseIdx] at a
   have hc:=(pQ fu) (a.pr [] [0,1] [1,2,3,4,0] r)  ab
   refine hO 4 (oc r r (ec FM r) hc ?_)
   rintro _ ak ⟨k,m,e,h,rfl,J⟩
   replace a:=a.cl [] [0,1] r J r
   try dsimp only [pick,nth,ca,na] at a
   have o:=(a.ad [1] [])
   refine ⟨(sF o),?_⟩
   refine pF 5 r (rQ) o (pF 6 r (jX r r) o (pF 7 r (jX r r) o (pF 9 r (mO r) o ?_)))
   refine hO 10 (os r r (tb a 0 [V b.d,.bool b.b,V b.c,Z e b.a h] r zO r r r r r (show _=#[V b.d,.bool b.b,V b.c,Z e b.a h] from r)) ?_)
   intro b3 a
   try dsimp only [List.set] at a
   have o:=(a.ad [1] [])
   refine ⟨(sF o),?_⟩
   refine hD ?_
   exact hJd _ _ ⟨k,m,aw,e,h,⟨r,r,r,r,r,r,r,y⟩,(a.ad [1,0] [3,4,5,6,0,1,2])⟩
  refine oo r r (nG a (jW zO)) ?_
  rintro _ b4 ⟨ax,rfl,a⟩
  have o:=(a.ad [2] [])
  refine ⟨(sF o),?_⟩
  have hc:=(zh fu) (a.pr [] [0,1,2] [] r)  h9
  refine hO 3 (oc r r (ec MS r) hc ?_)
  rintro _ w9 ⟨rfl,J⟩
  replace a:=a.cl [] [0,1,2] r J r
  try dsimp only [pick,nth,ca,na] at a
  have o:=(a.ad [2] [])
  refine ⟨(sF o),?_⟩
  replace a:=a.PL 1 0 r r
  try dsimp only [List.eraseIdx] at a
  have hc:=(pQ fu) (a.pr [] [0,1] [1,2,3,4,0] r)  ab
  refine hO 4 (oc r r (ec FM r) hc ?_)
  rintro _ ak ⟨k,m,e,h,rfl,J⟩
  replace a:=a.cl [] [0,1] r J r
  try dsimp only [pick,nth,ca,na] at a
  have o:=(a.ad [1] [])
  refine ⟨(sF o),?_⟩
  refine pF 5 r (rQ) o (pF 6 r (jX r r) o (pF 7 r (jX r r) o (pF 9 r (mO r) o ?_)))
  refine hO 10 (os r r (tb a 0 [V b.d,.bool b.b,V b.c,Z e b.a h] r zO r r r r r (show _=#[V b.d,.bool b.b,V b.c,Z e b.a h] from r)) ?_)
  intro b5 a
  try dsimp only [List.set] at a
  have o:=(a.ad [1] [])
  refine ⟨(sF o),?_⟩
  refine hD ?_
  exact hJd _ _ ⟨k,m,ax,e,h,⟨r,r,r,r,r,r,r,y⟩,(a.ad [1,0] [3,4,5,6,0,1,2])⟩
 clear a
 rintro f w ⟨k,m,Q,e,h,hf,a⟩
 obtain ⟨br,rfl⟩:=gP _ _ hf
 clear hf
 refine q ?_
 obtain ⟨ay,al,v⟩:=bs v
 obtain ⟨⟨R,c⟩,ac,v⟩:=bs v
 replace v:=pi v
 refine nV (fun f w=>∃ (t:OA)(u:Nat)(S:Nat)(i:OA)(j:Nat),Has f [(14,V a1),(15,V a2),(16,Z k K m),(17,Pt Q),(18,Z t R u),(19,Pt S)]∧Bx w0 w bq G [.box Q 39 #[V b.d,.bool b.b,V b.c,Z e b.a h],.box S 39 #[V c.d,.bool c.b,V c.c,Z i c.a j]] [.l k m K,.l e h b.a,.l t u R,.l i j c.a]) (fun Jd hJd=>?_) ?_
 ·refine oK a [0] [] [] (by kernel_rfl) ?_
  replace a:=a.drew
  have o:=(a.ad [0] [])
  refine uF 0 r (fun hS=>nE [Z x p.a.a z,Z B p.a.b D,Z E p.b F,Z H p.c I] DW r vZ r r (Cells.part (hS.bk 0 r).cells (o2:=0) r)) o (pF 1 r (l6 r) o (pF 2 r (mi r) o (pF 4 r (mi r) o (pF 5 r (mi r) o ?_))))
  refine mE 3 [10] (by kernel_rfl) (jI ?_ (jI ?_ lH))
  ·have hc:=(zh fu) (a.pr [] [0,1] [] r)  al
   refine oc r r (ec MS r) hc ?_
   rintro _ az ⟨rfl,J⟩
   replace a:=a.cl [] [0,1] r J r
   try dsimp only [pick,nth,ca,na] at a
   have o:=(a.ad [0] [])
   refine ⟨(sF o),?_⟩
   refine mE 6 [10] (by kernel_rfl) (jI ?_ (jI ?_ lH))
   ·have hc:=(pQ fu) (a.pr [] [0,1] [0,1,2,3,6] r)  ac
    refine oc r r (ec FM r) hc ?_
    rintro _ am ⟨t,u,i,j,rfl,J⟩
    replace a:=a.cl [] [0,1] r J r
    try dsimp only [pick,nth,ca,na] at a
    have o:=(a.ad [0] [])
    refine ⟨(sF o),?_⟩
    refine pF 7 r (rQ) o (pF 8 r (jX r r) o (pF 9 r (jX r r) o ?_))
    refine hO 10 (oo r r (nG a (jW zO)) ?_)
    rintro _ b6 ⟨S,rfl,a⟩
    have o:=(a.ad [1] [])
    refine ⟨(sF o),?_⟩
    refine pF 11 r (mO r) o ?_
    refine hO 12 (os r r (tb a 0 [V c.d,.bool c.b,V c.c,Z i c.a j] r zO r r r r r (show _=#[V c.d,.bool c.b,V c.c,Z i c.a j] from r)) ?_)
    intro b7 a
    try dsimp only [List.set] at a
    have o:=(a.ad [1] [])
    refine ⟨(sF o),?_⟩
    refine hD ?_
    exact hJd _ _ ⟨t,u,S,i,j,⟨r,r,r,r,r,r,y⟩,(a.ad [2,0] [6,7,0,1])⟩
   refine oo r r (nG a (jW zO)) ?_
   rintro _ b8 ⟨aA,rfl,a⟩
   have o:=(a.ad [1] [])
   refine ⟨(sF o),?_⟩
   have hc:=(pQ fu) (a.pr [] [0,1,2] [0,1,2,3,6] r)  ac
   refine hO 6 (oc r r (ec FM r) hc ?_)
   rintro _ am ⟨t,u,i,j,rfl,J⟩
   replace a:=a.cl [] [0,1,2] r J r
   try dsimp only [pick,nth,ca,na] at a
   have o:=(a.ad [1] [])
   refine ⟨(sF o),?_⟩
   refine pF 7 r (rQ) o (pF 8 r (jX r r) o (pF 9 r (jX r r) o (pF 11 r (mO r) o ?_)))
   refine hO 12 (os r r (tb a 0 [V c.d,.bool c.b,V c.c,Z i c.a j] r zO r r r r r (show _=#[V c.d,.bool c.b,V c.c,Z i c.a j] from r)) ?_)
   intro b9 a
   try dsimp only [List.set] at a
   have o:=(a.ad [1] [])
   refine ⟨(sF o),?_⟩
   refine hD ?_
   exact hJd _ _ ⟨t,u,aA,i,j,⟨r,r,r,r,r,r,y⟩,(a.ad [2,0] [6,7,0,1])⟩
  refine oo r r (nG a (jW zO)) ?_
  rintro _ ba ⟨aB,rfl,a⟩
  have o:=(a.ad [1] [])
  refine ⟨(sF o),?_⟩
  have hc:=(zh fu) (a.pr [] [0,1,2] [] r)  al
  refine hO 3 (oc r r (ec MS r) hc ?_)
  rintro _ az ⟨rfl,J⟩
  replace a:=a.cl [] [0,1,2] r J r
  try dsimp only [pick,nth,ca,na] at a
  have o:=(a.ad [1] [])
  refine ⟨(sF o),?_⟩
  have hc:=(pQ fu) (a.pr [] [0,1,2] [0,1,2,3,6] r)  ac
  refine hO 6 (oc r r (ec FM r) hc ?_)
  rintro _ am ⟨t,u,i,j,rfl,J⟩
  replace a:=a.cl [] [0,1,2] r J r
  try dsimp only [pick,nth,ca,na] at a
  have o:=(a.ad [1] [])
  refine ⟨(sF o),?_⟩
  refine pF 7 r (rQ) o (pF 8 r (jX r r) o (pF 9 r (jX r r) o (pF 11 r (mO r) o ?_)))
  refine hO 12 (os r r (tb a 0 [V c.d,.bool c.b,V c.c,Z i c.a j] r zO r r r r r (show _=#[V c.d,.bool c.b,V c.c,Z i c.a j] from r)) ?_)
  intro bb a
  try dsimp only [List.set] at a
  have o:=(a.ad [1] [])
  refine ⟨(sF o),?_⟩
  refine hD ?_
  exact hJd _ _ ⟨t,u,aB,i,j,⟨r,r,r,r,r,r,y⟩,(a.ad [2,0] [6,7,0,1])⟩
 clear a
 rintro f w ⟨t,u,S,i,j,hf,a⟩
 obtain ⟨br,rfl⟩:=gP _ _ hf
 clear hf
 refine q (g (s (mi r) (s (l6 r) (s (lu Cg r) (s (Yz r r) (s (xi r) (n (q (g (s (l6 r) (s (l6 r) (s (mi r) (s (mi r) ?_)))))))))))))
 refine s (mi r) (s (kE r r) (s (l6 r) (s (lu Cg r) (s (Yz r r) ?_))))
 obtain ⟨Y,an,v⟩:=bs v
 obtain ⟨L,ae,ao,ap,U,a3,a4⟩:=Av an
 have af:Y.length=ae - L:=by rw [← a4,List.length_take,List.length_drop];omega
 obtain ⟨ag,a5⟩:∃ A,(if m=L then k else k.map (·.add (L * sz kI)))=A:=⟨_,rfl⟩
 obtain ⟨ah,a6⟩:∃ C,(m - L)=C:=⟨_,rfl⟩
 replace a:=a.kr (d:=.l ag ah Y) (by have bu:=((a.dl 0 r).part U a3);rw [a4,a5,a6] at bu;exact bu)
 have aq:Value.slice (if m=L then k else k.map (·.add (L * sz kI))) (ae - L) (m - L)=Value.slice ag Y.length ah:=by rw [af,← a5,← a6]
 refine s (show Yl _ _ _ _ _ _ _ _ _ (.slice ag Y.length ah) from aq ▸ Xx L ae Cg Ei r r r ao ap U (Nat.le_trans a3 ((a.dl 1 r)).cap)) ?_
 obtain ⟨aC,aD,v⟩:=bs v
 have hc:=(EY fu) (a.pr [] [0,1] [3,0] r)  aD
 refine sc (ec YL r) hc ?_
 rintro _ bc ⟨rfl,J⟩
 replace a:=a.cl [] [0,1] r J r
 try dsimp only [pick,nth,ca,na] at a
 refine s (kM r) ?_
 rcases iv v with ⟨W,v⟩|⟨W,v⟩
 ·rw [W]
  refine ko r (s (nE [V b.d,.bool b.b,V b.c,Z e b.a h] P7 r zO r r (Cells.part (a.bk 0 r).cells (o2:=0) r)) (ko r (s (nE [V c.d,.bool c.b,V c.c,Z i c.a j] P7 r zO r r (Cells.part (a.bk 1 r).cells (o2:=0) r)) ?_)))
  obtain ⟨aE,aF,v⟩:=bs v
  refine ko r ?_
  have hc:=(Et fu) (a.pr [] [0,1] [2,4] r)  aF
  refine sc (ec Yc r) hc ?_
  rintro _ bd ⟨rfl,J⟩
  replace a:=a.cl [] [0,1] r J r
  try dsimp only [pick,nth,ca,na] at a
  refine s (kC r r) (s (kM r) ?_)
  rcases iv v with ⟨X,v⟩|⟨X,v⟩
  ·rw [X]
   obtain ⟨aG,aH,v⟩:=bs v
   refine ko r ?_
   have hc:=(CJ fu) (a.pr [] [0,1] [] r)  aH
   refine sc (ec Tv r) hc ?_
   rintro _ bg ⟨rfl,J⟩
   replace a:=a.cl [] [0,1] r J r
   try dsimp only [pick,nth,ca,na] at a
   refine s (kC r r) (s (jZ r) (n (kS ?_)))
   obtain rfl:=sm v
   refine jB r (kW r) ?_
   exact ⟨r,(a.ad [] [])⟩
  replace X:=nt X
  rw [X]
  refine jH r (s (jY r r) (s (jZ r) (n (kS ?_))))
  obtain rfl:=sm v
  refine jB r (kW r) ?_
  exact ⟨r,(a.ad [] [])⟩
 replace W:=nt W
 rw [W]
 refine jH r (jH r (jH r (s (jY r r) (s (kM r) (jH r (s (jY r r) (s (jZ r) (n (kS ?_)))))))))
 obtain rfl:=sm v
 refine jB r (kW r) ?_
 exact ⟨r,(a.ad [] [])⟩
end
end Go.Proofs.Ytfglbdkfnphjgaa
set_option linter.unusedVariables false
set_option linter.unusedSimpArgs false
namespace Go.Proofs.Ytfglbdkfnphjgaa
open Go.RowKit Go.Fw
theorem ob {α β:Type} {x:α} {f:α→Option β}:(some x).bind f=f x:=rfl
theorem Ci {α:Type} {l:List α} {i:Nat} {x:α} (h:l[i]?=some x):ix l (i:Int)=some x:=by
 unfold Go.Fw.ix
 rw [if_neg (by omega),Int.toNat_natCast,h]
theorem WY {i:Nat} (h:i≤1000000):wr ((i:Int)+1)=((i+1:Nat):Int):=by rw [lV (by omega) (by omega)];omega
section
variable {fu:Nat}
theorem Kl {l:List Int} (hl:l.length≤100000):∀ (n i:Nat),l.length+1≤n+i→i≤l.length→tq fu l l n (i:Int)=some (.go (l.length:Int))
 | 0,_,h,h2=>by omega
 | n+1,i,h,h2=>by
  rw [tq]
  by_cases c:(i:Int) < l.length
  · obtain ⟨x,hx⟩:=mF (l:=l) (k:=i) (by omega)
    rw [if_pos c,Ci hx,ob,ob,if_neg (by simp),WY (by omega)]
    exact Kl hl n (i+1) (by omega) (by omega)
  · rw [if_neg c,show i=l.length by omega]
theorem Tq {l:List Int} (hl:l.length≤100000) (hf:l.length+1≤fu):xM fu l l=some true:=by
 unfold xM
 rw [if_neg (by simp),show (0:Int)=((0:Nat):Int) from rfl,Kl hl fu 0 (by omega) (Nat.zero_le _)]
 rfl
theorem Hz {l:List Bool} (hl:l.length≤100000):∀ (n i:Nat),l.length+1≤n+i→i≤l.length→rU fu l l n (i:Int)=some (.go (l.length:Int))
 | 0,_,h,h2=>by omega
 | n+1,i,h,h2=>by
  rw [rU]
  by_cases c:(i:Int) < l.length
  · obtain ⟨x,hx⟩:=mF (l:=l) (k:=i) (by omega)
    rw [if_pos c,Ci hx,ob,ob,if_neg (by simp),WY (by omega)]
    exact Hz hl n (i+1) (by omega) (by omega)
  · rw [if_neg c,show i=l.length by omega]
theorem VN {l:List Bool} (hl:l.length≤100000) (hf:l.length+1≤fu):yJ fu l l=some true:=by
 unfold yJ
 rw [if_neg (by simp),show (0:Int)=((0:Nat):Int) from rfl,Hz hl fu 0 (by omega) (Nat.zero_le _)]
 rfl
def U4 (f:nI):Prop:=f.b.length≤24∧∀ x ∈ f.b,x.b.length≤8∧x.a.length≤8
def SE (e:kI):Prop:=e.a.length≤20∧∀ f ∈ e.a,U4 f
theorem EX (hf:100≤fu) {f:nI} (hs:U4 f):∀ (n i:Nat),f.b.length+1≤n+i→i≤f.b.length→qQ fu f f n (i:Int)=some (.go (f.b.length:Int))
 | 0,_,h,h2=>by omega
 | n+1,i,h,h2=>by
  have:=hs.1
  rw [qQ]
  by_cases c:(i:Int) < f.b.length
  · obtain ⟨x,hx⟩:=mF (l:=f.b) (k:=i) (by omega)
    have k:=hs.2 x (List.mem_of_getElem? hx)
    rw [if_pos c,Ci hx,ob,ob,if_neg (by simp),VN (by omega) (by omega),ob,if_neg (by decide),Tq (by omega) (by omega),ob,if_neg (by decide),WY (by omega)]
    exact EX hf hs n (i+1) (by omega) (by omega)
  · rw [if_neg c,show i=f.b.length by omega]
theorem R8 (hf:100≤fu) {f:nI} (hs:U4 f):xk fu f f=some true:=by
 have:=hs.1
 unfold xk
 rw [if_neg (by simp),if_neg (by simp),if_neg (by simp),show (0:Int)=((0:Nat):Int) from rfl,EX hf hs fu 0 (by omega) (Nat.zero_le _)]
 rfl
theorem M9 (hf:100≤fu) {l:List kI} {b:Nat} {e:kI} (hb:l[b]?=some e) (hs:SE e):∀ (n i:Nat),e.a.length+1≤n+i→i≤e.a.length→ql fu l l (b:Int) n (i:Int)=some (.go (e.a.length:Int))
 | 0,_,h,h2=>by omega
 | n+1,i,h,h2=>by
  have:=hs.1
  rw [ql,Ci hb,ob]
  by_cases c:(i:Int) < e.a.length
  · obtain ⟨x,hx⟩:=mF (l:=e.a) (k:=i) (by omega)
    rw [if_pos c,Ci hx,ob,ob,Ci hx,ob,R8 hf (hs.2 x (List.mem_of_getElem? hx)),ob,if_neg (by decide),WY (by omega)]
    exact M9 hf hb hs n (i+1) (by omega) (by omega)
  · rw [if_neg c,show i=e.a.length by omega]
theorem Nj (hf:100≤fu) {l:List kI} (hl:l.length≤100000) (hs:∀ e ∈ l,SE e):∀ (n i:Nat),l.length+1≤n+i→i≤l.length→qw fu l l n (i:Int)=some (.go (l.length:Int))
 | 0,_,h,h2=>by omega
 | n+1,i,h,h2=>by
  rw [qw]
  by_cases c:(i:Int) < l.length
  · obtain ⟨x,hx⟩:=mF (l:=l) (k:=i) (by omega)
    have hx2:=hs x (List.mem_of_getElem? hx)
    have:=hx2.1
    rw [if_pos c,Ci hx,ob,ob,if_neg (by simp),show (0:Int)=((0:Nat):Int) from rfl,M9 hf hx hx2 fu 0 (by omega) (Nat.zero_le _),WY (by omega)]
    exact Nj hf hl hs n (i+1) (by omega) (by omega)
  · rw [if_neg c,show i=l.length by omega]
theorem ZM (hf:100≤fu) {l:List kI} (hl:l.length≤100000) (hl2:l.length+1≤fu) (hs:∀ e ∈ l,SE e):u6 fu l l=some true:=by
 unfold u6
 rw [if_neg (by simp),show (0:Int)=((0:Nat):Int) from rfl,Nj hf hl hs fu 0 (by omega) (Nat.zero_le _)]
 rfl
theorem X4 {o:nL} (hl:o.a.length≤100000) (hf:o.a.length+1≤fu):uy fu o o=some true:=by
 unfold uy
 rw [if_pos rfl,if_pos rfl,if_pos rfl,Tq hl hf]
 rfl
end
theorem Fit.row {s:jQ} {g:uE} (h:Fit s g) {l:List Int} {k:Nat} (hk:g.ws[k]?=some l):l.length≤8:=by
 obtain ⟨_,V,h1,h2,h3⟩:=h
 have e:(g.ws.map List.length)[k]?=some l.length:=by rw [List.getElem?_map,hk];rfl
 rw [h2,List.getElem?_map] at e
 cases hV:V[k]? with
 | none=>rw [hV] at e;cases e
 | some x=>
  rw [hV] at e
  have:=h3 x (List.mem_of_getElem? hV)
  have:x.a.toNat=l.length:=Option.some.inj e
  omega
theorem ML.sz {s:jQ} (hv:∀ V ∈ s.b,V.length≤24) {e:kI} (h:ML s e):SE e:=by
 obtain ⟨gs,h1,h2,h3⟩:=h
 refine ⟨by rw [h1,List.length_map];exact h2,fun f hf=>?_⟩
 rw [h1] at hf
 obtain ⟨g,hg,rfl⟩:=List.mem_map.1 hf
 refine ⟨by unfold Yx;rw [List.length_map];exact Ko hv,fun x hx=>?_⟩
 obtain ⟨v,hv2,rfl⟩:=List.mem_map.1 hx
 have hb:=(h3 g hg).vis hv2
 obtain ⟨l,hl⟩:=mF (l:=g.ws) (k:=v.toNat) (by omega)
 have h8:=(h3 g hg).row hl
 unfold Zm
 rw [List.getD_eq_getElem?_getD,hl]
 exact ⟨by rw [List.length_replicate];exact h8,h8⟩
def aat:Pn Int→List Int→nL
 | .ok v,o=>⟨0,false,v,o⟩
 | .Ey v,o=>⟨0,true,v,o⟩
 | .err e,o=>⟨e,false,0,o⟩
 | .rt,o=>⟨4,false,0,o⟩
theorem Pz {s:jQ} (hs:CI s) {fu:Nat} (hf:10100≤fu) {f:Int} {args:List Int} {n:Int} (h0:0≤n) (hn:n≤5000) :
  ∃ h o,(∀ fr mo:Int,0≤fr→0≤mo→mo≤100→nK fu s f args n fr mo=some (window h fr.toNat mo.toNat,o))∧h.length≤n.toNat∧o.a.length≤h.length∧∀ e ∈ h,ML s e:=by
 have bad:(∀ fr mo:Int,0≤fr→0≤mo→mo≤100→nK fu s f args n fr mo=some ([],⟨1,false,0,[]⟩))→∃ h o,(∀ fr mo:Int,0≤fr→0≤mo→mo≤100→nK fu s f args n fr mo=some (window h fr.toNat mo.toNat,o))∧h.length≤n.toNat∧o.a.length≤h.length∧∀ e ∈ h,ML s e:=fun h=>
  ⟨[],⟨1,false,0,[]⟩,fun fr mo h1 h2 h3=>by rw [h fr mo h1 h2 h3];simp [window],Nat.zero_le _,Nat.le_refl _,fun e he=>by cases he⟩
 unfold nK traceM at bad ⊢
 cases hF:ix? s.a.b f with
 | none=>rw [hF] at bad;exact bad fun _ _ _ _ _=>rfl
 | some fn=>
  rw [hF] at bad
  dsimp only at bad ⊢
  by_cases hp:args.length≠fn.a.length
  · exact bad fun fr mo _ _ _=>if_pos (.inl hp)
  obtain ⟨r,hr,hC⟩:=Pm (s:=s) (N:=n.toNat) hs (sm:=stM (jO fu s) s n.toNat fu) (stk:=[]) (f:=f) (args:=args) (hist:=[]) (out:=[]) (Nat.zero_le _) (Nat.le_refl _) (fun e he=>by cases he)
    fun _ S x k h10 _ hG hX=>YW hs (by omega) fu [] S x k (fun g hg=>by cases hg) (Nat.zero_le _) hG hX h10 (by omega)
  obtain ⟨p,h,o⟩:=r
  refine ⟨h,aat p o,fun fr mo h1 h2 h3=>?_,hC.hl,?_,hC.ev⟩
  · rw [if_neg (by omega),hr]
    cases p <;> rfl
  · cases p <;> exact hC.ol
theorem OV:yT 10100=some true:=by kernel_rfl
theorem Qm {fu:Nat} {n:Int}:kD (vQ fu n) (fun v=>0≤v∧v≤400):=by
 unfold vQ
 exact .bd (NQ (by omega) (by omega)) fun v hv=>.mk ⟨hv.1,by omega⟩
theorem NH {fu:Nat} {l:List Int}:∀ (n i:Nat) (out:List Int),3≤n+i→i≤2→out.length≤i→kD (sW fu l 2 n (i:Int) out) (oH (fun r=>jy r fun _ a=>a.length≤2) (fun _=>False))
 | 0,i,out,h,h2,_=>by omega
 | n+1,i,out,h,h2,h3=>by
  rw [sW]
  refine .ite (fun c=>?_) fun _=>.go (by show out.length≤2;omega)
  have hJ:kD (yc fu l (i:Int)) (oH (fun _=>True) (fun _=>False)):=by
   unfold yc
   exact .ite (fun c=>.bd (.ix (by omega) c) fun _ _=>.go trivial) fun _=>.go trivial
  refine .el hJ (fun c _=>.bd (.app (by simp only [List.length_cons,List.length_nil];omega)) fun r hr=>?_) fun _ z=>z.elim
  subst hr
  rw [WY (by omega)]
  exact NH n (i+1) _ (by omega) (by omega) (by rw [kJ];omega)
theorem VA {fu:Nat} (hf:3≤fu) {l:List Int}:kD (zu fu l 2) (fun a=>a.length≤2):=by
 unfold zu
 refine .el (NH fu 0 [] (by omega) (by decide) (Nat.le_refl _)) (fun r hr=>?_) fun _ z=>z.elim
 obtain ⟨b,a⟩:=r
 exact .mk hr
theorem IU (l a:List Int) (n i k:Int):p9 10100 l a n i k=some true:=by
 have h:kD (p9 10100 l a n i k) (fun b=>b=true):=by
  unfold p9
  rw [OV]
  refine .bp (Ml (by decide)) fun s b hs=>.ite (fun _=>.mk rfl) fun c=>?_
  have hs:=hs (by simpa using c)
  refine .bd (VA (by decide)) fun x hx=>.bd (NQ (by omega) (by omega)) fun i hi=>.bd (NQ (by omega) (by omega)) fun k hk=>?_
  obtain ⟨N,hN,h0,h4⟩:=Qm (fu:=10100) (n:=n)
  rw [hN,ob]
  obtain ⟨h,o,ht,hl,ho,he⟩:=Pz hs (Nat.le_refl 10100) (f:=0) (args:=x) h0 (by omega)
  rw [ht 0 60 (by decide) (by decide) (by decide),ob,pl,ob,ht i k hi.1 hk.1 (by omega),ob,pl]
  obtain ⟨hi0,hi1⟩:=hi
  obtain ⟨hk0,hk1⟩:=hk
  obtain ⟨I,rfl⟩:∃ I:Nat,i=(I:Int):=⟨i.toNat,by omega⟩
  obtain ⟨K,rfl⟩:∃ K:Nat,k=(K:Int):=⟨k.toNat,by omega⟩
  have e1:window h (0:Int).toNat (60:Int).toNat=h.take 60:=rfl
  rw [e1,Int.toNat_natCast,Int.toNat_natCast]
  have ej:∀ x:Nat,x≤60→(if ((h.take 60).length:Int) < (x:Int) then ((h.take 60).length:Int) else (x:Int))=((min x (h.take 60).length:Nat):Int):=fun x _=>by split <;> omega
  rw [ej I (by omega),show (((min I (h.take 60).length:Nat):Int)+(K:Int))=((min I (h.take 60).length+K:Nat):Int) by omega,lV (by omega) (by omega),ej _ (by omega)]
  have hL:(h.take 60).length≤60:=List.length_take_le _ _
  refine .bd (.sl (by omega)) fun r hr=>?_
  have er:r=window h I K:=by
   rw [hr,Int.toNat_natCast,show (((min (min I (h.take 60).length+K) (h.take 60).length:Nat):Int) - ((min I (h.take 60).length:Nat):Int)).toNat=min (min I (h.take 60).length+K) (h.take 60).length - min I (h.take 60).length by omega]
   unfold window
   apply List.ext_getElem?
   intro q
   simp only [List.getElem?_take,List.getElem?_drop,List.length_take]
   by_cases h1:q < K
   · rw [if_pos h1]
     by_cases h2:I+q < h.length
     · rw [if_pos (by omega),if_pos (by omega),show min I (min 60 h.length)+q=I+q by omega]
     · rw [List.getElem?_eq_none (by omega:h.length≤I+q)]
       split
       · omega
       · rfl
   · rw [if_neg h1,if_neg (by omega)]
  have hW:(window h I K).length≤K:=List.length_take_le _ _
  rw [er,ZM (l:=window h I K) (by decide) (by omega) (by omega) (fun e he'=>(he e (List.mem_of_mem_drop (List.mem_of_mem_take he'))).sz hs.vn),ob,if_pos rfl,X4 (by omega) (by omega),ob,if_pos rfl,ob]
  exact .mk rfl
 obtain ⟨v,h1,rfl⟩:=h
 exact h1
end Go.Proofs.Ytfglbdkfnphjgaa
