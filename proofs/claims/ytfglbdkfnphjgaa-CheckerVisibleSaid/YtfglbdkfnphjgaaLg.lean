/- Contracts, printed by gen3.py. -/
import Derived.Test.YtfglbdkfnphjgaaZt
import Derived.Test.YtfglbdkfnphjgaaLf
set_option linter.unusedVariables false
set_option maxHeartbeats 12800000
set_option linter.unusedSimpArgs false
set_option maxRecDepth 4000
namespace Go.Proofs.Ytfglbdkfnphjgaa
open Go.RowKit Go.Fw
noncomputable section
abbrev T_r04_block:=GState115→(List GStmt)→Option ((List GStmt) × GState115)
abbrev T_r04_stmt:=GState115→GStmt→Option (GStmt × GState115)
def Ct_r04_block (m:Gt→(List Gs)→Option ((List Gs) × Gt)):Prop:=∀ {w0:World} {a4:Nat→Prop} {k:Gt} {x1:(List Gs)} {a1:Nat} {d:Option Addr} {h:Nat} {a:Option Addr} {b:Nat} {i:List (List Value)} {o:Nat} {p:Option Addr} {t:Nat} {j:List Rw} {u:Nat} {x:Nat} {z:Option Addr} {A:Nat} {G:List (List Value)} {B:Nat} {C:Option Addr} {D:Nat} {H:List (List Value)} {E:Nat} {S:Option Addr} {U:Nat} {R:(List Gs) × Gt},Pre w0 a4 [.box a1 115 #[Z d k.out_.Program.Records h,Z a k.out_.Program.Funcs b,Z p k.out_.Vars t,Z z k.out_.Stmts A,V k.f,Z C k.open_ D,V k.line,V k.e],O o a b 82 Gn i,O u p t 60 (List Gv) (j.map Rw.hdr),.fam x 59 (sz Gv) j none,O B z A 65 Gi G,O E C D 3 Int H] [.l d h k.out_.Program.Records,.els i k.out_.Program.Funcs,.els2 j k.out_.Vars,.els G k.out_.Stmts,.els H k.open_,.l S U x1]→o≤w0.heap.size→u≤w0.heap.size→x≤w0.heap.size→B≤w0.heap.size→E≤w0.heap.size→m k x1=some R→
 Calls Try.prog 74 #[Pt a1,Z S x1 U] w0 (Ret fun v w=>pel R fun r0 c=>∃ (W:OA)(X:Nat)(Y:LV)(I:OA)(J:Nat)(F:List Rw) (K:OA)(L:Nat)(M:LV)(N:OA)(P:Nat)(Q:LV),v=Z W r0 X∧Bx w0 w a4 (Gof [.box a1 115 #[Z d k.out_.Program.Records h,Z a k.out_.Program.Funcs b,Z p k.out_.Vars t,Z z k.out_.Stmts A,V k.f,Z C k.open_ D,V k.line,V k.e],O o a b 82 Gn i,O u p t 60 (List Gv) (j.map Rw.hdr),.fam x 59 (sz Gv) j none,O B z A 65 Gi G,O E C D 3 Int H]) [O w0.heap.size W X 111 Gs Y,.box a1 115 #[Z d c.out_.Program.Records h,Z a c.out_.Program.Funcs b,Z I c.out_.Vars J,Z K c.out_.Stmts L,V c.f,Z N c.open_ P,V c.line,V c.e],O o a b 82 Gn i,O u I J 60 (List Gv) (F.map Rw.hdr),.fam x 59 (sz Gv) F none,O B K L 65 Gi M,O E N P 3 Int Q] [.els Y r0,.l d h c.out_.Program.Records,.els i c.out_.Program.Funcs,.els2 F c.out_.Vars,.els M c.out_.Stmts,.els Q c.open_])
def Ct_r04_stmt (m:Gt→Gs→Option (Gs × Gt)):Prop:=∀ {w0:World} {ag:Nat→Prop} {k:Gt} {G:Gs} {ae:Nat} {d:Option Addr} {h:Nat} {a:Option Addr} {b:Nat} {i:List (List Value)} {o:Nat} {p:Option Addr} {t:Nat} {j:List Rw} {u:Nat} {x:Nat} {z:Option Addr} {A:Nat} {I:List (List Value)} {B:Nat} {C:Option Addr} {D:Nat} {J:List (List Value)} {E:Nat} {W:Option Addr} {X:Nat} {Y:Option Addr} {a0:Nat} {a1:Option Addr} {a2:Nat} {a3:Option Addr} {a4:Nat} {R:Gs × Gt},Pre w0 ag [.box ae 115 #[Z d k.out_.Program.Records h,Z a k.out_.Program.Funcs b,Z p k.out_.Vars t,Z z k.out_.Stmts A,V k.f,Z C k.open_ D,V k.line,V k.e],O o a b 82 Gn i,O u p t 60 (List Gv) (j.map Rw.hdr),.fam x 59 (sz Gv) j none,O B z A 65 Gi I,O E C D 3 Int J] [.l d h k.out_.Program.Records,.els i k.out_.Program.Funcs,.els2 j k.out_.Vars,.els I k.out_.Stmts,.els J k.open_,.l W X G.Target,.l Y a0 G.Args,.l a1 a2 G.Body,.l a3 a4 G.Else]→o≤w0.heap.size→u≤w0.heap.size→x≤w0.heap.size→B≤w0.heap.size→E≤w0.heap.size→m k G=some R→
 Calls Try.prog 99 #[Pt ae,.agg #[V G.Kind,V G.Line,V G.Id,T G.Name,T G.Type_,V G.Len,V G.Var,Z W G.Target X,T G.Func,V G.Callee,Z Y G.Args a0,Z a1 G.Body a2,Z a3 G.Else a4]] w0 (Ret fun v w=>pel R fun H c=>∃ (a5:OA)(a6:Nat)(a7:OA)(a8:Nat)(a9:OA)(aa:Nat)(ab:OA)(ac:Nat)(K:OA)(L:Nat)(F:List Rw) (M:OA)(N:Nat)(P:LV)(Q:OA)(S:Nat)(U:LV),v=.agg #[V H.Kind,V H.Line,V H.Id,T H.Name,T H.Type_,V H.Len,V H.Var,Z a5 H.Target a6,T H.Func,V H.Callee,Z a7 H.Args a8,Z a9 H.Body aa,Z ab H.Else ac]∧Bx w0 w ag (Gof [.box ae 115 #[Z d k.out_.Program.Records h,Z a k.out_.Program.Funcs b,Z p k.out_.Vars t,Z z k.out_.Stmts A,V k.f,Z C k.open_ D,V k.line,V k.e],O o a b 82 Gn i,O u p t 60 (List Gv) (j.map Rw.hdr),.fam x 59 (sz Gv) j none,O B z A 65 Gi I,O E C D 3 Int J]) [.box ae 115 #[Z d c.out_.Program.Records h,Z a c.out_.Program.Funcs b,Z K c.out_.Vars L,Z M c.out_.Stmts N,V c.f,Z Q c.open_ S,V c.line,V c.e],O o a b 82 Gn i,O u K L 60 (List Gv) (F.map Rw.hdr),.fam x 59 (sz Gv) F none,O B M N 65 Gi P,O E Q S 3 Int U] [.l a5 a6 H.Target,.l a7 a8 H.Args,.l a9 aa H.Body,.l ab ac H.Else,.l d h c.out_.Program.Records,.els i c.out_.Program.Funcs,.els2 F c.out_.Vars,.els P c.out_.Stmts,.els U c.open_])
def F_r04_block_L0 (fu:Nat)(r_r04_block:T_r04_block) (r_r04_stmt:T_r04_stmt):List Gs→Nat→(List Gs)→(List Gr)→Int→Int→Int→(List Gn)→(List (List Gv))→(List Gi)→(List Int)→Option (Ld (List Gs × List Gr × Int × Int × Int × List Gn × List (List Gv) × List Gi × List Int) ((List Gs) × Gt))
 | [],_,c,d,h,i,b,j,k,l,m=>some (.go (c,d,h,i,b,j,k,l,m))
 | p :: t,u,c,d,h,i,b,j,k,l,m=>
 if b≠0 then
  some (.go (c,d,h,i,b,j,k,l,m))
 else
  (r_r04_stmt (⟨(⟨(⟨d,j⟩:GProgram),k,l⟩:GSource),h,m,i,b⟩:Gt) p).bind fun w=>
  pel w fun o a=>
  (app c ([o]:List Gs)).bind fun v=>
  F_r04_block_L0 fu r_r04_block r_r04_stmt t (u+1) v a.out_.Program.Records a.f a.line a.e a.out_.Program.Funcs a.out_.Vars a.out_.Stmts a.open_
def F_r04_block_L1 (fu:Nat)(r_r04_block:T_r04_block) (r_r04_stmt:T_r04_stmt) (c:Int)(d:List Gi):List Int→Nat→(List (List Gv))→Option (Ld (List (List Gv)) ((List Gs) × Gt))
 | [],_,a=>some (.go a)
 | e :: h,i,a=>
 (ix a c).bind fun f=>
 (ix f e).bind fun b=>
 (st f e (⟨b.Name,b.Kind,b.Record,b.Words,b.Param,b.From,(wr ((d.length:Int) - 1))⟩:Gv)).bind fun j=>
 (st a c j).bind fun k=>
 F_r04_block_L1 fu r_r04_block r_r04_stmt c d h (i+1) k
def F_r04_block (fu:Nat)(r_r04_block:T_r04_block) (r_r04_stmt:T_r04_stmt) (b:Gt) (w:(List Gs)):Option ((List Gs) × Gt):=
 (F_r04_block_L0 fu r_r04_block r_r04_stmt w 0 ([]:List Gs) b.out_.Program.Records b.f b.line b.e b.out_.Program.Funcs b.out_.Vars b.out_.Stmts b.open_).bind fun x=>x.el (fun x=>
 pel x fun i x=>pel x fun j x=>pel x fun c x=>pel x fun k x=>pel x fun l x=>pel x fun m x=>pel x fun p x=>pel x fun d a=>
 (sl a (b.open_.length:Int) (a.length:Int)).bind fun t=>
 (F_r04_block_L1 fu r_r04_block r_r04_stmt c d t 0 p).bind fun x=>x.el (fun h=>
 (sl a 0 (b.open_.length:Int)).bind fun u=>
 (app ([]:List Int) u).bind fun v=>
 some (i,(⟨(⟨(⟨j,m⟩:GProgram),h,d⟩:GSource),c,v,k,l⟩:Gt))
 ) (fun o=>some o)
 ) (fun o=>some o)
def F_r04_stmt_J1 (fu:Nat)(r_r04_block:T_r04_block) (r_r04_stmt:T_r04_stmt) (b:Gt) (a:Gs) (j:List Gi):Option (Ld (Int × Int × Int) (Gs × Gt)):=
 if 0 < a.Len then
  some (.go (3,(-1),a.Len))
 else
  if ¬ a.Type_=(⟨#[]⟩:BA) then
   (m_r04_record fu (⟨(⟨b.out_.Program,b.out_.Vars,j⟩:GSource),b.f,b.open_,b.line,b.e⟩:Gt) a.Type_).bind fun k=>
   pel k fun c d=>
   if (!d)=true then
    (m_r04_fail fu (⟨(⟨b.out_.Program,b.out_.Vars,j⟩:GSource),b.f,b.open_,b.line,b.e⟩:Gt) a.Line 8).bind fun h=>
    some (.out ((⟨a.Kind,a.Line,(b.out_.Stmts.length:Int),a.Name,a.Type_,a.Len,a.Var,a.Target,a.Func,a.Callee,a.Args,a.Body,a.Else⟩:Gs),h))
   else
    (ix b.out_.Program.Records c).bind fun i=>
    some (.go (2,c,(i.Fields.length:Int)))
  else
   some (.go (1,(-1),1))
def F_r04_stmt_J0 (fu:Nat)(r_r04_block:T_r04_block) (r_r04_stmt:T_r04_stmt) (a:Gt) (c:Gs) (l:List Gi):Option (Ld (List Gr × Int × Int × Int × List Gn × List (List Gv) × List Gi × List Int) (Gs × Gt)):=
 if c.Kind=1 then
  (F_r04_stmt_J1 fu r_r04_block r_r04_stmt a c l).bind fun p=>p.el (fun p=>
  pel p fun d p=>pel p fun h i=>
  (m_r04_declare fu (⟨(⟨a.out_.Program,a.out_.Vars,l⟩:GSource),a.f,a.open_,a.line,a.e⟩:Gt) c.Line (⟨c.Name,d,h,i,false,(wr ((a.out_.Stmts.length:Int)+1)),0⟩:Gv)).bind fun p=>
  pel p fun j k=>
  some (.out ((⟨c.Kind,c.Line,(a.out_.Stmts.length:Int),c.Name,c.Type_,c.Len,j,c.Target,c.Func,c.Callee,c.Args,c.Body,c.Else⟩:Gs),k))
  ) (fun o=>some (.out o))
 else
  if c.Kind=3 then
   if 0 < (c.Target.length:Int) then
    (ix c.Target 0).bind fun m=>
    if m.Op≠1 then
     (m_r04_fail fu (⟨(⟨a.out_.Program,a.out_.Vars,l⟩:GSource),a.f,a.open_,a.line,a.e⟩:Gt) c.Line 10).bind fun b=>
     some (.go (b.out_.Program.Records,b.f,b.line,b.e,b.out_.Program.Funcs,b.out_.Vars,b.out_.Stmts,b.open_))
    else
     some (.go (a.out_.Program.Records,a.f,a.line,a.e,a.out_.Program.Funcs,a.out_.Vars,l,a.open_))
   else
    some (.go (a.out_.Program.Records,a.f,a.line,a.e,a.out_.Program.Funcs,a.out_.Vars,l,a.open_))
  else
   some (.go (a.out_.Program.Records,a.f,a.line,a.e,a.out_.Program.Funcs,a.out_.Vars,l,a.open_))
def F_r04_stmt_J2 (fu:Nat)(r_r04_block:T_r04_block) (r_r04_stmt:T_r04_stmt) (i:Gt) (d:Gs) (h:(List Ge)) (b:Gt):Option (Ld (List Gr × Int × Int × Int × List Gn × List (List Gv) × List Gi × List Int × Int × Int × Int × BA × BA × Int × Int × List Ge × BA × Int × List Ge × List Gs × List Gs) (Gs × Gt)):=
 if ¬ d.Func=(⟨#[]⟩:BA) then
  (m_r04_callee fu b (⟨d.Kind,d.Line,(i.out_.Stmts.length:Int),d.Name,d.Type_,d.Len,d.Var,h,d.Func,d.Callee,d.Args,d.Body,d.Else⟩:Gs)).bind fun j=>
  pel j fun c a=>
  some (.go (c.out_.Program.Records,c.f,c.line,c.e,c.out_.Program.Funcs,c.out_.Vars,c.out_.Stmts,c.open_,a.Kind,a.Line,a.Id,a.Name,a.Type_,a.Len,a.Var,a.Target,a.Func,a.Callee,a.Args,a.Body,a.Else))
 else
  some (.go (b.out_.Program.Records,b.f,b.line,b.e,b.out_.Program.Funcs,b.out_.Vars,b.out_.Stmts,b.open_,d.Kind,d.Line,(i.out_.Stmts.length:Int),d.Name,d.Type_,d.Len,d.Var,h,d.Func,d.Callee,d.Args,d.Body,d.Else))
def F_r04_stmt_J4 (fu:Nat)(r_r04_block:T_r04_block) (r_r04_stmt:T_r04_stmt) (c:Int)(a:Gt):Option (Ld (List (List Gv)) (Gs × Gt)):=
 if a.e=0 then
  (ix a.out_.Vars a.f).bind fun d=>
  (ix d c).bind fun b=>
  (st d c (⟨b.Name,b.Kind,b.Record,b.Words,b.Param,b.From,(wr ((a.out_.Stmts.length:Int) - 1))⟩:Gv)).bind fun h=>
  (st a.out_.Vars a.f h).bind fun i=>
  some (.go i)
 else
  some (.go a.out_.Vars)
def F_r04_stmt_J3 (fu:Nat)(r_r04_block:T_r04_block) (r_r04_stmt:T_r04_stmt) (h:Int)(c:Int)(j:Int)(d:BA) (k:BA) (l:Int)(m:List Ge) (p:BA) (t:Int)(u:List Gs) (v:(List Ge)) (w:(List Gs)) (b:Gt):Option (Ld (Unit) (Gs × Gt)):=
 if h=8 then
  if b.e=0 then
   (app ([]:List Int) b.open_).bind fun B=>
   (m_r04_declare fu b c (⟨d,1,(-1),1,false,(b.out_.Stmts.length:Int),0⟩:Gv)).bind fun C=>
   pel C fun i x=>
   (r_r04_block x u).bind fun C=>
   pel C fun z a=>
   (F_r04_stmt_J4 fu r_r04_block r_r04_stmt i a).bind fun C=>C.el (fun A=>
   some (.out ((⟨h,c,j,d,k,l,i,m,p,t,v,w,z⟩:Gs),(⟨(⟨a.out_.Program,A,a.out_.Stmts⟩:GSource),a.f,B,a.line,a.e⟩:Gt)))
   ) (fun o=>some (.out o))
  else
   some (.go ())
 else
  some (.go ())
def F_r04_stmt (fu:Nat)(r_r04_block:T_r04_block) (r_r04_stmt:T_r04_stmt) (z:Gt) (a:Gs):Option (Gs × Gt):=
 if 200≤(z.out_.Stmts.length:Int) then
  (m_r04_fail fu z a.Line 5).bind fun Y=>
  some ((⟨a.Kind,a.Line,(z.out_.Stmts.length:Int),a.Name,a.Type_,a.Len,a.Var,a.Target,a.Func,a.Callee,a.Args,a.Body,a.Else⟩:Gs),Y)
 else
  (app z.out_.Stmts ([(⟨z.f,a.Kind,a.Line⟩:Gi)]:List Gi)).bind fun r8=>
  (F_r04_stmt_J0 fu r_r04_block r_r04_stmt z a r8).bind fun a1=>a1.el (fun a1=>
  pel a1 fun A a1=>pel a1 fun B a1=>pel a1 fun C a1=>pel a1 fun D a1=>pel a1 fun E a1=>pel a1 fun F a1=>pel a1 fun G H=>
  (m_r04_exprs fu (⟨(⟨(⟨A,E⟩:GProgram),F,G⟩:GSource),B,H,C,D⟩:Gt) a.Target a.Line).bind fun a1=>
  pel a1 fun I J=>
  (F_r04_stmt_J2 fu r_r04_block r_r04_stmt z a I J).bind fun a1=>a1.el (fun a1=>
  pel a1 fun K a1=>pel a1 fun L a1=>pel a1 fun M a1=>pel a1 fun N a1=>pel a1 fun P a1=>pel a1 fun Q a1=>pel a1 fun R a1=>pel a1 fun S a1=>pel a1 fun m a1=>pel a1 fun b a1=>pel a1 fun c a1=>pel a1 fun d a1=>pel a1 fun e a1=>pel a1 fun h a1=>pel a1 fun v a1=>pel a1 fun i a1=>pel a1 fun j a1=>pel a1 fun k a1=>pel a1 fun w a1=>pel a1 fun x l=>
  (m_r04_exprs fu (⟨(⟨(⟨K,P⟩:GProgram),Q,R⟩:GSource),L,S,M,N⟩:Gt) w b).bind fun a1=>
  pel a1 fun p U=>
  (r_r04_block U x).bind fun a1=>
  pel a1 fun t u=>
  (F_r04_stmt_J3 fu r_r04_block r_r04_stmt m b c d e h i j k l p t u).bind fun a1=>a1.el (fun _=>
  (r_r04_block u l).bind fun a1=>
  pel a1 fun W X=>
  some ((⟨m,b,c,d,e,h,v,i,j,k,p,t,W⟩:Gs),X)
  ) (fun o=>some o)
  ) (fun o=>some o)
  ) (fun o=>some o)
def tab_r04_block:Nat→(Gt→(List Gs)→Option ((List Gs) × Gt)) × (Gt→Gs→Option (Gs × Gt))
 | 0=>((fun _ _=>none),(fun _ _=>none))
 | fu+1=>(F_r04_block fu ((tab_r04_block fu).1) ((tab_r04_block fu).2),F_r04_stmt fu ((tab_r04_block fu).1) ((tab_r04_block fu).2))
def m_r04_block (fu:Nat):=(tab_r04_block fu).1
def m_r04_stmt (fu:Nat):=(tab_r04_block fu).2
theorem wk_r04_block (fu:Nat)(r_r04_block:T_r04_block) (r_r04_stmt:T_r04_stmt) (H_r04_block:Ct_r04_block r_r04_block) (H_r04_stmt:Ct_r04_stmt r_r04_stmt):Ct_r04_block (F_r04_block fu r_r04_block r_r04_stmt):=by
 intro w0 d6 x0 x1 ai W X M N a2 ac aH aI aJ ae af aK aL b7 ag aM aN b9 a8 am an R hP bj bl bm bn aP hM
 unfold F_r04_block at hM
 have a:=hP.bx
 clear hP
 generalize hG:Gof _=G at a ⊢
 refine cf Try.func74 r ?_
 refine wCut [(0,Pt ai),(1,Z am x1 an)] ⟨r,r,y⟩ fun d7=>?_
 refine q (g (s (xAsS r) (n (q (g (s (xAsS r) (n (q (g (s (mp r) (s (xn r) (s (f115_5 r) (s (l22 r (a.bk 0 r) r) ?_)))))))))))))
 refine s (xLnR u22_ r) (s (xi r) (n (q (q (g (s (xMvS r) (s (xLnR u80_ r) (s (mi r) (n ?_)))))))))
 replace a:=a.owL Gs 111
 have cE:=(a.dl 6 r).bd
 obtain ⟨Y1,a6,hM⟩:=bs hM
 refine wJd (fun f w=>∃ (Q:List Gs) (p:OA)(t:Nat)(u:LV)(J:List Gr) (a1:Int)(a3:Int)(a4:Int)(K:List Gn) (a5:List (List Gv)) (Y:OA)(a0:Nat)(H:List Rw) (v:List Gi) (m:OA)(o:Nat)(x:LV)(L:List Int) (b:OA)(c:Nat)(F:LV),Has f [(0,Pt ai),(5,Z p Q t),(6,V (x0.open_.length:Int))]∧Bx w0 w d6 G [O w0.heap.size p t 111 Gs u,.box ai 115 #[Z W J X,Z M K N,Z Y a5 a0,Z m v o,V a1,Z b L c,V a3,V a4],O ac M N 82 Gn a2,O ae Y a0 60 (List Gv) (H.map Rw.hdr),.fam af 59 (sz Gv) H none,O ag m o 65 Gi x,O a8 b c 3 Int F] [.l W X J,.els u Q,.els a2 K,.els2 H a5,.els x v,.els F L,.l am an x1]∧Ld.go (Q,J,a1,a3,a4,K,a5,v,L)=Y1) (fun J1 bH=>?_) ?_
 ·refine wBk (wLoopGd (fun d8 f w=>∃ (k1:Nat)(Q:List Gs) (p:OA)(t:Nat)(u:LV)(J:List Gr) (a1:Int)(a3:Int)(a4:Int)(K:List Gn) (a5:List (List Gv)) (Y:OA)(a0:Nat)(H:List Rw) (v:List Gi) (m:OA)(o:Nat)(x:LV)(L:List Int) (b:OA)(c:Nat)(F:LV),d8=x1.length - k1∧k1≤x1.length∧Has f [(18,V (k1:Int)),(0,Pt ai),(5,Z p Q t),(6,V (x0.open_.length:Int)),(16,Z am x1 an),(17,V (x1.length:Int))]∧Bx w0 w d6 G [O w0.heap.size p t 111 Gs u,.box ai 115 #[Z W J X,Z M K N,Z Y a5 a0,Z m v o,V a1,Z b L c,V a3,V a4],O ac M N 82 Gn a2,O ae Y a0 60 (List Gv) (H.map Rw.hdr),.fam af 59 (sz Gv) H none,O ag m o 65 Gi x,O a8 b c 3 Int F] [.l W X J,.els u Q,.els a2 K,.els2 H a5,.els x v,.els F L,.l am an x1]∧F_r04_block_L0 fu r_r04_block r_r04_stmt (x1.drop k1) k1 Q J a1 a3 a4 K a5 v L=some Y1) (x1.length) ⟨0,([]:List Gs),none,0,[],x0.out_.Program.Records,x0.f,x0.line,x0.e,x0.out_.Program.Funcs,x0.out_.Vars,aH,aI,aJ,x0.out_.Stmts,aK,aL,b7,x0.open_,aM,aN,b9,r,Nat.zero_le _,⟨r,r,r,r,r,r,y⟩,(a.dp [1,0,2,3,4,5,6]),a6⟩ ?_)
  clear a a6
  rintro d8 f w ⟨k1,Q,p,t,u,J,a1,a3,a4,K,a5,Y,a0,H,v,m,o,x,L,b,c,F,rfl,cF,hf,a,a6⟩ K1 cc
  obtain ⟨d7,rfl⟩:=has_updL _ _ hf
  clear hf
  rcases Nat.lt_or_ge k1 x1.length with bI | bI
  ·obtain ⟨E,bz⟩:=get_ex (l:=x1) bI
   rw [drop_id bz,F_r04_block_L0] at a6
   obtain ⟨cG,cd,a⟩:=a.nm 6 rfl bz
   obtain ⟨ap,aq,ar,au,av,aw,ax,ay,rfl,bJ,bK,bL,bM⟩:=GStmt.out cd
   replace a:=a.dadd (d:=.l ap aq E.Target) bJ
   replace a:=a.dadd (d:=.l ar au E.Args) bK
   replace a:=a.dadd (d:=.l av aw E.Body) bL
   replace a:=a.dadd (d:=.l ax ay E.Else) bM
   refine q (g (s (xLssT r r (by omega)) (n (q (wIfT r (wk (q (wBk (q (g (s (xIdR u80_ ti111 r r r (a.dl 11 r) bz) (s (xLoadS [V E.Kind,V E.Line,V E.Id,T E.Name,T E.Type_,V E.Len,V E.Var,Z ap E.Target aq,T E.Func,V E.Callee,Z ar E.Args au,Z av E.Body aw,Z ax E.Else ay] u111_ r ti111 r r (a.dc 4 r)) (sTo (aNewB a (mAlloc ti111)) ?_)))))))))))))
   rintro _ w4 ⟨b4,rfl,a⟩
   refine sTs (tb a 0 [V E.Kind,V E.Line,V E.Id,T E.Name,T E.Type_,V E.Len,V E.Var,Z ap E.Target aq,T E.Func,V E.Callee,Z ar E.Args au,Z av E.Body aw,Z ax E.Else ay] r ti111 r r r r r (show _=#[V E.Kind,V E.Line,V E.Id,T E.Name,T E.Type_,V E.Len,V E.Var,Z ap E.Target aq,T E.Func,V E.Callee,Z ar E.Args au,Z av E.Body aw,Z ax E.Else ay] from r)) ?_
   intro w5 a
   try dsimp only [List.set] at a
   refine n (q (q (g (s (mp r) (s (xn r) (s (f115_7 r) (s (l37 r (a.bk 2 r) r) (s (xNeqD r r) (n ?_)))))))))
   rcases iv a6 with ⟨h6,a6⟩|⟨h6,a6⟩
   ·refine wIfT (bt h6) (wEx ?_)
    exact bH _ _ ⟨Q,p,t,u,J,a1,a3,a4,K,a5,Y,a0,H,v,m,o,x,L,b,c,F,⟨r,r,r,y⟩,(a.ad [1,2,3,4,5,6,7] [5,6,7,8,9,10,11]),sm a6⟩
   refine wIfF (bf h6) (wk (g (s (xMvS r) (s (mp r) (s (xLoadS [V E.Kind,V E.Line,V E.Id,T E.Name,T E.Type_,V E.Len,V E.Var,Z ap E.Target aq,T E.Func,V E.Callee,Z ar E.Args au,Z av E.Body aw,Z ax E.Else ay] u111_ r ti111 r r (Cells.part (a.bk 0 r).cells (o2:=0) r)) ?_)))))
   obtain ⟨⟨U,ab⟩,h7,a6⟩:=bs a6
   replace a6:=pi a6
   have hc:=H_r04_stmt (a.pr [2,3,4,5,6,7] [0,1] [5,7,8,9,10,3,2,1,0] r) (a.le bj) (a.le bl) (a.le bm) (a.le bn) (a.le aP) h7
   refine sc (ec cal99 r) hc ?_
   rintro _ w7 ⟨az,aA,aB,aC,aD,aE,aF,aG,aX,aY,aZ,b0,b1,b2,b3,b5,b6,rfl,hK⟩
   replace a:=a.cl [2,3,4,5,6,7] [0,1] r hK r
   try dsimp only [pick,nth,ca,na] at a
   refine sTo (aRowB a [[V U.Kind,V U.Line,V U.Id,T U.Name,T U.Type_,V U.Len,V U.Var,Z az U.Target aA,T U.Func,V U.Callee,Z aB U.Args aC,Z aD U.Body aE,Z aF U.Else aG]] ([U]:List Gs) (bs80_1_a r) r r (by decide) ⟨(GStmt.inn ⟨az,aA,aB,aC,aD,aE,aF,aG,r,(a.dl 0 r),(a.dl 1 r),(a.dl 2 r),(a.dl 3 r)⟩),y⟩) ?_
   rintro _ w8 ⟨b8,rfl,a⟩
   obtain ⟨r9,cg,a6⟩:=bs a6
   refine sTo (aAppB a 8 16 r r u80_ ti111 r (by decide) (by decide) (Nat.le_refl _) r r (a.ysO 0 0 r r) cg) ?_
   rintro _ w9 ⟨A9,C9,Q9,rfl,a⟩
   refine s (xAsS r) (n (g (s (xAdd64 r r (by omega) (by omega)) (s (mi r) (n ?_)))))
   exact cc (x1.length - (k1+1)) _ _ (by omega) ⟨k1+1,r9,A9,C9,Q9,ab.out_.Program.Records,ab.f,ab.line,ab.e,ab.out_.Program.Funcs,ab.out_.Vars,aX,aY,aZ,ab.out_.Stmts,b0,b1,b2,ab.open_,b3,b5,b6,r,by omega,⟨r,r,r,r,r,r,y⟩,(a.ad [8,1,2,3,4,5,6] [5,16,6,7,8,9,21]),a6⟩
  obtain rfl:k1=x1.length:=by omega
  rw [drop_end,F_r04_block_L0] at a6
  refine q (g (s (xLssF r r (by omega)) (n (q (wIfF r (wEx ?_))))))
  exact bH _ _ ⟨Q,p,t,u,J,a1,a3,a4,K,a5,Y,a0,H,v,m,o,x,L,b,c,F,⟨r,r,r,y⟩,a,sm a6⟩
 clear a
 rintro f w ⟨Q,p,t,u,J,a1,a3,a4,K,a5,Y,a0,H,v,m,o,x,L,b,c,F,hf,a,ch⟩
 obtain ⟨d7,rfl⟩:=has_updL _ _ hf
 clear hf
 subst ch
 replace hM:=gi hM
 replace hM:=pi hM
 replace hM:=pi hM
 replace hM:=pi hM
 replace hM:=pi hM
 replace hM:=pi hM
 replace hM:=pi hM
 replace hM:=pi hM
 replace hM:=pi hM
 refine q (q (g (s (mp r) (s (xn r) (s (f115_5 r) (s (l22 r (a.bk 1 r) r) (s (mi r) ?_)))))))
 obtain ⟨a9,bN,hM⟩:=bs hM
 obtain ⟨ao,ci,bO,cx,aO,ba,aQ⟩:=sl_inv bN
 have bA:a9.length=ci - ao:=by rw [← aQ,List.length_take,List.length_drop];omega
 obtain ⟨bB,aR⟩:∃ A,(if c=ao then b else b.map (·.add (ao * sz Int)))=A:=⟨_,rfl⟩
 obtain ⟨bC,aS⟩:∃ C,(c - ao)=C:=⟨_,rfl⟩
 have bP:Value.slice (if c=ao then b else b.map (·.add (ao * sz Int))) (L.length - ao) (c - ao)=Value.slice bB a9.length bC:=by rw [bA,← aR,← aS];simp;try omega
 refine s (show Yl _ _ _ _ _ _ _ _ _ (.slice bB a9.length bC) from bP ▸ xSlcL ao u22_ ti3 r r bO (by omega)) (s (xLnR u22_ r) (s (mi r) (n ?_)))
 have cy:=(LRep.partE (a.vw 6 5 r r) aO ba aQ aR aS).bd
 obtain ⟨bQ,S,hM⟩:=bs hM
 refine wJd (fun f w=>∃ (I:List (List Gv)) (B:OA)(D:Nat)(j:List Rw),Has f [(0,Pt ai),(5,Z p Q t),(6,V (x0.open_.length:Int))]∧Bx w0 w d6 G [O w0.heap.size p t 111 Gs u,.box ai 115 #[Z W J X,Z M K N,Z B I D,Z m v o,V a1,Z b L c,V a3,V a4],O ac M N 82 Gn a2,O ae B D 60 (List Gv) (j.map Rw.hdr),.fam af 59 (sz Gv) j none,O ag m o 65 Gi x,O a8 b c 3 Int F] [.l W X J,.els u Q,.els a2 K,.els2 j I,.els x v,.els F L]∧Ld.go I=bQ) (fun cN bR=>?_) ?_
 ·refine wBk (wLoopGd (fun d8 f w=>∃ (aj:Nat)(I:List (List Gv)) (B:OA)(D:Nat)(j:List Rw),d8=a9.length - aj∧aj≤a9.length∧Has f [(41,V (aj:Int)),(0,Pt ai),(5,Z p Q t),(6,V (x0.open_.length:Int)),(39,Z bB a9 bC),(40,V (a9.length:Int))]∧Bx w0 w d6 G [O w0.heap.size p t 111 Gs u,.box ai 115 #[Z W J X,Z M K N,Z B I D,Z m v o,V a1,Z b L c,V a3,V a4],O ac M N 82 Gn a2,O ae B D 60 (List Gv) (j.map Rw.hdr),.fam af 59 (sz Gv) j none,O ag m o 65 Gi x,O a8 b c 3 Int F] [.l W X J,.els u Q,.els a2 K,.els2 j I,.els x v,.els F L]∧F_r04_block_L1 fu r_r04_block r_r04_stmt a1 v (a9.drop aj) aj I=some bQ) (a9.length) ⟨0,a5,Y,a0,H,r,Nat.zero_le _,⟨r,r,r,r,r,r,y⟩,(a.dp [0,1,2,3,4,5]),S⟩ ?_)
  clear a S
  rintro d8 f w ⟨aj,I,B,D,j,rfl,cz,hf,a,S⟩ cO bS
  obtain ⟨d7,rfl⟩:=has_updL _ _ hf
  clear hf
  rcases Nat.lt_or_ge aj a9.length with bq | bq
  ·obtain ⟨cj,bb⟩:=get_ex (l:=a9) bq
   rw [drop_id bb,F_r04_block_L1] at S
   refine q (g (s (xLssT r r (by omega)) (n (q (wIfT r (wk (q (wBk (q (g (s (xIdR u22_ ti3 r r r (LRep.partE (a.vw 6 5 r r) aO ba aQ aR aS) bb) (s (xLoad u3_ r r ((elF (ds:=[V cj]) (LRep.partE (a.vw 6 5 r r) aO ba aQ aR aS) bb (fun _ h=>h)) 0 _ r)) (s (xi r) ?_)))))))))))))
   refine n ?_
   obtain ⟨ck,bc,S⟩:=bs S
   obtain ⟨bD,bT,bc⟩:=ix_inv bc
   replace a:=a.arr [4,0,1,2,3,5,6] r
   try dsimp only [pick,nth,ca,na] at a
   obtain ⟨bU,bV,cP,bg,bW,a⟩:=a.foc 3 rfl bc
   refine wDr a [1,3,5] [4] [0,1,3,5] [0,4] [21] (by kernel_rfl) ?_
   replace a:=a.drew
   have hs:=(a.ad [1,3,5] [4])
   have hu:=(a.ad [0,1,3,5] [0,4])
   refine pL 0 r (mp r) hs hu (pL 1 r (xn r) hs hu (pL 2 r (f115_0 r) hs hu (pL 3 r (f30_2 r) hs hu (tU 4 r (fun _ hS=>l27 r (hS.bk 1 r) r) (sl_ hs hu) (pL 5 r (mp r) hs hu (pL 6 r (xn r) hs hu (pL 7 r (f115_4 r) hs hu (tU 8 r (fun _ hS=>l3 r (hS.bk 1 r) r) (sl_ hs hu) (pL 9 r (xIdH u27_ ti60 r r bT (a.bo 5 r) bg (a.d2 4 r).len) hs hu (tU 10 r (fun _ hS=>xLoad u60_ r r (hS.hc 2 r bg bW 0 _ r)) (sl_ hs hu) (pL 11 r (mi r) hs hu (pL 12 r (mp r) hs hu (pL 13 r (xn r) hs hu ?_)))))))))))))
   refine pL 14 r (f115_0 r) hs hu (pL 15 r (f30_3 r) hs hu (tU 16 r (fun _ hS=>l28 r (hS.bk 1 r) r) (sl_ hs hu) (pL 17 r (xLnR u28_ r) hs hu (pL 18 r (xSubW r r) hs hu ?_))))
   obtain ⟨aa,aT,S⟩:=bs S
   obtain ⟨bX,bY,aT⟩:=ix_inv aT
   refine pL 19 r (xIdR u60_ ti59 r r bY (a.vw 0 0 r r) aT) hs hu (pL 20 r (f59_6 r) hs hu ?_)
   obtain ⟨cm,aU,S⟩:=bs S
   obtain ⟨cn,cA,_,aU⟩:=st_inv aU
   obtain rfl:bX=cn:=by omega
   obtain ⟨co,bZ,bh⟩:=(a.de 0 rfl).get aT
   replace bh:co=[T aa.Name,V aa.Kind,V aa.Record,V aa.Words,.bool aa.Param,V aa.From,V aa.To]:=bh
   subst bh
   refine hO 21 (os r r (tStO a 0 0 bX 6 [V (wr ((v.length:Int) - 1))] r r bZ ti3 r r r r r (show _=[T aa.Name,V aa.Kind,V aa.Record,V aa.Words,.bool aa.Param,V aa.From,V (wr ((v.length:Int) - 1))] from r) r aU) ?_)
   rintro cQ ⟨c0,a⟩
   try dsimp only [List.set] at a
   have br:ck.length=cm.length:=by rw [← aU,List.length_set]
   try dsimp only [Z] at a
   try rw [br] at a
   try dsimp only [Z]
   try rw [br]
   have hs:=(a.ad [1,3,5] [4])
   refine ⟨(sy 21 hs),?_⟩
   refine hD (g (s (xAdd64 r r (by omega) (by omega)) (s (mi r) (n ?_))))
   obtain ⟨c1,aV,S⟩:=bs S
   obtain ⟨cp,cB,_,aV⟩:=st_inv aV
   obtain rfl:bD=cp:=by omega
   have cC:=(a.de 0 r).len
   replace a:=a.hd 5 (H':=((j.set bD ⟨bU,bV,c0⟩).map Rw.hdr)) r (hdrA bg (by omega))
   try dsimp only [List.set] at a
   replace a:=a.arr [0,1,2,3,4,5,6,7] r
   try dsimp only [pick,nth,ca,na] at a
   replace a:=a.unf 4 0 r r
   try dsimp only [List.set] at a
   rw [aV] at a
   obtain ⟨cq,c2⟩:∃ R,(j.set bD ⟨bU,bV,c0⟩)=R:=⟨_,rfl⟩
   rw [c2] at a
   have bu:I.length=c1.length:=by rw [← aV,List.length_set]
   try dsimp only [Z] at a
   try rw [bu] at a
   try dsimp only [Z]
   try rw [bu]
   exact bS (a9.length - (aj+1)) _ _ (by omega) ⟨aj+1,c1,B,D,cq,r,by omega,⟨r,r,r,r,r,r,y⟩,(a.ad [1,2,3,4,0,5,6] [1,2,3,4,5,6]),S⟩
  obtain rfl:aj=a9.length:=by omega
  rw [drop_end,F_r04_block_L1] at S
  refine q (g (s (xLssF r r (by omega)) (n (q (wIfF r (wEx ?_))))))
  exact bR _ _ ⟨I,B,D,j,⟨r,r,r,y⟩,a,sm S⟩
 clear a
 rintro f w ⟨I,B,D,j,hf,a,c3⟩
 obtain ⟨d7,rfl⟩:=has_updL _ _ hf
 clear hf
 subst c3
 replace hM:=gi hM
 refine q (g (s (mp r) (sTo (aRowB a [] ([]:List Int) (bs22_0_a) r r (by decide) y) ?_)))
 rintro _ cR ⟨cS,rfl,a⟩
 refine s (mp r) (s (xn r) (s (f115_5 r) (s (l22 r (a.bk 2 r) r) (s (mi r) ?_))))
 obtain ⟨c4,c5,hM⟩:=bs hM
 obtain ⟨cr,c6,cD,c7,ct,bv,bw⟩:=sl_inv c5
 obtain rfl:cr=0:=by omega
 have bE:c4.length=c6:=by rw [← bw,List.length_take,List.length_drop];omega
 refine s (show Yl _ _ _ _ _ _ _ _ _ (.slice b c4.length c) from (congrArg (fun z=>Value.slice b z c) bE).symm ▸ xSlcH c6 u22_ ti3 r r c7 (Nat.le_trans bv ((a.vw 7 6 r r)).cap)) ?_
 obtain ⟨c8,c9,hM⟩:=bs hM
 refine sTo (aAppB a 0 0 r r u22_ ti3 r (by decide) (by decide) (Nat.le_refl _) r r (a.ysP 7 6 r r bv bw) c9) ?_
 rintro _ cT ⟨bF,bG,cu,rfl,a⟩
 refine s (xn r) (s (f115_5 r) (sTs (tb a 2 [Z bF c8 bG] r ti22 r r r r r (show _=#[Z W J X,Z M K N,Z B I D,Z m v o,V a1,Z bF c8 bG,V a3,V a4] from r)) ?_))
 intro cU a
 try dsimp only [List.set] at a
 refine n (q (g (s (xMvS r) (s (xAsS r) (n (wRt ?_))))))
 replace a:=a.reb 0 a8 r aP
 try dsimp only [List.set] at a
 obtain rfl:=sm hM
 refine resV1 r (rdT r) ?_
 exact pok (⟨p,t,u,B,D,j,m,o,x,bF,bG,cu,r,(a.ad [1,2,3,4,5,6,0] [2,1,3,4,5,0])⟩)
theorem wk_r04_stmt (fu:Nat)(r_r04_block:T_r04_block) (r_r04_stmt:T_r04_stmt) (H_r04_block:Ct_r04_block r_r04_block) (H_r04_stmt:Ct_r04_stmt r_r04_stmt):Ct_r04_stmt (F_r04_stmt fu r_r04_block r_r04_stmt):=by
 intro w0 eW U b aU ac ae a9 aa am aP an ao af aQ aR bF bG c9 aS ap aq au aF Q S D E B C u v R hP a3 a4 a5 X Y x
 unfold F_r04_stmt at x
 have a:=hP.bx
 clear hP
 generalize hG:Gof _=G at a ⊢
 refine cf Try.func99 r ?_
 refine wCut [(0,Pt aU),(1,.agg #[V b.Kind,V b.Line,V b.Id,T b.Name,T b.Type_,V b.Len,V b.Var,Z Q b.Target S,T b.Func,V b.Callee,Z D b.Args E,Z B b.Body C,Z u b.Else v])] ⟨r,r,y⟩ fun eX=>?_
 refine q (g (sTo (aNewB a (mBox r)) ?_))
 rintro _ w1 ⟨b1,rfl,a⟩
 refine sTo (aNewB a (mAlloc ti111)) ?_
 rintro _ w2 ⟨b2,rfl,a⟩
 refine n (q (g (s (mp r) (s (xn r) (s (f115_0 r) (s (f30_3 r) (s (l28 r (a.bk 2 r) r) (s (xLnR u28_ r) (s (f111_2 r) (sTs (tb a 1 [V (U.out_.Stmts.length:Int)] r ti3 r r r r r (show _=#[V b.Kind,V b.Line,V (U.out_.Stmts.length:Int),T b.Name,T b.Type_,V b.Len,V b.Var,Z Q b.Target S,T b.Func,V b.Callee,Z D b.Args E,Z B b.Body C,Z u b.Else v] from r)) ?_))))))))))
 intro w3 a
 try dsimp only [List.set] at a
 refine n (q (q (g (s (f111_2 r) (s (l3 r (a.bk 1 r) r) (s (xGeq r r) (n ?_)))))))
 rcases iv x with ⟨h4,x⟩|⟨h4,x⟩
 ·refine wIfT (bt h4) (q (g (s (mp r) (s (f111_1 r) (s (l3 r (a.bk 1 r) r) ?_)))))
  obtain ⟨dY,h5,x⟩:=bs x
  have hc:=(sp_r04_fail fu) (a.pr [2,3,4,5,6,7] [0,1] [0,1,2,3,4] r) (a.le a3) (a.le a4) (a.le a5) (a.le X) (a.le Y) h5
  refine sc (ec cal72 r) hc ?_
  rintro _ w5 ⟨rfl,hK⟩
  replace a:=a.cl [2,3,4,5,6,7] [0,1] r hK r
  try dsimp only [pick,nth,ca,na] at a
  refine n (q (g (s (xLoadS [V b.Kind,V b.Line,V (U.out_.Stmts.length:Int),T b.Name,T b.Type_,V b.Len,V b.Var,Z Q b.Target S,T b.Func,V b.Callee,Z D b.Args E,Z B b.Body C,Z u b.Else v] u111_ r ti111 r r (Cells.part (a.bk 7 r).cells (o2:=0) r)) (sTs (tb a 6 [V b.Kind,V b.Line,V (U.out_.Stmts.length:Int),T b.Name,T b.Type_,V b.Len,V b.Var,Z Q b.Target S,T b.Func,V b.Callee,Z D b.Args E,Z B b.Body C,Z u b.Else v] r ti111 r r r r r (show _=#[V b.Kind,V b.Line,V (U.out_.Stmts.length:Int),T b.Name,T b.Type_,V b.Len,V b.Var,Z Q b.Target S,T b.Func,V b.Callee,Z D b.Args E,Z B b.Body C,Z u b.Else v] from r)) ?_))))
  intro w6 a
  try dsimp only [List.set] at a
  refine n (wRt ?_)
  obtain rfl:=sm x
  refine resV1 r (rdA r u111_ r ti111 r (a.bk 6 r)) ?_
  exact pok (⟨Q,S,D,E,B,C,u,v,an,ao,af,bF,bG,c9,ap,aq,au,r,(a.ad [0,1,2,3,4,5] [10,11,12,13,0,1,2,3,4])⟩)
 refine wIfF (bf h4) (wk (q (wDr a [1] [] [1,2] [] [20] (by kernel_rfl) ?_)))
 replace a:=a.drew
 have A:=(a.ad [1] [])
 have hu:=(a.ad [1,2] [])
 refine pL 0 r (mp r) A hu (pL 1 r (mp r) A hu (pL 2 r (xn r) A hu (pL 3 r (f115_0 r) A hu (pL 4 r (f30_3 r) A hu (tS 1 5 r (fun _ hS=>l28 r (hS.bk 1 r) r) (sl_ A hu) (pL 6 r (mp r) A hu (pL 7 r (xn r) A hu (pL 8 r (f115_4 r) A hu (tS 1 9 r (fun _ hS=>l3 r (hS.bk 1 r) r) (sl_ A hu) (pL 10 r (f111_0 r) A hu (tU 11 r (fun _ hS=>l3 r (hS.bk 0 r) r) (sl_ A hu) (pL 12 r (f111_1 r) A hu (tU 13 r (fun _ hS=>l3 r (hS.bk 0 r) r) (sl_ A hu) ?_)))))))))))))
 refine pL 14 r (bd65_0_1_2 r r r) A hu ?_
 refine hO 15 (oo r r (aRowB a [[V U.f,V b.Kind,V b.Line]] ([(⟨U.f,b.Kind,b.Line⟩:Gi)]:List Gi) (bs28_1_a r) r r (by decide) ⟨r,y⟩) ?_)
 rintro _ w7 ⟨b7,rfl,a⟩
 have A:=(a.ad [2] [])
 have hu:=(a.ad [2,3] [])
 refine ⟨(sl_ A hu),?_⟩
 obtain ⟨r8,dt,x⟩:=bs x
 refine hO 16 (oo r r (aAppB a 7 4 r r u28_ ti65 r (by decide) (by decide) X r r (a.ysO 0 0 r r) dt) ?_)
 rintro _ w8 ⟨A8,C8,Q8,rfl,a⟩
 have A:=(a.ad [2] [])
 have hu:=(a.ad [2,3] [])
 refine ⟨(sl_ A hu),?_⟩
 refine pL 17 r (xn r) A hu (pL 18 r (f115_0 r) A hu (pL 19 r (f30_3 r) A hu ?_))
 refine hO 20 (os r r (tb a 3 [Z A8 r8 C8] r ti28 r r r r r (show _=#[Z ac U.out_.Program.Records ae,Z a9 U.out_.Program.Funcs aa,Z an U.out_.Vars ao,Z A8 r8 C8,V U.f,Z ap U.open_ aq,V U.line,V U.e] from r)) ?_)
 intro e5 a
 try dsimp only [List.set] at a
 have A:=(a.ad [2] [])
 refine ⟨(sy 20 A),?_⟩
 refine hD (q (q (g (s (f111_0 r) (s (l3 r (a.bk 2 r) r) (n ?_))))))
 obtain ⟨du,t,x⟩:=bs x
 refine wJd (fun f w=>∃ (bj:List Gr) (bH:Int)(bI:Int)(bJ:Int)(bl:List Gn) (bm:List (List Gv)) (bn:List Gi) (bp:List Int),Has f [(0,Pt aU),(3,Pt b1),(4,Pt b2)]∧Bx w0 w eW G [.box b2 111 #[V 0,V 0,V 0,T be,T be,V 0,V 0,sn,T be,V 0,sn,sn,sn],.box b1 111 #[V b.Kind,V b.Line,V (U.out_.Stmts.length:Int),T b.Name,T b.Type_,V b.Len,V b.Var,Z Q b.Target S,T b.Func,V b.Callee,Z D b.Args E,Z B b.Body C,Z u b.Else v],.box aU 115 #[Z ac bj ae,Z a9 bl aa,Z an bm ao,Z A8 bn C8,V bH,Z ap bp aq,V bI,V bJ],O aP a9 aa 82 Gn am,O aQ an ao 60 (List Gv) (af.map Rw.hdr),.fam aR 59 (sz Gv) af none,O aS A8 C8 65 Gi Q8,O aF ap aq 3 Int au] [.l ac ae bj,.els am bl,.els2 af bm,.els Q8 bn,.els au bp,.l Q S b.Target,.l D E b.Args,.l B C b.Body,.l u v b.Else]∧Ld.go (bj,bH,bI,bJ,bl,bm,bn,bp)=du) (fun e6 c3=>?_) ?_
 ·unfold F_r04_stmt_J0 at t
  refine wBk (q (g (s (xEqlD r r) (s (xAsB r) (n ?_)))))
  rcases iv t with ⟨cz,t⟩|⟨cz,t⟩
  ·refine wIfT (bt cz) (q (g (s (f111_3 r) (s (l9 r (a.bk 2 r) r) (s (f111_2 r) (s (l3 r (a.bk 2 r) r) (s (xAddW r r) (s (bd59_0_1_2_3_5 r r r r r) (sTo (aNewB a (mAlloc ti59)) ?_)))))))))
   rintro _ e7 ⟨d0,rfl,a⟩
   refine sTs (tb a 0 [T b.Name,V 1,V (-1),V 1,.bool false,V (wr ((U.out_.Stmts.length:Int)+1)),V 0] r ti59 r r r r r (show _=#[T b.Name,V 1,V (-1),V 1,.bool false,V (wr ((U.out_.Stmts.length:Int)+1)),V 0] from r)) ?_
   intro e8 a
   try dsimp only [List.set] at a
   refine n (q ?_)
   obtain ⟨dv,a0,t⟩:=bs t
   refine wJd (fun f w=>∃ (bq:Int)(br:Int)(bu:Int),Has f [(0,Pt aU),(3,Pt b1),(4,Pt b2),(5,Pt d0)]∧Bx w0 w eW G [.box d0 59 #[T b.Name,V bq,V br,V bu,.bool false,V (wr ((U.out_.Stmts.length:Int)+1)),V 0],.box b2 111 #[V 0,V 0,V 0,T be,T be,V 0,V 0,sn,T be,V 0,sn,sn,sn],.box b1 111 #[V b.Kind,V b.Line,V (U.out_.Stmts.length:Int),T b.Name,T b.Type_,V b.Len,V b.Var,Z Q b.Target S,T b.Func,V b.Callee,Z D b.Args E,Z B b.Body C,Z u b.Else v],.box aU 115 #[Z ac U.out_.Program.Records ae,Z a9 U.out_.Program.Funcs aa,Z an U.out_.Vars ao,Z A8 r8 C8,V U.f,Z ap U.open_ aq,V U.line,V U.e],O aP a9 aa 82 Gn am,O aQ an ao 60 (List Gv) (af.map Rw.hdr),.fam aR 59 (sz Gv) af none,O aS A8 C8 65 Gi Q8,O aF ap aq 3 Int au] [.l ac ae U.out_.Program.Records,.els am U.out_.Program.Funcs,.els2 af U.out_.Vars,.els Q8 r8,.els au U.open_,.l Q S b.Target,.l D E b.Args,.l B C b.Body,.l u v b.Else]∧Ld.go (bq,br,bu)=dv) (fun e9 cc=>?_) ?_
   ·unfold F_r04_stmt_J1 at a0
    refine q (g (s (f111_5 r) (s (l3 r (a.bk 3 r) r) (s (xGtr r r) (n ?_)))))
    rcases iv a0 with ⟨cA,a0⟩|⟨cA,a0⟩
    ·refine wIfT (bt cA) (wDr1 a [3] [] [] (by kernel_rfl) ?_)
     replace a:=a.drew
     have A:=(a.ad [3] [])
     refine pF 0 r (f111_5 r) A (uF 1 r (fun hS=>l3 r (hS.bk 0 r) r) A (pF 2 r (f59_1 r) A ?_))
     refine hO 3 (os r r (tb a 0 [V 3] r ti3 r r r r r (show _=#[T b.Name,V 3,V (-1),V 1,.bool false,V (wr ((U.out_.Stmts.length:Int)+1)),V 0] from r)) ?_)
     intro ea a
     try dsimp only [List.set] at a
     have A:=(a.ad [3] [])
     refine ⟨(sF A),?_⟩
     refine pF 4 r (f59_3 r) A ?_
     refine hO 5 (os r r (tb a 0 [V b.Len] r ti3 r r r r r (show _=#[T b.Name,V 3,V (-1),V b.Len,.bool false,V (wr ((U.out_.Stmts.length:Int)+1)),V 0] from r)) ?_)
     intro eb a
     try dsimp only [List.set] at a
     have A:=(a.ad [3] [])
     refine ⟨(sF A),?_⟩
     refine hD ?_
     exact cc _ _ ⟨3,(-1),b.Len,⟨r,r,r,r,y⟩,(a.ad [0,2,3,4,5,6,7,8,9] [1,2,3,4,5,6,7,8,9]),sm a0⟩
    refine wIfF (bf cA) (q (g (s (f111_4 r) (s (l9 r (a.bk 3 r) r) (s (xNeqT' r r) (n ?_))))))
    rcases iv a0 with ⟨cB,a0⟩|⟨cB,a0⟩
    ·refine wIfT (bt cB) (q (g (s (mp r) (s (f111_4 r) (s (l9 r (a.bk 3 r) r) ?_)))))
     obtain ⟨⟨bv,dw⟩,dx,a0⟩:=bs a0
     replace a0:=pi a0
     have hc:=(sp_r04_record fu) (a.pr [4,5,6,7,8,9] [0,1,2,3] [1,2,3,4,5] r) (a.le a3) (a.le a4) (a.le a5) (a.le X) (a.le Y) dx
     refine sc (ec cal116 r) hc ?_
     rintro _ ed ⟨rfl,hK⟩
     replace a:=a.cl [4,5,6,7,8,9] [0,1,2,3] r hK r
     try dsimp only [pick,nth,ca,na] at a
     refine s xMove (s (xExtract r r) (s (xExtract r r) (s (xi r) (s (xAsB r) (n (q (q (g (s (xMvB r) (s (xNot r) (n ?_)))))))))))
     rcases iv a0 with ⟨cd,a0⟩|⟨cd,a0⟩
     ·refine wIfT (cb cd) (q (g (s (mp r) (s (f111_1 r) (s (l3 r (a.bk 9 r) r) ?_)))))
      obtain ⟨dy,dz,a0⟩:=bs a0
      have hc:=(sp_r04_fail fu) (a.pr [0,1,2,3,4,5] [6,7,8,9] [6,1,2,3,4] r) (a.le a3) (a.le a4) (a.le a5) (a.le X) (a.le Y) dz
      refine sc (ec cal72 r) hc ?_
      rintro _ ee ⟨rfl,hK⟩
      replace a:=a.cl [0,1,2,3,4,5] [6,7,8,9] r hK r
      try dsimp only [pick,nth,ca,na] at a
      refine n (q (g (s (xLoadS [V b.Kind,V b.Line,V (U.out_.Stmts.length:Int),T b.Name,T b.Type_,V b.Len,V b.Var,Z Q b.Target S,T b.Func,V b.Callee,Z D b.Args E,Z B b.Body C,Z u b.Else v] u111_ r ti111 r r (Cells.part (a.bk 9 r).cells (o2:=0) r)) (sTs (tb a 8 [V b.Kind,V b.Line,V (U.out_.Stmts.length:Int),T b.Name,T b.Type_,V b.Len,V b.Var,Z Q b.Target S,T b.Func,V b.Callee,Z D b.Args E,Z B b.Body C,Z u b.Else v] r ti111 r r r r r (show _=#[V b.Kind,V b.Line,V (U.out_.Stmts.length:Int),T b.Name,T b.Type_,V b.Len,V b.Var,Z Q b.Target S,T b.Func,V b.Callee,Z D b.Args E,Z B b.Body C,Z u b.Else v] from r)) ?_))))
      intro ef a
      try dsimp only [List.set] at a
      refine n (wRt ?_)
      obtain rfl:=sm a0
      replace t:=oi t
      obtain rfl:=sm t
      replace x:=oi x
      obtain rfl:=sm x
      refine resV1 r (rdA r u111_ r ti111 r (a.bk 8 r)) ?_
      exact pok (⟨Q,S,D,E,B,C,u,v,an,ao,af,A8,C8,Q8,ap,aq,au,r,(a.ad [0,1,2,3,4,5] [16,17,18,19,0,1,2,3,4])⟩)
     replace cd:=nt cd
     refine wIfF (cb cd) (wk ?_)
     obtain ⟨cp,c4,a0⟩:=bs a0
     obtain ⟨eg,d1,c4⟩:=ix_inv c4
     obtain ⟨dZ,d3,a⟩:=a.nm 6 rfl c4
     obtain ⟨cC,cD,rfl,cE⟩:=GRecord.out d3
     replace a:=a.dadd (d:=.l cC cD cp.Fields) cE
     refine wDr1 a [0] [0,1,8] [] (by kernel_rfl) ?_
     replace a:=a.drew
     have A:=(a.ad [0] [0,1,8])
     refine pF 0 r (mi r) A (pF 1 r (mp r) A (pF 2 r (xn r) A (pF 3 r (f115_0 r) A (pF 4 r (f30_0 r) A (pF 5 r (f26_0 r) A (uF 6 r (fun hS=>l23 r (hS.bk 0 r) r) A (pF 7 r (mi r) A (pF 8 r (xIdR u23_ ti127 r r d1 (a.dl 8 r) c4) A (pF 9 r (f127_1 r) A (uF 10 r (fun hS=>xLoad u70_ r r ((hS.dc 1 r) 1 _ r)) A (pF 11 r (xLnR u70_ r) A (pF 12 r (f59_1 r) A ?_))))))))))))
     refine hO 13 (os r r (tb a 6 [V 2] r ti3 r r r r r (show _=#[T b.Name,V 2,V (-1),V 1,.bool false,V (wr ((U.out_.Stmts.length:Int)+1)),V 0] from r)) ?_)
     intro eh a
     try dsimp only [List.set] at a
     have A:=(a.ad [0] [0,1,8])
     refine ⟨(sF A),?_⟩
     refine pF 14 r (f59_2 r) A ?_
     refine hO 15 (os r r (tb a 6 [V bv] r ti3 r r r r r (show _=#[T b.Name,V 2,V bv,V 1,.bool false,V (wr ((U.out_.Stmts.length:Int)+1)),V 0] from r)) ?_)
     intro ei a
     try dsimp only [List.set] at a
     have A:=(a.ad [0] [0,1,8])
     refine ⟨(sF A),?_⟩
     refine pF 16 r (f59_3 r) A ?_
     refine hO 17 (os r r (tb a 6 [V (cp.Fields.length:Int)] r ti3 r r r r r (show _=#[T b.Name,V 2,V bv,V (cp.Fields.length:Int),.bool false,V (wr ((U.out_.Stmts.length:Int)+1)),V 0] from r)) ?_)
     intro ej a
     try dsimp only [List.set] at a
     have A:=(a.ad [0] [0,1,8])
     refine ⟨(sF A),?_⟩
     refine hD ?_
     exact cc _ _ ⟨2,bv,(cp.Fields.length:Int),⟨r,r,r,r,y⟩,(a.ad [6,8,9,0,1,2,3,4,5] [8,3,4,5,6,13,14,15,16]),sm a0⟩
    refine wIfF (bf cB) (wk ?_)
    exact cc _ _ ⟨1,(-1),1,⟨r,r,r,r,y⟩,(a.ad [0,2,3,4,5,6,7,8,9] [1,2,3,4,5,6,7,8,9]),sm a0⟩
   clear a
   rintro f w ⟨bq,br,bu,hf,a,d4⟩
   obtain ⟨eX,rfl⟩:=has_updL _ _ hf
   clear hf
   subst d4
   replace t:=gi t
   replace t:=pi t
   replace t:=pi t
   refine q (g (s (mp r) (s (f111_1 r) (s (l3 r (a.bk 2 r) r) (s (xLoadS [T b.Name,V bq,V br,V bu,.bool false,V (wr ((U.out_.Stmts.length:Int)+1)),V 0] u59_ r ti59 r r (Cells.part (a.bk 0 r).cells (o2:=0) r)) ?_)))))
   obtain ⟨⟨aX,dA⟩,dB,t⟩:=bs t
   replace t:=pi t
   have hc:=(sp_r04_declare fu) (a.pr [3,4,5,6,7,8] [0,1,2] [0,1,2,3,4] r) (a.le a3) (a.le a4) (a.le a5) (a.le X) (a.le Y) dB
   refine sc (ec cal73 r) hc ?_
   rintro _ ek ⟨bK,bL,bM,bN,bO,bP,rfl,hK⟩
   replace a:=a.cl [3,4,5,6,7,8] [0,1,2] r hK r
   try dsimp only [pick,nth,ca,na] at a
   refine s (f111_6 r) (sTs (tb a 8 [V aX] r ti3 r r r r r (show _=#[V b.Kind,V b.Line,V (U.out_.Stmts.length:Int),T b.Name,T b.Type_,V b.Len,V aX,Z Q b.Target S,T b.Func,V b.Callee,Z D b.Args E,Z B b.Body C,Z u b.Else v] from r)) ?_)
   intro em a
   try dsimp only [List.set] at a
   refine n (q (g (s (xLoadS [V b.Kind,V b.Line,V (U.out_.Stmts.length:Int),T b.Name,T b.Type_,V b.Len,V aX,Z Q b.Target S,T b.Func,V b.Callee,Z D b.Args E,Z B b.Body C,Z u b.Else v] u111_ r ti111 r r (Cells.part (a.bk 8 r).cells (o2:=0) r)) (sTs (tb a 7 [V b.Kind,V b.Line,V (U.out_.Stmts.length:Int),T b.Name,T b.Type_,V b.Len,V aX,Z Q b.Target S,T b.Func,V b.Callee,Z D b.Args E,Z B b.Body C,Z u b.Else v] r ti111 r r r r r (show _=#[V b.Kind,V b.Line,V (U.out_.Stmts.length:Int),T b.Name,T b.Type_,V b.Len,V aX,Z Q b.Target S,T b.Func,V b.Callee,Z D b.Args E,Z B b.Body C,Z u b.Else v] from r)) ?_))))
   intro en a
   try dsimp only [List.set] at a
   refine n (wRt ?_)
   obtain rfl:=sm t
   replace x:=oi x
   obtain rfl:=sm x
   refine resV1 r (rdA r u111_ r ti111 r (a.bk 7 r)) ?_
   exact pok (⟨Q,S,D,E,B,C,u,v,bK,bL,bM,A8,C8,Q8,bN,bO,bP,r,(a.ad [0,1,2,3,4,5] [10,11,12,13,0,1,2,3,4])⟩)
  refine wIfF (bf cz) (q (g (s (xEqlD r r) (s (xAsB r) (n ?_)))))
  rcases iv t with ⟨cF,t⟩|⟨cF,t⟩
  ·refine wIfT (bt cF) (q (g (s (f111_7 r) (s (l109 r (a.bk 2 r) r) (s (xLnR u109_ r) (s (xGtr r r) (s (xMvB r) ?_)))))))
   rcases iv t with ⟨cG,t⟩|⟨cG,t⟩
   ·rw [decide_eq_true cG]
    refine sGo r (s (f111_7 r) (sGo r (s (l109 r (a.bk 2 r) r) ?_)))
    obtain ⟨dC,c5,t⟩:=bs t
    obtain ⟨eo,d5,c5⟩:=ix_inv c5
    obtain ⟨e0,d6,a⟩:=a.nm 6 rfl c5
    obtain ⟨cH,cI,rfl,cJ⟩:=GExpr.out d6
    replace a:=a.dadd (d:=.l cH cI dC.Args) cJ
    refine sGo r (s (xIdR u109_ ti138 r r d5 (a.dl 8 r) c5) (sGo r (s (f138_0 r) (sGo r (s (xLoad u3_ r r ((a.dc 1 r) 0 _ r)) (sGo r (s (xNeqD r r) (s (xPkTB r r) (n ?_)))))))))
    rcases iv t with ⟨cK,t⟩|⟨cK,t⟩
    ·refine wIfT (bt cK) (g (s (mp r) (s (f111_1 r) (s (l3 r (a.bk 2 r) r) ?_))))
     obtain ⟨ax,dD,t⟩:=bs t
     have hc:=(sp_r04_fail fu) (a.pr [3,4,5,6,7,8] [0,1,2] [3,4,5,6,7] r) (a.le a3) (a.le a4) (a.le a5) (a.le X) (a.le Y) dD
     refine sc (ec cal72 r) hc ?_
     rintro _ ep ⟨rfl,hK⟩
     replace a:=a.cl [3,4,5,6,7,8] [0,1,2] r hK r
     try dsimp only [pick,nth,ca,na] at a
     refine n ?_
     exact c3 _ _ ⟨ax.out_.Program.Records,ax.f,ax.line,ax.e,ax.out_.Program.Funcs,ax.out_.Vars,ax.out_.Stmts,ax.open_,⟨r,r,r,y⟩,(a.ad [7,8,0,1,2,3,4,5] [0,1,2,3,4,13,14,15,16]),sm t⟩
    refine wIfF (bf cK) (wk ?_)
    exact c3 _ _ ⟨U.out_.Program.Records,U.f,U.line,U.e,U.out_.Program.Funcs,U.out_.Vars,r8,U.open_,⟨r,r,r,y⟩,(a.ad [1,2,3,4,5,6,7,8] [3,4,5,6,7,8,9,10,11]),sm t⟩
   rw [decide_eq_false cG]
   refine sNo r (sNo r (sNo r (sNo r (sNo r (sNo r (s (xPkFB r r) (n (wIfF r (wk ?_)))))))))
   exact c3 _ _ ⟨U.out_.Program.Records,U.f,U.line,U.e,U.out_.Program.Funcs,U.out_.Vars,r8,U.open_,⟨r,r,r,y⟩,(a.ad [1,2,3,4,5,6,7,8] [1,2,3,4,5,6,7,8,9]),sm t⟩
  refine wIfF (bf cF) (wk ?_)
  exact c3 _ _ ⟨U.out_.Program.Records,U.f,U.line,U.e,U.out_.Program.Funcs,U.out_.Vars,r8,U.open_,⟨r,r,r,y⟩,(a.ad [1,2,3,4,5,6,7,8] [1,2,3,4,5,6,7,8,9]),sm t⟩
 clear a
 rintro f w ⟨bj,bH,bI,bJ,bl,bm,bn,bp,hf,a,d7⟩
 obtain ⟨eX,rfl⟩:=has_updL _ _ hf
 clear hf
 subst d7
 replace x:=gi x
 replace x:=pi x
 replace x:=pi x
 replace x:=pi x
 replace x:=pi x
 replace x:=pi x
 replace x:=pi x
 replace x:=pi x
 refine q (g (s (mp r) (s (f111_7 r) (s (l109 r (a.bk 1 r) r) (s (f111_1 r) (s (l3 r (a.bk 1 r) r) ?_))))))
 obtain ⟨⟨bQ,ay⟩,dE,x⟩:=bs x
 replace x:=pi x
 have hc:=(sp_r04_exprs fu) (a.pr [2,3,4,5,6,7] [0,1] [0,1,2,3,4,5] r) (a.le a3) (a.le a4) (a.le a5) (a.le X) (a.le Y) dE
 refine sc (ec cal117 r) hc ?_
 rintro _ eq ⟨aA,aB,cX,rfl,hK⟩
 have bw:=a.chg.size
 replace a:=a.cl [2,3,4,5,6,7] [0,1] r hK r
 try dsimp only [pick,nth,ca,na] at a
 replace a:=a.reb 0 w0.heap.size r bw
 try dsimp only [List.set] at a
 refine s (f111_7 r) (sTs (tb a 8 [Z aA bQ aB] r ti109 r r r r r (show _=#[V b.Kind,V b.Line,V (U.out_.Stmts.length:Int),T b.Name,T b.Type_,V b.Len,V b.Var,Z aA bQ aB,T b.Func,V b.Callee,Z D b.Args E,Z B b.Body C,Z u b.Else v] from r)) ?_)
 intro er a
 try dsimp only [List.set] at a
 refine n (q ?_)
 obtain ⟨dF,aE,x⟩:=bs x
 refine wJd (fun f w=>∃ (bz:List Gr) (bR:Int)(bS:Int)(bT:Int)(bA:List Gn) (bB:List (List Gv)) (bC:List Gi) (bD:List Int) (a1:Int)(H:Int)(I:Int)(J:BA) (K:BA) (L:Int)(ai:Int)(z:List Ge) (j:OA)(m:Nat)(M:BA) (N:Int)(aV:List Ge) (aL:List Gs) (aj:List Gs),Has f [(0,Pt aU),(3,Pt b1),(4,Pt b2)]∧Bx w0 w eW G [.box aU 115 #[Z ac bz ae,Z a9 bA aa,Z an bB ao,Z A8 bC C8,V bR,Z ap bD aq,V bS,V bT],O aP a9 aa 82 Gn am,O aQ an ao 60 (List Gv) (af.map Rw.hdr),.fam aR 59 (sz Gv) af none,O aS A8 C8 65 Gi Q8,O aF ap aq 3 Int au,.box b2 111 #[V 0,V 0,V 0,T be,T be,V 0,V 0,sn,T be,V 0,sn,sn,sn],.box b1 111 #[V a1,V H,V I,T J,T K,V L,V ai,Z j z m,T M,V N,Z D aV E,Z B aL C,Z u aj v]] [.l ac ae bz,.l j m z,.l D E aV,.l B C aL,.l u v aj,.els am bA,.els2 af bB,.els Q8 bC,.els au bD]∧Ld.go (bz,bR,bS,bT,bA,bB,bC,bD,a1,H,I,J,K,L,ai,z,M,N,aV,aL,aj)=dF) (fun et ct=>?_) ?_
 ·unfold F_r04_stmt_J2 at aE
  refine q (g (s (f111_8 r) (s (l9 r (a.bk 8 r) r) (s (xNeqT' r r) (n ?_)))))
  rcases iv aE with ⟨cL,aE⟩|⟨cL,aE⟩
  ·refine wIfT (bt cL) (g (s (mp r) ?_))
   replace a:=a.frz 0 0 r r
   try dsimp only [List.eraseIdx] at a
   obtain ⟨⟨az,ag⟩,dG,aE⟩:=bs aE
   replace aE:=pi aE
   have hc:=(sp_r04_callee fu) (a.pr [0,1,2,3,4,5,7] [6] [1,2,3,4,5,0,12,13,14] r) (a.le a3) (a.le a4) (a.le a5) (a.le X) (a.le Y) dG
   refine sc (ec cal118 r) hc ?_
   rintro _ eu ⟨rfl,hK⟩
   replace a:=a.cl [0,1,2,3,4,5,7] [6] r hK r
   try dsimp only [pick,nth,ca,na] at a
   refine n ?_
   exact ct _ _ ⟨az.out_.Program.Records,az.f,az.line,az.e,az.out_.Program.Funcs,az.out_.Vars,az.out_.Stmts,az.open_,ag.Kind,ag.Line,ag.Id,ag.Name,ag.Type_,ag.Len,ag.Var,ag.Target,aA,aB,ag.Func,ag.Callee,ag.Args,ag.Body,ag.Else,⟨r,r,r,y⟩,(a.ad [0,1,2,3,4,5,7,6] [0,5,6,7,8,1,2,3,4]),sm aE⟩
  refine wIfF (bf cL) (wk ?_)
  replace a:=a.frz 0 0 r r
  try dsimp only [List.eraseIdx] at a
  exact ct _ _ ⟨ay.out_.Program.Records,ay.f,ay.line,ay.e,ay.out_.Program.Funcs,ay.out_.Vars,ay.out_.Stmts,ay.open_,b.Kind,b.Line,(U.out_.Stmts.length:Int),b.Name,b.Type_,b.Len,b.Var,bQ,aA,aB,b.Func,b.Callee,b.Args,b.Body,b.Else,⟨r,r,r,y⟩,(a.dp [1,0,12,13,14,2,3,4,5]),sm aE⟩
 clear a
 rintro f w ⟨bz,bR,bS,bT,bA,bB,bC,bD,a1,H,I,J,K,L,ai,z,j,m,M,N,aV,aL,aj,hf,a,d8⟩
 obtain ⟨eX,rfl⟩:=has_updL _ _ hf
 clear hf
 subst d8
 replace x:=gi x
 replace x:=pi x
 replace x:=pi x
 replace x:=pi x
 replace x:=pi x
 replace x:=pi x
 replace x:=pi x
 replace x:=pi x
 replace x:=pi x
 replace x:=pi x
 replace x:=pi x
 replace x:=pi x
 replace x:=pi x
 replace x:=pi x
 replace x:=pi x
 replace x:=pi x
 replace x:=pi x
 replace x:=pi x
 replace x:=pi x
 replace x:=pi x
 replace x:=pi x
 refine q (g (s (mp r) (s (f111_10 r) (s (l109 r (a.bk 7 r) r) (s (f111_1 r) (s (l3 r (a.bk 7 r) r) ?_))))))
 obtain ⟨⟨a2,dH⟩,dI,x⟩:=bs x
 replace x:=pi x
 have hc:=(sp_r04_exprs fu) (a.pr [0,1,2,3,4,5] [6,7] [0,5,6,7,8,2] r) (a.le a3) (a.le a4) (a.le a5) (a.le X) (a.le Y) dI
 refine sc (ec cal117 r) hc ?_
 rintro _ ev ⟨c,h,aC,rfl,hK⟩
 have bw:=a.chg.size
 replace a:=a.cl [0,1,2,3,4,5] [6,7] r hK r
 try dsimp only [pick,nth,ca,na] at a
 replace a:=a.reb 0 w0.heap.size r bw
 try dsimp only [List.set] at a
 refine s (f111_10 r) (sTs (tb a 8 [Z c a2 h] r ti109 r r r r r (show _=#[V a1,V H,V I,T J,T K,V L,V ai,Z j z m,T M,V N,Z c a2 h,Z B aL C,Z u aj v] from r)) ?_)
 intro ew a
 try dsimp only [List.set] at a
 refine n (q (g (s (mp r) (s (f111_11 r) (s (l80 r (a.bk 8 r) r) ?_)))))
 obtain ⟨⟨a6,ah⟩,dJ,x⟩:=bs x
 replace x:=pi x
 have hc:=H_r04_block (a.pr [1,2,3,4,5,6] [0,7,8] [1,2,3,4,5,9] r) (a.le a3) (a.le a4) (a.le a5) (a.le X) (a.le Y) dJ
 refine sc (ec cal74 r) hc ?_
 rintro _ ex ⟨o,p,aD,aY,aZ,aG,b0,b3,b4,b5,b6,b8,rfl,hK⟩
 have bw:=a.chg.size
 replace a:=a.cl [1,2,3,4,5,6] [0,7,8] r hK r
 try dsimp only [pick,nth,ca,na] at a
 replace a:=a.reb 0 w0.heap.size r bw
 try dsimp only [List.set] at a
 refine s (f111_11 r) (sTs (tb a 9 [Z o a6 p] r ti80 r r r r r (show _=#[V a1,V H,V I,T J,T K,V L,V ai,Z j z m,T M,V N,Z c a2 h,Z o a6 p,Z u aj v] from r)) ?_)
 intro ey a
 try dsimp only [List.set] at a
 refine n (q ?_)
 obtain ⟨dK,W,x⟩:=bs x
 refine wJd (fun f w=>Has f [(0,Pt aU),(3,Pt b1),(4,Pt b2)]∧Bx w0 w eW G [O w0.heap.size o p 111 Gs aD,.box aU 115 #[Z ac ah.out_.Program.Records ae,Z a9 ah.out_.Program.Funcs aa,Z aY ah.out_.Vars aZ,Z b0 ah.out_.Stmts b3,V ah.f,Z b5 ah.open_ b6,V ah.line,V ah.e],O aP a9 aa 82 Gn am,O aQ aY aZ 60 (List Gv) (aG.map Rw.hdr),.fam aR 59 (sz Gv) aG none,O aS b0 b3 65 Gi b4,O aF b5 b6 3 Int b8,O w0.heap.size c h 138 Ge aC,.box b2 111 #[V 0,V 0,V 0,T be,T be,V 0,V 0,sn,T be,V 0,sn,sn,sn],.box b1 111 #[V a1,V H,V I,T J,T K,V L,V ai,Z j z m,T M,V N,Z c a2 h,Z o a6 p,Z u aj v]] [.els aD a6,.l ac ae ah.out_.Program.Records,.els am ah.out_.Program.Funcs,.els2 aG ah.out_.Vars,.els b4 ah.out_.Stmts,.els b8 ah.open_,.els aC a2,.l j m z,.l u v aj]∧Ld.go ()=dK) (fun ez cu=>?_) ?_
 ·unfold F_r04_stmt_J3 at W
  refine q (g (s (f111_0 r) (s (l3 r (a.bk 9 r) r) (s (xEqlD r r) (s (xMvB r) ?_)))))
  rcases iv W with ⟨cM,W⟩|⟨cM,W⟩
  ·rw [decide_eq_true cM]
   refine sGo r (s (mp r) (sGo r (s (xn r) (sGo r (s (f115_7 r) (sGo r (s (l37 r (a.bk 1 r) r) (sGo r (s (xEqlD r r) (s (xPkTB r r) (n ?_)))))))))))
   rcases iv W with ⟨cN,W⟩|⟨cN,W⟩
   ·refine wIfT (bt cN) (q (g (sTo (aRowB a [] ([]:List Int) (bs22_0_a) r r (by decide) y) ?_)))
    rintro _ eA ⟨eB,rfl,a⟩
    refine s (mp r) (s (xn r) (s (f115_5 r) (s (l22 r (a.bk 2 r) r) ?_)))
    obtain ⟨cq,d9,W⟩:=bs W
    refine sTo (aAppB a 0 0 r r u22_ ti3 r (by decide) (by decide) (Nat.le_refl _) r r (a.ysO 7 6 r r) d9) ?_
    rintro _ eC ⟨ce,cg,cO,rfl,a⟩
    refine s (xAsS r) (n (q (wDr a [] [] [2,10] [] [12,14] (by kernel_rfl) ?_)))
    replace a:=a.drew
    have A:=(a.ad [] [])
    have hu:=(a.ad [2,10] [])
    refine pL 0 r (mp r) A hu (pL 1 r (f111_1 r) A hu (tS 1 2 r (fun _ hS=>l3 r (hS.bk 1 r) r) (sl_ A hu) (pL 3 r (f111_3 r) A hu (tS 2 4 r (fun _ hS=>l9 r (hS.bk 1 r) r) (sl_ A hu) (pL 5 r (mp r) A hu (pL 6 r (xn r) A hu (pL 7 r (f115_0 r) A hu (pL 8 r (f30_3 r) A hu (tS 3 9 r (fun _ hS=>l28 r (hS.bk 0 r) r) (sl_ A hu) (pL 10 r (xLnR u28_ r) A hu (pL 11 r (bd59_0_1_2_3_5 r r r r r) A hu ?_)))))))))))
    obtain ⟨⟨aH,dL⟩,dM,W⟩:=bs W
    replace W:=pi W
    have hc:=(sp_r04_declare fu) (a.pr [2,3,4,5,6,7] [0,1,8,9,10] [2,3,4,5,6] r) (a.le a3) (a.le a4) (a.le a5) (a.le X) (a.le Y) dM
    refine hO 12 (oc r r (ec cal73 r) hc ?_)
    rintro _ eD ⟨cP,cQ,cR,cS,cT,cU,rfl,hK⟩
    replace a:=a.cl [2,3,4,5,6,7] [0,1,8,9,10] r hK r
    try dsimp only [pick,nth,ca,na] at a
    have A:=(a.ad [] [])
    refine ⟨(sy 12 A),?_⟩
    refine tP 13 r (fun _=>f111_6 r) (sy 12 A) ?_
    refine hO 14 (os r r (tb a 10 [V aH] r ti3 r r r r r (show _=#[V a1,V H,V I,T J,T K,V L,V aH,Z j z m,T M,V N,Z c a2 h,Z o a6 p,Z u aj v] from r)) ?_)
    intro eE a
    try dsimp only [List.set] at a
    have A:=(a.ad [] [])
    refine ⟨(sy 12 A),?_⟩
    refine hD (q (g (s (mp r) (s (f111_12 r) (s (l80 r (a.bk 10 r) r) ?_)))))
    obtain ⟨⟨aI,F⟩,dN,W⟩:=bs W
    replace W:=pi W
    have hc:=H_r04_block (a.pr [0,1,2,3,4,5] [6,7,8,9,10] [0,1,2,3,4,22] r) (a.le a3) (a.le a4) (a.le a5) (a.le X) (a.le Y) dN
    refine sc (ec cal74 r) hc ?_
    rintro _ eF ⟨a7,a8,bi,b9,ba,aJ,av,aw,aK,bb,bc,bd,rfl,hK⟩
    have bw:=a.chg.size
    replace a:=a.cl [0,1,2,3,4,5] [6,7,8,9,10] r hK r
    try dsimp only [pick,nth,ca,na] at a
    replace a:=a.reb 0 w0.heap.size r bw
    try dsimp only [List.set] at a
    refine s (f111_12 r) (sTs (tb a 11 [Z a7 aI a8] r ti80 r r r r r (show _=#[V a1,V H,V I,T J,T K,V L,V aH,Z j z m,T M,V N,Z c a2 h,Z o a6 p,Z a7 aI a8] from r)) ?_)
    intro eG a
    try dsimp only [List.set] at a
    refine n (q ?_)
    obtain ⟨dO,ar,W⟩:=bs W
    refine wJd (fun f w=>∃ (bg:List (List Gv)) (aM:OA)(aN:Nat)(aO:List Rw),Has f [(0,Pt aU),(3,Pt b1),(4,Pt b2),(8,Z ce cq cg)]∧Bx w0 w eW G [O w0.heap.size a7 a8 111 Gs bi,.box aU 115 #[Z ac F.out_.Program.Records ae,Z a9 F.out_.Program.Funcs aa,Z aM bg aN,Z av F.out_.Stmts aw,V F.f,Z bb F.open_ bc,V F.line,V F.e],O aP a9 aa 82 Gn am,O aQ aM aN 60 (List Gv) (aO.map Rw.hdr),.fam aR 59 (sz Gv) aO none,O aS av aw 65 Gi aK,O aF bb bc 3 Int bd,O w0.heap.size ce cg 3 Int cO,O w0.heap.size o p 111 Gs aD,O w0.heap.size c h 138 Ge aC,.box b2 111 #[V 0,V 0,V 0,T be,T be,V 0,V 0,sn,T be,V 0,sn,sn,sn],.box b1 111 #[V a1,V H,V I,T J,T K,V L,V aH,Z j z m,T M,V N,Z c a2 h,Z o a6 p,Z a7 aI a8]] [.els bi aI,.l ac ae F.out_.Program.Records,.els am F.out_.Program.Funcs,.els2 aO bg,.els aK F.out_.Stmts,.els bd F.open_,.els cO cq,.els aD a6,.els aC a2,.l j m z]∧Ld.go bg=dO) (fun eH cv=>?_) ?_
    ·unfold F_r04_stmt_J4 at ar
     refine q (g (s (mp r) (s (xn r) (s (f115_7 r) (s (l37 r (a.bk 1 r) r) (s (xEqlD r r) (n ?_)))))))
     rcases iv ar with ⟨cV,ar⟩|⟨cV,ar⟩
     ·refine wIfT (bt cV) ?_
      obtain ⟨dP,ch,ar⟩:=bs ar
      obtain ⟨cW,da,ch⟩:=ix_inv ch
      replace a:=a.arr [4,0,1,2,3,5,6,7,8,9,10,11] r
      try dsimp only [pick,nth,ca,na] at a
      obtain ⟨db,dd,eI,ci,df,a⟩:=a.foc 3 rfl ch
      refine wDr a [1,3,5,12] [4] [0,1,3,5,12] [0,4] [22] (by kernel_rfl) ?_
      replace a:=a.drew
      have A:=(a.ad [1,3,5,12] [4])
      have hu:=(a.ad [0,1,3,5,12] [0,4])
      refine pL 0 r (mp r) A hu (pL 1 r (xn r) A hu (pL 2 r (f115_0 r) A hu (pL 3 r (f30_2 r) A hu (tU 4 r (fun _ hS=>l27 r (hS.bk 1 r) r) (sl_ A hu) (pL 5 r (mp r) A hu (pL 6 r (xn r) A hu (pL 7 r (f115_4 r) A hu (tU 8 r (fun _ hS=>l3 r (hS.bk 1 r) r) (sl_ A hu) (pL 9 r (xIdH u27_ ti60 r r da (a.bo 5 r) ci (a.d2 4 r).len) A hu (tU 10 r (fun _ hS=>xLoad u60_ r r (hS.hc 2 r ci df 0 _ r)) (sl_ A hu) (pL 11 r (f111_6 r) A hu (tU 12 r (fun _ hS=>l3 r (hS.bk 3 r) r) (sl_ A hu) (pL 13 r (mp r) A hu ?_)))))))))))))
      refine pL 14 r (xn r) A hu (pL 15 r (f115_0 r) A hu (pL 16 r (f30_3 r) A hu (tU 17 r (fun _ hS=>l28 r (hS.bk 1 r) r) (sl_ A hu) (pL 18 r (xLnR u28_ r) A hu (pL 19 r (xSubW r r) A hu ?_)))))
      obtain ⟨aT,c6,ar⟩:=bs ar
      obtain ⟨dg,dh,c6⟩:=ix_inv c6
      refine pL 20 r (xIdR u60_ ti59 r r dh (a.vw 0 0 r r) c6) A hu (pL 21 r (f59_6 r) A hu ?_)
      obtain ⟨dQ,c7,ar⟩:=bs ar
      obtain ⟨dR,e1,_,c7⟩:=st_inv c7
      obtain rfl:dg=dR:=by omega
      obtain ⟨dS,di,cj⟩:=(a.de 0 rfl).get c6
      replace cj:dS=[T aT.Name,V aT.Kind,V aT.Record,V aT.Words,.bool aT.Param,V aT.From,V aT.To]:=cj
      subst cj
      refine hO 22 (os r r (tStO a 0 0 dg 6 [V (wr ((F.out_.Stmts.length:Int) - 1))] r r di ti3 r r r r r (show _=[T aT.Name,V aT.Kind,V aT.Record,V aT.Words,.bool aT.Param,V aT.From,V (wr ((F.out_.Stmts.length:Int) - 1))] from r) r c7) ?_)
      rintro w64 ⟨dj,a⟩
      try dsimp only [List.set] at a
      have cw:dP.length=dQ.length:=by rw [← c7,List.length_set]
      try dsimp only [Z] at a
      try rw [cw] at a
      try dsimp only [Z]
      try rw [cw]
      have A:=(a.ad [1,3,5,12] [4])
      refine ⟨(sy 22 A),?_⟩
      refine hD ?_
      obtain ⟨dk,c8,ar⟩:=bs ar
      obtain ⟨dT,e2,_,c8⟩:=st_inv c8
      obtain rfl:cW=dT:=by omega
      have e3:=(a.de 0 r).len
      replace a:=a.hd 5 (H':=((aJ.set cW ⟨db,dd,dj⟩).map Rw.hdr)) r (hdrA ci (by omega))
      try dsimp only [List.set] at a
      replace a:=a.arr [0,1,2,3,4,5,6,7,8,9,10,11,12] r
      try dsimp only [pick,nth,ca,na] at a
      replace a:=a.unf 4 0 r r
      try dsimp only [List.set] at a
      rw [c8] at a
      obtain ⟨dU,dm⟩:∃ R,(aJ.set cW ⟨db,dd,dj⟩)=R:=⟨_,rfl⟩
      rw [dm] at a
      have cx:F.out_.Vars.length=dk.length:=by rw [← c8,List.length_set]
      try dsimp only [Z] at a
      try rw [cx] at a
      try dsimp only [Z]
      try rw [cx]
      exact cv _ _ ⟨dk,b9,ba,dU,⟨r,r,r,r,y⟩,(a.ad [1,2,3,4,0,5,6,7,8,9,10,11] [1,2,3,4,5,6,12,13,19,26]),sm ar⟩
     refine wIfF (bf cV) (wk ?_)
     exact cv _ _ ⟨F.out_.Vars,b9,ba,aJ,⟨r,r,r,r,y⟩,(a.dp [0,1,2,3,4,5,11,12,18,25]),sm ar⟩
    clear a
    rintro f w ⟨bg,aM,aN,aO,hf,a,dn⟩
    obtain ⟨eX,rfl⟩:=has_updL _ _ hf
    clear hf
    subst dn
    replace W:=gi W
    refine q (g (s (mp r) (s (xMvS r) (s (xn r) (s (f115_5 r) (sTs (tb a 1 [Z ce cq cg] r ti22 r r r r r (show _=#[Z ac F.out_.Program.Records ae,Z a9 F.out_.Program.Funcs aa,Z aM bg aN,Z av F.out_.Stmts aw,V F.f,Z ce cq cg,V F.line,V F.e] from r)) ?_))))))
    intro eJ a
    try dsimp only [List.set] at a
    refine n (q (g (s (xLoadS [V a1,V H,V I,T J,T K,V L,V aH,Z j z m,T M,V N,Z c a2 h,Z o a6 p,Z a7 aI a8] u111_ r ti111 r r (Cells.part (a.bk 11 r).cells (o2:=0) r)) (sTs (tb a 10 [V a1,V H,V I,T J,T K,V L,V aH,Z j z m,T M,V N,Z c a2 h,Z o a6 p,Z a7 aI a8] r ti111 r r r r r (show _=#[V a1,V H,V I,T J,T K,V L,V aH,Z j z m,T M,V N,Z c a2 h,Z o a6 p,Z a7 aI a8] from r)) ?_))))
    intro eK a
    try dsimp only [List.set] at a
    refine n (wRt ?_)
    replace a:=a.frz 9 8 r r
    try dsimp only [List.eraseIdx] at a
    replace a:=a.frz 8 8 r r
    try dsimp only [List.eraseIdx] at a
    replace a:=a.frz 0 2 r r
    try dsimp only [List.eraseIdx] at a
    replace a:=a.reb 6 aF r Y
    try dsimp only [List.set] at a
    obtain rfl:=sm W
    replace x:=oi x
    obtain rfl:=sm x
    refine resV1 r (rdA r u111_ r ti111 r (a.bk 7 r)) ?_
    exact pok (⟨j,m,c,h,o,p,a7,a8,aM,aN,aO,av,aw,aK,ce,cg,cO,r,(a.ad [0,1,2,3,4,6] [9,2,1,0,3,4,5,6,8])⟩)
   refine wIfF (bf cN) (wk ?_)
   exact cu _ _ ⟨⟨r,r,r,y⟩,(a.dp [0,1,2,3,4,5,6,13,16]),sm W⟩
  rw [decide_eq_false cM]
  refine sNo r (sNo r (sNo r (sNo r (sNo r (s (xPkFB r r) (n (wIfF r (wk ?_))))))))
  exact cu _ _ ⟨⟨r,r,r,y⟩,(a.dp [0,1,2,3,4,5,6,13,16]),sm W⟩
 clear a
 rintro f w ⟨hf,a,dq⟩
 obtain ⟨eX,rfl⟩:=has_updL _ _ hf
 clear hf
 subst dq
 replace x:=gi x
 refine q (g (s (mp r) (s (f111_12 r) (s (l80 r (a.bk 9 r) r) ?_))))
 obtain ⟨⟨bh,dV⟩,dW,x⟩:=bs x
 replace x:=pi x
 have hc:=H_r04_block (a.pr [1,2,3,4,5,6] [0,7,8,9] [1,2,3,4,5,8] r) (a.le a3) (a.le a4) (a.le a5) (a.le X) (a.le Y) dW
 refine sc (ec cal74 r) hc ?_
 rintro _ eL ⟨ak,al,cY,bU,bV,bW,bX,bY,bZ,c0,c1,c2,rfl,hK⟩
 have bw:=a.chg.size
 replace a:=a.cl [1,2,3,4,5,6] [0,7,8,9] r hK r
 try dsimp only [pick,nth,ca,na] at a
 replace a:=a.reb 0 w0.heap.size r bw
 try dsimp only [List.set] at a
 refine s (f111_12 r) (sTs (tb a 10 [Z ak bh al] r ti80 r r r r r (show _=#[V a1,V H,V I,T J,T K,V L,V ai,Z j z m,T M,V N,Z c a2 h,Z o a6 p,Z ak bh al] from r)) ?_)
 intro eM a
 try dsimp only [List.set] at a
 refine n (q (g (s (xLoadS [V a1,V H,V I,T J,T K,V L,V ai,Z j z m,T M,V N,Z c a2 h,Z o a6 p,Z ak bh al] u111_ r ti111 r r (Cells.part (a.bk 10 r).cells (o2:=0) r)) (sTs (tb a 9 [V a1,V H,V I,T J,T K,V L,V ai,Z j z m,T M,V N,Z c a2 h,Z o a6 p,Z ak bh al] r ti111 r r r r r (show _=#[V a1,V H,V I,T J,T K,V L,V ai,Z j z m,T M,V N,Z c a2 h,Z o a6 p,Z ak bh al] from r)) ?_))))
 intro eN a
 try dsimp only [List.set] at a
 refine n (wRt ?_)
 replace a:=a.frz 8 12 r r
 try dsimp only [List.eraseIdx] at a
 replace a:=a.frz 7 7 r r
 try dsimp only [List.eraseIdx] at a
 replace a:=a.frz 0 2 r r
 try dsimp only [List.eraseIdx] at a
 obtain rfl:=sm x
 refine resV1 r (rdA r u111_ r ti111 r (a.bk 6 r)) ?_
 exact pok (⟨j,m,c,h,o,p,ak,al,bU,bV,bW,bX,bY,bZ,c0,c1,c2,r,(a.ad [0,1,2,3,4,5] [13,2,1,0,3,4,5,6,7])⟩)
theorem sps_r04_block (fu:Nat):Ct_r04_block (m_r04_block fu)∧Ct_r04_stmt (m_r04_stmt fu):=by
 induction fu with
 | zero=>exact ⟨by intro a b;intros;exact nn (by assumption),by intro a b;intros;exact nn (by assumption)⟩
 | succ fu ih=>exact ⟨wk_r04_block fu (m_r04_block fu) (m_r04_stmt fu) ih.1 ih.2,wk_r04_stmt fu (m_r04_block fu) (m_r04_stmt fu) ih.1 ih.2⟩
theorem sp_r04_block (fu:Nat):Ct_r04_block (m_r04_block fu):=(sps_r04_block fu).1
def Ct_r04_function (m:Gt→Gn→Option (Gn × Gt)):Prop:=∀ {w0:World} {a7:Nat→Prop} {k:Gt} {x1:Gn} {a3:Nat} {d:Option Addr} {h:Nat} {a:Option Addr} {b:Nat} {i:List (List Value)} {o:Nat} {p:Option Addr} {t:Nat} {j:List Rw} {u:Nat} {x:Nat} {z:Option Addr} {A:Nat} {G:List (List Value)} {B:Nat} {C:Option Addr} {D:Nat} {H:List (List Value)} {E:Nat} {S:Option Addr} {U:Nat} {W:Option Addr} {X:Nat} {R:Gn × Gt},Pre w0 a7 [.box a3 115 #[Z d k.out_.Program.Records h,Z a k.out_.Program.Funcs b,Z p k.out_.Vars t,Z z k.out_.Stmts A,V k.f,Z C k.open_ D,V k.line,V k.e],O o a b 82 Gn i,O u p t 60 (List Gv) (j.map Rw.hdr),.fam x 59 (sz Gv) j none,O B z A 65 Gi G,O E C D 3 Int H] [.l d h k.out_.Program.Records,.els i k.out_.Program.Funcs,.els2 j k.out_.Vars,.els G k.out_.Stmts,.els H k.open_,.l S U x1.Params,.l W X x1.Body]→o≤w0.heap.size→u≤w0.heap.size→x≤w0.heap.size→B≤w0.heap.size→E≤w0.heap.size→m k x1=some R→
 Calls Try.prog 49 #[Pt a3,.agg #[T x1.Name,V x1.Line,Z S x1.Params U,Z W x1.Body X]] w0 (Ret fun v w=>pel R fun r0 c=>∃ (Y:OA)(a0:Nat)(a1:OA)(a2:Nat)(I:OA)(J:Nat)(F:List Rw) (K:OA)(L:Nat)(M:LV)(N:OA)(P:Nat)(Q:LV),v=.agg #[T r0.Name,V r0.Line,Z Y r0.Params a0,Z a1 r0.Body a2]∧Bx w0 w a7 (Gof [.box a3 115 #[Z d k.out_.Program.Records h,Z a k.out_.Program.Funcs b,Z p k.out_.Vars t,Z z k.out_.Stmts A,V k.f,Z C k.open_ D,V k.line,V k.e],O o a b 82 Gn i,O u p t 60 (List Gv) (j.map Rw.hdr),.fam x 59 (sz Gv) j none,O B z A 65 Gi G,O E C D 3 Int H]) [.box a3 115 #[Z d c.out_.Program.Records h,Z a c.out_.Program.Funcs b,Z I c.out_.Vars J,Z K c.out_.Stmts L,V c.f,Z N c.open_ P,V c.line,V c.e],O o a b 82 Gn i,O u I J 60 (List Gv) (F.map Rw.hdr),.fam x 59 (sz Gv) F none,O B K L 65 Gi M,O E N P 3 Int Q] [.l Y a0 r0.Params,.l a1 a2 r0.Body,.l d h c.out_.Program.Records,.els i c.out_.Program.Funcs,.els2 F c.out_.Vars,.els M c.out_.Stmts,.els Q c.open_])
def m_r04_function_L0 (fu:Nat)(m:Gn):List BA→Nat→(List Int)→(List Gr)→Int→Int→Int→(List Gn)→(List (List Gv))→(List Gi)→Option (Ld (List Int × List Gr × Int × Int × Int × List Gn × List (List Gv) × List Gi) (Gn × Gt))
 | [],_,c,d,h,i,j,k,l,b=>some (.go (c,d,h,i,j,k,l,b))
 | p :: t,u,c,d,h,i,j,k,l,b=>
 (m_r04_declare fu (⟨(⟨(⟨d,k⟩:GProgram),l,b⟩:GSource),h,c,i,j⟩:Gt) m.Line (⟨p,1,(-1),1,true,(b.length:Int),0⟩:Gv)).bind fun v=>
 pel v fun o a=>
 m_r04_function_L0 fu m t (u+1) a.open_ a.out_.Program.Records a.f a.line a.e a.out_.Program.Funcs a.out_.Vars a.out_.Stmts
def m_r04_function_L1 (fu:Nat)(a:Gt):List BA→Nat→(List (List Gv))→Option (Ld (List (List Gv)) (Gn × Gt))
 | [],_,b=>some (.go b)
 | k :: h,d,b=>
 (ix b a.f).bind fun e=>
 (ix e (d:Int)).bind fun c=>
 (st e (d:Int) (⟨c.Name,c.Kind,c.Record,c.Words,c.Param,c.From,(wr ((a.out_.Stmts.length:Int) - 1))⟩:Gv)).bind fun i=>
 (st b a.f i).bind fun j=>
 m_r04_function_L1 fu a h (d+1) j
def m_r04_function (fu:Nat)(d:Gt) (b:Gn):Option (Gn × Gt):=
 if 4 < (b.Params.length:Int) then
  (m_r04_fail fu d b.Line 5).bind fun v=>
  some (b,v)
 else
  (m_r04_function_L0 fu b b.Params 0 ([]:List Int) d.out_.Program.Records d.f d.line d.e d.out_.Program.Funcs d.out_.Vars d.out_.Stmts).bind fun w=>w.el (fun w=>
  pel w fun h w=>pel w fun i w=>pel w fun j w=>pel w fun k w=>pel w fun c w=>pel w fun l w=>pel w fun m p=>
  if c=0 then
   (m_r04_block fu (⟨(⟨(⟨i,l⟩:GProgram),m,p⟩:GSource),j,h,k,c⟩:Gt) b.Body).bind fun w=>
   pel w fun t a=>
   (m_r04_function_L1 fu a b.Params 0 a.out_.Vars).bind fun w=>w.el (fun u=>
   some ((⟨b.Name,b.Line,b.Params,t⟩:Gn),(⟨(⟨a.out_.Program,u,a.out_.Stmts⟩:GSource),a.f,a.open_,a.line,a.e⟩:Gt))
   ) (fun o=>some o)
  else
   some (b,(⟨(⟨(⟨i,l⟩:GProgram),m,p⟩:GSource),j,h,k,c⟩:Gt))
  ) (fun o=>some o)
theorem sp_r04_function (fu:Nat):Ct_r04_function (m_r04_function fu):=by
 intro w0 ch x0 j ar L M z A N ai aj ak au al am Q S ab an aA aB aQ aC c d t u R hP av aw ax ay az hM
 unfold m_r04_function at hM
 have a:=hP.bx
 clear hP
 generalize hG:Gof _=G at a ⊢
 refine cf Try.func49 r ?_
 refine wCut [(0,Pt ar),(1,.agg #[T j.Name,V j.Line,Z c j.Params d,Z t j.Body u])] ⟨r,r,y⟩ fun ci=>?_
 refine q (g (sTo (aNewB a (mBox r)) ?_))
 rintro _ w1 ⟨b1,rfl,a⟩
 refine sTo (aNewB a (mAlloc ti82)) ?_
 rintro _ w2 ⟨b2,rfl,a⟩
 refine n (q (q (g (s (f82_2 r) (s (l70 r (a.bk 1 r) r) (s (xLnR u70_ r) (s (xGtr r r) (n ?_))))))))
 rcases iv hM with ⟨h3,hM⟩|⟨h3,hM⟩
 ·refine wIfT (bt h3) (q (g (s (mp r) (s (f82_1 r) (s (l3 r (a.bk 1 r) r) ?_)))))
  obtain ⟨bI,h4,hM⟩:=bs hM
  have hc:=(sp_r04_fail fu) (a.pr [2,3,4,5,6,7] [0,1] [0,1,2,3,4] r) (a.le av) (a.le aw) (a.le ax) (a.le ay) (a.le az) h4
  refine sc (ec cal72 r) hc ?_
  rintro _ w4 ⟨rfl,hK⟩
  replace a:=a.cl [2,3,4,5,6,7] [0,1] r hK r
  try dsimp only [pick,nth,ca,na] at a
  refine n (q (g (s (xLoadS [T j.Name,V j.Line,Z c j.Params d,Z t j.Body u] u82_ r ti82 r r (Cells.part (a.bk 7 r).cells (o2:=0) r)) (sTs (tb a 6 [T j.Name,V j.Line,Z c j.Params d,Z t j.Body u] r ti82 r r r r r (show _=#[T j.Name,V j.Line,Z c j.Params d,Z t j.Body u] from r)) ?_))))
  intro w5 a
  try dsimp only [List.set] at a
  refine n (wRt ?_)
  obtain rfl:=sm hM
  refine resV1 r (rdA r u82_ r ti82 r (a.bk 6 r)) ?_
  exact pok (⟨c,d,t,u,aj,ak,au,Q,S,ab,aA,aB,aQ,r,(a.ad [0,1,2,3,4,5] [10,11,0,1,2,3,4])⟩)
 refine wIfF (bf h3) (wk (q (g (s (mp r) (s (xn r) (s (f115_5 r) (sTs (tb a 2 [sn] r ti22 r r r r r (show _=#[Z L x0.out_.Program.Records M,Z z x0.out_.Program.Funcs A,Z aj x0.out_.Vars ak,Z Q x0.out_.Stmts S,V x0.f,sn,V x0.line,V x0.e] from r)) ?_)))))))
 intro w6 a
 try dsimp only [List.set] at a
 refine n (q (q (g (s (f82_2 r) (s (l70 r (a.bk 1 r) r) (s (xLnR u70_ r) (s (mi r) (n ?_))))))))
 replace a:=a.owL Int 3
 have bS:=(a.dl 6 r).bd
 obtain ⟨Y7,ao,hM⟩:=bs hM
 refine wJd (fun f w=>∃ (a6:List Int) (U:OA)(W:Nat)(X:LV)(a7:List Gr) (ae:Int)(af:Int)(ag:Int)(a8:List Gn) (a9:List (List Gv)) (Y:OA)(a0:Nat)(B:List Rw) (aa:List Gi),Has f [(0,Pt ar),(3,Pt b1),(4,Pt b2)]∧Bx w0 w ch G [O w0.heap.size U W 3 Int X,.box b2 82 #[T be,V 0,sn,sn],.box b1 82 #[T j.Name,V j.Line,Z c j.Params d,Z t j.Body u],.box ar 115 #[Z L a7 M,Z z a8 A,Z Y a9 a0,Z Q aa S,V ae,Z U a6 W,V af,V ag],O ai z A 82 Gn N,O al Y a0 60 (List Gv) (B.map Rw.hdr),.fam am 59 (sz Gv) B none,O an Q S 65 Gi ab] [.l L M a7,.els X a6,.els N a8,.els2 B a9,.els ab aa,.l c d j.Params,.l t u j.Body]∧Ld.go (a6,a7,ae,af,ag,a8,a9,aa)=Y7) (fun J7 bu=>?_) ?_
 ·refine wBk (wLoopGd (fun cj f w=>∃ (k7:Nat)(a6:List Int) (U:OA)(W:Nat)(X:LV)(a7:List Gr) (ae:Int)(af:Int)(ag:Int)(a8:List Gn) (a9:List (List Gv)) (Y:OA)(a0:Nat)(B:List Rw) (aa:List Gi),cj=j.Params.length - k7∧k7≤j.Params.length∧Has f [(23,V (k7:Int)),(0,Pt ar),(3,Pt b1),(4,Pt b2),(21,Z c j.Params d),(22,V (j.Params.length:Int))]∧Bx w0 w ch G [O w0.heap.size U W 3 Int X,.box b2 82 #[T be,V 0,sn,sn],.box b1 82 #[T j.Name,V j.Line,Z c j.Params d,Z t j.Body u],.box ar 115 #[Z L a7 M,Z z a8 A,Z Y a9 a0,Z Q aa S,V ae,Z U a6 W,V af,V ag],O ai z A 82 Gn N,O al Y a0 60 (List Gv) (B.map Rw.hdr),.fam am 59 (sz Gv) B none,O an Q S 65 Gi ab] [.l L M a7,.els X a6,.els N a8,.els2 B a9,.els ab aa,.l c d j.Params,.l t u j.Body]∧m_r04_function_L0 fu j (j.Params.drop k7) k7 a6 a7 ae af ag a8 a9 aa=some Y7) (j.Params.length) ⟨0,([]:List Int),none,0,[],x0.out_.Program.Records,x0.f,x0.line,x0.e,x0.out_.Program.Funcs,x0.out_.Vars,aj,ak,au,x0.out_.Stmts,r,Nat.zero_le _,⟨r,r,r,r,r,r,y⟩,(a.ad [0,1,2,3,4,5,6,7] [1,0,2,3,4,6,7]),ao⟩ ?_)
  clear a ao
  rintro cj f w ⟨k7,a6,U,W,X,a7,ae,af,ag,a8,a9,Y,a0,B,aa,rfl,bT,hf,a,ao⟩ K7 bv
  obtain ⟨ci,rfl⟩:=has_updL _ _ hf
  clear hf
  rcases Nat.lt_or_ge k7 j.Params.length with b6 | b6
  ·obtain ⟨u7,b0⟩:=get_ex (l:=j.Params) b6
   rw [drop_id b0,m_r04_function_L0] at ao
   refine q (g (s (xLssT r r (by omega)) (n (q (wIfT r (wk (q (wBk (q (g (s (xIdR u70_ ti9 r r r (a.dl 5 r) b0) (s (xLoad u9_ r r ((elF (ds:=[T u7]) (a.dl 5 r) b0 (fun _ h=>h)) 0 _ r)) (s (xAsT r) ?_)))))))))))))
   refine n (wDr a [2] [] [2,3] [] [11] (by kernel_rfl) ?_)
   replace a:=a.drew
   have hs:=(a.ad [2] [])
   have hu:=(a.ad [2,3] [])
   refine pL 0 r (mp r) hs hu (pL 1 r (f82_1 r) hs hu (tU 2 r (fun _ hS=>l3 r (hS.bk 0 r) r) (sl_ hs hu) (pL 3 r (xMvT r) hs hu (pL 4 r (mp r) hs hu (pL 5 r (xn r) hs hu (pL 6 r (f115_0 r) hs hu (pL 7 r (f30_3 r) hs hu (tS 3 8 r (fun _ hS=>l28 r (hS.bk 1 r) r) (sl_ hs hu) (pL 9 r (xLnR u28_ r) hs hu (pL 10 r (bd59_0_1_2_3_4_5 r r r r r r) hs hu ?_))))))))))
   obtain ⟨⟨bL,ah⟩,h9,ao⟩:=bs ao
   replace ao:=pi ao
   have hc:=(sp_r04_declare fu) (a.pr [3,4,5,6,7,0] [1,2] [0,2,3,4,1] r) (a.le av) (a.le aw) (a.le ax) (a.le ay) a.chg.size h9
   refine hO 11 (oc r r (ec cal73 r) hc ?_)
   rintro _ w9 ⟨aJ,aK,aL,aM,aN,aO,rfl,hK⟩
   replace a:=a.cl [3,4,5,6,7,0] [1,2] r hK r
   try dsimp only [pick,nth,ca,na] at a
   have hs:=(a.ad [7] [])
   refine ⟨(sy 11 hs),?_⟩
   refine hD (g (s (xAdd64 r r (by omega) (by omega)) (s (mi r) (n ?_))))
   exact bv (j.Params.length - (k7+1)) _ _ (by omega) ⟨k7+1,ah.open_,aM,aN,aO,ah.out_.Program.Records,ah.f,ah.line,ah.e,ah.out_.Program.Funcs,ah.out_.Vars,aJ,aK,aL,ah.out_.Stmts,r,by omega,⟨r,r,r,r,r,r,y⟩,(a.ad [5,6,7,0,1,2,3,4] [0,4,1,2,3,10,11]),ao⟩
  obtain rfl:k7=j.Params.length:=by omega
  rw [drop_end,m_r04_function_L0] at ao
  refine q (g (s (xLssF r r (by omega)) (n (q (wIfF r (wEx ?_))))))
  exact bu _ _ ⟨a6,U,W,X,a7,ae,af,ag,a8,a9,Y,a0,B,aa,⟨r,r,r,y⟩,a,sm ao⟩
 clear a
 rintro f w ⟨a6,U,W,X,a7,ae,af,ag,a8,a9,Y,a0,B,aa,hf,a,bw⟩
 obtain ⟨ci,rfl⟩:=has_updL _ _ hf
 clear hf
 subst bw
 replace hM:=gi hM
 replace hM:=pi hM
 replace hM:=pi hM
 replace hM:=pi hM
 replace hM:=pi hM
 replace hM:=pi hM
 replace hM:=pi hM
 replace hM:=pi hM
 refine q (q (g (s (mp r) (s (xn r) (s (f115_7 r) (s (l37 r (a.bk 3 r) r) (s (xEqlD r r) (n ?_))))))))
 rcases iv hM with ⟨b3,hM⟩|⟨b3,hM⟩
 ·refine wIfT (bt b3) (q (g (s (mp r) (s (f82_3 r) (s (l80 r (a.bk 2 r) r) ?_)))))
  obtain ⟨⟨a1,b⟩,bz,hM⟩:=bs hM
  replace hM:=pi hM
  have hc:=(sp_r04_block fu) (a.pr [3,4,5,6,7,0] [1,2] [0,2,3,4,1,6] r) (a.le av) (a.le aw) (a.le ax) (a.le ay) a.chg.size bz
  refine sc (ec cal74 r) hc ?_
  rintro _ bW ⟨m,o,a4,aD,aE,aF,C,D,E,F,H,I,rfl,hK⟩
  have bA:=a.chg.size
  replace a:=a.cl [3,4,5,6,7,0] [1,2] r hK r
  try dsimp only [pick,nth,ca,na] at a
  replace a:=a.reb 0 w0.heap.size r bA
  try dsimp only [List.set] at a
  refine s (f82_3 r) (sTs (tb a 8 [Z m a1 o] r ti80 r r r r r (show _=#[T j.Name,V j.Line,Z c j.Params d,Z m a1 o] from r)) ?_)
  intro bX a
  try dsimp only [List.set] at a
  refine n (q (g (s (f82_2 r) (s (l70 r (a.bk 8 r) r) (s (xLnR u70_ r) (s (mi r) (n ?_)))))))
  have bM:=(a.dl 11 r).bd
  obtain ⟨b7,J,hM⟩:=bs hM
  refine wJd (fun f w=>∃ (K:List (List Gv)) (v:OA)(x:Nat)(p:List Rw),Has f [(3,Pt b1),(4,Pt b2)]∧Bx w0 w ch G [O w0.heap.size m o 111 Gs a4,.box ar 115 #[Z L b.out_.Program.Records M,Z z b.out_.Program.Funcs A,Z v K x,Z C b.out_.Stmts D,V b.f,Z F b.open_ H,V b.line,V b.e],O ai z A 82 Gn N,O al v x 60 (List Gv) (p.map Rw.hdr),.fam am 59 (sz Gv) p none,O an C D 65 Gi E,O w0.heap.size F H 3 Int I,.box b2 82 #[T be,V 0,sn,sn],.box b1 82 #[T j.Name,V j.Line,Z c j.Params d,Z m a1 o]] [.els a4 a1,.l L M b.out_.Program.Records,.els N b.out_.Program.Funcs,.els2 p K,.els E b.out_.Stmts,.els I b.open_,.l c d j.Params]∧Ld.go K=b7) (fun bY b8=>?_) ?_
  ·refine wBk (wLoopGd (fun cj f w=>∃ (aq:Nat)(K:List (List Gv)) (v:OA)(x:Nat)(p:List Rw),cj=j.Params.length - aq∧aq≤j.Params.length∧Has f [(53,V (aq:Int)),(0,Pt ar),(3,Pt b1),(4,Pt b2),(52,V (j.Params.length:Int))]∧Bx w0 w ch G [O w0.heap.size m o 111 Gs a4,.box ar 115 #[Z L b.out_.Program.Records M,Z z b.out_.Program.Funcs A,Z v K x,Z C b.out_.Stmts D,V b.f,Z F b.open_ H,V b.line,V b.e],O ai z A 82 Gn N,O al v x 60 (List Gv) (p.map Rw.hdr),.fam am 59 (sz Gv) p none,O an C D 65 Gi E,O w0.heap.size F H 3 Int I,.box b2 82 #[T be,V 0,sn,sn],.box b1 82 #[T j.Name,V j.Line,Z c j.Params d,Z m a1 o]] [.els a4 a1,.l L M b.out_.Program.Records,.els N b.out_.Program.Funcs,.els2 p K,.els E b.out_.Stmts,.els I b.open_,.l c d j.Params]∧m_r04_function_L1 fu b (j.Params.drop aq) aq K=some b7) (j.Params.length) ⟨0,b.out_.Vars,aD,aE,aF,r,Nat.zero_le _,⟨r,r,r,r,r,y⟩,(a.dp [0,1,2,3,4,5,11]),J⟩ ?_)
   clear a J
   rintro cj f w ⟨aq,K,v,x,p,rfl,bN,hf,a,J⟩ bZ b9
   obtain ⟨ci,rfl⟩:=has_updL _ _ hf
   clear hf
   rcases Nat.lt_or_ge aq j.Params.length with aX | aX
   ·obtain ⟨c0,ba⟩:=get_ex (l:=j.Params) aX
    rw [drop_id ba,m_r04_function_L1] at J
    refine q (g (s (xLssT r r (by omega)) (n (q (wIfT r (wk (q (wBk (q (g (s (mi r) (s (xi r) (n ?_)))))))))))))
    obtain ⟨bB,aR,J⟩:=bs J
    obtain ⟨b4,bb,aR⟩:=ix_inv aR
    replace a:=a.arr [4,0,1,2,3,5,6,7,8] r
    try dsimp only [pick,nth,ca,na] at a
    obtain ⟨bc,bg,c1,aS,bh,a⟩:=a.foc 3 rfl aR
    refine wDr a [1,3,5] [4] [0,1,3,5] [0,4] [21] (by kernel_rfl) ?_
    replace a:=a.drew
    have hs:=(a.ad [1,3,5] [4])
    have hu:=(a.ad [0,1,3,5] [0,4])
    refine pL 0 r (mp r) hs hu (pL 1 r (xn r) hs hu (pL 2 r (f115_0 r) hs hu (pL 3 r (f30_2 r) hs hu (tU 4 r (fun _ hS=>l27 r (hS.bk 1 r) r) (sl_ hs hu) (pL 5 r (mp r) hs hu (pL 6 r (xn r) hs hu (pL 7 r (f115_4 r) hs hu (tU 8 r (fun _ hS=>l3 r (hS.bk 1 r) r) (sl_ hs hu) (pL 9 r (xIdH u27_ ti60 r r bb (a.bo 5 r) aS (a.d2 4 r).len) hs hu (tU 10 r (fun _ hS=>xLoad u60_ r r (hS.hc 2 r aS bh 0 _ r)) (sl_ hs hu) (pL 11 r (mi r) hs hu (pL 12 r (mp r) hs hu (pL 13 r (xn r) hs hu ?_)))))))))))))
    refine pL 14 r (f115_0 r) hs hu (pL 15 r (f30_3 r) hs hu (tU 16 r (fun _ hS=>l28 r (hS.bk 1 r) r) (sl_ hs hu) (pL 17 r (xLnR u28_ r) hs hu (pL 18 r (xSubW r r) hs hu ?_))))
    obtain ⟨ac,aG,J⟩:=bs J
    obtain ⟨bi,bj,aG⟩:=ix_inv aG
    refine pL 19 r (xIdR u60_ ti59 r r bj (a.vw 0 0 r r) aG) hs hu (pL 20 r (f59_6 r) hs hu ?_)
    obtain ⟨bC,aH,J⟩:=bs J
    obtain ⟨bD,bO,_,aH⟩:=st_inv aH
    obtain rfl:bi=bD:=by omega
    obtain ⟨bE,bl,aT⟩:=(a.de 0 rfl).get aG
    replace aT:bE=[T ac.Name,V ac.Kind,V ac.Record,V ac.Words,.bool ac.Param,V ac.From,V ac.To]:=aT
    subst aT
    refine hO 21 (os r r (tStO a 0 0 bi 6 [V (wr ((b.out_.Stmts.length:Int) - 1))] r r bl ti3 r r r r r (show _=[T ac.Name,V ac.Kind,V ac.Record,V ac.Words,.bool ac.Param,V ac.From,V (wr ((b.out_.Stmts.length:Int) - 1))] from r) r aH) ?_)
    rintro c2 ⟨bm,a⟩
    try dsimp only [List.set] at a
    have aY:bB.length=bC.length:=by rw [← aH,List.length_set]
    try dsimp only [Z] at a
    try rw [aY] at a
    try dsimp only [Z]
    try rw [aY]
    have hs:=(a.ad [1,3,5] [4])
    refine ⟨(sy 21 hs),?_⟩
    refine hD (g (s (xAdd64 r r (by omega) (by omega)) (s (mi r) (n ?_))))
    obtain ⟨bn,aI,J⟩:=bs J
    obtain ⟨bF,bP,_,aI⟩:=st_inv aI
    obtain rfl:b4=bF:=by omega
    have bQ:=(a.de 0 r).len
    replace a:=a.hd 5 (H':=((p.set b4 ⟨bc,bg,bm⟩).map Rw.hdr)) r (hdrA aS (by omega))
    try dsimp only [List.set] at a
    replace a:=a.arr [0,1,2,3,4,5,6,7,8,9] r
    try dsimp only [pick,nth,ca,na] at a
    replace a:=a.unf 4 0 r r
    try dsimp only [List.set] at a
    rw [aI] at a
    obtain ⟨bG,bp⟩:∃ R,(p.set b4 ⟨bc,bg,bm⟩)=R:=⟨_,rfl⟩
    rw [bp] at a
    have aZ:K.length=bn.length:=by rw [← aI,List.length_set]
    try dsimp only [Z] at a
    try rw [aZ] at a
    try dsimp only [Z]
    try rw [aZ]
    exact b9 (j.Params.length - (aq+1)) _ _ (by omega) ⟨aq+1,bn,v,x,bG,r,by omega,⟨r,r,r,r,r,y⟩,(a.ad [1,2,3,4,0,5,6,7,8] [1,2,3,4,5,6,7]),J⟩
   obtain rfl:aq=j.Params.length:=by omega
   rw [drop_end,m_r04_function_L1] at J
   refine q (g (s (xLssF r r (by omega)) (n (q (wIfF r (wEx ?_))))))
   exact b8 _ _ ⟨K,v,x,p,⟨r,r,y⟩,a,sm J⟩
  clear a
  rintro f w ⟨K,v,x,p,hf,a,bq⟩
  obtain ⟨ci,rfl⟩:=has_updL _ _ hf
  clear hf
  subst bq
  replace hM:=gi hM
  refine q (g (s (xLoadS [T j.Name,V j.Line,Z c j.Params d,Z m a1 o] u82_ r ti82 r r (Cells.part (a.bk 8 r).cells (o2:=0) r)) (sTs (tb a 7 [T j.Name,V j.Line,Z c j.Params d,Z m a1 o] r ti82 r r r r r (show _=#[T j.Name,V j.Line,Z c j.Params d,Z m a1 o] from r)) ?_)))
  intro c3 a
  try dsimp only [List.set] at a
  refine n (wRt ?_)
  replace a:=a.frz 0 0 r r
  try dsimp only [List.eraseIdx] at a
  replace a:=a.reb 5 aC r az
  try dsimp only [List.set] at a
  obtain rfl:=sm hM
  refine resV1 r (rdA r u82_ r ti82 r (a.bk 6 r)) ?_
  exact pok (⟨c,d,m,o,v,x,p,C,D,E,F,H,I,r,(a.ad [0,1,2,3,4,5] [6,0,1,2,3,4,5])⟩)
 refine wIfF (bf b3) (wk (q (g (s (xLoadS [T j.Name,V j.Line,Z c j.Params d,Z t j.Body u] u82_ r ti82 r r (Cells.part (a.bk 2 r).cells (o2:=0) r)) (sTs (tb a 1 [T j.Name,V j.Line,Z c j.Params d,Z t j.Body u] r ti82 r r r r r (show _=#[T j.Name,V j.Line,Z c j.Params d,Z t j.Body u] from r)) ?_)))))
 intro c4 a
 try dsimp only [List.set] at a
 refine n (wRt ?_)
 replace a:=a.reb 0 aC r az
 try dsimp only [List.set] at a
 obtain rfl:=sm hM
 refine resV1 r (rdA r u82_ r ti82 r (a.bk 1 r)) ?_
 exact pok (⟨c,d,t,u,Y,a0,B,Q,S,ab,U,W,X,r,(a.ad [3,4,5,6,7,0] [5,6,0,2,3,4,1])⟩)
def Ct_r04_Check (m:GProgram→Option (GSource × Int × Int)):Prop:=∀ {x:World} {B:Nat→Prop} {u:GProgram} {a:Option Addr} {b:Nat} {c:Option Addr} {d:Nat} {R:GSource × Int × Int},Pre x B [] [.l a b u.Records,.l c d u.Funcs]→m u=some R→
 Calls Try.prog 36 #[.agg #[Z a u.Records b,Z c u.Funcs d]] x (Ret fun v w=>pel R fun t R=>pel R fun z A=>∃ (e:OA)(f:Nat)(h:OA)(i:Nat)(j:OA)(k:Nat)(o:OA)(p:Nat),v=.tuple #[.agg #[Z e t.Program.Records f,Z h t.Program.Funcs i,Z j t.Vars k,Z o t.Stmts p],V z,V A]∧Bx x w B (Gof []) [] [.l e f t.Program.Records,.l h i t.Program.Funcs,.l j k t.Vars,.l o p t.Stmts])
def m_r04_Check_L0 (fu:Nat)(p:GProgram):Nat→Int→(List Gr)→Int→Int→Int→(List Gn)→(List (List Gv))→(List Gi)→(List Int)→Option (Ld (Int × List Gr × Int × Int × Int × List Gn × List (List Gv) × List Gi × List Int) (GSource × Int × Int))
 | 0,_,_,_,_,_,_,_,_,_=>none
 | t+1,b,d,m,h,c,i,j,k,l=>
 if b < (p.Funcs.length:Int) then
  if c=0 then
   (app j [[]]).bind fun u=>
   (ix p.Funcs b).bind fun v=>
   (m_r04_function fu (⟨(⟨(⟨d,i⟩:GProgram),u,k⟩:GSource),b,l,h,c⟩:Gt) v).bind fun z=>
   pel z fun o a=>
   (ix a.out_.Program.Funcs b).bind fun x=>
   (st a.out_.Program.Funcs b o).bind fun w=>
   m_r04_Check_L0 fu p t (wr (b+1)) a.out_.Program.Records a.f a.line a.e w a.out_.Vars a.out_.Stmts a.open_
  else
   some (.go (b,d,m,h,c,i,j,k,l))
 else
  some (.go (b,d,m,h,c,i,j,k,l))
def m_r04_Check (fu:Nat)(k:GProgram):Option (GSource × Int × Int):=
 (app ([]:List Gn) k.Funcs).bind fun t=>
 (m_r04_heads fu (⟨(⟨(⟨k.Records,t⟩:GProgram),([]:List (List Gv)),([]:List Gi)⟩:GSource),0,([]:List Int),0,0⟩:Gt)).bind fun a=>
 (m_r04_Check_L0 fu k fu 0 a.out_.Program.Records a.f a.line a.e a.out_.Program.Funcs a.out_.Vars a.out_.Stmts a.open_).bind fun u=>u.el (fun u=>
 pel u fun l u=>pel u fun c u=>pel u fun m u=>pel u fun d u=>pel u fun b u=>pel u fun h u=>pel u fun i u=>pel u fun j p=>
 if b≠0 then
  some ((⟨(⟨([]:List Gr),([]:List Gn)⟩:GProgram),([]:List (List Gv)),([]:List Gi)⟩:GSource),d,b)
 else
  some ((⟨(⟨c,h⟩:GProgram),i,j⟩:GSource),0,0)
 ) (fun o=>some o)
theorem sp_r04_Check (fu:Nat):Ct_r04_Check (m_r04_Check fu):=by
 intro w0 bS x0 m o ab ac R hP hM
 unfold m_r04_Check at hM
 have a:=hP.bx
 clear hP
 generalize hG:Gof _=G at a ⊢
 refine cf Try.func36 r ?_
 refine wCut [(0,.agg #[Z m x0.Records o,Z ab x0.Funcs ac])] ⟨r,y⟩ fun bT=>?_
 refine q (g (sTo (aNewB a (mBox r)) ?_))
 rintro _ w1 ⟨b1,rfl,a⟩
 refine sTo (aNewB a (mAlloc ti30)) ?_
 rintro _ w2 ⟨b2,rfl,a⟩
 refine s (xi r) (s (xi r) (n (q (wDr1 a [1] [] [] (by kernel_rfl) ?_))))
 replace a:=a.drew
 have hs:=(a.ad [1] [])
 refine pF 0 r (f26_0 r) hs (uF 1 r (fun hS=>l23 r (hS.bk 0 r) r) hs (pF 3 r (f26_1 r) hs (uF 4 r (fun hS=>l24 r (hS.bk 0 r) r) hs ?_)))
 refine hO 2 (oo r r (aRowB a [] ([]:List Gn) (bs24_0_a) r r (by decide) y) ?_)
 rintro _ w3 ⟨b3,rfl,a⟩
 have hs:=(a.ad [2] [])
 refine ⟨(sF hs),?_⟩
 obtain ⟨r4,bd,hM⟩:=bs hM
 refine hO 5 (oo r r (aAppB a 0 0 r r u24_ ti82 r (by decide) (by decide) (Nat.le_refl _) r r (a.ysD 2 r) bd) ?_)
 rintro _ w4 ⟨A4,C4,Q4,rfl,a⟩
 have hs:=(a.ad [2] [])
 refine ⟨(sF hs),?_⟩
 refine pF 6 r (bd26_0_1 r r) hs (pF 7 r (bd30_0 r) hs (pF 8 r (bd115_0 r) hs ?_))
 refine hO 9 (oo r r (aNewB a (mBox r)) ?_)
 rintro _ w6 ⟨b6,rfl,a⟩
 have hs:=(a.ad [3] [])
 refine ⟨(sF hs),?_⟩
 refine pF 10 r (xAsP r) hs (hD (q (g (s (mp r) ?_))))
 replace a:=a.own2N Gv 60 59
 replace a:=a.owL Gi 65
 replace a:=a.owL Int 3
 obtain ⟨aa,bg,hM⟩:=bs hM
 have hc:=(sp_r04_heads fu) (a.pr [4,5,2,3,1,0] [6,7] [4,3,2,1,0] r) a.chg.size a.chg.size a.chg.size a.chg.size a.chg.size bg
 refine sc (ec cal48 r) hc ?_
 rintro _ bv ⟨rfl,hK⟩
 replace a:=a.cl [4,5,2,3,1,0] [6,7] r hK r
 try dsimp only [pick,nth,ca,na] at a
 refine n (q (q (g (s (xi r) (n ?_)))))
 obtain ⟨aV,j,hM⟩:=bs hM
 refine wJd (fun f w=>∃ (W:Int)(J:List Gr) (a9:Int)(a7:Int)(a8:Int)(K:List Gn) (b:OA)(c:Nat)(a4:LV)(N:List (List Gv)) (v:OA)(x:Nat)(Q:List Rw) (L:List Gi) (p:OA)(t:Nat)(a5:LV)(X:List Int) (S:OA)(U:Nat)(a6:LV),Has f [(2,Pt b2),(5,Pt b6)]∧Bx w0 w bS G [.box b6 115 #[Z m J o,Z b K c,Z v N x,Z p L t,V a9,Z S X U,V a7,V a8],O w0.heap.size b c 82 Gn a4,O w0.heap.size v x 60 (List Gv) (Q.map Rw.hdr),.fam w0.heap.size 59 (sz Gv) Q none,O w0.heap.size p t 65 Gi a5,O w0.heap.size S U 3 Int a6,.box b2 30 #[sn,sn,sn,sn],.box b1 26 #[Z m x0.Records o,Z ab x0.Funcs ac]] [.l m o J,.els a4 K,.els2 Q N,.els a5 L,.els a6 X,.l m o x0.Records,.l ab ac x0.Funcs]∧Ld.go (W,J,a9,a7,a8,K,N,L,X)=aV) (fun bw aw=>?_) ?_
 ·refine wBk (wLoopGd (fun bU f w=>∃ (W:Int)(J:List Gr) (a9:Int)(a7:Int)(a8:Int)(K:List Gn) (b:OA)(c:Nat)(a4:LV)(N:List (List Gv)) (v:OA)(x:Nat)(Q:List Rw) (L:List Gi) (p:OA)(t:Nat)(a5:LV)(X:List Int) (S:OA)(U:Nat)(a6:LV),Has f [(1,Pt b1),(2,Pt b2),(5,Pt b6),(6,V W)]∧Bx w0 w bS G [.box b6 115 #[Z m J o,Z b K c,Z v N x,Z p L t,V a9,Z S X U,V a7,V a8],O w0.heap.size b c 82 Gn a4,O w0.heap.size v x 60 (List Gv) (Q.map Rw.hdr),.fam w0.heap.size 59 (sz Gv) Q none,O w0.heap.size p t 65 Gi a5,O w0.heap.size S U 3 Int a6,.box b2 30 #[sn,sn,sn,sn],.box b1 26 #[Z m x0.Records o,Z ab x0.Funcs ac]] [.l m o J,.els a4 K,.els2 Q N,.els a5 L,.els a6 X,.l m o x0.Records,.l ab ac x0.Funcs]∧m_r04_Check_L0 fu x0 bU W J a9 a7 a8 K N L X=some aV) fu ⟨0,aa.out_.Program.Records,aa.f,aa.line,aa.e,aa.out_.Program.Funcs,A4,C4,Q4,aa.out_.Vars,none,0,([]:List Rw),aa.out_.Stmts,none,0,[],aa.open_,none,0,[],⟨r,r,r,r,y⟩,(a.dp [0,1,2,3,4,9,10]),j⟩ ?_)
  clear a j
  rintro ay f w ⟨W,J,a9,a7,a8,K,b,c,a4,N,v,x,Q,L,p,t,a5,X,S,U,a6,hf,a,j⟩ bz aW
  obtain ⟨bT,rfl⟩:=has_updL _ _ hf
  clear hf
  cases ay with
  | zero=>exact nn j
  | succ ay=>
   rw [m_r04_Check_L0] at j
   refine q (q (g (s (mi r) (s (f26_1 r) (s (l24 r (a.bk 7 r) r) (s (xLnR u24_ r) (s (xLss r r) (s (xMvB r) ?_))))))))
   rcases iv j with ⟨az,j⟩|⟨az,j⟩
   ·rw [decide_eq_true az]
    refine sGo r (s (mp r) (sGo r (s (xn r) (sGo r (s (f115_7 r) (sGo r (s (l37 r (a.bk 0 r) r) (sGo r (s (xEqlD r r) (s (xPkTB r r) (n ?_)))))))))))
    rcases iv j with ⟨aA,j⟩|⟨aA,j⟩
    ·refine wIfT (bt aA) (wk (q (wBk (q (g (s (mp r) (s (mi r) (s (xn r) (s (f115_4 r) (sTs (tb a 0 [V W] r ti3 r r r r r (show _=#[Z m J o,Z b K c,Z v N x,Z p L t,V W,Z S X U,V a7,V a8] from r)) ?_))))))))))
     intro bA a
     try dsimp only [List.set] at a
     refine n (q (g (s (mp r) (s (mp r) (s (xn r) (s (f115_0 r) (s (f30_2 r) (s (l27 r (a.bk 0 r) r) (sTo (aRowB a [[sn]] ([([]:List Gv)]:List (List Gv)) (bs27_1_a r) r r (by decide) ⟨⟨none,0,r,ln_⟩,y⟩) ?_)))))))))
     rintro _ bB ⟨bC,rfl,a⟩
     obtain ⟨aX,aY,j⟩:=bs j
     refine sTo (aApp2N 3 4 3 a r r (by decide) r u27_ ti60 r (by decide) (Nat.le_refl _) r r (iy:=0) r aY) ?_
     rintro _ bD ⟨aZ,b0,bE,rfl,a⟩
     try dsimp only [List.set] at a
     refine s (xn r) (s (f115_0 r) (s (f30_2 r) (sTs (tb a 1 [Z aZ aX b0] r ti27 r r r r r (show _=#[Z m J o,Z b K c,Z aZ aX b0,Z p L t,V W,Z S X U,V a7,V a8] from r)) ?_)))
     intro bF a
     try dsimp only [List.set] at a
     refine n ?_
     obtain ⟨an,al,j⟩:=bs j
     obtain ⟨bG,b4,al⟩:=ix_inv al
     obtain ⟨bm,b5,a⟩:=a.nm 7 rfl al
     obtain ⟨ao,ap,aq,ar,rfl,aB,aC⟩:=GFunc.out b5
     replace a:=a.dadd (d:=.l ao ap an.Params) aB
     replace a:=a.dadd (d:=.l aq ar an.Body) aC
     obtain ⟨⟨M,h⟩,b7,j⟩:=bs j
     replace j:=pi j
     obtain ⟨av,af,j⟩:=bs j
     obtain ⟨aD,ax,af⟩:=ix_inv af
     obtain ⟨au,ag,j⟩:=bs j
     obtain ⟨bh,bn,_,ag⟩:=st_inv ag
     obtain rfl:aD=bh:=by omega
     refine wJd (fun f w=>∃ (A:OA)(B:Nat)(C:OA)(D:Nat)(E:OA)(F:Nat)(ai:LV)(u:List Rw) (H:LV)(I:LV),Has f [(1,Pt b1),(2,Pt b2),(5,Pt b6),(6,V W)]∧Bx w0 w bS G [.box b6 115 #[Z m h.out_.Program.Records o,Z b au c,Z A h.out_.Vars B,Z C h.out_.Stmts D,V h.f,Z E h.open_ F,V h.line,V h.e],O w0.heap.size b c 82 Gn ai,O w0.heap.size A B 60 (List Gv) (u.map Rw.hdr),.fam w0.heap.size 59 (sz Gv) u none,O w0.heap.size C D 65 Gi H,O w0.heap.size E F 3 Int I,.box b2 30 #[sn,sn,sn,sn],.box b1 26 #[Z m x0.Records o,Z ab x0.Funcs ac]] [.els ai au,.els2 u h.out_.Vars,.els H h.out_.Stmts,.els I h.open_,.l m o x0.Records,.l ab ac x0.Funcs,.l m o h.out_.Program.Records]) (fun Jd hJd=>?_) ?_
     ·refine wDr a [8] [0,1,2,10] [1,8] [0,1,2,10] [13,15] (by kernel_rfl) ?_
      replace a:=a.drew
      have hs:=(a.ad [8] [0,1,2,10])
      have hu:=(a.ad [1,8] [0,1,2,10])
      refine pL 0 r (mp r) hs hu (pL 1 r (xn r) hs hu (pL 2 r (f115_0 r) hs hu (pL 3 r (f30_0 r) hs hu (pL 4 r (f26_1 r) hs hu (pL 6 r (mi r) hs hu (pL 7 r (mp r) hs hu (pL 8 r (f26_1 r) hs hu (tU 9 r (fun _ hS=>l24 r (hS.bk 0 r) r) (sl_ hs hu) (pL 10 r (mi r) hs hu (pL 11 r (xIdR u24_ ti82 r r b4 (a.dl 10 r) al) hs hu (tU 12 r (fun _ hS=>xLoadS [T an.Name,V an.Line,Z ao an.Params ap,Z aq an.Body ar] u82_ r ti82 r r (hS.dc 2 r)) (sl_ hs hu) ?_)))))))))))
      refine hList' 5 [13] (by kernel_rfl) (om_cons' ?_ (om_cons' ?_ om_nil'))
      ·have hs:=(a.ad [8] [0,1,2,10])
       have hu:=(a.ad [1,8] [0,1,2,10])
       refine oRun' r r (l24 r (a.bk 1 r) r) (sl_ hs hu) ?_
       have hc:=(sp_r04_function fu) (a.pr [1,2,3,4,5,6] [0,7,8] [4,5,6,7,8,1,0] r) a.chg.size a.chg.size a.chg.size a.chg.size a.chg.size b7
       refine hO 13 (oc r r (ec cal49 r) hc ?_)
       rintro _ bi ⟨Y,a0,a1,a2,A,B,u,C,D,H,E,F,I,rfl,hK⟩
       replace a:=a.cl [1,2,3,4,5,6] [0,7,8] r hK r
       try dsimp only [pick,nth,ca,na] at a
       have hs:=(a.ad [8] [7,8,9,17])
       refine ⟨(sy 13 hs),?_⟩
       obtain ⟨bo,b8,b9⟩:=(a.de 3 rfl).get af
       obtain ⟨aE,aF,aG,aH,rfl,aI,aJ⟩:=GFunc.out b9
       replace a:=a.dadd (d:=.l aE aF av.Params) aI
       replace a:=a.dadd (d:=.l aG aH av.Body) aJ
       refine tP 14 r (fun _=>xIdR u24_ ti82 (congrArg (fun z=>Value.slice b z c) ((a.de 14 r).len.symm.trans (a.de 5 r).len)) r ax (a.vw 1 5 r r) af) (sy 13 hs) ?_
       refine hO 15 (os r r (tStO a 1 5 aD 0 [T M.Name,V M.Line,Z Y M.Params a0,Z a1 M.Body a2] r r b8 ti82 r r r r r (show _=[T M.Name,V M.Line,Z Y M.Params a0,Z a1 M.Body a2] from r) (GFunc.inn ⟨Y,a0,a1,a2,r,(a.dl 2 r),(a.dl 3 r)⟩) ag) ?_)
       rintro bj ⟨ai,a⟩
       try dsimp only [List.set] at a
       have aj:h.out_.Program.Funcs.length=au.length:=by rw [← ag,List.length_set]
       try dsimp only [Z] at a
       try rw [aj] at a
       try dsimp only [Z]
       try rw [aj]
       have hs:=(a.ad [8] [9,10,11,19])
       refine ⟨(sy 13 hs),?_⟩
       refine hD ?_
       exact hJd _ _ ⟨A,B,C,D,E,F,ai,u,H,I,⟨r,r,r,r,y⟩,(a.ad [0,1,2,3,4,5,7,8] [5,6,7,8,18,19,4])⟩
      have hc:=(sp_r04_function fu) (a.pr [1,2,3,4,5,6] [0,7,8] [4,5,6,7,8,1,0] r) a.chg.size a.chg.size a.chg.size a.chg.size a.chg.size b7
      refine oc r r (ec cal49 r) hc ?_
      rintro _ bi ⟨Y,a0,a1,a2,A,B,u,C,D,H,E,F,I,rfl,hK⟩
      replace a:=a.cl [1,2,3,4,5,6] [0,7,8] r hK r
      try dsimp only [pick,nth,ca,na] at a
      have hs:=(a.ad [8] [7,8,9,17])
      refine ⟨(sy 13 hs),?_⟩
      refine hO 5 (oRun' r r (l24 r (a.bk 0 r) r) (sy 13 hs) ?_)
      obtain ⟨bp,ba,bb⟩:=(a.de 3 rfl).get af
      obtain ⟨aK,aL,aM,aN,rfl,aO,aP⟩:=GFunc.out bb
      replace a:=a.dadd (d:=.l aK aL av.Params) aO
      replace a:=a.dadd (d:=.l aM aN av.Body) aP
      refine tP 14 r (fun _=>xIdR u24_ ti82 r r ax (a.vw 1 5 r r) af) (sy 13 hs) ?_
      refine hO 15 (os r r (tStO a 1 5 aD 0 [T M.Name,V M.Line,Z Y M.Params a0,Z a1 M.Body a2] r r ba ti82 r r r r r (show _=[T M.Name,V M.Line,Z Y M.Params a0,Z a1 M.Body a2] from r) (GFunc.inn ⟨Y,a0,a1,a2,r,(a.dl 2 r),(a.dl 3 r)⟩) ag) ?_)
      rintro bj ⟨ai,a⟩
      try dsimp only [List.set] at a
      have aj:h.out_.Program.Funcs.length=au.length:=by rw [← ag,List.length_set]
      try dsimp only [Z] at a
      try rw [aj] at a
      try dsimp only [Z]
      try rw [aj]
      have hs:=(a.ad [8] [9,10,11,19])
      refine ⟨(sy 13 hs),?_⟩
      refine hD ?_
      exact hJd _ _ ⟨A,B,C,D,E,F,ai,u,H,I,⟨r,r,r,r,y⟩,(a.ad [0,1,2,3,4,5,7,8] [5,6,7,8,18,19,4])⟩
     clear a
     rintro f w ⟨A,B,C,D,E,F,ai,u,H,I,hf,a⟩
     obtain ⟨bT,rfl⟩:=has_updL _ _ hf
     clear hf
     refine g (s (mi r) (s (xAddW r r) (s (xi r) (n ?_))))
     exact aW ay _ _ (Nat.lt_succ_self _) ⟨(wr (W+1)),h.out_.Program.Records,h.f,h.line,h.e,au,b,c,ai,h.out_.Vars,A,B,u,h.out_.Stmts,C,D,H,h.open_,E,F,I,⟨r,r,r,r,y⟩,(a.dp [6,0,1,2,3,4,5]),j⟩
    refine wIfF (bf aA) (wEx ?_)
    exact aw _ _ ⟨W,J,a9,a7,a8,K,b,c,a4,N,v,x,Q,L,p,t,a5,X,S,U,a6,⟨r,r,y⟩,a,sm j⟩
   rw [decide_eq_false az]
   refine sNo r (sNo r (sNo r (sNo r (sNo r (s (xPkFB r r) (n (wIfF r (wEx ?_))))))))
   exact aw _ _ ⟨W,J,a9,a7,a8,K,b,c,a4,N,v,x,Q,L,p,t,a5,X,S,U,a6,⟨r,r,y⟩,a,sm j⟩
 clear a
 rintro f w ⟨W,J,a9,a7,a8,K,b,c,a4,N,v,x,Q,L,p,t,a5,X,S,U,a6,hf,a,bc⟩
 obtain ⟨bT,rfl⟩:=has_updL _ _ hf
 clear hf
 subst bc
 replace hM:=gi hM
 replace hM:=pi hM
 replace hM:=pi hM
 replace hM:=pi hM
 replace hM:=pi hM
 replace hM:=pi hM
 replace hM:=pi hM
 replace hM:=pi hM
 replace hM:=pi hM
 refine q (q (g (s (mp r) (s (xn r) (s (f115_7 r) (s (l37 r (a.bk 0 r) r) (s (xNeqD r r) (n ?_))))))))
 rcases iv hM with ⟨aQ,hM⟩|⟨aQ,hM⟩
 ·refine wIfT (bt aQ) (q (wDr1 a [0] [] [] (by kernel_rfl) ?_))
  replace a:=a.drew
  have hs:=(a.ad [0] [])
  refine pF 0 r (bd30_) hs (pF 1 r (mp r) hs (pF 2 r (xn r) hs (pF 3 r (f115_6 r) hs (uF 4 r (fun hS=>l3 r (hS.bk 0 r) r) hs (pF 5 r (mp r) hs (pF 6 r (xn r) hs (pF 7 r (f115_7 r) hs (uF 8 r (fun hS=>l37 r (hS.bk 0 r) r) hs ?_))))))))
  refine hO 9 (os r r (tb a 6 [sn,sn,sn,sn] r ti30 r r r r r (show _=#[sn,sn,sn,sn] from r)) ?_)
  intro bH a
  try dsimp only [List.set] at a
  have hs:=(a.ad [0] [])
  refine ⟨(sF hs),?_⟩
  refine pF 10 r (xi r) hs (pF 11 r (xi r) hs (hD (wRt ?_)))
  replace a:=a.dadd (d:=.l none 0 ([]:List Gr)) ln_
  replace a:=a.dadd (d:=.l none 0 ([]:List Gn)) ln_
  replace a:=a.dadd (d:=.l none 0 ([]:List (List Gv))) ln_
  replace a:=a.dadd (d:=.l none 0 ([]:List Gi)) ln_
  obtain rfl:=sm hM
  refine resV3 r (rdA r u30_ r ti30 r (a.bk 6 r)) (rdT r) (rdT r) ?_
  exact pok (pok (⟨none,0,none,0,none,0,none,0,r,(a.ad [] [3,2,1,0])⟩))
 refine wIfF (bf aQ) (wk (q (g (s (mp r) (s (xn r) (s (f115_0 r) (s (xLoadS [Z m J o,Z b K c,Z v N x,Z p L t] u30_ r ti30 r r (Cells.part (a.bk 0 r).cells (o2:=0) r)) (sTs (tb a 6 [Z m J o,Z b K c,Z v N x,Z p L t] r ti30 r r r r r (show _=#[Z m J o,Z b K c,Z v N x,Z p L t] from r)) ?_))))))))
 intro bI a
 try dsimp only [List.set] at a
 refine s (xi r) (s (xi r) (n (wRt ?_)))
 replace a:=a.frz 1 1 r r
 try dsimp only [List.eraseIdx] at a
 replace a:=a.arr [1,2,0,3,4,5,6] r
 try dsimp only [pick,nth,ca,na] at a
 replace a:=a.frz2 2 r
 try dsimp only [List.eraseIdx] at a
 replace a:=a.frz 1 3 r r
 try dsimp only [List.eraseIdx] at a
 obtain rfl:=sm hM
 refine resV3 r (rdA r u30_ r ti30 r (a.bk 2 r)) (rdT r) (rdT r) ?_
 exact pok (pok (⟨m,o,b,c,v,x,p,t,r,(a.ad [] [3,2,1,0])⟩))
end
end Go.Proofs.Ytfglbdkfnphjgaa
