/- What the lowering does, in plain words: the mirror of Lower and all below it. -/
import Derived.Test.YtdkneekpdecjbaaGreatZ4
import Derived.Test.YtdkneekpdecjbaaGreatZ5
set_option linter.unusedVariables false
namespace Go.Proofs.YtdkneekpdecjbaaGreat
open Go.RowKit Go.Fw Go.Proofs.Tryz
abbrev Pc:=Int × Int
structure Lw where
 f:Int
 b:Int
 blocks:List mP
 ctxs:List Ck
 objs:List CR
 omap:List (Int × Int)
 ops:Int
 blk:Int
 opn:Bool
 next:Int
 vals:Option (List (Pc × Int))
 pend:List Int
 hnd:List Nat
 stmt:Int
 labs:List (Int × List Pc)
inductive Lo (α:Type) where
 | ok (a:α) (s:Lw)
 | lim
 | rt
abbrev LM (α:Type):=Lw->Option (Lo α)
def Lo.then {α β:Type}:Lo α→(α→LM β)→Option (Lo β)
 | .ok a s,k=>k a s
 | .lim,_=>some .lim
 | .rt,_=>some .rt
def LM.bind {α β:Type}(m:LM α)(k:α->LM β):LM β:=fun s=>(m s).bind fun p=>p.then k
def oD {α:Type}(a:α):LM α:=fun s=>some (.ok a s)
def lrt {α:Type}:LM α:=fun _=>some .rt
def ix? {α:Type}(l:List α)(i:Int):Option α:=if i < 0 then none else l[i.toNat]?
abbrev SG:ug:=⟨-1,[]⟩
abbrev wD:aaN:=⟨0,0,0⟩
def EZ (v:Int):LM Unit:=fun s=>(app s.pend [v]).bind fun p=>some (.ok () { s with pend:=p })
def Gb:LM Int:=fun s=>match s.pend.getLast? with
 | none=>some .rt
 | some v=>some (.ok v { s with pend:=s.pend.dropLast })
def lop (l:List qm):LM Unit:=fun s=>
 if 6000 < wr (s.ops+l.length) then some .lim
 else match ix? s.blocks s.blk with
  | none=>some .rt
  | some b=>(app b.c l).bind fun os=>some (.ok () { s with ops:=wr (s.ops+l.length),blocks:=s.blocks.set s.blk.toNat { b with c:=os } })
def JI (o:qm):LM Int:=fun s=>(lop [{ o with e:=s.next }] |>.bind fun _=>oD s.next) { s with next:=wr (s.next+1) }
def wY (n:Int):LM Int:=JI ⟨1,0,0,0,n,0,0,0,wD⟩
def Bc (p:Pc)(v:Int):LM Unit:=fun s=>s.vals.bind fun l=>lop [⟨21,0,0,0,0,0,p.1,p.2,⟨2,v,0⟩⟩] { s with vals:=some (yD l p v) }
def HV:LM Unit:=fun s=>lop [⟨19,0,0,0,s.stmt,0,0,0,wD⟩] s
def Vm:LM Unit:=fun s=>lop [⟨20,0,0,0,s.stmt,0,0,0,wD⟩] s
def Md (vs:Option (List gP)):List Int→List Pc→Option (Option (List Pc))
 | [],acc=>some (some acc)
 | v :: l,acc=>match vs.bind fun vs=>ix? vs v with
  | none=>some none
  | some x=>if x.b=3 then Md vs l acc else (app acc ((List.range x.a.toNat).map fun i=>(v,((i:Nat):Int)))).bind fun acc=>Md vs l acc
def sH (vis:Int->Int->Option (List Int))(vars:List (List gP))(stmt:Int):LM Nat:=fun s=>
 (vis s.f stmt).bind fun l=>(Md (ix? vars s.f) l []).bind fun
  | none=>some .rt
  | some ps=>some (.ok s.labs.length { s with labs:=s.labs ++ [(-1,ps)] })
abbrev OW:mP:=⟨0,[],⟨0,0,0,[],⟨⟨0,[]⟩,⟨0,[]⟩⟩⟩⟩
def xG (i:Nat):LM Unit:=fun s=>s.labs[i]?.bind fun t=>if 0<=t.1 then some (.ok () s) else if 400<=s.blocks.length then some .lim else some (.ok () { s with labs:=s.labs.set i (s.blocks.length,t.2),blocks:=s.blocks ++ [OW] })
def vY (i:Nat)(first:List Int):LM ug:=xG i |>.bind fun _ s=>s.labs[i]?.bind fun t=>s.vals.bind fun l=>(app first (t.2.map fun p=>(rY l p).getD 0)).bind fun vs=>some (.ok ⟨t.1,vs⟩ s)
def EU:List Pc→Int→Nat→LM Unit
 | [],_,_=>oD ()
 | p :: l,n,i=>Bc p (wr (n+i)) |>.bind fun _=>EU l n (i+1)
def oV (i:Nat)(first:Int):LM Unit:=fun s=>s.labs[i]?.bind fun t=>
 let n:=wr (wr (first+t.2.length)+s.pend.length)
 if 999 < n then some .lim
 else match ix? s.blocks t.1 with
  | none=>some .rt
  | some b=>(EU t.2 first 0 |>.bind fun _ s=>some (.ok () { s with pend:=(List.range s.pend.length).map fun k=>wr (wr (first+t.2.length)+(k:Nat)) }))
   { s with blk:=t.1,opn:=true,next:=n,blocks:=s.blocks.set t.1.toNat { b with a:=n },vals:=some [] }
def lend (t:x9):LM Unit:=fun s=>match ix? s.blocks s.blk with
 | none=>some .rt
 | some b=>some (.ok () { s with blocks:=s.blocks.set s.blk.toNat { b with b:=t },opn:=false })
def wR (i:Nat):LM Unit:=fun s=>if s.opn=true then (vY i [] |>.bind fun e=>lend ⟨1,0,0,[],⟨e,SG⟩⟩) s else some (.ok () s)
def CK (v:Int)(yes no:ug):LM Unit:=lend ⟨2,v,0,[],⟨yes,no⟩⟩
def Ei (v:Int):LM Unit:=lend ⟨4,v,0,[],⟨SG,SG⟩⟩
def xR (v:Int):LM Unit:=fun s=>match s.hnd.getLast? with
 | some h=>(vY h [v] |>.bind fun e=>lend ⟨1,0,0,[],⟨e,SG⟩⟩) s
 | none=>lend ⟨5,v,0,[],⟨SG,SG⟩⟩ s
def BG (e:jB):Pc:=if e.e=2 then (e.f,e.d) else (e.f,0)
def BZ (kind:Int):LM Unit:=Gb |>.bind fun b=>Gb |>.bind fun a=>JI ⟨kind,0,a,b,0,0,0,0,wD⟩ |>.bind EZ
def Lm (i:Nat):LM ug:=vY i [] |>.bind fun e s=>(app e.a s.pend).bind fun vs=>some (.ok ⟨e.b,vs⟩ s)
def Ik (i:Nat):LM Unit:=oV i 0 |>.bind fun _=>Vm
def GR (i:Nat)(n:Int):LM Unit:=fun s=>(oV i 0 |>.bind fun _=>Vm |>.bind fun _=>wY n |>.bind fun c=>xR c |>.bind fun _ s'=>some (.ok () { s' with pend:=s.pend })) { s with pend:=[] }
def Jo:LM Int:=fun s=>match s.pend.getLast? with
 | none=>some .rt
 | some v=>some (.ok v s)
def yt {α β:Type}(l:List α)(k:α->LM β):LM β:=match l with
 | []=>lrt
 | x :: _=>k x
def Yw {α β:Type}(l:List α)(k:α->LM β):LM β:=match l with
 | _ :: x :: _=>k x
 | _=>lrt
def Rh (v:Int){β:Type}(k:Int->LM β):LM β:=fun s=>k ((rY s.omap v).getD 0) s
section
variable (vis:Int->Int->Option (List Int))(vars:List (List gP))
def QE {β:Type}(k:Nat->LM β):LM β:=fun s=>(sH vis vars s.stmt |>.bind k) s
def OZ:LM Unit:=Jo |>.bind fun d=>QE vis vars fun next=>QE vis vars fun fault=>Lm next |>.bind fun yes=>vY fault [] |>.bind fun no=>CK d yes no |>.bind fun _=>GR fault 1 |>.bind fun _=>Ik next
def NJ {β:Type}(v:Int)(k:gP->LM β):LM β:=fun s=>match (ix? vars s.f).bind fun l=>ix? l v with
 | none=>some .rt
 | some x=>k x s
def IQ (ex:jB->LM Unit)(e:jB):LM Unit:=yt e.a ex |>.bind fun _=>Jo |>.bind fun i=>wY 0 |>.bind fun z=>JI ⟨11,0,i,z,0,0,0,0,wD⟩ |>.bind fun below=>NJ vars e.f fun x=>wY x.a |>.bind fun n=>JI ⟨12,0,n,i,0,0,0,0,wD⟩ |>.bind fun above=>JI ⟨9,0,below,above,0,0,0,0,wD⟩ |>.bind fun out=>QE vis vars fun next=>QE vis vars fun fault=>vY fault [] |>.bind fun yes=>Lm next |>.bind fun no=>CK out yes no |>.bind fun _=>GR fault 2 |>.bind fun _=>Ik next
def lexpr:Nat→jB→LM Unit
 | 0,_=>fun _=>none
 | fu+1,e=>
  if e.e=0 then wY e.d |>.bind EZ
  else if e.e=1\/e.e=2 then fun s=>s.vals.bind fun l=>EZ ((rY l (BG e)).getD 0) s
  else if e.e=3 then IQ vis vars (lexpr fu) e |>.bind fun _=>Gb |>.bind fun a=>Rh e.f fun n=>JI ⟨15,0,a,0,n,0,0,0,wD⟩ |>.bind EZ
  else if e.e=4 then wY 0 |>.bind EZ |>.bind fun _=>yt e.a (lexpr fu) |>.bind fun _=>BZ 4
  else if e.e=5 then yt e.a (lexpr fu) |>.bind fun _=>wY 0 |>.bind EZ |>.bind fun _=>BZ 13
  else yt e.a (lexpr fu) |>.bind fun _=>Yw e.a (lexpr fu) |>.bind fun _=>(if e.e=9\/e.e=10 then OZ vis vars else oD ()) |>.bind fun _=>BZ (wr (wr (e.e - 6)+3))
def Gj (fu:Nat):List jB→LM Unit
 | []=>oD ()
 | x :: l=>lexpr vis vars fu x |>.bind fun _=>Gj fu l
def lvalue (fu:Nat)(e:jB):LM Int:=lexpr vis vars fu e |>.bind fun _=>Gb
def EA (v:Int):Nat→Int→LM Unit
 | 0,_=>oD ()
 | n+1,i=>wY 0 |>.bind fun c=>Bc (v,i) c |>.bind fun _=>EA v n (i+1)
def AZ (x:jA):LM Unit:=NJ vars x.f fun i=>if i.b=3 then Rh x.f fun n=>lop [⟨17,0,0,0,n,0,0,0,wD⟩] else if 1000000 < i.a then fun _=>none else EA x.f i.a.toNat 0
def Ea (fu:Nat)(t e:jB):LM Unit:=if t.e=3 then IQ vis vars (lexpr vis vars fu) t |>.bind fun _=>lexpr vis vars fu e |>.bind fun _=>Gb |>.bind fun v=>Gb |>.bind fun a=>Rh t.f fun n=>lop [⟨16,0,a,v,n,0,0,0,wD⟩] else lvalue vis vars fu e |>.bind fun v=>(if e.e=1\/e.e=2 then JI ⟨2,0,v,0,0,0,0,0,wD⟩ else oD v) |>.bind (Bc (BG t))
def ET (k:ug->LM Unit):LM Unit:=fun s=>match s.hnd.getLast? with
 | some h=>(vY h [] |>.bind k) s
 | none=>k SG s
def EF (fu:Nat)(x:jA):LM Unit:=Gj vis vars fu x.a |>.bind fun _ s=>(sH vis vars x.n |>.bind fun next=>vY next [] |>.bind fun e=>ET fun h=>lend ⟨3,0,x.i,s.pend,⟨e,h⟩⟩ |>.bind fun _=>oV next 1 |>.bind fun _=>Vm) { s with pend:=[] }
def uy (st:jA→LM Unit):List jA→LM Unit
 | []=>oD ()
 | x :: l=>fun s=>if s.opn=true then (st x |>.bind fun _=>uy st l) s else some (.ok () s)
def xP (i:Nat):LM Unit:=fun s=>s.labs[i]?.bind fun t=>if 0<=t.1 then oV i 0 s else some (.ok () s)
def CQ (st:jA->LM Unit)(fu:Nat)(x:jA):LM Unit:=yt x.a (lvalue vis vars fu) |>.bind fun c=>sH vis vars x.n |>.bind fun body=>sH vis vars x.n |>.bind fun behind=>(if x.h.length=0 then oD behind else sH vis vars x.n) |>.bind fun other=>vY body [] |>.bind fun yes=>vY other [] |>.bind fun no=>CK c yes no |>.bind fun _=>oV body 0 |>.bind fun _=>uy st x.d |>.bind fun _=>wR behind |>.bind fun _=>(if other=behind then oD () else oV other 0 |>.bind fun _=>uy st x.h |>.bind fun _=>wR behind) |>.bind fun _=>xP behind
def Js (st:jA->LM Unit)(fu:Nat)(x:jA):LM Unit:=sH vis vars x.n |>.bind fun head=>sH vis vars x.n |>.bind fun body=>sH vis vars x.n |>.bind fun behind=>wR head |>.bind fun _=>oV head 0 |>.bind fun _=>HV |>.bind fun _=>yt x.a (lvalue vis vars fu) |>.bind fun c=>vY body [] |>.bind fun yes=>vY behind [] |>.bind fun no=>CK c yes no |>.bind fun _=>oV body 0 |>.bind fun _=>uy st x.d |>.bind fun _=>wR head |>.bind fun _=>oV behind 0
def Kv (h:Nat):LM Unit:=fun s=>if 1000000 < s.hnd.length then none else some (.ok () { s with hnd:=s.hnd ++ [h] })
def KL:LM Unit:=fun s=>if s.hnd=[] then none else some (.ok () { s with hnd:=s.hnd.dropLast })
def Qc (st:jA->LM Unit)(x:jA):LM Unit:=sH vis vars x.n |>.bind fun h=>sH vis vars x.n |>.bind fun behind=>Kv h |>.bind fun _=>uy st x.d |>.bind fun _=>KL |>.bind fun _=>wR behind |>.bind fun _ s=>s.labs[h]?.bind fun t=>((if 0<=t.1 then oV h 1 |>.bind fun _=>Bc (x.f,0) 0 |>.bind fun _=>uy st x.h |>.bind fun _=>wR behind else oD ()) |>.bind fun _=>xP behind) s
def xY:Nat→jA→LM Unit
 | 0,_=>fun _=>none
 | fu+1,x=>fun s=>
  (if x.b=5 then Js vis vars (xY fu) fu x
  else HV |>.bind fun _=>
   if x.b=1 then AZ vars x
   else if x.b=2 then yt x.e fun t=>yt x.a fun e=>Ea vis vars fu t e
   else if x.b=3 then EF vis vars fu x |>.bind fun _=>match x.e with
    | []=>oD ()
    | t :: _=>Bc (BG t) 0
   else if x.b=4 then CQ vis vars (xY fu) fu x
   else if x.b=6 then (if x.k≠be then EF vis vars fu x |>.bind fun _=>Ei 0 else yt x.a (lvalue vis vars fu) |>.bind Ei)
   else if x.b=7 then yt x.a (lvalue vis vars fu) |>.bind xR
   else if x.b=8 then Qc vis vars (xY fu) x
   else if x.b=9 then yt x.a (lvalue vis vars fu) |>.bind fun v=>lop [⟨18,0,v,0,0,0,0,0,wD⟩]
   else if x.b=10 then wY 0 |>.bind Ei
   else oD ()) { s with stmt:=x.n }
def Eh:List gP→Nat→LM Unit
 | [],_=>oD ()
 | v :: l,i=>fun s=>
  if 8 < v.a then some .lim
  else if v.b=3 then (app s.objs [(⟨0,i,v.a⟩:CR)]).bind fun o=>Eh l (i+1) { s with omap:=yD s.omap i s.objs.length,objs:=o }
  else Eh l (i+1) s
end
def Ms (f:Int):Lw:=⟨f,0,[],[],[],[],0,0,false,0,none,[],[],0,[]⟩
def Ob (vis:Int->Int->Option (List Int))(src:jR)(fu:Nat):LM Unit:=fun s=>match ix? src.a.b s.f with
 | none=>some .rt
 | some fn=>match ix? src.c s.f with
  | none=>some .rt
  | some vs=>(Eh vs 0 |>.bind fun _=>yt fn.d fun x=>sH vis src.c x.n |>.bind fun e=>xG e |>.bind fun _=>oV e 0 |>.bind fun _=>uy (xY vis src.c fu) fn.d) { s with b:=fn.a.length,ctxs:=[⟨-1,-1,s.f⟩] }
def Lw.code (s:Lw):p8:=⟨s.b,s.blocks,s.ctxs,s.objs⟩
def FU (vis:Int→Int→Option (List Int))(src:jR)(fu:Nat):Nat→Nat→List p8→Option (List p8 × Int)
 | 0,_,acc=>some (acc,0)
 | n+1,f,acc=>(Ob vis src fu (Ms f)).bind fun
  | .ok _ s=>(app acc [s.code]).bind fun acc=>FU vis src fu n (f+1) acc
  | .lim=>some ([],5)
  | .rt=>some ([],4)
def WX (fu:Nat)(vis:jR->Int->Int->Option (List Int))(src:jR):Option (List p8 × Int):=FU (vis src) src fu src.a.b.length 0 []
set_option maxRecDepth 4000
def Z8 (l:List qm)(i:Int):Nat:=l.countP fun o=>decide (o.b=19/\o.N=i)
def Pp:List mP→Int→Nat
 | [],_=>0
 | b :: l,i=>Z8 b.c i+Pp l i
theorem YB {l l':List qm}{i:Int}:Z8 (l ++ l') i=Z8 l i+Z8 l' i:=List.countP_append
theorem TS {b b':mP}{i:Int}:∀ {l:List mP}{k:Nat},l[k]?=some b→Pp (l.set k b') i+Z8 b.c i=Pp l i+Z8 b'.c i
 | c :: l,0,h=>by simp only [Eu,Dz] at h;subst h;simp only [List.set_cons_zero,Pp];omega
 | c :: l,k+1,h=>by have:=TS (b':=b') (i:=i) (l:=l) (k:=k) (by simpa using h);simp only [List.set_cons_succ,Pp];omega
 | [],_,h=>by simp at h
theorem ix?_at {α:Type}{l:List α}{i:Int}{x:α}(h:ix? l i=some x):l[i.toNat]?=some x:=by
 unfold ix? at h;split at h
 · cases h
 · exact h
theorem Gh {α:Type}{a b c:List α}(h:app a b=some c):c=a ++ b:=by
 unfold app at h;split at h
 · exact (JD h).symm
 · cases h
def Qt {α:Type}(c:LM α)(P:Lw->Lw->Prop):Prop:=∀ s a s',c s=some (.ok a s')->P s s'
section
variable {α β:Type}{c:LM α}{f:α->LM β}{P P' P'':Lw->Lw->Prop}
theorem Qt.bind (h:Qt c P)(k:∀ a,Qt (f a) P')(t:∀ s s1 s2,P s s1->P' s1 s2->P'' s s2):Qt (c.bind f) P'':=by
 intro s a s' e;unfold LM.bind at e;cases hc:c s with
 | none=>rw [hc] at e;cases e
 | some q=>
  rw [hc] at e;cases q with
  | ok a1 s1=>exact t _ _ _ (h _ _ _ hc) (k a1 _ _ _ e)
  | lim=>cases e
  | rt=>cases e
theorem Qt.mono (h:Qt c P)(t:∀ s s',P s s'->P' s s'):Qt c P':=fun s a s' e=>t _ _ (h _ _ _ e)
end
def Nmk (s s':Lw):Prop:=s'.stmt=s.stmt/\∀ i,Pp s'.blocks i=Pp s.blocks i
theorem Nmk.trans {s s1 s2:Lw}(h:Nmk s s1)(k:Nmk s1 s2):Nmk s s2:=⟨k.1.trans h.1,fun i=>(k.2 i).trans (h.2 i)⟩
theorem Nmk.r {s:Lw}:Nmk s s:=⟨rfl,fun _=>rfl⟩
section
variable {α β:Type}{c:LM α}{f:α->LM β}
end
theorem abM {l:List qm}:Qt (lop l) fun s s'=>s'.stmt=s.stmt/\∀ i,Pp s'.blocks i=Pp s.blocks i+Z8 l i:=by
 intro s a s' e;unfold lop at e;split at e
 · cases e
 split at e
 · cases e
 rename_i b hb;obtain ⟨os,hos,e⟩:=bs e;cases e;refine ⟨rfl,fun i=>?_⟩;have:=TS (b':={ b with c:=os }) (i:=i) (ix?_at hb);rw [Gh hos] at this;simp only [YB] at this;show Pp (s.blocks.set s.blk.toNat { b with c:=os }) i=_;rw [Gh hos];omega
theorem abz:Qt HV fun s s'=>s'.stmt=s.stmt/\∀ i,Pp s'.blocks i=Pp s.blocks i+if i=s.stmt then 1 else 0:=by
 intro s a s' e;obtain ⟨h1,h2⟩:=abM _ _ _ e;refine ⟨h1,fun i=>?_⟩;rw [h2 i]
 congr 1
 simp only [Z8,List.countP_cons,List.countP_nil,DV,true_and];by_cases h:i=s.stmt
 · simp [h]
 · simp [h,Ne.symm h]
section
variable {vis:Int->Int->Option (List Int)}{vars:List (List gP)}
inductive XO:jB→Prop
 | mk {e:jB} (h:0<=e.e/\e.e < 20) (k:∀ y ∈ e.a,XO y):XO e
theorem XO.op {e:jB}(h:XO e):0<=e.e/\e.e < 20:=by cases h;assumption
theorem XO.args {e:jB}(h:XO e):∀ y ∈ e.a,XO y:=by cases h;assumption
end
def Vw (a:List (Pc × Int))(o:qm):List (Pc × Int):=if o.b=21 then yD a (o.f,o.c) o.a.a else a
def Ev (l:List qm):List (Pc × Int):=l.foldl Vw []
theorem FH {l:List qm}{o:qm}:Ev (l ++ [o])=Vw (Ev l) o:=by simp [Ev]
def Dj (l:List (Pc × Int)):Prop:=∀ p q v,rY l p=some v->rY l q=some v->p=q
def BO (ops:List qm):Prop:=∀ (k:Nat) o,ops[k]?=some o->(o.b=21->o.d=0/\o.a.b=2/\o.a.c=0)/\(o.b=19\/o.b=20->Dj (Ev (ops.take k)))
theorem BO.nil:BO []:=fun k o h=>by simp at h
theorem BO.snoc {ops:List qm}{o:qm}(h:BO ops)(h1:o.b=21->o.d=0/\o.a.b=2/\o.a.c=0)(h2:o.b=19\/o.b=20->Dj (Ev ops)):BO (ops ++ [o]):=by
 intro k x hx;by_cases c:k < ops.length
 · rw [AL c] at hx;rw [List.take_append_of_le_length (by omega)];exact h k x hx
 · have hk:k=ops.length:=by have:=(List.getElem?_eq_some_iff.1 hx).1;simp at this;omega
   subst hk;simp at hx;subst hx;rw [List.take_left];exact ⟨h1,h2⟩
structure Ow0 (s:Lw):Prop where
 o0:0<=s.ops
 o1:s.ops<=6000
 bo:∀ b ∈ s.blocks,BO b.c/\(b.c.length:Int)<=s.ops
 lb:∀ (i:Nat) t,s.labs[i]?=some t->t.1 < (s.blocks.length:Int)/\t.2.length<=1000000000
 inj:∀ (i j:Nat) t u,s.labs[i]?=some t->s.labs[j]?=some u->t.1=u.1->0<=t.1->i=j
 pd:s.pend.length<=1000000000
structure Ow (s:Lw):Prop extends Ow0 s where
 n0:0<=s.next
 n1:s.next<=1000+s.ops
 cu:∃ l b,s.vals=some l/\ix? s.blocks s.blk=some b/\Ev b.c=l/\Dj l/\∀ p v,rY l p=some v->v < s.next
def Fs (s:Lw)(j:Nat):Prop:=∀ t,s.labs[j]?=some t->0<=t.1->(s.vals≠none->t.1≠s.blk)/\∃ b,ix? s.blocks t.1=some b/\b.c=[]
structure WF (F:List Nat)(s:Lw):Prop where
 ow:Ow s
 nd:F.Nodup
 fs:∀ j ∈ F,j < s.labs.length/\Fs s j
theorem WF.tl {i:Nat}{F:List Nat}{s:Lw}(h:WF (i :: F) s):WF F s:=⟨h.ow,(List.nodup_cons.1 h.nd).2,fun j hj=>h.fs j (yw _ hj)⟩
theorem WF.perm {F F':List Nat}{s:Lw}(h:WF F s)(p:F.Perm F'):WF F' s:=⟨h.ow,p.nodup_iff.1 h.nd,fun j hj=>h.fs j (p.mem_iff.2 hj)⟩
def Fv (s:Lw)(v:Int):Prop:=v < s.next/\∀ l,s.vals=some l->∀ q,rY l q≠some v
def Lb (k:Int)(s:Lw):Prop:=k<=s.next/\∀ l,s.vals=some l->∀ q v,rY l q=some v->k<=v
theorem Lb.fv {s:Lw}(h:Lb 1 s):Fv s 0:=⟨by have:=h.1;omega,fun l hl q hq=>by have:=h.2 l hl q 0 hq;omega⟩
def Ho {α:Type}(P:Lw->Prop)(c:LM α)(Q:α->Lw->Prop):Prop:=∀ s a s',c s=some (.ok a s')->P s->Q a s'
section
variable {α β:Type}{c:LM α}{f:α->LM β}{P:Lw->Prop}{Q:α->Lw->Prop}{R:β->Lw->Prop}
theorem hb (h:Ho P c Q)(k:∀ a,Ho (Q a) (f a) R):Ho P (c.bind f) R:=by
 intro s a s' e hp;unfold LM.bind at e;cases hc:c s with
 | none=>rw [hc] at e;cases e
 | some q=>
  rw [hc] at e;cases q with
  | ok a1 s1=>exact k a1 _ _ _ e (h _ _ _ hc hp)
  | lim=>cases e
  | rt=>cases e
theorem Ho.mono {P':Lw->Prop}{Q':α->Lw->Prop}(h:Ho P c Q)(hp:∀ s,P' s->P s)(hq:∀ a s,Q a s->Q' a s):Ho P' c Q':=fun s a s' e hs=>hq _ _ (h _ _ _ e (hp _ hs))
theorem Ho.pre {P':Lw->Prop}(h:Ho P c Q)(hp:∀ s,P' s->P s):Ho P' c Q:=h.mono hp fun _ _=>id
theorem Ih {a:α}(h:∀ s,P s->Q a s):Ho P (oD a) Q:=fun s b s' e hp=>by cases e;exact h _ hp
theorem E5 {l:List β}{k:β->LM α}(h:∀ x ∈ l,Ho P (k x) Q):Ho P (yt l k) Q:=by
 cases l with
 | nil=>exact fun s b s' e=>by cases e
 | cons x l=>exact h x (Bl ..)
theorem adS {l:List β}{k:β->LM α}(h:∀ x ∈ l,Ho P (k x) Q):Ho P (Yw l k) Q:=by
 cases l with
 | nil=>exact fun s b s' e=>by cases e
 | cons x l=>
  cases l with
  | nil=>exact fun s b s' e=>by cases e
  | cons y l=>exact h y (yw _ (Bl ..))
theorem xD {p:Prop}[Decidable p]{a b:LM α}(h:p->Ho P a Q)(k:¬ p->Ho P b Q):Ho P (if p then a else b) Q:=by
 split
 · exact h ‹_›
 · exact k ‹_›
theorem acQ {vars:List (List gP)}{v:Int}{k:gP->LM α}(h:∀ x,Ho P (k x) Q):Ho P (NJ vars v k) Q:=fun s a s' e hp=>by
 unfold NJ at e;split at e
 · cases e
 · exact h _ _ _ _ e hp
theorem WK {v:Int}{k:Int->LM α}(h:∀ n,Ho P (k n) Q):Ho P (Rh v k) Q:=fun s a s' e=>h _ _ _ _ e
end
theorem WF.same {F:List Nat}{s s':Lw}(h:WF F s)(h1:s'.ops=s.ops)(h2:s'.blocks=s.blocks)(h3:s'.labs=s.labs)(h4:s'.vals=s.vals)(h5:s'.blk=s.blk)(h6:s'.next=s.next)(h7:s'.pend.length<=1000000000):WF F s':=
 ⟨⟨⟨by rw [h1];exact h.ow.o0,by rw [h1];exact h.ow.o1,by rw [h2,h1];exact h.ow.bo,by rw [h3,h2];exact h.ow.lb,by rw [h3];exact h.ow.inj,h7⟩,by rw [h6];exact h.ow.n0,by rw [h6,h1];exact h.ow.n1,by rw [h4,h2,h5,h6];exact h.ow.cu⟩,h.nd,fun j hj=>by unfold Fs;rw [h3,h4,h5,h2];exact h.fs j hj⟩
theorem TV {n:Int}(h:0<=n)(h2:n<=1000000000000):wr n=n:=by unfold wr;rw [Ru (by omega) (by omega)]
theorem ix?_nat {α:Type}{l:List α}{i:Int}{x:α}(h:ix? l i=some x):0<=i/\i.toNat < l.length/\l[i.toNat]?=some x:=by
 unfold ix? at h;split at h
 · cases h
 · exact ⟨by omega,(List.getElem?_eq_some_iff.1 h).1,h⟩
theorem ix?_set_ne {α:Type}{l:List α}{i j:Int}{x y:α}(h:ix? l i=some x)(hij:i≠j)(hj:0<=j):ix? (l.set j.toNat y) i=some x:=by obtain ⟨h0,h1,h2⟩:=ix?_nat h;unfold ix?;rw [lD (by omega),zu (by omega)];exact h2
theorem ix?_set_eq {α:Type}{l:List α}{i:Int}{x y:α}(h:ix? l i=some x):ix? (l.set i.toNat y) i=some y:=by obtain ⟨h0,h1,h2⟩:=ix?_nat h;unfold ix?;rw [lD (by omega),Bz h1]
theorem WF.put {F:List Nat}{s s':Lw}(h:WF F s){b:mP}(hb:ix? s.blocks s.blk=some b){os:List qm}{l:List (Pc × Int)}(hB:BO os)(hl:Ev os=l)(hD:Dj l)(hv:∀ p v,rY l p=some v->v < s'.next)(h2:s'.blocks=s.blocks.set s.blk.toNat { b with c:=os })(h4:s'.vals=some l)(hn:0<=s'.next/\s'.next<=1000+s'.ops)(ho:s.ops<=s'.ops/\s'.ops<=6000)(hL:(os.length:Int)<=s'.ops)(h3:s'.labs=s.labs)(h5:s'.blk=s.blk)(h7:s'.pend=s.pend):WF F s':=by
 obtain ⟨c0,c1,c2⟩:=ix?_nat hb;refine ⟨⟨⟨Int.le_trans h.ow.o0 ho.1,ho.2,fun x hx=>?_,fun i t ht=>?_,by rw [h3];exact h.ow.inj,by rw [h7];exact h.ow.pd⟩,hn.1,hn.2,l,{ b with c:=os },h4,?_,hl,hD,hv⟩,h.nd,fun j hj=>⟨by rw [h3];exact (h.fs j hj).1,fun t ht h0=>?_⟩⟩
 · rw [h2] at hx;rcases Ie hx with hx | rfl
   · exact ⟨(h.ow.bo x hx).1,Int.le_trans (h.ow.bo x hx).2 ho.1⟩
   · exact ⟨hB,hL⟩
 · rw [h3] at ht;rw [h2,wU];exact h.ow.lb i t ht
 · rw [h2,h5];exact ix?_set_eq hb
 · rw [h3] at ht;obtain ⟨k1,y,hy,k3⟩:=(h.fs j hj).2 t ht h0;obtain ⟨_,_,hvs,_⟩:=h.ow.cu;have hne:=k1 (by rw [hvs];simp);rw [h5,h2];exact ⟨fun _=>hne,y,ix?_set_ne hy hne c0,k3⟩
theorem Xo {s s':Lw}{o:qm}{a:Unit}(e:lop [o] s=some (.ok a s'))(h0:0<=s.ops)(h1:s.ops<=6000):s.ops+1<=6000/\∃ b,ix? s.blocks s.blk=some b/\s'={ s with ops:=s.ops+1,blocks:=s.blocks.set s.blk.toNat { b with c:=b.c ++ [o] } }:=by
 unfold lop at e;have hw:wr (s.ops+([o]:List qm).length)=s.ops+1:=TV (by simp;omega) (by simp;omega);rw [hw] at e;split at e
 · cases e
 split at e
 · cases e
 rename_i b hb;obtain ⟨os,hos,e⟩:=bs e;cases e;rw [Gh hos];exact ⟨by omega,b,hb,rfl⟩
theorem YX {α:Type}{a b c:List α}(h:app a b=some c):c.length<=1000000000:=by
 have:=Gh h;unfold app at h;split at h
 · rw [this,Ij];assumption
 · cases h
theorem Zx {s s':Lw}{v:Int}{a:Unit}(e:EZ v s=some (.ok a s')):s'={ s with pend:=s.pend ++ [v] }/\(s.pend ++ [v]).length<=1000000000:=by obtain ⟨p,hp,e⟩:=bs e;cases e;have h:=YX hp;rw [Gh hp] at h ⊢;exact ⟨rfl,h⟩
theorem abh {s s':Lw}{v:Int}(e:Gb s=some (.ok v s')):s'={ s with pend:=s.pend.dropLast }/\s.pend.getLast?=some v:=by unfold Gb at e;split at e <;> cases e;exact ⟨rfl,‹_›⟩
end Go.Proofs.YtdkneekpdecjbaaGreat
