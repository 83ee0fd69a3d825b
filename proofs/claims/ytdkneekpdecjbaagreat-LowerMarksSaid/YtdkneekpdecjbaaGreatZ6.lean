/- What the lowering does, in plain words: the mirror of Lower and all below it. -/
import Derived.Test.YtdkneekpdecjbaaGreatZ4
import Derived.Test.YtdkneekpdecjbaaGreatZ5
set_option linter.unusedVariables false
namespace Go.Proofs.YtdkneekpdecjbaaGreat
open Go.RowKit Go.Fw Go.Proofs.Tryz
abbrev Pc:=Int × Int
structure Lw where
 f:Int
 a:Int
 blocks:List nK
 ctxs:List Bn
 objs:List Ce
 omap:List (Int × Int)
 ops:Int
 blk:Int
 opn:Bool
 next:Int
 vals:Option (List (Pc × Int))
 pend:List Int
 hnd:List Nat
 stmt:Int
 labs:List (Int × List Pc)
inductive Lo (α:Type) where
 | ok (a:α) (s:Lw)
 | lim
 | rt
abbrev LM (α:Type):=Lw->Option (Lo α)
def Lo.then {α β:Type}:Lo α→(α→LM β)→Option (Lo β)
 | .ok a s,k=>k a s
 | .lim,_=>some .lim
 | .rt,_=>some .rt
def LM.bind {α β:Type}(m:LM α)(k:α->LM β):LM β:=fun s=>(m s).bind fun p=>p.then k
def nT {α:Type}(a:α):LM α:=fun s=>some (.ok a s)
def lrt {α:Type}:LM α:=fun _=>some .rt
def ix? {α:Type}(l:List α)(i:Int):Option α:=if i < 0 then none else l[i.toNat]?
abbrev QS:ug:=⟨-1,[]⟩
abbrev wK:Ze:=⟨0,0,0⟩
def ET (v:Int):LM Unit:=fun s=>(app s.pend [v]).bind fun p=>some (.ok () { s with pend:=p })
def Gg:LM Int:=fun s=>match s.pend.getLast? with
 | none=>some .rt
 | some v=>some (.ok v { s with pend:=s.pend.dropLast })
def lop (l:List HY):LM Unit:=fun s=>
 if 6000 < wr (s.ops+l.length) then some .lim
 else match ix? s.blocks s.blk with
  | none=>some .rt
  | some b=>(app b.c l).bind fun os=>some (.ok () { s with ops:=wr (s.ops+l.length),blocks:=s.blocks.set s.blk.toNat { b with c:=os } })
def JW (o:HY):LM Int:=fun s=>(lop [{ o with e:=s.next }] |>.bind fun _=>nT s.next) { s with next:=wr (s.next+1) }
def wm (n:Int):LM Int:=JW ⟨1,0,0,0,n,0,0,0,wK⟩
def Ar (p:Pc)(v:Int):LM Unit:=fun s=>s.vals.bind fun l=>lop [⟨21,0,0,0,0,0,p.1,p.2,⟨2,v,0⟩⟩] { s with vals:=some (BN l p v) }
def Iq:LM Unit:=fun s=>lop [⟨19,0,0,0,s.stmt,0,0,0,wK⟩] s
def TN:LM Unit:=fun s=>lop [⟨20,0,0,0,s.stmt,0,0,0,wK⟩] s
def OC (vs:Option (List iA)):List Int→List Pc→Option (Option (List Pc))
 | [],acc=>some (some acc)
 | v :: l,acc=>match vs.bind fun vs=>ix? vs v with
  | none=>some none
  | some x=>if x.c=3 then OC vs l acc else (app acc ((List.range x.a.toNat).map fun i=>(v,((i:Nat):Int)))).bind fun acc=>OC vs l acc
def rC (vis:Int->Int->Option (List Int))(vars:List (List iA))(stmt:Int):LM Nat:=fun s=>
 (vis s.f stmt).bind fun l=>(OC (ix? vars s.f) l []).bind fun
  | none=>some .rt
  | some ps=>some (.ok s.labs.length { s with labs:=s.labs ++ [(-1,ps)] })
abbrev Wu:nK:=⟨0,[],⟨0,0,0,[],⟨⟨0,[]⟩,⟨0,[]⟩⟩⟩⟩
def zL (i:Nat):LM Unit:=fun s=>s.labs[i]?.bind fun t=>if 0<=t.1 then some (.ok () s) else if 400<=s.blocks.length then some .lim else some (.ok () { s with labs:=s.labs.set i (s.blocks.length,t.2),blocks:=s.blocks ++ [Wu] })
def xu (i:Nat)(first:List Int):LM ug:=zL i |>.bind fun _ s=>s.labs[i]?.bind fun t=>s.vals.bind fun l=>(app first (t.2.map fun p=>(wZ l p).getD 0)).bind fun vs=>some (.ok ⟨t.1,vs⟩ s)
def D6:List Pc→Int→Nat→LM Unit
 | [],_,_=>nT ()
 | p :: l,n,i=>Ar p (wr (n+i)) |>.bind fun _=>D6 l n (i+1)
def oz (i:Nat)(first:Int):LM Unit:=fun s=>s.labs[i]?.bind fun t=>
 let n:=wr (wr (first+t.2.length)+s.pend.length)
 if 999 < n then some .lim
 else match ix? s.blocks t.1 with
  | none=>some .rt
  | some b=>(D6 t.2 first 0 |>.bind fun _ s=>some (.ok () { s with pend:=(List.range s.pend.length).map fun k=>wr (wr (first+t.2.length)+(k:Nat)) }))
   { s with blk:=t.1,opn:=true,next:=n,blocks:=s.blocks.set t.1.toNat { b with a:=n },vals:=some [] }
def lend (t:yU):LM Unit:=fun s=>match ix? s.blocks s.blk with
 | none=>some .rt
 | some b=>some (.ok () { s with blocks:=s.blocks.set s.blk.toNat { b with b:=t },opn:=false })
def xE (i:Nat):LM Unit:=fun s=>if s.opn=true then (xu i [] |>.bind fun e=>lend ⟨1,0,0,[],⟨e,QS⟩⟩) s else some (.ok () s)
def Cg (v:Int)(yes no:ug):LM Unit:=lend ⟨2,v,0,[],⟨yes,no⟩⟩
def Du (v:Int):LM Unit:=lend ⟨4,v,0,[],⟨QS,QS⟩⟩
def zf (v:Int):LM Unit:=fun s=>match s.hnd.getLast? with
 | some h=>(xu h [v] |>.bind fun e=>lend ⟨1,0,0,[],⟨e,QS⟩⟩) s
 | none=>lend ⟨5,v,0,[],⟨QS,QS⟩⟩ s
def AX (e:jA):Pc:=if e.e=2 then (e.g,e.d) else (e.g,0)
def Bg (kind:Int):LM Unit:=Gg |>.bind fun b=>Gg |>.bind fun a=>JW ⟨kind,0,a,b,0,0,0,0,wK⟩ |>.bind ET
def JX (i:Nat):LM ug:=xu i [] |>.bind fun e s=>(app e.a s.pend).bind fun vs=>some (.ok ⟨e.b,vs⟩ s)
def F6 (i:Nat):LM Unit:=oz i 0 |>.bind fun _=>TN
def EY (i:Nat)(n:Int):LM Unit:=fun s=>(oz i 0 |>.bind fun _=>TN |>.bind fun _=>wm n |>.bind fun c=>zf c |>.bind fun _ s'=>some (.ok () { s' with pend:=s.pend })) { s with pend:=[] }
def Iu:LM Int:=fun s=>match s.pend.getLast? with
 | none=>some .rt
 | some v=>some (.ok v s)
def xg {α β:Type}(l:List α)(k:α->LM β):LM β:=match l with
 | []=>lrt
 | x :: _=>k x
def Xv {α β:Type}(l:List α)(k:α->LM β):LM β:=match l with
 | _ :: x :: _=>k x
 | _=>lrt
def Po (v:Int){β:Type}(k:Int->LM β):LM β:=fun s=>k ((wZ s.omap v).getD 0) s
section
variable (vis:Int->Int->Option (List Int))(vars:List (List iA))
def PD {β:Type}(k:Nat->LM β):LM β:=fun s=>(rC vis vars s.stmt |>.bind k) s
def Nj:LM Unit:=Iu |>.bind fun d=>PD vis vars fun next=>PD vis vars fun fault=>JX next |>.bind fun yes=>xu fault [] |>.bind fun no=>Cg d yes no |>.bind fun _=>EY fault 1 |>.bind fun _=>F6 next
def Ou {β:Type}(v:Int)(k:iA->LM β):LM β:=fun s=>match (ix? vars s.f).bind fun l=>ix? l v with
 | none=>some .rt
 | some x=>k x s
def Ho (ex:jA->LM Unit)(e:jA):LM Unit:=xg e.a ex |>.bind fun _=>Iu |>.bind fun i=>wm 0 |>.bind fun z=>JW ⟨11,0,i,z,0,0,0,0,wK⟩ |>.bind fun below=>Ou vars e.g fun x=>wm x.a |>.bind fun n=>JW ⟨12,0,n,i,0,0,0,0,wK⟩ |>.bind fun above=>JW ⟨9,0,below,above,0,0,0,0,wK⟩ |>.bind fun out=>PD vis vars fun next=>PD vis vars fun fault=>xu fault [] |>.bind fun yes=>JX next |>.bind fun no=>Cg out yes no |>.bind fun _=>EY fault 2 |>.bind fun _=>F6 next
def lexpr:Nat→jA→LM Unit
 | 0,_=>fun _=>none
 | fu+1,e=>
  if e.e=0 then wm e.d |>.bind ET
  else if e.e=1\/e.e=2 then fun s=>s.vals.bind fun l=>ET ((wZ l (AX e)).getD 0) s
  else if e.e=3 then Ho vis vars (lexpr fu) e |>.bind fun _=>Gg |>.bind fun a=>Po e.g fun n=>JW ⟨15,0,a,0,n,0,0,0,wK⟩ |>.bind ET
  else if e.e=4 then wm 0 |>.bind ET |>.bind fun _=>xg e.a (lexpr fu) |>.bind fun _=>Bg 4
  else if e.e=5 then xg e.a (lexpr fu) |>.bind fun _=>wm 0 |>.bind ET |>.bind fun _=>Bg 13
  else xg e.a (lexpr fu) |>.bind fun _=>Xv e.a (lexpr fu) |>.bind fun _=>(if e.e=9\/e.e=10 then Nj vis vars else nT ()) |>.bind fun _=>Bg (wr (wr (e.e - 6)+3))
def E9 (fu:Nat):List jA→LM Unit
 | []=>nT ()
 | x :: l=>lexpr vis vars fu x |>.bind fun _=>E9 fu l
def lvalue (fu:Nat)(e:jA):LM Int:=lexpr vis vars fu e |>.bind fun _=>Gg
def FV (v:Int):Nat→Int→LM Unit
 | 0,_=>nT ()
 | n+1,i=>wm 0 |>.bind fun c=>Ar (v,i) c |>.bind fun _=>FV v n (i+1)
def BG (x:jB):LM Unit:=Ou vars x.g fun i=>if i.c=3 then Po x.g fun n=>lop [⟨17,0,0,0,n,0,0,0,wK⟩] else if 1000000 < i.a then fun _=>none else FV x.g i.a.toNat 0
def Dp (fu:Nat)(t e:jA):LM Unit:=if t.e=3 then Ho vis vars (lexpr vis vars fu) t |>.bind fun _=>lexpr vis vars fu e |>.bind fun _=>Gg |>.bind fun v=>Gg |>.bind fun a=>Po t.g fun n=>lop [⟨16,0,a,v,n,0,0,0,wK⟩] else lvalue vis vars fu e |>.bind fun v=>(if e.e=1\/e.e=2 then JW ⟨2,0,v,0,0,0,0,0,wK⟩ else nT v) |>.bind (Ar (AX t))
def Ee (k:ug->LM Unit):LM Unit:=fun s=>match s.hnd.getLast? with
 | some h=>(xu h [] |>.bind k) s
 | none=>k QS s
def DR (fu:Nat)(x:jB):LM Unit:=E9 vis vars fu x.a |>.bind fun _ s=>(rC vis vars x.n |>.bind fun next=>xu next [] |>.bind fun e=>Ee fun h=>lend ⟨3,0,x.h,s.pend,⟨e,h⟩⟩ |>.bind fun _=>oz next 1 |>.bind fun _=>TN) { s with pend:=[] }
def sI (st:jB→LM Unit):List jB→LM Unit
 | []=>nT ()
 | x :: l=>fun s=>if s.opn=true then (st x |>.bind fun _=>sI st l) s else some (.ok () s)
def wN (i:Nat):LM Unit:=fun s=>s.labs[i]?.bind fun t=>if 0<=t.1 then oz i 0 s else some (.ok () s)
def Dn (st:jB->LM Unit)(fu:Nat)(x:jB):LM Unit:=xg x.a (lvalue vis vars fu) |>.bind fun c=>rC vis vars x.n |>.bind fun body=>rC vis vars x.n |>.bind fun behind=>(if x.i.length=0 then nT behind else rC vis vars x.n) |>.bind fun other=>xu body [] |>.bind fun yes=>xu other [] |>.bind fun no=>Cg c yes no |>.bind fun _=>oz body 0 |>.bind fun _=>sI st x.e |>.bind fun _=>xE behind |>.bind fun _=>(if other=behind then nT () else oz other 0 |>.bind fun _=>sI st x.i |>.bind fun _=>xE behind) |>.bind fun _=>wN behind
def Kr (st:jB->LM Unit)(fu:Nat)(x:jB):LM Unit:=rC vis vars x.n |>.bind fun head=>rC vis vars x.n |>.bind fun body=>rC vis vars x.n |>.bind fun behind=>xE head |>.bind fun _=>oz head 0 |>.bind fun _=>Iq |>.bind fun _=>xg x.a (lvalue vis vars fu) |>.bind fun c=>xu body [] |>.bind fun yes=>xu behind [] |>.bind fun no=>Cg c yes no |>.bind fun _=>oz body 0 |>.bind fun _=>sI st x.e |>.bind fun _=>xE head |>.bind fun _=>oz behind 0
def Ia (h:Nat):LM Unit:=fun s=>if 1000000 < s.hnd.length then none else some (.ok () { s with hnd:=s.hnd ++ [h] })
def Ij:LM Unit:=fun s=>if s.hnd=[] then none else some (.ok () { s with hnd:=s.hnd.dropLast })
def Q7 (st:jB->LM Unit)(x:jB):LM Unit:=rC vis vars x.n |>.bind fun h=>rC vis vars x.n |>.bind fun behind=>Ia h |>.bind fun _=>sI st x.e |>.bind fun _=>Ij |>.bind fun _=>xE behind |>.bind fun _ s=>s.labs[h]?.bind fun t=>((if 0<=t.1 then oz h 1 |>.bind fun _=>Ar (x.g,0) 0 |>.bind fun _=>sI st x.i |>.bind fun _=>xE behind else nT ()) |>.bind fun _=>wN behind) s
def wI:Nat→jB→LM Unit
 | 0,_=>fun _=>none
 | fu+1,x=>fun s=>
  (if x.c=5 then Kr vis vars (wI fu) fu x
  else Iq |>.bind fun _=>
   if x.c=1 then BG vars x
   else if x.c=2 then xg x.d fun t=>xg x.a fun e=>Dp vis vars fu t e
   else if x.c=3 then DR vis vars fu x |>.bind fun _=>match x.d with
    | []=>nT ()
    | t :: _=>Ar (AX t) 0
   else if x.c=4 then Dn vis vars (wI fu) fu x
   else if x.c=6 then (if x.k≠be then DR vis vars fu x |>.bind fun _=>Du 0 else xg x.a (lvalue vis vars fu) |>.bind Du)
   else if x.c=7 then xg x.a (lvalue vis vars fu) |>.bind zf
   else if x.c=8 then Q7 vis vars (wI fu) x
   else if x.c=9 then xg x.a (lvalue vis vars fu) |>.bind fun v=>lop [⟨18,0,v,0,0,0,0,0,wK⟩]
   else if x.c=10 then wm 0 |>.bind Du
   else nT ()) { s with stmt:=x.n }
def Dt:List iA→Nat→LM Unit
 | [],_=>nT ()
 | v :: l,i=>fun s=>
  if 8 < v.a then some .lim
  else if v.c=3 then (app s.objs [(⟨0,i,v.a⟩:Ce)]).bind fun o=>Dt l (i+1) { s with omap:=BN s.omap i s.objs.length,objs:=o }
  else Dt l (i+1) s
end
def PV (f:Int):Lw:=⟨f,0,[],[],[],[],0,0,false,0,none,[],[],0,[]⟩
def OD (vis:Int->Int->Option (List Int))(src:jW)(fu:Nat):LM Unit:=fun s=>match ix? src.a.b s.f with
 | none=>some .rt
 | some fn=>match ix? src.c s.f with
  | none=>some .rt
  | some vs=>(Dt vs 0 |>.bind fun _=>xg fn.e fun x=>rC vis src.c x.n |>.bind fun e=>zL e |>.bind fun _=>oz e 0 |>.bind fun _=>sI (wI vis src.c fu) fn.e) { s with a:=fn.a.length,ctxs:=[⟨-1,-1,s.f⟩] }
def Lw.code (s:Lw):qE:=⟨s.a,s.blocks,s.ctxs,s.objs⟩
def Ej (vis:Int→Int→Option (List Int))(src:jW)(fu:Nat):Nat→Nat→List qE→Option (List qE × Int)
 | 0,_,acc=>some (acc,0)
 | n+1,f,acc=>(OD vis src fu (PV f)).bind fun
  | .ok _ s=>(app acc [s.code]).bind fun acc=>Ej vis src fu n (f+1) acc
  | .lim=>some ([],5)
  | .rt=>some ([],4)
def Ur (fu:Nat)(vis:jW->Int->Int->Option (List Int))(src:jW):Option (List qE × Int):=Ej (vis src) src fu src.a.b.length 0 []
set_option maxRecDepth 4000
def Lj (l:List HY)(i:Int):Nat:=l.countP fun o=>decide (o.c=19/\o.N=i)
def Ay:List nK→Int→Nat
 | [],_=>0
 | b :: l,i=>Lj b.c i+Ay l i
theorem WI {l l':List HY}{i:Int}:Lj (l ++ l') i=Lj l i+Lj l' i:=List.countP_append
theorem Sj {l':List nK}{i:Int}:∀ {l:List nK},Ay (l ++ l') i=Ay l i+Ay l' i
 | []=>by simp [Ay]
 | b :: l=>by show Lj b.c i+Ay (l ++ l') i=_;rw [Sj,Ay,Nat.add_assoc]
theorem IW {b b':nK}{i:Int}:∀ {l:List nK}{k:Nat},l[k]?=some b→Ay (l.set k b') i+Lj b.c i=Ay l i+Lj b'.c i
 | c :: l,0,h=>by simp only [Dz,Cy] at h;subst h;simp only [List.set_cons_zero,Ay];omega
 | c :: l,k+1,h=>by have:=IW (b':=b') (i:=i) (l:=l) (k:=k) (by simpa using h);simp only [List.set_cons_succ,Ay];omega
 | [],_,h=>by simp at h
theorem ix?_at {α:Type}{l:List α}{i:Int}{x:α}(h:ix? l i=some x):l[i.toNat]?=some x:=by
 unfold ix? at h;split at h
 · cases h
 · exact h
theorem QL {α:Type}{a b c:List α}(h:app a b=some c):c=a ++ b:=by
 unfold app at h;split at h
 · exact (Od h).symm
 · cases h
def Qt {α:Type}(c:LM α)(P:Lw->Lw->Prop):Prop:=∀ s a s',c s=some (.ok a s')->P s s'
section
variable {α β:Type}{c:LM α}{f:α->LM β}{P P' P'':Lw->Lw->Prop}
theorem Qt.bind (h:Qt c P)(k:∀ a,Qt (f a) P')(t:∀ s s1 s2,P s s1->P' s1 s2->P'' s s2):Qt (c.bind f) P'':=by
 intro s a s' e;unfold LM.bind at e;cases hc:c s with
 | none=>rw [hc] at e;cases e
 | some q=>
  rw [hc] at e;cases q with
  | ok a1 s1=>exact t _ _ _ (h _ _ _ hc) (k a1 _ _ _ e)
  | lim=>cases e
  | rt=>cases e
theorem Qt.mono (h:Qt c P)(t:∀ s s',P s s'->P' s s'):Qt c P':=fun s a s' e=>t _ _ (h _ _ _ e)
end
def vH (s s':Lw):Prop:=s'.stmt=s.stmt/\∀ i,Ay s'.blocks i=Ay s.blocks i
theorem vH.trans {s s1 s2:Lw}(h:vH s s1)(k:vH s1 s2):vH s s2:=⟨k.1.trans h.1,fun i=>(k.2 i).trans (h.2 i)⟩
theorem vH.r {s:Lw}:vH s s:=⟨rfl,fun _=>rfl⟩
section
variable {α β:Type}{c:LM α}{f:α->LM β}
theorem nb (h:Qt c vH)(k:∀ a,Qt (f a) vH):Qt (c.bind f) vH:=h.bind k fun _ _ _=>vH.trans
theorem CK {a:α}:Qt (nT a) vH:=fun s b s' e=>by cases e;exact .r
theorem EH {l:List β}{k:β->LM α}{P:Lw->Lw->Prop}(h:∀ x ∈ l,Qt (k x) P):Qt (xg l k) P:=by
 cases l with
 | nil=>exact fun s b s' e=>by cases e
 | cons x l=>exact h x (Az ..)
theorem acn {l:List β}{k:β->LM α}{P:Lw->Lw->Prop}(h:∀ x ∈ l,Qt (k x) P):Qt (Xv l k) P:=by
 cases l with
 | nil=>exact fun s b s' e=>by cases e
 | cons x l=>
  cases l with
  | nil=>exact fun s b s' e=>by cases e
  | cons y l=>exact h y (yT _ (Az ..))
theorem uI {p:Prop}[Decidable p]{a b:LM α}{P:Lw->Lw->Prop}(h:p->Qt a P)(k:¬ p->Qt b P):Qt (if p then a else b) P:=by
 split
 · exact h ‹_›
 · exact k ‹_›
end
theorem V7 {l:List HY}:Qt (lop l) fun s s'=>s'.stmt=s.stmt/\∀ i,Ay s'.blocks i=Ay s.blocks i+Lj l i:=by
 intro s a s' e;unfold lop at e;split at e
 · cases e
 split at e
 · cases e
 rename_i b hb;obtain ⟨os,hos,e⟩:=bs e;cases e;refine ⟨rfl,fun i=>?_⟩;have:=IW (b':={ b with c:=os }) (i:=i) (ix?_at hb);rw [QL hos] at this;simp only [WI] at this;show Ay (s.blocks.set s.blk.toNat { b with c:=os }) i=_;rw [QL hos];omega
theorem SF {o:HY}(h:o.c≠19):Qt (lop [o]) vH:=V7.mono fun s s' ⟨h1,h2⟩=>⟨h1,fun i=>by
 rw [h2 i];simp [Lj,h]⟩
theorem aaz:Qt Iq fun s s'=>s'.stmt=s.stmt/\∀ i,Ay s'.blocks i=Ay s.blocks i+if i=s.stmt then 1 else 0:=by
 intro s a s' e;obtain ⟨h1,h2⟩:=V7 _ _ _ e;refine ⟨h1,fun i=>?_⟩;rw [h2 i]
 congr 1
 simp only [Lj,List.countP_cons,List.countP_nil,Dm,true_and];by_cases h:i=s.stmt
 · simp [h]
 · simp [h,Ne.symm h]
theorem I9 {o:HY}(h:o.c≠19):Qt (JW o) vH:=fun s a s' e=>(nb (SF (o:={ o with e:=s.next }) h) fun _=>CK) { s with next:=wr (s.next+1) } a s' e
theorem BZ {n:Int}:Qt (wm n) vH:=I9 (by simp)
theorem Ic {v:Int}:Qt (ET v) vH:=fun s a s' e=>by obtain ⟨p,_,e⟩:=bs e;cases e;exact .r
theorem Lv:Qt Gg vH:=fun s a s' e=>by unfold Gg at e;split at e <;> cases e;exact .r
theorem T9:Qt Iu vH:=fun s a s' e=>by unfold Iu at e;split at e <;> cases e;exact .r
theorem Ji {p:Pc}{v:Int}:Qt (Ar p v) vH:=fun s a s' e=>by obtain ⟨l,_,e⟩:=bs e;have h:vH { s with vals:=some (BN l p v) } s':=SF (by simp) _ _ _ e;exact h
theorem YU:Qt TN vH:=fun s a s' e=>SF (by show (20:Int)≠19;decide) _ _ _ e
section
variable {vis:Int->Int->Option (List Int)}{vars:List (List iA)}
theorem yj {stm:Int}:Qt (rC vis vars stm) vH:=fun s a s' e=>by obtain ⟨l,_,e⟩:=bs e;obtain ⟨r,_,e⟩:=bs e;cases r <;> cases e;exact .r
theorem OO {i:Nat}:Qt (zL i) vH:=fun s a s' e=>by
 obtain ⟨t,_,e⟩:=bs e;split at e
 · cases e;exact .r
 split at e <;> cases e;exact ⟨rfl,fun i=>by rw [Sj];rfl⟩
theorem Bj {i:Nat}{l:List Int}:Qt (xu i l) vH:=nb OO fun _ s a s' e=>by obtain ⟨t,_,e⟩:=bs e;obtain ⟨l,_,e⟩:=bs e;obtain ⟨vs,_,e⟩:=bs e;cases e;exact .r
theorem Sm:∀ {l:List Pc}{n:Int}{i:Nat},Qt (D6 l n i) vH
 | [],_,_=>CK
 | p :: l,n,i=>nb Ji fun _=>Sm
theorem xJ {i:Nat}{n:Int}:Qt (oz i n) vH:=fun s a s' e=>by
 obtain ⟨t,_,e⟩:=bs e;dsimp only at e;split at e
 · cases e
 split at e
 · cases e
 rename_i b hb;have h:vH _ s':=(nb Sm fun _ s a s' e=>by cases e;exact .r) _ _ _ e;refine ⟨h.1,fun i=>?_⟩;rw [h.2 i];have:=IW (b':={ b with a:=wr (wr (n+t.2.length)+s.pend.length) }) (i:=i) (ix?_at hb);dsimp only at this;show Ay (s.blocks.set _ _) i=_;omega
theorem Lu {t:yU}:Qt (lend t) vH:=fun s a s' e=>by unfold lend at e;split at e <;> cases e;rename_i b hb;refine ⟨rfl,fun i=>?_⟩;have:=IW (b':={ b with b:=t }) (i:=i) (ix?_at hb);dsimp only at this;show Ay (s.blocks.set _ _) i=_;omega
theorem Ih {i:Nat}:Qt (xE i) vH:=fun s a s' e=>by
 unfold xE at e;split at e
 · exact (nb Bj fun _=>Lu) _ _ _ e
 · cases e;exact .r
theorem QT {v:Int}:Qt (Du v) vH:=Lu
theorem Gb {v:Int}{a b:ug}:Qt (Cg v a b) vH:=Lu
theorem RF {v:Int}:Qt (zf v) vH:=fun s a s' e=>by
 unfold zf at e;split at e
 · exact (nb Bj fun _=>Lu) _ _ _ e
 · exact Lu _ _ _ e
theorem Ib {k:Int}(h:k≠19):Qt (Bg k) vH:=nb Lv fun _=>nb Lv fun _=>nb (I9 h) fun _=>Ic
theorem Rl {i:Nat}:Qt (JX i) vH:=nb Bj fun _ s a s' e=>by obtain ⟨vs,_,e⟩:=bs e;cases e;exact .r
theorem Ph {i:Nat}:Qt (F6 i) vH:=nb xJ fun _=>YU
theorem RL {i:Nat}{n:Int}:Qt (EY i n) vH:=fun s a s' e=>
 (nb xJ fun _=>nb YU fun _=>nb BZ fun _=>nb RF fun _ s1 a s' e=>by cases e;exact ⟨rfl,fun _=>rfl⟩) { s with pend:=[] } a s' e
theorem RV {β:Type}{k:Nat->LM β}(h:∀ n,Qt (k n) vH):Qt (PD vis vars k) vH:=fun s a s' e=>(nb yj h) _ _ _ e
theorem Xu:Qt (Nj vis vars) vH:=nb T9 fun d=>RV fun next=>RV fun fault=>nb Rl fun _=>nb Bj fun _=>nb Gb fun _=>nb RL fun _=>Ph
theorem Yf {β:Type}{v:Int}{k:iA->LM β}{P:Lw->Lw->Prop}(h:∀ x,Qt (k x) P):Qt (Ou vars v k) P:=fun s a s' e=>by
 unfold Ou at e;split at e
 · cases e
 · exact h _ _ _ _ e
theorem Wp {β:Type}{v:Int}{k:Int->LM β}{P:Lw->Lw->Prop}(h:∀ n,Qt (k n) P):Qt (Po v k) P:=fun s a s' e=>h _ _ _ _ e
theorem RO {ex:jA->LM Unit}{x:jA}(h:∀ y ∈ x.a,Qt (ex y) vH):Qt (Ho vis vars ex x) vH:=nb (EH h) fun _=>nb T9 fun _=>nb BZ fun _=>nb (I9 (by simp)) fun _=>
 Yf fun _=>nb BZ fun _=>nb (I9 (by simp)) fun _=>nb (I9 (by simp)) fun _=>RV fun _=>RV fun _=>nb Bj fun _=>nb Rl fun _=>nb Gb fun _=>nb RL fun _=>Ph
inductive XO:jA→Prop
 | mk {e:jA} (h:0<=e.e/\e.e < 20) (k:∀ y ∈ e.a,XO y):XO e
theorem XO.op {e:jA}(h:XO e):0<=e.e/\e.e < 20:=by cases h;assumption
theorem XO.args {e:jA}(h:XO e):∀ y ∈ e.a,XO y:=by cases h;assumption
theorem JJ:∀ (fu:Nat)(e:jA),XO e→Qt (lexpr vis vars fu e) vH
 | 0,_,_=>fun s a s' h=>by cases h
 | fu+1,e,h=>by
  have ih:=fun y hy=>JJ fu y (h.args y hy);have hw:wr (wr (e.e - 6)+3)≠19:=by
   have:=h.op;have h1:wr (e.e - 6)=e.e - 6:=by unfold wr;rw [TH (by omega) (by omega)]
   rw [h1];unfold wr;rw [TH (by omega) (by omega)];omega
  unfold lexpr;refine uI (fun _=>nb BZ fun _=>Ic) fun _=>uI (fun _ s a s' e=>?_) fun _=>uI (fun _=>nb (RO ih) fun _=>nb Lv fun _=>Wp fun _=>nb (I9 (by simp)) fun _=>Ic) fun _=>
   uI (fun _=>nb (nb BZ fun _=>Ic) fun _=>nb (EH ih) fun _=>Ib (by decide)) fun _=>uI (fun _=>nb (EH ih) fun _=>nb (nb BZ fun _=>Ic) fun _=>Ib (by decide)) fun _=>
   nb (EH ih) fun _=>nb (acn ih) fun _=>nb (uI (fun _=>Xu) fun _=>CK) fun _=>Ib hw
  obtain ⟨l,_,e⟩:=bs e;exact Ic _ _ _ e
theorem Rx {fu:Nat}:∀ {l:List jA},(∀ y ∈ l,XO y)→Qt (E9 vis vars fu l) vH
 | [],_=>CK
 | x :: l,h=>nb (JJ fu x (h x (Az ..))) fun _=>Rx fun y hy=>h y (yT _ hy)
theorem IY {fu:Nat}{e:jA}(h:XO e):Qt (lvalue vis vars fu e) vH:=nb (JJ fu e h) fun _=>Lv
theorem Sc {v:Int}:∀ {n:Nat}{i:Int},Qt (FV v n i) vH
 | 0,_=>CK
 | n+1,i=>nb BZ fun _=>nb Ji fun _=>Sc
theorem SA {x:jB}:Qt (BG vars x) vH:=Yf fun _=>uI (fun _=>Wp fun _=>SF (by simp)) fun _=>uI (fun _ s a s' e=>by cases e) fun _=>Sc
theorem Vj {fu:Nat}{t e:jA}(ht:XO t)(he:XO e):Qt (Dp vis vars fu t e) vH:=uI (fun _=>nb (RO fun y hy=>JJ fu y (ht.args y hy)) fun _=>nb (JJ fu e he) fun _=>nb Lv fun _=>nb Lv fun _=>Wp fun _=>SF (by simp))
 fun _=>nb (IY he) fun _=>nb (uI (fun _=>I9 (by simp)) fun _=>CK) fun _=>Ji
theorem WM {k:ug->LM Unit}(h:∀ e,Qt (k e) vH):Qt (Ee k) vH:=fun s a s' e=>by
 unfold Ee at e;split at e
 · exact (nb Bj h) _ _ _ e
 · exact h _ _ _ _ e
theorem Uf {fu:Nat}{x:jB}(h:∀ y ∈ x.a,XO y):Qt (DR vis vars fu x) vH:=nb (Rx h) fun _ s a s' e=>(nb yj fun _=>nb Bj fun _=>WM fun _=>nb Lu fun _=>nb xJ fun _=>YU) { s with pend:=[] } a s' e
theorem PZ {i:Nat}:Qt (wN i) vH:=fun s a s' e=>by
 obtain ⟨t,_,e⟩:=bs e;split at e
 · exact xJ _ _ _ e
 · cases e;exact .r
theorem Xr {h:Nat}:Qt (Ia h) vH:=fun s a s' e=>by unfold Ia at e;split at e <;> cases e;exact .r
theorem aax:Qt Ij vH:=fun s a s' e=>by unfold Ij at e;split at e <;> cases e;exact .r
end
def Mm (a b:Nat)(s s':Lw):Prop:=∀ i:Int,Ay s.blocks i<=Ay s'.blocks i/\Ay s'.blocks i<=Ay s.blocks i+if (a:Int)<=i/\i < b then 1 else 0
theorem vH.mm {a b:Nat}{s s':Lw}(h:vH s s'):Mm a b s s':=fun i=>by rw [h.2 i];exact ⟨nJ _,Nat.le_add_right _ _⟩
theorem Mm.trans {a b c:Nat}{s s1 s2:Lw}(hab:a<=b)(hbc:b<=c)(h:Mm a b s s1)(k:Mm b c s1 s2):Mm a c s s2:=fun i=>by have h:=h i;have k:=k i;split at h <;> split at k <;> split <;> omega
theorem Mm.nl {a b:Nat}{s s1 s2:Lw}(h:vH s s1)(k:Mm a b s1 s2):Mm a b s s2:=fun i=>by rw [<-h.2 i];exact k i
theorem Mm.nr {a b:Nat}{s s1 s2:Lw}(h:Mm a b s s1)(k:vH s1 s2):Mm a b s s2:=fun i=>by rw [k.2 i];exact h i
theorem Mm.wid {a b d:Nat}{s s1:Lw}(hb:b<=d)(h:Mm a b s s1):Mm a d s s1:=fun i=>by have h:=h i;split at h <;> split <;> omega
inductive Ids:List jB→Nat→Nat→Prop
 | nil (a:Nat):Ids [] a a
 | cons {x:jB} {l:List jB} {a c d b:Nat} (h:x.n=a) (h1:∀ y ∈ x.a,XO y) (h2:∀ y ∈ x.d,XO y) (s1:Ids x.e (a+1) c) (s2:Ids x.i c d) (s3:Ids l d b):Ids (x :: l) a b
theorem Ids.le {l:List jB}{a b:Nat}(h:Ids l a b):a<=b:=by
 induction h with
 | nil=>exact nJ _
 | cons _ _ _ _ _ _ i1 i2 i3=>omega
section
variable {α β:Type}{c:LM α}{f:α->LM β}{a b d:Nat}
theorem Kz (h:Qt c vH)(k:∀ x,Qt (f x) (Mm a b)):Qt (c.bind f) (Mm a b):=h.bind k fun _ _ _=>Mm.nl
theorem mbn (h:Qt c (Mm a b))(k:∀ x,Qt (f x) vH):Qt (c.bind f) (Mm a b):=h.bind k fun _ _ _=>Mm.nr
theorem mbm (h1:a<=b)(h2:b<=d)(h:Qt c (Mm a b))(k:∀ x,Qt (f x) (Mm b d)):Qt (c.bind f) (Mm a d):=h.bind k fun _ _ _=>Mm.trans h1 h2
def Mk1 (a d:Nat)(s s':Lw):Prop:=s.stmt=(a:Int)->Mm a d s s'/\Ay s.blocks a+1<=Ay s'.blocks a
theorem nb1 (h:Qt c vH)(k:∀ x,Qt (f x) (Mk1 a d)):Qt (c.bind f) (Mk1 a d):=h.bind k fun s s1 s2 h1 h2 hs=>by obtain ⟨h3,h4⟩:=h2 (h1.1.trans hs);rw [h1.2] at h4;exact ⟨h3.nl h1,h4⟩
end
theorem k1 {f:Unit->LM Unit}{a d:Nat}(hd:a+1<=d)(k:∀ x,Qt (f x) (Mm (a+1) d)):Qt (Iq.bind f) (Mk1 a d):=aaz.bind k fun s s1 s2 h1 h2 hs=>by
 refine ⟨fun i=>?_,?_⟩
 · have h:=h1.2 i;have k:=h2 i;rw [hs] at h;split at h <;> split at k <;> split <;> omega
 · have h:=h1.2 a;have k:=h2 a;rw [hs,mF rfl] at h;omega
section
variable {vis:Int->Int->Option (List Int)}{vars:List (List iA)}{st:jB->LM Unit}{fu:Nat}
def Zo (st:jB->LM Unit):Prop:=∀ (x:jB)(a c d:Nat),x.n=a->(∀ y ∈ x.a,XO y)->(∀ y ∈ x.d,XO y)->Ids x.e (a+1) c->Ids x.i c d->Qt (st x) fun s s'=>Mm a d s s'/\Ay s.blocks a+1<=Ay s'.blocks a
theorem DK (hS:Zo st):∀ {l:List jB}{a b:Nat},Ids l a b→Qt (sI st l) (Mm a b)
 | [],a,b,h=>CK.mono fun _ _=>vH.mm
 | x :: l,a,b,.cons h h1 h2 s1 s2 s3=>fun s u s' e=>by
  rw [sI] at e;dsimp only at e;split at e
  · exact (mbm (by have:=s1.le;have:=s2.le;omega) s3.le ((hS x _ _ _ h h1 h2 s1 s2).mono fun _ _ h=>h.1) fun _=>DK hS s3) _ _ _ e
  · cases e;exact vH.r.mm
theorem WT (hS:Zo st){x:jB}{l:List jB}{a b:Nat}(h:Ids (x :: l) a b):Qt (sI st (x :: l)) fun s s'=>s.opn=true->Ay s.blocks a+1<=Ay s'.blocks a:=by
 cases h with
 | cons h h1 h2 s1 s2 s3=>
  intro s u s' e ho;rw [sI] at e;dsimp only at e;rw [mF ho] at e;have:=((hS x _ _ _ h h1 h2 s1 s2).bind (fun _=>DK hS s3) (P'':=fun s s'=>Ay s.blocks a+1<=Ay s'.blocks a) fun s s1 s2 h k=>rA h.2 (k a).1) _ _ _ e;exact this
theorem Ug (hS:Zo st){x:jB}{a c d:Nat}(h1:∀ y ∈ x.a,XO y)(s1:Ids x.e a c)(s2:Ids x.i c d):Qt (Dn vis vars st fu x) (Mm a d):=
 Kz (EH fun y hy=>IY (h1 y hy)) fun _=>Kz yj fun _=>Kz yj fun _=>Kz (uI (fun _=>CK) fun _=>yj) fun _=>Kz Bj fun _=>Kz Bj fun _=>Kz Gb fun _=>
 Kz xJ fun _=>mbm s1.le s2.le (DK hS s1) fun _=>Kz Ih fun _=>mbn (uI (fun _=>CK.mono fun _ _=>vH.mm) fun _=>Kz xJ fun _=>mbn (DK hS s2) fun _=>Ih) fun _=>PZ
theorem aaQ (hS:Zo st){x:jB}{a c d:Nat}(h1:∀ y ∈ x.a,XO y)(s1:Ids x.e (a+1) c)(s2:Ids x.i c d):Qt (Kr vis vars st fu x) (Mk1 a d):=
 nb1 yj fun _=>nb1 yj fun _=>nb1 yj fun _=>nb1 Ih fun _=>nb1 xJ fun _=>k1 (rA s1.le s2.le) fun _=>Kz (EH fun y hy=>IY (h1 y hy)) fun _=>Kz Bj fun _=>Kz Bj fun _=>Kz Gb fun _=>
 Kz xJ fun _=>mbn ((DK hS s1).mono fun _ _=>Mm.wid s2.le) fun _=>nb Ih fun _=>xJ
theorem acO (hS:Zo st){x:jB}{a c d:Nat}(s1:Ids x.e a c)(s2:Ids x.i c d):Qt (Q7 vis vars st x) (Mm a d):=
 Kz yj fun _=>Kz yj fun _=>Kz Xr fun _=>mbm s1.le s2.le (DK hS s1) fun _=>Kz aax fun _=>Kz Ih fun _ s u s' e=>by obtain ⟨t,_,e⟩:=bs e;exact (mbn (uI (fun _=>Kz xJ fun _=>Kz Ji fun _=>mbn (DK hS s2) fun _=>Ih) fun _=>CK.mono fun _ _=>vH.mm) fun _=>PZ) _ _ _ e
theorem QK:∀ fu,Zo (wI vis vars fu)
 | 0=>fun x a c d _ _ _ _ _ s u s' e=>by cases e
 | fu+1=>fun x a c d h h1 h2 s1 s2 s u s' e=>by
  have hS:Zo (wI vis vars fu):=QK fu;have hn:∀ {α:Type}{f:LM α},Qt f vH->Qt f (Mm (a+1) d):=fun h=>h.mono fun _ _=>vH.mm
  have key:Qt (if x.c=5 then Kr vis vars (wI vis vars fu) fu x
   else Iq |>.bind fun _=>
    if x.c=1 then BG vars x
    else if x.c=2 then xg x.d fun t=>xg x.a fun e=>Dp vis vars fu t e
    else if x.c=3 then DR vis vars fu x |>.bind fun _=>match x.d with
     | []=>nT ()
     | t :: _=>Ar (AX t) 0
    else if x.c=4 then Dn vis vars (wI vis vars fu) fu x
    else if x.c=6 then (if x.k≠be then DR vis vars fu x |>.bind fun _=>Du 0 else xg x.a (lvalue vis vars fu) |>.bind Du)
    else if x.c=7 then xg x.a (lvalue vis vars fu) |>.bind zf
    else if x.c=8 then Q7 vis vars (wI vis vars fu) x
    else if x.c=9 then xg x.a (lvalue vis vars fu) |>.bind fun v=>lop [⟨18,0,v,0,0,0,0,0,wK⟩]
    else if x.c=10 then wm 0 |>.bind Du
    else nT ()) (Mk1 a d):=by
   refine uI (fun _=>aaQ hS h1 s1 s2) fun _=>k1 (rA s1.le s2.le) fun _=>?_;have hv:Qt (xg x.a (lvalue vis vars fu)) vH:=EH fun y hy=>IY (h1 y hy);refine uI (fun _=>hn SA) fun _=>uI (fun _=>hn (EH fun t ht=>EH fun y hy=>Vj (h2 t ht) (h1 y hy))) fun _=>uI (fun _=>hn (nb (Uf h1) fun _=>?_)) fun _=>uI (fun _=>Ug hS h1 s1 s2) fun _=>
    uI (fun _=>hn (uI (fun _=>nb (Uf h1) fun _=>QT) fun _=>nb hv fun _=>QT)) fun _=>uI (fun _=>hn (nb hv fun _=>RF)) fun _=>uI (fun _=>acO hS s1 s2) fun _=>
    uI (fun _=>hn (nb hv fun _=>SF (by simp))) fun _=>uI (fun _=>hn (nb BZ fun _=>QT)) fun _=>hn CK
   cases x.d with
   | nil=>exact CK
   | cons t l=>exact Ji
  exact key { s with stmt:=x.n } u s' e h
end
def Oq (s s':Lw):Prop:=s'.opn=s.opn
theorem adt {l:List HY}:Qt (lop l) Oq:=fun s a s' e=>by
 unfold lop at e;split at e
 · cases e
 split at e
 · cases e
 obtain ⟨os,hos,e⟩:=bs e;cases e;rfl
theorem YZ {p:Pc}{v:Int}:Qt (Ar p v) Oq:=fun s a s' e=>by obtain ⟨l,_,e⟩:=bs e;have h:Oq { s with vals:=some (BN l p v) } s':=adt _ _ _ e;exact h
theorem Sb:∀ {l:List Pc}{n:Int}{i:Nat},Qt (D6 l n i) Oq
 | [],_,_=>fun s a s' e=>by cases e;rfl
 | p :: l,n,i=>YZ.bind (fun _=>Sb) fun s s1 s2 h k=>k.trans h
theorem Xw {i:Nat}{n:Int}:Qt (oz i n) fun _ s'=>s'.opn=true:=fun s a s' e=>by
 obtain ⟨t,_,e⟩:=bs e;dsimp only at e;split at e
 · cases e
 split at e
 · cases e
 rename_i b hb;exact (Sb.bind (P':=Oq) (P'':=fun s s'=>s'.opn=s.opn) (fun _ s a s' e=>by cases e;rfl) fun s s1 s2 h k=>k.trans h) _ _ _ e
section
variable {vis:Int->Int->Option (List Int)}{vars:List (List iA)}{fu:Nat}
theorem QY:∀ {l:List iA}{i:Nat},Qt (Dt l i) vH
 | [],_=>CK
 | v :: l,i=>fun s a s' e=>by
  rw [Dt] at e;dsimp only at e;split at e
  · cases e
  split at e
  · obtain ⟨o,_,e⟩:=bs e;have h:vH _ s':=QY _ _ _ e;exact h
  · exact QY _ _ _ e
def Mf (a b:Nat)(bl:List nK):Prop:=(∀ i:Int,Ay bl i<=if (a:Int)<=i/\i < b then 1 else 0)/\1<=Ay bl a
theorem abh {src:jW}{s s':Lw}{fn:kV}{a b:Nat}(hf:ix? src.a.b s.f=some fn)(h:Ids fn.e a b)(hs:s.blocks=[])(e:OD vis src fu s=some (.ok () s')):Mf a b s'.blocks:=by
 unfold OD at e;rw [hf] at e;dsimp only at e;split at e
 · cases e
 rename_i vs _;have key:Qt (Dt vs 0 |>.bind fun _=>xg fn.e fun x=>rC vis src.c x.n |>.bind fun e=>zL e |>.bind fun _=>oz e 0 |>.bind fun _=>sI (wI vis src.c fu) fn.e) fun s s'=>Mm a b s s'/\Ay s.blocks a+1<=Ay s'.blocks a:=by
   refine QY.bind (P':=fun s s'=>Mm a b s s'/\Ay s.blocks a+1<=Ay s'.blocks a) (fun _=>EH fun x hx=>?_) fun s s1 s2 h k=>⟨k.1.nl h,by rw [<-h.2 a];exact k.2⟩;refine yj.bind (P':=fun s s'=>Mm a b s s'/\Ay s.blocks a+1<=Ay s'.blocks a) (fun _=>?_) fun s s1 s2 h k=>⟨k.1.nl h,by rw [<-h.2 a];exact k.2⟩;refine OO.bind (P':=fun s s'=>Mm a b s s'/\Ay s.blocks a+1<=Ay s'.blocks a) (fun _=>?_) fun s s1 s2 h k=>⟨k.1.nl h,by rw [<-h.2 a];exact k.2⟩;have hb:∀ {i:Nat}{n:Int},Qt (oz i n) fun s s'=>vH s s'/\s'.opn=true:=fun s u s' e=>⟨xJ _ _ _ e,Xw _ _ _ e⟩;refine hb.bind (P':=fun s s'=>Mm a b s s'/\(s.opn=true->Ay s.blocks a+1<=Ay s'.blocks a)) (fun _=>?_) fun s s1 s2 h k=>⟨k.1.nl h.1,by rw [<-h.1.2 a];exact k.2 h.2⟩;intro s u s' e;refine ⟨DK (QK fu) h _ _ _ e,?_⟩;revert h e hx;generalize fn.e=l;intro h hx e;cases l with
   | nil=>cases hx
   | cons x l=>exact WT (QK fu) h _ _ _ e
 have h2:=key _ _ _ e;have h0:∀ i,Ay s.blocks i=0:=fun i=>by rw [hs];rfl
 refine ⟨fun i=>?_,?_⟩
 · have:=(h2.1 i).2;dsimp only at this;rw [h0,Dm] at this;exact this
 · have:=h2.2;dsimp only at this;omega
def I4:List qE→Int→Nat
 | [],_=>0
 | c :: l,i=>Ay c.b i+I4 l i
theorem Sn {l':List qE}{i:Int}:∀ {l:List qE},I4 (l ++ l') i=I4 l i+I4 l' i
 | []=>by simp [I4]
 | b :: l=>by show Ay b.b i+I4 (l ++ l') i=_;rw [Sn,I4,Nat.add_assoc]
theorem V9 {src:jW}{B:Nat→Nat}(hB:∀ (j:Nat) (fn:kV),src.a.b[j]?=some fn→Ids fn.e (B j) (B (j+1))){res:List qE}:∀ (n f:Nat)(acc:List qE),f+n=src.a.b.length→Ej vis src fu n f acc=some (res,0)→
  B f<=B (f+n)/\(∀ i:Int,I4 res i<=I4 acc i+if (B f:Int)<=i/\i < B (f+n) then 1 else 0)/\(∀ i,I4 acc i<=I4 res i)/\∀ j,f<=j->j < f+n->1<=I4 res (B j)
 | 0,f,acc,_,e=>by rw [Ej] at e;cases e;exact ⟨nJ _,fun i=>Nat.le_add_right _ _,fun i=>nJ _,fun j h1 h2=>by omega⟩
 | n+1,f,acc,hn,e=>by
  rw [Ej] at e;obtain ⟨lo,hlo,e⟩:=bs e;cases lo with
  | lim=>cases e
  | rt=>cases e
  | ok u s=>
  obtain ⟨acc2,hacc,e⟩:=bs e;rw [QL hacc] at e;obtain ⟨fn,hfn⟩:∃ fn,src.a.b[f]?=some fn:=⟨_,List.getElem?_eq_getElem (by omega)⟩;have hI:=hB f fn hfn;have hM:=abh (s:=PV f) (by unfold ix?;rw [mO (by show ¬ ((f:Int) < 0);omega)];exact hfn) hI rfl hlo;obtain ⟨h1,h2,h3,h4⟩:=V9 hB n (f+1) (acc ++ [s.code]) (by omega) e;have hle:=hI.le;rw [show f+(n+1)=f+1+n by omega];have hc:∀ i,I4 (acc ++ [s.code]) i=I4 acc i+Ay s.blocks i:=fun i=>by rw [Sn];rfl
  refine ⟨by omega,fun i=>?_,fun i=>?_,fun j hj1 hj2=>?_⟩
  · have a1:=h2 i;have a2:=hM.1 i;rw [hc] at a1;split at a1 <;> split at a2 <;> split <;> omega
  · have:=h3 i;rw [hc] at this;omega
  · by_cases c:j=f
    · subst c;have a1:=h3 (B j);have a2:=hM.2;rw [hc] at a1;omega
    · exact h4 j (by omega) (by omega)
end
end Go.Proofs.YtdkneekpdecjbaaGreat
