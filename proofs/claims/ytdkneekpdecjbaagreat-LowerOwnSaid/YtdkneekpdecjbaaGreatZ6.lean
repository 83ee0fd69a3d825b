/- What the lowering does, in plain words: the mirror of Lower and all below it. -/
import Derived.Test.YtdkneekpdecjbaaGreatZ4
import Derived.Test.YtdkneekpdecjbaaGreatZ5
set_option linter.unusedVariables false
namespace Go.Proofs.YtdkneekpdecjbaaGreat
open Go.RowKit Go.Fw Go.Proofs.Tryz
abbrev Pc:=Int × Int
structure Lw where
 f:Int
 b:Int
 blocks:List nk
 ctxs:List BR
 objs:List Cr
 omap:List (Int × Int)
 ops:Int
 blk:Int
 opn:Bool
 next:Int
 vals:Option (List (Pc × Int))
 pend:List Int
 hnd:List Nat
 stmt:Int
 labs:List (Int × List Pc)
inductive Lo (α:Type) where
 | ok (a:α) (s:Lw)
 | lim
 | rt
abbrev LM (α:Type):=Lw->Option (Lo α)
def Lo.then {α β:Type}:Lo α→(α→LM β)→Option (Lo β)
 | .ok a s,k=>k a s
 | .lim,_=>some .lim
 | .rt,_=>some .rt
def LM.bind {α β:Type}(m:LM α)(k:α->LM β):LM β:=fun s=>(m s).bind fun p=>p.then k
def nX {α:Type}(a:α):LM α:=fun s=>some (.ok a s)
def lrt {α:Type}:LM α:=fun _=>some .rt
def ix? {α:Type}(l:List α)(i:Int):Option α:=if i < 0 then none else l[i.toNat]?
abbrev R4:uD:=⟨-1,[]⟩
abbrev wN:abk:=⟨0,0,0⟩
def DW (v:Int):LM Unit:=fun s=>(app s.pend [v]).bind fun p=>some (.ok () { s with pend:=p })
def E9:LM Int:=fun s=>match s.pend.getLast? with
 | none=>some .rt
 | some v=>some (.ok v { s with pend:=s.pend.dropLast })
def lop (l:List pR):LM Unit:=fun s=>
 if 6000 < wr (s.ops+l.length) then some .lim
 else match ix? s.blocks s.blk with
  | none=>some .rt
  | some b=>(app b.c l).bind fun os=>some (.ok () { s with ops:=wr (s.ops+l.length),blocks:=s.blocks.set s.blk.toNat { b with c:=os } })
def Jw (o:pR):LM Int:=fun s=>(lop [{ o with e:=s.next }] |>.bind fun _=>nX s.next) { s with next:=wr (s.next+1) }
def vI (n:Int):LM Int:=Jw ⟨1,0,0,0,n,0,0,0,wN⟩
def Bb (p:Pc)(v:Int):LM Unit:=fun s=>s.vals.bind fun l=>lop [⟨21,0,0,0,0,0,p.1,p.2,⟨2,v,0⟩⟩] { s with vals:=some (Ay l p v) }
def GZ:LM Unit:=fun s=>lop [⟨19,0,0,0,s.stmt,0,0,0,wN⟩] s
def TV:LM Unit:=fun s=>lop [⟨20,0,0,0,s.stmt,0,0,0,wN⟩] s
def LZ (vs:Option (List iA)):List Int→List Pc→Option (Option (List Pc))
 | [],acc=>some (some acc)
 | v :: l,acc=>match vs.bind fun vs=>ix? vs v with
  | none=>some none
  | some x=>if x.b=3 then LZ vs l acc else (app acc ((List.range x.a.toNat).map fun i=>(v,((i:Nat):Int)))).bind fun acc=>LZ vs l acc
def rU (vis:Int->Int->Option (List Int))(vars:List (List iA))(stmt:Int):LM Nat:=fun s=>
 (vis s.f stmt).bind fun l=>(LZ (ix? vars s.f) l []).bind fun
  | none=>some .rt
  | some ps=>some (.ok s.labs.length { s with labs:=s.labs ++ [(-1,ps)] })
abbrev OD:nk:=⟨0,[],⟨0,0,0,[],⟨⟨0,[]⟩,⟨0,[]⟩⟩⟩⟩
def wo (i:Nat):LM Unit:=fun s=>s.labs[i]?.bind fun t=>if 0<=t.1 then some (.ok () s) else if 400<=s.blocks.length then some .lim else some (.ok () { s with labs:=s.labs.set i (s.blocks.length,t.2),blocks:=s.blocks ++ [OD] })
def xR (i:Nat)(first:List Int):LM uD:=wo i |>.bind fun _ s=>s.labs[i]?.bind fun t=>s.vals.bind fun l=>(app first (t.2.map fun p=>(q9 l p).getD 0)).bind fun vs=>some (.ok ⟨t.1,vs⟩ s)
def Et:List Pc→Int→Nat→LM Unit
 | [],_,_=>nX ()
 | p :: l,n,i=>Bb p (wr (n+i)) |>.bind fun _=>Et l n (i+1)
def oD (i:Nat)(first:Int):LM Unit:=fun s=>s.labs[i]?.bind fun t=>
 let n:=wr (wr (first+t.2.length)+s.pend.length)
 if 999 < n then some .lim
 else match ix? s.blocks t.1 with
  | none=>some .rt
  | some b=>(Et t.2 first 0 |>.bind fun _ s=>some (.ok () { s with pend:=(List.range s.pend.length).map fun k=>wr (wr (first+t.2.length)+(k:Nat)) }))
   { s with blk:=t.1,opn:=true,next:=n,blocks:=s.blocks.set t.1.toNat { b with a:=n },vals:=some [] }
def lend (t:zl):LM Unit:=fun s=>match ix? s.blocks s.blk with
 | none=>some .rt
 | some b=>some (.ok () { s with blocks:=s.blocks.set s.blk.toNat { b with b:=t },opn:=false })
def xL (i:Nat):LM Unit:=fun s=>if s.opn=true then (xR i [] |>.bind fun e=>lend ⟨1,0,0,[],⟨e,R4⟩⟩) s else some (.ok () s)
def Cx (v:Int)(yes no:uD):LM Unit:=lend ⟨2,v,0,[],⟨yes,no⟩⟩
def DZ (v:Int):LM Unit:=lend ⟨4,v,0,[],⟨R4,R4⟩⟩
def zn (v:Int):LM Unit:=fun s=>match s.hnd.getLast? with
 | some h=>(xR h [v] |>.bind fun e=>lend ⟨1,0,0,[],⟨e,R4⟩⟩) s
 | none=>lend ⟨5,v,0,[],⟨R4,R4⟩⟩ s
def Bh (e:jB):Pc:=if e.e=2 then (e.f,e.d) else (e.f,0)
def Ce (kind:Int):LM Unit:=E9 |>.bind fun b=>E9 |>.bind fun a=>Jw ⟨kind,0,a,b,0,0,0,0,wN⟩ |>.bind DW
def JE (i:Nat):LM uD:=xR i [] |>.bind fun e s=>(app e.a s.pend).bind fun vs=>some (.ok ⟨e.b,vs⟩ s)
def GI (i:Nat):LM Unit:=oD i 0 |>.bind fun _=>TV
def FQ (i:Nat)(n:Int):LM Unit:=fun s=>(oD i 0 |>.bind fun _=>TV |>.bind fun _=>vI n |>.bind fun c=>zn c |>.bind fun _ s'=>some (.ok () { s' with pend:=s.pend })) { s with pend:=[] }
def I5:LM Int:=fun s=>match s.pend.getLast? with
 | none=>some .rt
 | some v=>some (.ok v s)
def xV {α β:Type}(l:List α)(k:α->LM β):LM β:=match l with
 | []=>lrt
 | x :: _=>k x
def YL {α β:Type}(l:List α)(k:α->LM β):LM β:=match l with
 | _ :: x :: _=>k x
 | _=>lrt
def O1 (v:Int){β:Type}(k:Int->LM β):LM β:=fun s=>k ((q9 s.omap v).getD 0) s
section
variable (vis:Int->Int->Option (List Int))(vars:List (List iA))
def QE {β:Type}(k:Nat->LM β):LM β:=fun s=>(rU vis vars s.stmt |>.bind k) s
def Nh:LM Unit:=I5 |>.bind fun d=>QE vis vars fun next=>QE vis vars fun fault=>JE next |>.bind fun yes=>xR fault [] |>.bind fun no=>Cx d yes no |>.bind fun _=>FQ fault 1 |>.bind fun _=>GI next
def Qv {β:Type}(v:Int)(k:iA->LM β):LM β:=fun s=>match (ix? vars s.f).bind fun l=>ix? l v with
 | none=>some .rt
 | some x=>k x s
def IG (ex:jB->LM Unit)(e:jB):LM Unit:=xV e.a ex |>.bind fun _=>I5 |>.bind fun i=>vI 0 |>.bind fun z=>Jw ⟨11,0,i,z,0,0,0,0,wN⟩ |>.bind fun below=>Qv vars e.f fun x=>vI x.a |>.bind fun n=>Jw ⟨12,0,n,i,0,0,0,0,wN⟩ |>.bind fun above=>Jw ⟨9,0,below,above,0,0,0,0,wN⟩ |>.bind fun out=>QE vis vars fun next=>QE vis vars fun fault=>xR fault [] |>.bind fun yes=>JE next |>.bind fun no=>Cx out yes no |>.bind fun _=>FQ fault 2 |>.bind fun _=>GI next
def lexpr:Nat→jB→LM Unit
 | 0,_=>fun _=>none
 | fu+1,e=>
  if e.e=0 then vI e.d |>.bind DW
  else if e.e=1\/e.e=2 then fun s=>s.vals.bind fun l=>DW ((q9 l (Bh e)).getD 0) s
  else if e.e=3 then IG vis vars (lexpr fu) e |>.bind fun _=>E9 |>.bind fun a=>O1 e.f fun n=>Jw ⟨15,0,a,0,n,0,0,0,wN⟩ |>.bind DW
  else if e.e=4 then vI 0 |>.bind DW |>.bind fun _=>xV e.a (lexpr fu) |>.bind fun _=>Ce 4
  else if e.e=5 then xV e.a (lexpr fu) |>.bind fun _=>vI 0 |>.bind DW |>.bind fun _=>Ce 13
  else xV e.a (lexpr fu) |>.bind fun _=>YL e.a (lexpr fu) |>.bind fun _=>(if e.e=9\/e.e=10 then Nh vis vars else nX ()) |>.bind fun _=>Ce (wr (wr (e.e - 6)+3))
def Gp (fu:Nat):List jB→LM Unit
 | []=>nX ()
 | x :: l=>lexpr vis vars fu x |>.bind fun _=>Gp fu l
def lvalue (fu:Nat)(e:jB):LM Int:=lexpr vis vars fu e |>.bind fun _=>E9
def F5 (v:Int):Nat→Int→LM Unit
 | 0,_=>nX ()
 | n+1,i=>vI 0 |>.bind fun c=>Bb (v,i) c |>.bind fun _=>F5 v n (i+1)
def BF (x:jA):LM Unit:=Qv vars x.f fun i=>if i.b=3 then O1 x.f fun n=>lop [⟨17,0,0,0,n,0,0,0,wN⟩] else if 1000000 < i.a then fun _=>none else F5 x.f i.a.toNat 0
def DJ (fu:Nat)(t e:jB):LM Unit:=if t.e=3 then IG vis vars (lexpr vis vars fu) t |>.bind fun _=>lexpr vis vars fu e |>.bind fun _=>E9 |>.bind fun v=>E9 |>.bind fun a=>O1 t.f fun n=>lop [⟨16,0,a,v,n,0,0,0,wN⟩] else lvalue vis vars fu e |>.bind fun v=>(if e.e=1\/e.e=2 then Jw ⟨2,0,v,0,0,0,0,0,wN⟩ else nX v) |>.bind (Bb (Bh t))
def Er (k:uD->LM Unit):LM Unit:=fun s=>match s.hnd.getLast? with
 | some h=>(xR h [] |>.bind k) s
 | none=>k R4 s
def D5 (fu:Nat)(x:jA):LM Unit:=Gp vis vars fu x.a |>.bind fun _ s=>(rU vis vars x.n |>.bind fun next=>xR next [] |>.bind fun e=>Er fun h=>lend ⟨3,0,x.i,s.pend,⟨e,h⟩⟩ |>.bind fun _=>oD next 1 |>.bind fun _=>TV) { s with pend:=[] }
def tL (st:jA→LM Unit):List jA→LM Unit
 | []=>nX ()
 | x :: l=>fun s=>if s.opn=true then (st x |>.bind fun _=>tL st l) s else some (.ok () s)
def xq (i:Nat):LM Unit:=fun s=>s.labs[i]?.bind fun t=>if 0<=t.1 then oD i 0 s else some (.ok () s)
def Cw (st:jA->LM Unit)(fu:Nat)(x:jA):LM Unit:=xV x.a (lvalue vis vars fu) |>.bind fun c=>rU vis vars x.n |>.bind fun body=>rU vis vars x.n |>.bind fun behind=>(if x.h.length=0 then nX behind else rU vis vars x.n) |>.bind fun other=>xR body [] |>.bind fun yes=>xR other [] |>.bind fun no=>Cx c yes no |>.bind fun _=>oD body 0 |>.bind fun _=>tL st x.d |>.bind fun _=>xL behind |>.bind fun _=>(if other=behind then nX () else oD other 0 |>.bind fun _=>tL st x.h |>.bind fun _=>xL behind) |>.bind fun _=>xq behind
def Jh (st:jA->LM Unit)(fu:Nat)(x:jA):LM Unit:=rU vis vars x.n |>.bind fun head=>rU vis vars x.n |>.bind fun body=>rU vis vars x.n |>.bind fun behind=>xL head |>.bind fun _=>oD head 0 |>.bind fun _=>GZ |>.bind fun _=>xV x.a (lvalue vis vars fu) |>.bind fun c=>xR body [] |>.bind fun yes=>xR behind [] |>.bind fun no=>Cx c yes no |>.bind fun _=>oD body 0 |>.bind fun _=>tL st x.d |>.bind fun _=>xL head |>.bind fun _=>oD behind 0
def Iz (h:Nat):LM Unit:=fun s=>if 1000000 < s.hnd.length then none else some (.ok () { s with hnd:=s.hnd ++ [h] })
def I8:LM Unit:=fun s=>if s.hnd=[] then none else some (.ok () { s with hnd:=s.hnd.dropLast })
def PE (st:jA->LM Unit)(x:jA):LM Unit:=rU vis vars x.n |>.bind fun h=>rU vis vars x.n |>.bind fun behind=>Iz h |>.bind fun _=>tL st x.d |>.bind fun _=>I8 |>.bind fun _=>xL behind |>.bind fun _ s=>s.labs[h]?.bind fun t=>((if 0<=t.1 then oD h 1 |>.bind fun _=>Bb (x.f,0) 0 |>.bind fun _=>tL st x.h |>.bind fun _=>xL behind else nX ()) |>.bind fun _=>xq behind) s
def vg:Nat→jA→LM Unit
 | 0,_=>fun _=>none
 | fu+1,x=>fun s=>
  (if x.b=5 then Jh vis vars (vg fu) fu x
  else GZ |>.bind fun _=>
   if x.b=1 then BF vars x
   else if x.b=2 then xV x.e fun t=>xV x.a fun e=>DJ vis vars fu t e
   else if x.b=3 then D5 vis vars fu x |>.bind fun _=>match x.e with
    | []=>nX ()
    | t :: _=>Bb (Bh t) 0
   else if x.b=4 then Cw vis vars (vg fu) fu x
   else if x.b=6 then (if x.k≠be then D5 vis vars fu x |>.bind fun _=>DZ 0 else xV x.a (lvalue vis vars fu) |>.bind DZ)
   else if x.b=7 then xV x.a (lvalue vis vars fu) |>.bind zn
   else if x.b=8 then PE vis vars (vg fu) x
   else if x.b=9 then xV x.a (lvalue vis vars fu) |>.bind fun v=>lop [⟨18,0,v,0,0,0,0,0,wN⟩]
   else if x.b=10 then vI 0 |>.bind DZ
   else nX ()) { s with stmt:=x.n }
def DU:List iA→Nat→LM Unit
 | [],_=>nX ()
 | v :: l,i=>fun s=>
  if 8 < v.a then some .lim
  else if v.b=3 then (app s.objs [(⟨0,i,v.a⟩:Cr)]).bind fun o=>DU l (i+1) { s with omap:=Ay s.omap i s.objs.length,objs:=o }
  else DU l (i+1) s
end
def Rc (f:Int):Lw:=⟨f,0,[],[],[],[],0,0,false,0,none,[],[],0,[]⟩
def PZ (vis:Int->Int->Option (List Int))(src:jY)(fu:Nat):LM Unit:=fun s=>match ix? src.a.b s.f with
 | none=>some .rt
 | some fn=>match ix? src.c s.f with
  | none=>some .rt
  | some vs=>(DU vs 0 |>.bind fun _=>xV fn.d fun x=>rU vis src.c x.n |>.bind fun e=>wo e |>.bind fun _=>oD e 0 |>.bind fun _=>tL (vg vis src.c fu) fn.d) { s with b:=fn.a.length,ctxs:=[⟨-1,-1,s.f⟩] }
def Lw.code (s:Lw):qF:=⟨s.b,s.blocks,s.ctxs,s.objs⟩
def Fq (vis:Int→Int→Option (List Int))(src:jY)(fu:Nat):Nat→Nat→List qF→Option (List qF × Int)
 | 0,_,acc=>some (acc,0)
 | n+1,f,acc=>(PZ vis src fu (Rc f)).bind fun
  | .ok _ s=>(app acc [s.code]).bind fun acc=>Fq vis src fu n (f+1) acc
  | .lim=>some ([],5)
  | .rt=>some ([],4)
def Wi (fu:Nat)(vis:jY->Int->Int->Option (List Int))(src:jY):Option (List qF × Int):=Fq (vis src) src fu src.a.b.length 0 []
set_option maxRecDepth 4000
def Zv (l:List pR)(i:Int):Nat:=l.countP fun o=>decide (o.b=19/\o.N=i)
def OJ:List nk→Int→Nat
 | [],_=>0
 | b :: l,i=>Zv b.c i+OJ l i
theorem XT {l l':List pR}{i:Int}:Zv (l ++ l') i=Zv l i+Zv l' i:=List.countP_append
theorem SV {b b':nk}{i:Int}:∀ {l:List nk}{k:Nat},l[k]?=some b→OJ (l.set k b') i+Zv b.c i=OJ l i+Zv b'.c i
 | c :: l,0,h=>by simp only [Ec,Dm] at h;subst h;simp only [List.set_cons_zero,OJ];omega
 | c :: l,k+1,h=>by have:=SV (b':=b') (i:=i) (l:=l) (k:=k) (by simpa using h);simp only [List.set_cons_succ,OJ];omega
 | [],_,h=>by simp at h
theorem ix?_at {α:Type}{l:List α}{i:Int}{x:α}(h:ix? l i=some x):l[i.toNat]?=some x:=by
 unfold ix? at h;split at h
 · cases h
 · exact h
theorem Ip {α:Type}{a b c:List α}(h:app a b=some c):c=a ++ b:=by
 unfold app at h;split at h
 · exact (JY h).symm
 · cases h
def Qt {α:Type}(c:LM α)(P:Lw->Lw->Prop):Prop:=∀ s a s',c s=some (.ok a s')->P s s'
section
variable {α β:Type}{c:LM α}{f:α->LM β}{P P' P'':Lw->Lw->Prop}
theorem Qt.bind (h:Qt c P)(k:∀ a,Qt (f a) P')(t:∀ s s1 s2,P s s1->P' s1 s2->P'' s s2):Qt (c.bind f) P'':=by
 intro s a s' e;unfold LM.bind at e;cases hc:c s with
 | none=>rw [hc] at e;cases e
 | some q=>
  rw [hc] at e;cases q with
  | ok a1 s1=>exact t _ _ _ (h _ _ _ hc) (k a1 _ _ _ e)
  | lim=>cases e
  | rt=>cases e
theorem Qt.mono (h:Qt c P)(t:∀ s s',P s s'->P' s s'):Qt c P':=fun s a s' e=>t _ _ (h _ _ _ e)
end
def ZK (s s':Lw):Prop:=s'.stmt=s.stmt/\∀ i,OJ s'.blocks i=OJ s.blocks i
theorem ZK.trans {s s1 s2:Lw}(h:ZK s s1)(k:ZK s1 s2):ZK s s2:=⟨k.1.trans h.1,fun i=>(k.2 i).trans (h.2 i)⟩
theorem ZK.r {s:Lw}:ZK s s:=⟨rfl,fun _=>rfl⟩
section
variable {α β:Type}{c:LM α}{f:α->LM β}
end
theorem aa3 {l:List pR}:Qt (lop l) fun s s'=>s'.stmt=s.stmt/\∀ i,OJ s'.blocks i=OJ s.blocks i+Zv l i:=by
 intro s a s' e;unfold lop at e;split at e
 · cases e
 split at e
 · cases e
 rename_i b hb;obtain ⟨os,hos,e⟩:=bs e;cases e;refine ⟨rfl,fun i=>?_⟩;have:=SV (b':={ b with c:=os }) (i:=i) (ix?_at hb);rw [Ip hos] at this;simp only [XT] at this;show OJ (s.blocks.set s.blk.toNat { b with c:=os }) i=_;rw [Ip hos];omega
theorem Z8:Qt GZ fun s s'=>s'.stmt=s.stmt/\∀ i,OJ s'.blocks i=OJ s.blocks i+if i=s.stmt then 1 else 0:=by
 intro s a s' e;obtain ⟨h1,h2⟩:=aa3 _ _ _ e;refine ⟨h1,fun i=>?_⟩;rw [h2 i]
 congr 1
 simp only [Zv,List.countP_cons,List.countP_nil,GA,true_and];by_cases h:i=s.stmt
 · simp [h]
 · simp [h,Ne.symm h]
section
variable {vis:Int->Int->Option (List Int)}{vars:List (List iA)}
inductive XO:jB→Prop
 | mk {e:jB} (h:0<=e.e/\e.e < 20) (k:∀ y ∈ e.a,XO y):XO e
theorem XO.op {e:jB}(h:XO e):0<=e.e/\e.e < 20:=by cases h;assumption
theorem XO.args {e:jB}(h:XO e):∀ y ∈ e.a,XO y:=by cases h;assumption
end
def VY (a:List (Pc × Int))(o:pR):List (Pc × Int):=if o.b=21 then Ay a (o.f,o.c) o.a.a else a
def FV (l:List pR):List (Pc × Int):=l.foldl VY []
theorem EZ {l:List pR}{o:pR}:FV (l ++ [o])=VY (FV l) o:=by simp [FV]
def Dj (l:List (Pc × Int)):Prop:=∀ p q v,q9 l p=some v->q9 l q=some v->p=q
def BO (ops:List pR):Prop:=∀ (k:Nat) o,ops[k]?=some o->(o.b=21->o.d=0/\o.a.b=2/\o.a.c=0)/\(o.b=19\/o.b=20->Dj (FV (ops.take k)))
theorem BO.nil:BO []:=fun k o h=>by simp at h
theorem BO.snoc {ops:List pR}{o:pR}(h:BO ops)(h1:o.b=21->o.d=0/\o.a.b=2/\o.a.c=0)(h2:o.b=19\/o.b=20->Dj (FV ops)):BO (ops ++ [o]):=by
 intro k x hx;by_cases c:k < ops.length
 · rw [Em c] at hx;rw [List.take_append_of_le_length (by omega)];exact h k x hx
 · have hk:k=ops.length:=by have:=(List.getElem?_eq_some_iff.1 hx).1;simp at this;omega
   subst hk;simp at hx;subst hx;rw [List.take_left];exact ⟨h1,h2⟩
structure Ow0 (s:Lw):Prop where
 o0:0<=s.ops
 o1:s.ops<=6000
 bo:∀ b ∈ s.blocks,BO b.c/\(b.c.length:Int)<=s.ops
 lb:∀ (i:Nat) t,s.labs[i]?=some t->t.1 < (s.blocks.length:Int)/\t.2.length<=1000000000
 inj:∀ (i j:Nat) t u,s.labs[i]?=some t->s.labs[j]?=some u->t.1=u.1->0<=t.1->i=j
 pd:s.pend.length<=1000000000
structure Ow (s:Lw):Prop extends Ow0 s where
 n0:0<=s.next
 n1:s.next<=1000+s.ops
 cu:∃ l b,s.vals=some l/\ix? s.blocks s.blk=some b/\FV b.c=l/\Dj l/\∀ p v,q9 l p=some v->v < s.next
def Fs (s:Lw)(j:Nat):Prop:=∀ t,s.labs[j]?=some t->0<=t.1->(s.vals≠none->t.1≠s.blk)/\∃ b,ix? s.blocks t.1=some b/\b.c=[]
structure WF (F:List Nat)(s:Lw):Prop where
 ow:Ow s
 nd:F.Nodup
 fs:∀ j ∈ F,j < s.labs.length/\Fs s j
theorem WF.tl {i:Nat}{F:List Nat}{s:Lw}(h:WF (i :: F) s):WF F s:=⟨h.ow,(List.nodup_cons.1 h.nd).2,fun j hj=>h.fs j (xQ _ hj)⟩
theorem WF.perm {F F':List Nat}{s:Lw}(h:WF F s)(p:F.Perm F'):WF F' s:=⟨h.ow,p.nodup_iff.1 h.nd,fun j hj=>h.fs j (p.mem_iff.2 hj)⟩
def Fv (s:Lw)(v:Int):Prop:=v < s.next/\∀ l,s.vals=some l->∀ q,q9 l q≠some v
def Lb (k:Int)(s:Lw):Prop:=k<=s.next/\∀ l,s.vals=some l->∀ q v,q9 l q=some v->k<=v
theorem Lb.fv {s:Lw}(h:Lb 1 s):Fv s 0:=⟨by have:=h.1;omega,fun l hl q hq=>by have:=h.2 l hl q 0 hq;omega⟩
def Ho {α:Type}(P:Lw->Prop)(c:LM α)(Q:α->Lw->Prop):Prop:=∀ s a s',c s=some (.ok a s')->P s->Q a s'
def Kp {α:Type}(c:LM α):Prop:=∀ F,Ho (WF F) c fun _=>WF F
section
variable {α β:Type}{c:LM α}{f:α->LM β}{P:Lw->Prop}{Q:α->Lw->Prop}{R:β->Lw->Prop}
theorem hb (h:Ho P c Q)(k:∀ a,Ho (Q a) (f a) R):Ho P (c.bind f) R:=by
 intro s a s' e hp;unfold LM.bind at e;cases hc:c s with
 | none=>rw [hc] at e;cases e
 | some q=>
  rw [hc] at e;cases q with
  | ok a1 s1=>exact k a1 _ _ _ e (h _ _ _ hc hp)
  | lim=>cases e
  | rt=>cases e
theorem Ho.mono {P':Lw->Prop}{Q':α->Lw->Prop}(h:Ho P c Q)(hp:∀ s,P' s->P s)(hq:∀ a s,Q a s->Q' a s):Ho P' c Q':=fun s a s' e hs=>hq _ _ (h _ _ _ e (hp _ hs))
theorem Ho.pre {P':Lw->Prop}(h:Ho P c Q)(hp:∀ s,P' s->P s):Ho P' c Q:=h.mono hp fun _ _=>id
theorem kb (h:Kp c)(k:∀ a,Kp (f a)):Kp (c.bind f):=fun F=>hb (h F) fun a=>k a F
theorem GQ {a:α}(h:∀ s,P s->Q a s):Ho P (nX a) Q:=fun s b s' e hp=>by cases e;exact h _ hp
theorem Mh {a:α}:Kp (nX a):=fun F=>GQ fun _=>id
theorem DX {l:List β}{k:β->LM α}(h:∀ x ∈ l,Ho P (k x) Q):Ho P (xV l k) Q:=by
 cases l with
 | nil=>exact fun s b s' e=>by cases e
 | cons x l=>exact h x (zH ..)
theorem adg {l:List β}{k:β->LM α}(h:∀ x ∈ l,Ho P (k x) Q):Ho P (YL l k) Q:=by
 cases l with
 | nil=>exact fun s b s' e=>by cases e
 | cons x l=>
  cases l with
  | nil=>exact fun s b s' e=>by cases e
  | cons y l=>exact h y (xQ _ (zH ..))
theorem vO {p:Prop}[Decidable p]{a b:LM α}(h:p->Ho P a Q)(k:¬ p->Ho P b Q):Ho P (if p then a else b) Q:=by
 split
 · exact h ‹_›
 · exact k ‹_›
theorem YX {vars:List (List iA)}{v:Int}{k:iA->LM α}(h:∀ x,Ho P (k x) Q):Ho P (Qv vars v k) Q:=fun s a s' e hp=>by
 unfold Qv at e;split at e
 · cases e
 · exact h _ _ _ _ e hp
theorem WW {v:Int}{k:Int->LM α}(h:∀ n,Ho P (k n) Q):Ho P (O1 v k) Q:=fun s a s' e=>h _ _ _ _ e
end
theorem WF.same {F:List Nat}{s s':Lw}(h:WF F s)(h1:s'.ops=s.ops)(h2:s'.blocks=s.blocks)(h3:s'.labs=s.labs)(h4:s'.vals=s.vals)(h5:s'.blk=s.blk)(h6:s'.next=s.next)(h7:s'.pend.length<=1000000000):WF F s':=
 ⟨⟨⟨by rw [h1];exact h.ow.o0,by rw [h1];exact h.ow.o1,by rw [h2,h1];exact h.ow.bo,by rw [h3,h2];exact h.ow.lb,by rw [h3];exact h.ow.inj,h7⟩,by rw [h6];exact h.ow.n0,by rw [h6,h1];exact h.ow.n1,by rw [h4,h2,h5,h6];exact h.ow.cu⟩,h.nd,fun j hj=>by unfold Fs;rw [h3,h4,h5,h2];exact h.fs j hj⟩
theorem I6 {n:Int}(h:0<=n)(h2:n<=1000000000000):wr n=n:=by unfold wr;rw [Uo (by omega) (by omega)]
theorem ix?_nat {α:Type}{l:List α}{i:Int}{x:α}(h:ix? l i=some x):0<=i/\i.toNat < l.length/\l[i.toNat]?=some x:=by
 unfold ix? at h;split at h
 · cases h
 · exact ⟨by omega,(List.getElem?_eq_some_iff.1 h).1,h⟩
theorem ix?_set_ne {α:Type}{l:List α}{i j:Int}{x y:α}(h:ix? l i=some x)(hij:i≠j)(hj:0<=j):ix? (l.set j.toNat y) i=some x:=by obtain ⟨h0,h1,h2⟩:=ix?_nat h;unfold ix?;rw [lW (by omega),Cz (by omega)];exact h2
theorem ix?_set_eq {α:Type}{l:List α}{i:Int}{x y:α}(h:ix? l i=some x):ix? (l.set i.toNat y) i=some y:=by obtain ⟨h0,h1,h2⟩:=ix?_nat h;unfold ix?;rw [lW (by omega),Dw h1]
theorem WF.put {F:List Nat}{s s':Lw}(h:WF F s){b:nk}(hb:ix? s.blocks s.blk=some b){os:List pR}{l:List (Pc × Int)}(hB:BO os)(hl:FV os=l)(hD:Dj l)(hv:∀ p v,q9 l p=some v->v < s'.next)(h2:s'.blocks=s.blocks.set s.blk.toNat { b with c:=os })(h4:s'.vals=some l)(hn:0<=s'.next/\s'.next<=1000+s'.ops)(ho:s.ops<=s'.ops/\s'.ops<=6000)(hL:(os.length:Int)<=s'.ops)(h3:s'.labs=s.labs)(h5:s'.blk=s.blk)(h7:s'.pend=s.pend):WF F s':=by
 obtain ⟨c0,c1,c2⟩:=ix?_nat hb;refine ⟨⟨⟨Int.le_trans h.ow.o0 ho.1,ho.2,fun x hx=>?_,fun i t ht=>?_,by rw [h3];exact h.ow.inj,by rw [h7];exact h.ow.pd⟩,hn.1,hn.2,l,{ b with c:=os },h4,?_,hl,hD,hv⟩,h.nd,fun j hj=>⟨by rw [h3];exact (h.fs j hj).1,fun t ht h0=>?_⟩⟩
 · rw [h2] at hx;rcases GX hx with hx | rfl
   · exact ⟨(h.ow.bo x hx).1,Int.le_trans (h.ow.bo x hx).2 ho.1⟩
   · exact ⟨hB,hL⟩
 · rw [h3] at ht;rw [h2,yK];exact h.ow.lb i t ht
 · rw [h2,h5];exact ix?_set_eq hb
 · rw [h3] at ht;obtain ⟨k1,y,hy,k3⟩:=(h.fs j hj).2 t ht h0;obtain ⟨_,_,hvs,_⟩:=h.ow.cu;have hne:=k1 (by rw [hvs];simp);rw [h5,h2];exact ⟨fun _=>hne,y,ix?_set_ne hy hne c0,k3⟩
theorem RY {s s':Lw}{o:pR}{a:Unit}(e:lop [o] s=some (.ok a s'))(h0:0<=s.ops)(h1:s.ops<=6000):s.ops+1<=6000/\∃ b,ix? s.blocks s.blk=some b/\s'={ s with ops:=s.ops+1,blocks:=s.blocks.set s.blk.toNat { b with c:=b.c ++ [o] } }:=by
 unfold lop at e;have hw:wr (s.ops+([o]:List pR).length)=s.ops+1:=I6 (by simp;omega) (by simp;omega);rw [hw] at e;split at e
 · cases e
 split at e
 · cases e
 rename_i b hb;obtain ⟨os,hos,e⟩:=bs e;cases e;rw [Ip hos];exact ⟨by omega,b,hb,rfl⟩
theorem Xl {F:List Nat}{s s':Lw}{o:pR}{n:Int}{a:Unit}(ho:o.b≠21)(h:WF F s)(e:lop [o] { s with next:=n }=some (.ok a s'))(hn:s.next<=n/\n<=s.next+1):WF F s'/\s'.vals=s.vals/\s'.next=n/\s'.pend=s.pend:=by
 obtain ⟨h1,b,hb,rfl⟩:=RY e h.ow.o0 h.ow.o1;obtain ⟨l,b',c1,c2,c3,c4,c5⟩:=h.ow.cu;obtain rfl:b'=b:=by rw [c2] at hb;exact JY hb
 have hm:b' ∈ s.blocks:=xu (ix?_nat c2).2.2;have:=h.ow.o0;have:=h.ow.n0;have:=h.ow.n1;have hl:FV (b'.c ++ [o])=l:=by rw [EZ,VY,lW ho,c3]
 refine ⟨h.put c2 (l:=l) ((h.ow.bo b' hm).1.snoc (fun c=>absurd c ho) fun _=>by rw [c3];exact c4) hl c4 (fun p v hp=>?_) rfl c1 ⟨?_,?_⟩ ⟨?_,h1⟩ (by have:=(h.ow.bo b' hm).2;simp;omega) rfl rfl rfl,rfl,rfl,rfl⟩
 · have:=c5 p v hp;dsimp only;omega
 · dsimp only;omega
 · dsimp only;omega
 · dsimp only;omega
theorem VB {o:pR}(ho:o.b≠21):Kp (lop [o]):=fun F s a s' e h=>(Xl ho h (n:=s.next) e ⟨vG _,by omega⟩).1
theorem O3 {o:pR}(ho:o.b≠21){F:List Nat}:Ho (WF F) (Jw o) fun v s=>WF F s/\Fv s v:=fun s v s' e h=>by
 have n0:=h.ow.n0;have n1:=h.ow.n1;have o1:=h.ow.o1;have hw:wr (s.next+1)=s.next+1:=I6 (by omega) (by omega);refine hb (P:=fun t=>t={ s with next:=s.next+1 }) (Q:=fun _ t=>(WF F t/\t.vals=s.vals/\t.next=s.next+1)) (R:=fun v t=>WF F t/\Fv t v) (c:=lop [{ o with e:=s.next }]) (f:=fun _=>nX s.next) (fun t u t' et ht=>?_) (fun _=>GQ fun t ht=>⟨ht.1,by rw [ht.2.2];omega,fun l hl q hq=>?_⟩) _ _ _ e (by rw [hw])
 · subst ht;have q:=Xl (o:={ o with e:=s.next }) ho h et (by omega);exact ⟨q.1,q.2.1,q.2.2.1⟩
 · obtain ⟨l',b,c1,c2,c3,c4,c5⟩:=h.ow.cu;rw [ht.2.1,c1] at hl;cases hl;have:=c5 q _ hq;omega
theorem Sq {o:pR}(ho:o.b≠21):Kp (Jw o):=fun F=>(O3 ho).mono (fun _=>id) fun _ _ q=>q.1
theorem Sc {n:Int}{F:List Nat}:Ho (WF F) (vI n) fun v s=>WF F s/\Fv s v:=O3 (by simp)
theorem E5 {n:Int}:Kp (vI n):=Sq (by simp)
theorem Ta {α:Type}{a b c:List α}(h:app a b=some c):c.length<=1000000000:=by
 have:=Ip h;unfold app at h;split at h
 · rw [this,Ic];assumption
 · cases h
theorem Te {s s':Lw}{v:Int}{a:Unit}(e:DW v s=some (.ok a s')):s'={ s with pend:=s.pend ++ [v] }/\(s.pend ++ [v]).length<=1000000000:=by obtain ⟨p,hp,e⟩:=bs e;cases e;have h:=Ta hp;rw [Ip hp] at h ⊢;exact ⟨rfl,h⟩
theorem NY {v:Int}:Kp (DW v):=fun F s a s' e h=>by obtain ⟨rfl,hl⟩:=Te e;exact h.same rfl rfl rfl rfl rfl rfl hl
theorem Vm {s s':Lw}{v:Int}(e:E9 s=some (.ok v s')):s'={ s with pend:=s.pend.dropLast }/\s.pend.getLast?=some v:=by unfold E9 at e;split at e <;> cases e;exact ⟨rfl,‹_›⟩
theorem KY:Kp E9:=fun F s v s' e h=>by obtain ⟨rfl,_⟩:=Vm e;exact h.same rfl rfl rfl rfl rfl rfl (by have:=h.ow.pd;simp;omega)
theorem WM:Kp I5:=fun F s v s' e h=>by unfold I5 at e;split at e <;> cases e;exact h
theorem Ih {p:Pc}{v:Int}{F:List Nat}:Ho (fun s=>WF F s/\Fv s v) (Bb p v) fun _ s=>WF F s:=fun s a s' e h=>by
 obtain ⟨h,f1,f2⟩:=h;obtain ⟨l,hl,e⟩:=bs e;obtain ⟨h1,b,hb,rfl⟩:=RY e h.ow.o0 h.ow.o1;obtain ⟨l',b',c1,c2,c3,c4,c5⟩:=h.ow.cu;obtain rfl:b'=b:=by rw [show ix? s.blocks s.blk=some b from hb] at c2;exact (JY c2).symm
 obtain rfl:l'=l:=by rw [hl] at c1;exact (JY c1).symm
 have hm:b' ∈ s.blocks:=xu (ix?_nat c2).2.2;have:=h.ow.o0;have:=h.ow.n0;have:=h.ow.n1;have k2:=f2 l' hl;refine h.put c2 (l:=Ay l' p v) ((h.ow.bo b' hm).1.snoc (fun _=>⟨rfl,rfl,rfl⟩) (fun c=>by rcases c with c | c <;> cases c)) (by rw [EZ,c3];rfl) (fun p1 q1 u hp hq=>?_) (fun p1 u hp=>?_) rfl rfl ⟨?_,?_⟩ ⟨?_,h1⟩ (by have:=(h.ow.bo b' hm).2;simp;omega) rfl rfl rfl
 · rw [Dl] at hp hq;split at hp <;> split at hq
   · simp_all
   · cases hp;exact absurd hq (k2 _)
   · cases hq;exact absurd hp (k2 _)
   · exact c4 p1 q1 u hp hq
 · rw [Dl] at hp;split at hp
   · cases hp;exact f1
   · exact c5 p1 u hp
 · dsimp only;omega
 · dsimp only;omega
 · dsimp only;omega
theorem ac3:Kp TV:=fun F s a s' e h=>VB (by show (20:Int)≠21;decide) F _ _ _ e h
theorem Vu:Kp GZ:=fun F s a s' e h=>VB (by show (19:Int)≠21;decide) F _ _ _ e h
theorem ac7 {F:List Nat}{k:Int}:Ho (fun s=>WF F s/\Lb k s) TV fun _ s=>WF F s/\Lb k s:=fun s a s' e h=>by have q:=Xl (o:=⟨20,0,0,0,s.stmt,0,0,0,wN⟩) (by show (20:Int)≠21;decide) h.1 (n:=s.next) e ⟨vG _,by omega⟩;exact ⟨q.1,by rw [Lb,q.2.1,q.2.2.1];exact h.2⟩
theorem JA {vs:Option (List iA)}:∀ (l:List Int)(acc ps:List Pc),acc.length≤1000000000→LZ vs l acc=some (some ps)→ps.length≤1000000000
 | [],acc,ps,ha,e=>by cases e;exact ha
 | k :: l,acc,ps,ha,e=>by
  rw [LZ] at e;split at e
  · cases e
  split at e
  · exact JA l acc ps ha e
  · obtain ⟨a2,h2,e⟩:=bs e;exact JA l a2 ps (Ta h2) e
section
variable {vis:Int->Int->Option (List Int)}{vars:List (List iA)}
theorem zM {stm:Int}{F:List Nat}:Ho (WF F) (rU vis vars stm) fun n s=>WF (n :: F) s:=fun s n s' e h=>by
 obtain ⟨l,_,e⟩:=bs e;obtain ⟨r,hr,e⟩:=bs e;cases r with
 | none=>cases e
 | some ps=>
 cases e;have hp:=JA l [] ps (by simp) hr;refine ⟨⟨⟨h.ow.o0,h.ow.o1,h.ow.bo,fun i t ht=>?_,fun i j t u ht hu htu h0=>?_,h.ow.pd⟩,h.ow.n0,h.ow.n1,h.ow.cu⟩,List.nodup_cons.2 ⟨fun c=>?_,h.nd⟩,fun j hj=>?_⟩
 · dsimp only at ht ⊢;by_cases c:i < s.labs.length
   · rw [Em c] at ht;exact h.ow.lb i t ht
   · rw [Gw (by omega)] at ht;have:=xu ht;simp at this;subst this;exact ⟨by dsimp only;omega,hp⟩
 · dsimp only at ht hu;by_cases c1:i < s.labs.length
   · by_cases c2:j < s.labs.length
     · rw [Em c1] at ht;rw [Em c2] at hu;exact h.ow.inj i j t u ht hu htu h0
     · rw [Gw (by omega)] at hu;have:=xu hu;simp at this;subst this;dsimp only at htu;omega
   · rw [Gw (by omega)] at ht;have:=xu ht;simp at this;subst this;dsimp only at h0;omega
 · have:=(h.fs _ c).1;omega
 · rcases qg.1 hj with rfl | hj
   · refine ⟨by simp,fun t ht h0=>?_⟩;simp at ht;subst ht;simp at h0
   · obtain ⟨k1,k2⟩:=h.fs j hj;refine ⟨by simp;omega,fun t ht h0=>?_⟩;dsimp only at ht;rw [Em k1] at ht;exact k2 t ht h0
theorem SC {β:Type}{k:Nat->LM β}{F:List Nat}{Q:β->Lw->Prop}(h:∀ n,Ho (WF (n :: F)) (k n) Q):Ho (WF F) (QE vis vars k) Q:=fun s a s' e=>hb zM h _ _ _ e
end
theorem ix?_app {α:Type}{l r:List α}{i:Int}{x:α}(h:ix? l i=some x):ix? (l ++ r) i=some x:=by obtain ⟨h0,h1,h2⟩:=ix?_nat h;unfold ix?;rw [lW (by omega),Em h1];exact h2
theorem ix?_end {α:Type}{l:List α}{x:α}:ix? (l ++ [x]) (l.length:Int)=some x:=by unfold ix?;rw [lW (by omega),Ii];simp
theorem U5 {i:Nat}:Kp (wo i):=fun F s a s' e h=>by
 obtain ⟨t,ht,e⟩:=bs e;split at e
 · cases e;exact h
 split at e
 · cases e
 cases e;obtain ⟨l,b,c1,c2,c3,c4,c5⟩:=h.ow.cu;obtain ⟨b0,b1,_⟩:=ix?_nat c2;have hi:i < s.labs.length:=(List.getElem?_eq_some_iff.1 ht).1;refine ⟨⟨⟨h.ow.o0,h.ow.o1,fun x hx=>?_,fun j u hu=>?_,fun j k u v hu hv huv h0=>?_,h.ow.pd⟩,h.ow.n0,h.ow.n1,l,b,c1,ix?_app c2,c3,c4,c5⟩,h.nd,fun j hj=>⟨by simp;exact (h.fs j hj).1,fun u hu h0=>?_⟩⟩
 · rcases qN.1 hx with hx | hx
   · exact h.ow.bo x hx
   · rw [List.mem_singleton.1 hx];exact ⟨.nil,h.ow.o0⟩
 · dsimp only at hu ⊢;by_cases c:i=j
   · subst c;rw [Dw hi] at hu;cases hu;have:=h.ow.lb i t ht;exact ⟨by simp;omega,this.2⟩
   · rw [Cz c] at hu;have:=h.ow.lb j u hu;exact ⟨by simp;omega,this.2⟩
 · dsimp only at hu hv;by_cases c:i=j
   · subst c;rw [Dw hi] at hu;cases hu;by_cases c:i=k
     · exact c
     · rw [Cz c] at hv;have:=h.ow.lb k v hv;dsimp only at huv;omega
   · rw [Cz c] at hu;by_cases c:i=k
     · subst c;rw [Dw hi] at hv;cases hv;have:=h.ow.lb j u hu;dsimp only at huv;omega
     · rw [Cz c] at hv;exact h.ow.inj j k u v hu hv huv h0
 · dsimp only at hu;by_cases c:i=j
   · subst c;rw [Dw hi] at hu;cases hu;exact ⟨fun _=>by dsimp only;omega,OD,ix?_end,rfl⟩
   · rw [Cz c] at hu;obtain ⟨k1,y,hy,k3⟩:=(h.fs j hj).2 u hu h0;exact ⟨k1,y,ix?_app hy,k3⟩
theorem zA {i:Nat}{l:List Int}:Kp (xR i l):=kb U5 fun _ F s a s' e h=>by obtain ⟨t,_,e⟩:=bs e;obtain ⟨l,_,e⟩:=bs e;obtain ⟨vs,_,e⟩:=bs e;cases e;exact h
theorem SF:∀ {F:List Nat}{k n:Int}{l:List Pc}{i:Nat},0≤k→k≤1→k+i+l.length≤n→n≤1000→Ho (fun s=>WF F s∧s.next=n∧∃ vs,s.vals=some vs∧∀ q v,q9 vs q=some v→k≤v∧v < k+i) (Et l k i) fun _ s=>WF F s∧Lb k s
 | F,k,n,[],i,h0,h1,h2,h3=>GQ fun s ⟨h,hn,vs,hv,hk⟩=>⟨h,by have:=h2;simp at this;omega,fun l hl q v hq=>by rw [hv] at hl;cases hl;exact (hk q v hq).1⟩
 | F,k,n,p :: l,i,h0,h1,h2,h3=>by
  simp only [uX] at h2;have hw:wr (k+(i:Int))=k+i:=I6 (by omega) (by omega);rw [Et,hw];refine hb (Q:=fun _ s=>WF F s/\s.next=n/\∃ vs,s.vals=some vs/\∀ q v,q9 vs q=some v->k<=v/\v < k+((i+1:Nat):Int)) (fun s a s' e ⟨h,hn,vs,hv,hk⟩=>?_) fun _=>SF h0 h1 (by omega) h3;have hf:Fv s (k+i):=⟨by omega,fun l hl q hq=>by rw [hv] at hl;cases hl;have:=hk q _ hq;omega⟩;refine ⟨Ih _ _ _ e ⟨h,hf⟩,?_⟩;obtain ⟨l1,hl1,e⟩:=bs e;rw [hv] at hl1;cases hl1;obtain ⟨_,b,_,rfl⟩:=RY e h.ow.o0 h.ow.o1;refine ⟨hn,_,rfl,fun q v hq=>?_⟩;rw [Dl] at hq;split at hq
  · cases hq;omega
  · have:=hk q v hq;omega
theorem Qm {i:Nat}{k:Int}{F:List Nat}{s s':Lw}{a:Unit}(h0:0<=k)(h1:k<=1)(hw:Ow0 s)(hd:(i :: F).Nodup)(hf:∀ j ∈ i :: F,j < s.labs.length/\Fs s j)(e:oD i k s=some (.ok a s')):WF F s'/\Lb k s':=by
 obtain ⟨t,ht,e⟩:=bs e;obtain ⟨l1,l2⟩:=hw.lb i t ht;have hpd:=hw.pd;have hnn:wr (wr (k+t.2.length)+s.pend.length)=k+t.2.length+s.pend.length:=by rw [I6 (n:=k+t.2.length) (by omega) (by omega)];exact I6 (by omega) (by omega)
 dsimp only at e;rw [hnn] at e;split at e
 · cases e
 rename_i hlim;split at e
 · cases e
 rename_i b hbk;obtain ⟨b0,b1,b2⟩:=ix?_nat hbk;obtain ⟨_,y,hy,hyo⟩:=(hf i (zH ..)).2 t ht b0;obtain rfl:y=b:=by rw [hbk] at hy;exact (JY hy).symm
 have hn:=List.nodup_cons.1 hd;refine hb (P:=fun t=>WF F t/\t.next=_/\∃ vs,t.vals=some vs/\∀ q v,q9 vs q=some v->k<=v/\v < k+((0:Nat):Int)) (R:=fun _ t=>WF F t/\Lb k t) (SF (n:=k+t.2.length+s.pend.length) h0 h1 (by omega) (by omega)) (fun _ s2 u s3 e2 h2=>?_) _ _ _ e ⟨?_,rfl,[],rfl,fun q v hq=>by cases hq⟩
 · cases e2;exact ⟨h2.1.same rfl rfl rfl rfl rfl rfl (by simp;exact h2.1.ow.pd),h2.2⟩
 · refine ⟨⟨⟨hw.o0,hw.o1,fun x hx=>?_,fun j u hu=>?_,hw.inj,hw.pd⟩,by dsimp only;omega,by have:=hw.o0;dsimp only;omega,[],_,rfl,ix?_set_eq hbk,by dsimp only;rw [hyo];rfl,(fun p q v hp=>by cases hp),fun p v hp=>(by cases hp)⟩,hn.2,fun j hj=>⟨(hf j (List.mem_cons_of_mem _ hj)).1,fun u hu hu0=>?_⟩⟩
   · rcases GX hx with hx | rfl
     · exact hw.bo x hx
     · dsimp only;rw [hyo];exact ⟨.nil,hw.o0⟩
   · dsimp only;rw [yK];exact hw.lb j u hu
   · have hne:u.1≠t.1:=fun c=>hn.1 (by rw [<-hw.inj j i u t hu ht c hu0];exact hj);obtain ⟨_,z,hz,hzo⟩:=(hf j (xQ _ hj)).2 u hu hu0;exact ⟨fun _=>hne,z,ix?_set_ne hz hne b0,hzo⟩
theorem KU {i:Nat}{k:Int}{F:List Nat}(h0:0<=k)(h1:k<=1):Ho (WF (i :: F)) (oD i k) fun _ s=>WF F s/\Lb k s:=fun s a s' e h=>Qm h0 h1 h.ow.toOw0 h.nd h.fs e
theorem Bl {i:Nat}{F:List Nat}:Ho (WF (i :: F)) (oD i 0) fun _=>WF F:=(KU (by omega) (by omega)).mono (fun _=>id) fun _ _ h=>h.1
theorem M9 {t:zl}:Kp (lend t):=fun F s a s' e h=>by
 unfold lend at e;split at e <;> cases e;rename_i b hb;obtain ⟨l,b',c1,c2,c3,c4,c5⟩:=h.ow.cu;obtain rfl:b'=b:=by rw [hb] at c2;exact (JY c2).symm
 obtain ⟨b0,b1,_⟩:=ix?_nat hb;refine ⟨⟨⟨h.ow.o0,h.ow.o1,fun x hx=>?_,fun i t ht=>by rw [yK];exact h.ow.lb i t ht,h.ow.inj,h.ow.pd⟩,h.ow.n0,h.ow.n1,l,_,c1,ix?_set_eq hb,c3,c4,c5⟩,h.nd,fun j hj=>⟨(h.fs j hj).1,fun u hu h0=>?_⟩⟩
 · rcases GX hx with hx | rfl
   · exact h.ow.bo x hx
   · exact h.ow.bo b' (xu (ix?_nat hb).2.2)
 · obtain ⟨k1,y,hy,k3⟩:=(h.fs j hj).2 u hu h0;have hne:=k1 (by rw [c1];simp);exact ⟨fun _=>hne,y,ix?_set_ne hy hne b0,k3⟩
theorem Gb {i:Nat}:Kp (xL i):=fun F s a s' e h=>by
 unfold xL at e;split at e
 · exact (kb zA fun _=>M9) F _ _ _ e h
 · cases e;exact h
theorem QS {v:Int}:Kp (DZ v):=M9
theorem EG {v:Int}{a b:uD}:Kp (Cx v a b):=M9
theorem Sn {v:Int}:Kp (zn v):=fun F s a s' e h=>by
 unfold zn at e;split at e
 · exact (kb zA fun _=>M9) F _ _ _ e h
 · exact M9 F _ _ _ e h
theorem Sk {i:Nat}:Kp (JE i):=kb zA fun _ F s a s' e h=>by obtain ⟨vs,_,e⟩:=bs e;cases e;exact h
theorem Yt {k:uD->LM Unit}{F:List Nat}{Q:Unit->Lw->Prop}(h:∀ e,Ho (WF F) (k e) Q):Ho (WF F) (Er k) Q:=fun s a s' e hs=>by
 unfold Er at e;split at e
 · exact hb (zA F) h _ _ _ e hs
 · exact h _ _ _ _ e hs
theorem OY {i:Nat}{F:List Nat}:Ho (WF (i :: F)) (GI i) fun _=>WF F:=hb Bl fun _=>ac3 F
theorem Tw {i:Nat}{n:Int}{F:List Nat}:Ho (WF (i :: F)) (FQ i n) fun _=>WF F:=fun s a s' e h=>
 hb (P:=WF (i :: F)) (R:=fun _=>WF F) Bl (fun _=>hb (ac3 F) fun _=>hb (E5 F) fun _=>hb (Sn F) fun _ s1 a s2 e2 h2=>by
  cases e2;exact h2.same rfl rfl rfl rfl rfl rfl h.ow.pd) { s with pend:=[] } a s' e (h.same rfl rfl rfl rfl rfl rfl (by simp))
theorem KT {i:Nat}{F:List Nat}:Ho (WF (i :: F)) (xq i) fun _=>WF F:=fun s a s' e h=>by
 obtain ⟨t,_,e⟩:=bs e;split at e
 · exact Bl _ _ _ e h
 · cases e;exact h.tl
theorem XZ {n:Nat}:Kp (Iz n):=fun F s a s' e h=>by unfold Iz at e;split at e <;> cases e;exact h.same rfl rfl rfl rfl rfl rfl h.ow.pd
theorem abO:Kp I8:=fun F s a s' e h=>by unfold I8 at e;split at e <;> cases e;exact h.same rfl rfl rfl rfl rfl rfl h.ow.pd
def Pn' (s:Lw):Prop:=∃ v,s.pend.getLast?=some v/\Fv s v
section
variable {vis:Int->Int->Option (List Int)}{vars:List (List iA)}{F:List Nat}{fu:Nat}
theorem Sb {v:Int}:Ho (fun s=>WF F s/\Fv s v) (DW v) fun _ s=>WF F s/\Pn' s:=fun s a s' e h=>by refine ⟨NY F _ _ _ e h.1,v,?_⟩;obtain ⟨rfl,_⟩:=Te e;exact ⟨by simp,h.2⟩
theorem acT:Ho (fun s=>WF F s/\Pn' s) E9 fun v s=>WF F s/\Fv s v:=fun s a s' e h=>by refine ⟨KY F _ _ _ e h.1,?_⟩;obtain ⟨_,v,hv,hf⟩:=h;obtain ⟨rfl,h2⟩:=Vm e;rw [hv] at h2;cases h2;exact hf
theorem Iu {k:Int}(hk:k≠21):Ho (WF F) (Ce k) fun _ s=>WF F s/\Pn' s:=hb (KY F) fun _=>hb (KY F) fun _=>hb (O3 hk) fun _=>Sb
theorem X6:Kp (Nh vis vars):=fun F=>hb (WM F) fun d=>SC fun next=>SC fun fault=>hb (Sk _) fun _=>hb (zA _) fun _=>hb (EG _) fun _=>hb Tw fun _=>OY
theorem Sr {ex:jB->LM Unit}{x:jB}(h:∀ y ∈ x.a,Kp (ex y)):Kp (IG vis vars ex x):=fun F=>hb (DX fun y hy=>h y hy F) fun _=>hb (WM F) fun _=>hb (E5 F) fun _=>hb (Sq (by simp) F) fun _=>
 YX fun _=>hb (E5 F) fun _=>hb (Sq (by simp) F) fun _=>hb (Sq (by simp) F) fun _=>SC fun _=>SC fun _=>hb (zA _) fun _=>hb (Sk _) fun _=>hb (EG _) fun _=>hb Tw fun _=>OY
theorem R9:∀ (fu:Nat)(e:jB),XO e→∀ F,Ho (WF F) (lexpr vis vars fu e) fun _ s=>WF F s∧(e.e≠1→e.e≠2→Pn' s)
 | 0,_,_,_=>fun s a s' h=>by cases h
 | fu+1,e,h,F=>by
  have ih:∀ y ∈ e.a,Kp (lexpr vis vars fu y):=fun y hy F=>(R9 fu y (h.args y hy) F).mono (fun _=>id) fun _ _ q=>q.1;have hw:wr (wr (e.e - 6)+3)≠21:=by
   have:=h.op;have h1:wr (e.e - 6)=e.e - 6:=by unfold wr;rw [Uo (by omega) (by omega)]
   rw [h1];unfold wr;rw [Uo (by omega) (by omega)];omega
  have fin:∀ {c:LM Unit},Ho (WF F) c (fun _ s=>WF F s/\Pn' s)->Ho (WF F) c fun _ s=>WF F s/\(e.e≠1->e.e≠2->Pn' s):=fun q=>q.mono (fun _=>id) fun _ _ q=>⟨q.1,fun _ _=>q.2⟩;unfold lexpr;refine vO (fun _=>fin (hb Sc fun _=>Sb)) fun _=>vO (fun c s a s' e1 hs=>?_) fun _=>vO (fun _=>fin (hb (Sr ih F) fun _=>hb (KY F) fun _=>WW fun _=>hb (O3 (by simp)) fun _=>Sb)) fun _=>
   vO (fun _=>fin (hb (hb (E5 F) fun _=>NY F) fun _=>hb (DX fun y hy=>ih y hy F) fun _=>Iu (by decide))) fun _=>vO (fun _=>fin (hb (DX fun y hy=>ih y hy F) fun _=>hb (hb (E5 F) fun _=>NY F) fun _=>Iu (by decide))) fun _=>
   fin (hb (DX fun y hy=>ih y hy F) fun _=>hb (adg fun y hy=>ih y hy F) fun _=>hb (vO (fun _=>X6 F) fun _=>Mh F) fun _=>Iu hw)
  obtain ⟨l,_,e1⟩:=bs e1;exact ⟨NY F _ _ _ e1 hs,fun c1 c2=>by rcases c with c | c <;> contradiction⟩
theorem Nf {e:jB}(h:XO e):Kp (lexpr vis vars fu e):=fun F=>(R9 fu e h F).mono (fun _=>id) fun _ _ q=>q.1
theorem Tp:∀ {l:List jB},(∀ y ∈ l,XO y)→Kp (Gp vis vars fu l)
 | [],_=>Mh
 | x :: l,h=>kb (Nf (h x (zH ..))) fun _=>Tp fun y hy=>h y (xQ _ hy)
theorem EW {e:jB}(h:XO e):Kp (lvalue vis vars fu e):=kb (Nf h) fun _=>KY
theorem XV {e:jB}(h:XO e)(h1:e.e≠1)(h2:e.e≠2):Ho (WF F) (lvalue vis vars fu e) fun v s=>WF F s/\Fv s v:=hb ((R9 fu e h F).mono (fun _=>id) fun _ _ q=>⟨q.1,q.2 h1 h2⟩) fun _=>acT
theorem TD {v:Int}:∀ {n:Nat}{i:Int},Kp (F5 v n i)
 | 0,_=>Mh
 | n+1,i=>fun F=>hb Sc fun _=>hb Ih fun _=>TD F
theorem Ub {x:jA}:Kp (BF vars x):=fun F=>YX fun _=>vO (fun _=>WW fun _=>VB (by simp) F) fun _=>vO (fun _ s a s' e=>by cases e) fun _=>TD F
theorem Xr {t e:jB}(ht:XO t)(he:XO e):Kp (DJ vis vars fu t e):=fun F=>vO (fun _=>hb (Sr (fun y hy=>Nf (ht.args y hy)) F) fun _=>hb (Nf he F) fun _=>hb (KY F) fun _=>hb (KY F) fun _=>WW fun _=>VB (by simp) F)
 fun _=>by
  by_cases c:e.e=1\/e.e=2
  · simp only [lX c];exact hb (EW he F) fun _=>hb (O3 (by simp)) fun _=>Ih
  · simp only [lW c];exact hb (XV he (fun d=>c (.inl d)) fun d=>c (.inr d)) fun v=>hb (Q:=fun u s=>WF F s/\Fv s u) (GQ fun s q=>q) fun _=>Ih
theorem WT {x:jA}(h:∀ y ∈ x.a,XO y):Ho (WF F) (D5 vis vars fu x) fun _ s=>WF F s/\Fv s 0:=hb (Tp h F) fun _ s a s' e hs=>
 hb (P:=WF F) (R:=fun _ s=>WF F s/\Fv s 0) zM (fun _=>hb (zA _) fun _=>Yt fun _=>hb (M9 _) fun _=>hb (KU (k:=1) (by omega) (by omega)) fun _=>ac7.mono (fun _=>id) fun _ _ q=>⟨q.1,q.2.fv⟩) { s with pend:=[] } a s' e (hs.same rfl rfl rfl rfl rfl rfl (by simp))
theorem abp {x:jA}(h:∀ y ∈ x.a,XO y):Kp (D5 vis vars fu x):=fun F=>(WT h).mono (fun _=>id) fun _ _ q=>q.1
inductive XS:jA→Prop
 | mk {x:jA} (a:∀ y ∈ x.a,XO y) (t:∀ y ∈ x.e,XO y) (b:∀ y ∈ x.d,XS y) (e:∀ y ∈ x.h,XS y):XS x
theorem XS.a {x:jA}(h:XS x):∀ y ∈ x.a,XO y:=by cases h;assumption
theorem XS.t {x:jA}(h:XS x):∀ y ∈ x.e,XO y:=by cases h;assumption
theorem XS.b {x:jA}(h:XS x):∀ y ∈ x.d,XS y:=by cases h;assumption
theorem XS.e {x:jA}(h:XS x):∀ y ∈ x.h,XS y:=by cases h;assumption
variable {st:jA->LM Unit}
theorem EF:∀ {l:List jA},(∀ x ∈ l,Kp (st x))→Kp (tL st l)
 | [],_=>Mh
 | x :: l,h=>fun F s a s' e hs=>by
  rw [tL] at e;dsimp only at e;split at e
  · exact kb (h x (zH ..)) (fun _=>EF fun y hy=>h y (xQ _ hy)) F _ _ _ e hs
  · cases e;exact hs
theorem W9 {x:jA}(ha:∀ y ∈ x.a,XO y)(hB:∀ y ∈ x.d,Kp (st y))(hE:∀ y ∈ x.h,Kp (st y)):Kp (Cw vis vars st fu x):=fun F=>by
 unfold Cw;refine hb (DX fun y hy=>EW (ha y hy) F) fun _=>hb zM fun body=>hb zM fun behind=>?_;by_cases c:x.h.length=0
 · simp only [lX c];refine hb (Q:=fun o s=>WF (behind :: body :: F) s/\o=behind) (GQ fun s q=>⟨q,rfl⟩) fun other=>?_;refine Ho.mono (P:=fun s=>WF (body :: behind :: F) s/\other=behind) (Q:=fun _=>WF F) ?_ (fun s q=>⟨q.1.perm (.swap ..),q.2⟩) fun _ _=>id;intro s a s' e hs;obtain ⟨hs,rfl⟩:=hs;exact (hb (zA _) fun _=>hb (zA _) fun _=>hb (EG _) fun _=>hb Bl fun _=>hb (EF hB _) fun _=>hb (Gb _) fun _=>hb (vO (Q:=fun _=>WF (other :: F)) (fun _=>Mh _) fun d=>absurd rfl d) fun _=>KT) s a s' e hs
 · simp only [lW c];refine hb zM fun other=>?_;refine Ho.mono (P:=WF (body :: other :: behind :: F)) (Q:=fun _=>WF F) ?_ (fun s q=>q.perm ((List.Perm.cons _ (.swap ..)).trans (.swap ..))) fun _ _=>id;exact hb (zA _) fun _=>hb (zA _) fun _=>hb (EG _) fun _=>hb Bl fun _=>hb (EF hB _) fun _=>hb (Gb _) fun _=>hb (Q:=fun _=>WF (behind :: F)) (vO (fun _=>GQ fun s q=>q.tl) fun _=>hb Bl fun _=>hb (EF hE _) fun _=>Gb _) fun _=>KT
theorem Z7 {x:jA}(ha:∀ y ∈ x.a,XO y)(hB:∀ y ∈ x.d,Kp (st y)):Kp (Jh vis vars st fu x):=fun F=>by unfold Jh;refine hb zM fun head=>hb zM fun body=>hb zM fun behind=>?_;refine Ho.mono (P:=WF (head :: body :: behind :: F)) (Q:=fun _=>WF F) ?_ (fun s q=>q.perm ((List.Perm.swap _ _ _).trans ((List.Perm.cons _ (.swap ..)).trans (.swap ..)))) fun _ _=>id;exact hb (Gb _) fun _=>hb Bl fun _=>hb (Vu _) fun _=>hb (DX fun y hy=>EW (ha y hy) _) fun _=>hb (zA _) fun _=>hb (zA _) fun _=>hb (EG _) fun _=>hb Bl fun _=>hb (EF hB _) fun _=>hb (Gb _) fun _=>Bl
theorem adl {x:jA}(hB:∀ y ∈ x.d,Kp (st y))(hE:∀ y ∈ x.h,Kp (st y)):Kp (PE vis vars st x):=fun F=>by unfold PE;refine hb zM fun h=>hb zM fun behind=>?_;refine Ho.mono (P:=WF (h :: behind :: F)) (Q:=fun _=>WF F) ?_ (fun s q=>q.perm (.swap ..)) fun _ _=>id;refine hb (XZ _) fun _=>hb (EF hB _) fun _=>hb (abO _) fun _=>hb (Gb _) fun _ s a s' e hs=>?_;obtain ⟨t,_,e⟩:=bs e;refine hb (P:=WF (h :: behind :: F)) (Q:=fun _=>WF (behind :: F)) (R:=fun _=>WF F) (vO (fun _=>hb ((KU (k:=1) (by omega) (by omega)).mono (fun _=>id) fun _ _ q=>⟨q.1,q.2.fv⟩) fun _=>hb Ih fun _=>hb (EF hE _) fun _=>Gb _) fun _=>GQ fun s q=>q.tl) (fun _=>KT) _ _ _ e hs
theorem RA:∀ (fu:Nat){x:jA},XS x→Kp (vg vis vars fu x)
 | 0,_,_=>fun _ s a s' h=>by cases h
 | fu+1,x,h=>fun F s a s' e hs=>by
  have hB:∀ y ∈ x.d,Kp (vg vis vars fu y):=fun y hy=>RA fu (h.b y hy);have hE:∀ y ∈ x.h,Kp (vg vis vars fu y):=fun y hy=>RA fu (h.e y hy);have key:Ho (WF F) (if x.b=5 then Jh vis vars (vg vis vars fu) fu x
  else GZ |>.bind fun _=>
   if x.b=1 then BF vars x
   else if x.b=2 then xV x.e fun t=>xV x.a fun e=>DJ vis vars fu t e
   else if x.b=3 then D5 vis vars fu x |>.bind fun _=>match x.e with
     | []=>nX ()
     | t :: _=>Bb (Bh t) 0
   else if x.b=4 then Cw vis vars (vg vis vars fu) fu x
   else if x.b=6 then (if x.k≠be then D5 vis vars fu x |>.bind fun _=>DZ 0 else xV x.a (lvalue vis vars fu) |>.bind DZ)
   else if x.b=7 then xV x.a (lvalue vis vars fu) |>.bind zn
   else if x.b=8 then PE vis vars (vg vis vars fu) x
   else if x.b=9 then xV x.a (lvalue vis vars fu) |>.bind fun v=>lop [⟨18,0,v,0,0,0,0,0,wN⟩]
   else if x.b=10 then vI 0 |>.bind DZ
   else nX ()) fun _=>WF F:=by
   refine vO (fun _=>Z7 h.a hB F) fun _=>hb (Vu F) fun _=>vO (fun _=>Ub F) fun _=>vO (fun _=>DX fun t ht=>DX fun e he=>Xr (h.t t ht) (h.a e he) F) fun _=>vO (fun _=>hb (WT h.a) fun _=>?_) fun _=>
     vO (fun _=>W9 h.a hB hE F) fun _=>vO (fun _=>vO (fun _=>hb (abp h.a F) fun _=>QS F) fun _=>hb (DX fun y hy=>EW (h.a y hy) F) fun _=>QS F) fun _=>vO (fun _=>hb (DX fun y hy=>EW (h.a y hy) F) fun _=>Sn F) fun _=>
     vO (fun _=>adl hB hE F) fun _=>vO (fun _=>hb (DX fun y hy=>EW (h.a y hy) F) fun _=>VB (by simp) F) fun _=>vO (fun _=>hb (E5 F) fun _=>QS F) fun _=>Mh F
   split
   · exact GQ fun s q=>q.1
   · exact Ih
  exact key _ _ _ e (hs.same rfl rfl rfl rfl rfl rfl hs.ow.pd)
def L0 (s:Lw):Prop:=s.blocks=[]/\s.labs=[]/\s.vals=none/\s.pend=[]/\s.ops=0
theorem RS:∀ {l:List iA}{i:Nat},Ho L0 (DU l i) fun _=>L0
 | [],_=>GQ fun _=>id
 | v :: l,i=>fun s a s' e hs=>by
  rw [DU] at e;dsimp only at e;split at e
  · cases e
  split at e
  · obtain ⟨o,_,e⟩:=bs e;exact RS _ _ _ e hs
  · exact RS _ _ _ e hs
theorem YG {src:jY}{s s':Lw}{u:Unit}(hX:∀ fn ∈ src.a.b,∀ x ∈ fn.d,XS x)(hs:L0 s)(e:PZ vis src fu s=some (.ok u s')):∀ b ∈ s'.blocks,BO b.c/\b.c.length<=6000:=by
 unfold PZ at e;split at e
 · cases e
 rename_i fn hf;have hX:=hX fn (xu (ix?_at hf));split at e
 · cases e
 rename_i vs _;have key:Ho L0 (DU vs 0 |>.bind fun _=>xV fn.d fun x=>rU vis src.c x.n |>.bind fun e=>wo e |>.bind fun _=>oD e 0 |>.bind fun _=>tL (vg vis src.c fu) fn.d) fun _ s=>WF [] s:=by
   refine hb RS fun _=>DX fun x hx s a s' e hs=>?_;obtain ⟨h1,h2,h3,h4,h5⟩:=hs;obtain ⟨q,hq,e⟩:=bs e;obtain ⟨l,_,hq⟩:=bs hq;obtain ⟨r,hr,hq⟩:=bs hq;cases r with
   | none=>cases hq;cases e
   | some ps=>
   cases hq;have hp:=JA l [] ps (by simp) hr;have e:((wo s.labs.length).bind fun _=>oD s.labs.length 0 |>.bind fun _=>tL (vg vis src.c fu) fn.d) { s with labs:=s.labs ++ [(-1,ps)] }=some (.ok a s'):=e;have hn:wo s.labs.length { s with labs:=s.labs ++ [(-1,ps)] }=some (.ok () { s with labs:=[(0,ps)],blocks:=[OD] }):=by unfold wo;rw [h2];simp [h1]
   unfold LM.bind at e;rw [hn] at e;refine hb (P:=fun t=>t={ s with labs:=[(0,ps)],blocks:=[OD] }) (Q:=fun _=>WF []) (R:=fun _=>WF []) (fun t u t' et ht=>?_) (fun _=>EF (fun y hy=>RA fu (hX y hy)) []) _ _ _ e rfl;subst ht;rw [h2] at et;refine (Qm (by omega) (by omega) ⟨by rw [h5];omega,by rw [h5];omega,fun b hb=>?_,fun i t ht=>?_,fun i j t u ht hu _ _=>?_,by simp [h4]⟩ (by simp) (fun j hj=>?_) et).1
   · rw [List.mem_singleton.1 hb];exact ⟨.nil,by rw [h5];exact vG _⟩
   · have:=List.mem_singleton.1 (xu ht);subst this;exact ⟨by simp,hp⟩
   · have:=(List.getElem?_eq_some_iff.1 ht).1;have:=(List.getElem?_eq_some_iff.1 hu).1;simp at *
     omega
   · rw [List.mem_singleton.1 hj];refine ⟨by simp,fun t ht _=>⟨fun c=>absurd h3 c,OD,?_,rfl⟩⟩;have:=List.mem_singleton.1 (xu ht);subst this;rfl
 have hw:=(key _ _ _ e hs).ow;exact fun b hb=>⟨(hw.bo b hb).1,by have:=(hw.bo b hb).2;have:=hw.o1;omega⟩
theorem Pd {src:jY}(hX:∀ fn ∈ src.a.b,∀ x ∈ fn.d,XS x){res:List qF}{er:Int}:∀ (n f:Nat)(acc:List qF),(∀ c ∈ acc,∀ b ∈ c.b,BO b.c∧b.c.length≤6000)→Fq vis src fu n f acc=some (res,er)→∀ c ∈ res,∀ b ∈ c.b,BO b.c∧b.c.length≤6000
 | 0,f,acc,ha,e=>by cases e;exact ha
 | n+1,f,acc,ha,e=>by
  rw [Fq] at e;obtain ⟨lo,hlo,e⟩:=bs e;cases lo with
  | lim=>cases e;simp
  | rt=>cases e;simp
  | ok u s=>
  obtain ⟨acc2,hacc,e⟩:=bs e;rw [Ip hacc] at e;refine Pd hX n (f+1) _ (fun c hc=>?_) e;rcases qN.1 hc with hc | hc
  · exact ha c hc
  · rw [List.mem_singleton.1 hc];exact YG hX ⟨rfl,rfl,rfl,rfl,rfl⟩ hlo
end
end Go.Proofs.YtdkneekpdecjbaaGreat
