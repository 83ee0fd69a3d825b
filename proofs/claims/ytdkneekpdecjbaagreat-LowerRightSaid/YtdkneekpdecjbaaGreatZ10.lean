/- Lemmas. -/
import Derived.Test.YtdkneekpdecjbaaGreatZ3
import Derived.Test.YtdkneekpdecjbaaGreatZ9
import Derived.Test.YtdkneekpdecjbaaGreatZ2
import Derived.Laws.StructEq
import Derived.Test.YtdkneekpdecjbaaGreatZ4
set_option linter.all false
namespace Go.Proofs.YtdkneekpdecjbaaGreat
open Go.RowKit Go.Fw Go.Proofs.Tryz
abbrev Pc:=Int × Int
structure Lw where
 f:Int
 b:Int
 blocks:List lN
 ctxs:List Bf
 objs:List xQ
 omap:List (Int × Int)
 ops:Int
 blk:Int
 opn:Bool
 next:Int
 vals:Option (List (Pc × Int))
 pend:List Int
 hnd:List Nat
 stmt:Int
 labs:List (Int × List Pc)
inductive Lo (α:Type) where
 | ok (a:α) (s:Lw)
 | lim
 | rt
abbrev LM (α:Type):=Lw->Option (Lo α)
def Lo.then {α β:Type}:Lo α→(α→LM β)→Option (Lo β)
 | .ok a s,k=>k a s
 | .lim,_=>some .lim
 | .rt,_=>some .rt
def LM.bind {α β:Type}(m:LM α)(k:α->LM β):LM β:=fun s=>(m s).bind fun p=>p.then k
def oL {α:Type}(a:α):LM α:=fun s=>some (.ok a s)
def lrt {α:Type}:LM α:=fun _=>some .rt
def ix? {α:Type}(l:List α)(i:Int):Option α:=if i < 0 then none else l[i.toNat]?
abbrev Je:nO:=⟨-1,[]⟩
abbrev tY:Zy:=⟨0,0,0⟩
def Gt (v:Int):LM Unit:=fun s=>(app s.pend [v]).bind fun p=>some (.ok () { s with pend:=p })
def Ik:LM Int:=fun s=>match s.pend.getLast? with
 | none=>some .rt
 | some v=>some (.ok v { s with pend:=s.pend.dropLast })
def lop (l:List yB):LM Unit:=fun s=>
 if 6000 < wr (s.ops+l.length) then some .lim
 else match ix? s.blocks s.blk with
  | none=>some .rt
  | some b=>(app b.c l).bind fun os=>some (.ok () { s with ops:=wr (s.ops+l.length),blocks:=s.blocks.set s.blk.toNat { b with c:=os } })
def KG (o:yB):LM Int:=fun s=>(lop [{ o with e:=s.next }] |>.bind fun _=>oL s.next) { s with next:=wr (s.next+1) }
def uy (n:Int):LM Int:=KG ⟨1,0,0,0,n,0,0,0,tY⟩
def vB (p:Pc)(v:Int):LM Unit:=fun s=>s.vals.bind fun l=>lop [⟨21,0,0,0,0,0,p.1,p.2,⟨2,v,0⟩⟩] { s with vals:=some (yt l p v) }
def I9:LM Unit:=fun s=>lop [⟨19,0,0,0,s.stmt,0,0,0,tY⟩] s
def Tn:LM Unit:=fun s=>lop [⟨20,0,0,0,s.stmt,0,0,0,tY⟩] s
def NK (vs:Option (List iA)):List Int→List Pc→Option (Option (List Pc))
 | [],acc=>some (some acc)
 | v :: l,acc=>match vs.bind fun vs=>ix? vs v with
  | none=>some none
  | some x=>if x.b=3 then NK vs l acc else (app acc ((List.range x.a.toNat).map fun i=>(v,((i:Nat):Int)))).bind fun acc=>NK vs l acc
def sM (vis:Int->Int->Option (List Int))(vars:List (List iA))(stmt:Int):LM Nat:=fun s=>
 (vis s.f stmt).bind fun l=>(NK (ix? vars s.f) l []).bind fun
  | none=>some .rt
  | some ps=>some (.ok s.labs.length { s with labs:=s.labs ++ [(-1,ps)] })
abbrev MB:lN:=⟨0,[],⟨0,0,0,[],⟨⟨0,[]⟩,⟨0,[]⟩⟩⟩⟩
def wQ (i:Nat):LM Unit:=fun s=>s.labs[i]?.bind fun t=>if 0<=t.1 then some (.ok () s) else if 400<=s.blocks.length then some .lim else some (.ok () { s with labs:=s.labs.set i (s.blocks.length,t.2),blocks:=s.blocks ++ [MB] })
def yE (i:Nat)(first:List Int):LM nO:=wQ i |>.bind fun _ s=>s.labs[i]?.bind fun t=>s.vals.bind fun l=>(app first (t.2.map fun p=>(pE l p).getD 0)).bind fun vs=>some (.ok ⟨t.1,vs⟩ s)
def yh:List Pc→Int→Nat→LM Unit
 | [],_,_=>oL ()
 | p :: l,n,i=>vB p (wr (n+i)) |>.bind fun _=>yh l n (i+1)
def ou (i:Nat)(first:Int):LM Unit:=fun s=>s.labs[i]?.bind fun t=>
 let n:=wr (wr (first+t.2.length)+s.pend.length)
 if 999 < n then some .lim
 else match ix? s.blocks t.1 with
  | none=>some .rt
  | some b=>(yh t.2 first 0 |>.bind fun _ s=>some (.ok () { s with pend:=(List.range s.pend.length).map fun k=>wr (wr (first+t.2.length)+(k:Nat)) }))
   { s with blk:=t.1,opn:=true,next:=n,blocks:=s.blocks.set t.1.toNat { b with a:=n },vals:=some [] }
def lend (t:uG):LM Unit:=fun s=>match ix? s.blocks s.blk with
 | none=>some .rt
 | some b=>some (.ok () { s with blocks:=s.blocks.set s.blk.toNat { b with b:=t },opn:=false })
def xL (i:Nat):LM Unit:=fun s=>if s.opn=true then (yE i [] |>.bind fun e=>lend ⟨1,0,0,[],⟨e,Je⟩⟩) s else some (.ok () s)
def Em (v:Int)(yes no:nO):LM Unit:=lend ⟨2,v,0,[],⟨yes,no⟩⟩
def EK (v:Int):LM Unit:=lend ⟨4,v,0,[],⟨Je,Je⟩⟩
def xA (v:Int):LM Unit:=fun s=>match s.hnd.getLast? with
 | some h=>(yE h [v] |>.bind fun e=>lend ⟨1,0,0,[],⟨e,Je⟩⟩) s
 | none=>lend ⟨5,v,0,[],⟨Je,Je⟩⟩ s
def xP (e:jD):Pc:=if e.e=2 then (e.f,e.d) else (e.f,0)
def Cz (kind:Int):LM Unit:=Ik |>.bind fun b=>Ik |>.bind fun a=>KG ⟨kind,0,a,b,0,0,0,0,tY⟩ |>.bind Gt
def MX (i:Nat):LM nO:=yE i [] |>.bind fun e s=>(app e.a s.pend).bind fun vs=>some (.ok ⟨e.b,vs⟩ s)
def Ja (i:Nat):LM Unit:=ou i 0 |>.bind fun _=>Tn
def GY (i:Nat)(n:Int):LM Unit:=fun s=>(ou i 0 |>.bind fun _=>Tn |>.bind fun _=>uy n |>.bind fun c=>xA c |>.bind fun _ s'=>some (.ok () { s' with pend:=s.pend })) { s with pend:=[] }
def Kg:LM Int:=fun s=>match s.pend.getLast? with
 | none=>some .rt
 | some v=>some (.ok v s)
def zG {α β:Type}(l:List α)(k:α->LM β):LM β:=match l with
 | []=>lrt
 | x :: _=>k x
def ZY {α β:Type}(l:List α)(k:α->LM β):LM β:=match l with
 | _ :: x :: _=>k x
 | _=>lrt
def PG (v:Int){β:Type}(k:Int->LM β):LM β:=fun s=>k ((pE s.omap v).getD 0) s
section
variable (vis:Int->Int->Option (List Int))(vars:List (List iA))
def QO {β:Type}(k:Nat->LM β):LM β:=fun s=>(sM vis vars s.stmt |>.bind k) s
def Py:LM Unit:=Kg |>.bind fun d=>QO vis vars fun next=>QO vis vars fun fault=>MX next |>.bind fun yes=>yE fault [] |>.bind fun no=>Em d yes no |>.bind fun _=>GY fault 1 |>.bind fun _=>Ja next
def Sm {β:Type}(v:Int)(k:iA->LM β):LM β:=fun s=>match (ix? vars s.f).bind fun l=>ix? l v with
 | none=>some .rt
 | some x=>k x s
def JG (ex:jD->LM Unit)(e:jD):LM Unit:=zG e.a ex |>.bind fun _=>Kg |>.bind fun i=>uy 0 |>.bind fun z=>KG ⟨11,0,i,z,0,0,0,0,tY⟩ |>.bind fun below=>Sm vars e.f fun x=>uy x.a |>.bind fun n=>KG ⟨12,0,n,i,0,0,0,0,tY⟩ |>.bind fun above=>KG ⟨9,0,below,above,0,0,0,0,tY⟩ |>.bind fun out=>QO vis vars fun next=>QO vis vars fun fault=>yE fault [] |>.bind fun yes=>MX next |>.bind fun no=>Em out yes no |>.bind fun _=>GY fault 2 |>.bind fun _=>Ja next
def lexpr:Nat→jD→LM Unit
 | 0,_=>fun _=>none
 | fu+1,e=>
  if e.e=0 then uy e.d |>.bind Gt
  else if e.e=1\/e.e=2 then fun s=>s.vals.bind fun l=>Gt ((pE l (xP e)).getD 0) s
  else if e.e=3 then JG vis vars (lexpr fu) e |>.bind fun _=>Ik |>.bind fun a=>PG e.f fun n=>KG ⟨15,0,a,0,n,0,0,0,tY⟩ |>.bind Gt
  else if e.e=4 then uy 0 |>.bind Gt |>.bind fun _=>zG e.a (lexpr fu) |>.bind fun _=>Cz 4
  else if e.e=5 then zG e.a (lexpr fu) |>.bind fun _=>uy 0 |>.bind Gt |>.bind fun _=>Cz 13
  else zG e.a (lexpr fu) |>.bind fun _=>ZY e.a (lexpr fu) |>.bind fun _=>(if e.e=9\/e.e=10 then Py vis vars else oL ()) |>.bind fun _=>Cz (wr (wr (e.e - 6)+3))
def He (fu:Nat):List jD→LM Unit
 | []=>oL ()
 | x :: l=>lexpr vis vars fu x |>.bind fun _=>He fu l
def lvalue (fu:Nat)(e:jD):LM Int:=lexpr vis vars fu e |>.bind fun _=>Ik
def DF (v:Int):Nat→Int→LM Unit
 | 0,_=>oL ()
 | n+1,i=>uy 0 |>.bind fun c=>vB (v,i) c |>.bind fun _=>DF v n (i+1)
def Bw (x:jC):LM Unit:=Sm vars x.f fun i=>if i.b=3 then PG x.f fun n=>lop [⟨17,0,0,0,n,0,0,0,tY⟩] else if 1000000 < i.a then fun _=>none else DF x.f i.a.toNat 0
def Ez (fu:Nat)(t e:jD):LM Unit:=if t.e=3 then JG vis vars (lexpr vis vars fu) t |>.bind fun _=>lexpr vis vars fu e |>.bind fun _=>Ik |>.bind fun v=>Ik |>.bind fun a=>PG t.f fun n=>lop [⟨16,0,a,v,n,0,0,0,tY⟩] else lvalue vis vars fu e |>.bind fun v=>(if e.e=1\/e.e=2 then KG ⟨2,0,v,0,0,0,0,0,tY⟩ else oL v) |>.bind (vB (xP t))
def Fy (k:nO->LM Unit):LM Unit:=fun s=>match s.hnd.getLast? with
 | some h=>(yE h [] |>.bind k) s
 | none=>k Je s
def FQ (fu:Nat)(x:jC):LM Unit:=He vis vars fu x.a |>.bind fun _ s=>(sM vis vars x.n |>.bind fun next=>yE next [] |>.bind fun e=>Fy fun h=>lend ⟨3,0,x.h,s.pend,⟨e,h⟩⟩ |>.bind fun _=>ou next 1 |>.bind fun _=>Tn) { s with pend:=[] }
def rA (st:jC→LM Unit):List jC→LM Unit
 | []=>oL ()
 | x :: l=>fun s=>if s.opn=true then (st x |>.bind fun _=>rA st l) s else some (.ok () s)
def xW (i:Nat):LM Unit:=fun s=>s.labs[i]?.bind fun t=>if 0<=t.1 then ou i 0 s else some (.ok () s)
def Dz (st:jC->LM Unit)(fu:Nat)(x:jC):LM Unit:=zG x.a (lvalue vis vars fu) |>.bind fun c=>sM vis vars x.n |>.bind fun body=>sM vis vars x.n |>.bind fun behind=>(if x.i.length=0 then oL behind else sM vis vars x.n) |>.bind fun other=>yE body [] |>.bind fun yes=>yE other [] |>.bind fun no=>Em c yes no |>.bind fun _=>ou body 0 |>.bind fun _=>rA st x.d |>.bind fun _=>xL behind |>.bind fun _=>(if other=behind then oL () else ou other 0 |>.bind fun _=>rA st x.i |>.bind fun _=>xL behind) |>.bind fun _=>xW behind
def JW (st:jC->LM Unit)(fu:Nat)(x:jC):LM Unit:=sM vis vars x.n |>.bind fun head=>sM vis vars x.n |>.bind fun body=>sM vis vars x.n |>.bind fun behind=>xL head |>.bind fun _=>ou head 0 |>.bind fun _=>I9 |>.bind fun _=>zG x.a (lvalue vis vars fu) |>.bind fun c=>yE body [] |>.bind fun yes=>yE behind [] |>.bind fun no=>Em c yes no |>.bind fun _=>ou body 0 |>.bind fun _=>rA st x.d |>.bind fun _=>xL head |>.bind fun _=>ou behind 0
def LH (h:Nat):LM Unit:=fun s=>if 1000000 < s.hnd.length then none else some (.ok () { s with hnd:=s.hnd ++ [h] })
def LK:LM Unit:=fun s=>if s.hnd=[] then none else some (.ok () { s with hnd:=s.hnd.dropLast })
def QE (st:jC->LM Unit)(x:jC):LM Unit:=sM vis vars x.n |>.bind fun h=>sM vis vars x.n |>.bind fun behind=>LH h |>.bind fun _=>rA st x.d |>.bind fun _=>LK |>.bind fun _=>xL behind |>.bind fun _ s=>s.labs[h]?.bind fun t=>((if 0<=t.1 then ou h 1 |>.bind fun _=>vB (x.f,0) 0 |>.bind fun _=>rA st x.i |>.bind fun _=>xL behind else oL ()) |>.bind fun _=>xW behind) s
def vD:Nat→jC→LM Unit
 | 0,_=>fun _=>none
 | fu+1,x=>fun s=>
  (if x.b=5 then JW vis vars (vD fu) fu x
  else I9 |>.bind fun _=>
   if x.b=1 then Bw vars x
   else if x.b=2 then zG x.e fun t=>zG x.a fun e=>Ez vis vars fu t e
   else if x.b=3 then FQ vis vars fu x |>.bind fun _=>match x.e with
    | []=>oL ()
    | t :: _=>vB (xP t) 0
   else if x.b=4 then Dz vis vars (vD fu) fu x
   else if x.b=6 then (if x.k≠be then FQ vis vars fu x |>.bind fun _=>EK 0 else zG x.a (lvalue vis vars fu) |>.bind EK)
   else if x.b=7 then zG x.a (lvalue vis vars fu) |>.bind xA
   else if x.b=8 then QE vis vars (vD fu) x
   else if x.b=9 then zG x.a (lvalue vis vars fu) |>.bind fun v=>lop [⟨18,0,v,0,0,0,0,0,tY⟩]
   else if x.b=10 then uy 0 |>.bind EK
   else oL ()) { s with stmt:=x.n }
def Fh:List iA→Nat→LM Unit
 | [],_=>oL ()
 | v :: l,i=>fun s=>
  if 8 < v.a then some .lim
  else if v.b=3 then (app s.objs [(⟨0,i,v.a⟩:xQ)]).bind fun o=>Fh l (i+1) { s with omap:=yt s.omap i s.objs.length,objs:=o }
  else Fh l (i+1) s
end
def Po (f:Int):Lw:=⟨f,0,[],[],[],[],0,0,false,0,none,[],[],0,[]⟩
def Rl (vis:Int->Int->Option (List Int))(src:jW)(fu:Nat):LM Unit:=fun s=>match ix? src.a.b s.f with
 | none=>some .rt
 | some fn=>match ix? src.c s.f with
  | none=>some .rt
  | some vs=>(Fh vs 0 |>.bind fun _=>zG fn.d fun x=>sM vis src.c x.n |>.bind fun e=>wQ e |>.bind fun _=>ou e 0 |>.bind fun _=>rA (vD vis src.c fu) fn.d) { s with b:=fn.a.length,ctxs:=[⟨-1,-1,s.f⟩] }
def Lw.code (s:Lw):nI:=⟨s.b,s.blocks,s.ctxs,s.objs⟩
def Gu (vis:Int→Int→Option (List Int))(src:jW)(fu:Nat):Nat→Nat→List nI→Option (List nI × Int)
 | 0,_,acc=>some (acc,0)
 | n+1,f,acc=>(Rl vis src fu (Po f)).bind fun
  | .ok _ s=>(app acc [s.code]).bind fun acc=>Gu vis src fu n (f+1) acc
  | .lim=>some ([],5)
  | .rt=>some ([],4)
def YM (fu:Nat)(vis:jW->Int->Int->Option (List Int))(src:jW):Option (List nI × Int):=Gu (vis src) src fu src.a.b.length 0 []
end Go.Proofs.YtdkneekpdecjbaaGreat
namespace Go.Fw
open Go.RowKit
def aen (a b:Int):Int:=IntKind.i64.wrap ((BitVec.ofInt 64 a &&& BitVec.ofInt 64 b).toNat)
def WB (k:Int):Value:=.int .i64 k
theorem adT {P:Program}{kt:TypeId}{k':IntKind}(h:P.underlying kt=some (.int k')):FK P kt WB:=by
 refine ⟨fun ev k l ents w he=>?_,fun emp k w=>?_,fun k=>?_⟩
 · have key:∀ (l:List (Int × _))(ents:List MapEntry)(i:Nat),ents.map (fun e=>(e.key,e.val))=l.map (fun p=>(WB p.1,ev p.2))->Instr.findNow (.int k') (WB k) ents i=some ((midx l k i).map (fun p=>(p.1,ev p.2))):=by
    intro l
    induction l with
    | nil=>intro ents i he;rw [List.map_nil,List.map_eq_nil_iff] at he;subst he;rfl
    | cons a l ih=>
     intro ents i he
     match ents,he with
     | e :: es,he=>
      simp only [List.map_cons,List.cons.injEq,Prod.mk.injEq] at he;obtain ⟨⟨h1,h2⟩,h3⟩:=he;unfold Instr.findNow;rw [h1];simp only [WB,Instr.sameNow,if_true];by_cases hk:k=a.1
      · rw [show (k == a.1)=true from beq_iff_eq.2 hk];simp only [midx,lF hk,h2,Option.map_some]
      · rw [show (k == a.1)=false from beq_false_of_ne hk];simp only [midx,kQ hk];exact ih es (i+1) h3
   unfold Instr.findKey;rw [Sem.run_bind,run_underlying h w];simp only [Result.andThen_ok,key l ents 0 he];rfl
 · unfold Instr.checkKey;rw [Sem.run_bind,run_underlying h w];simp [WB]
 · simp [WB,Instr.sameBits]
section
variable {P:Program}{w:World}{ρ:Operand->Value}{d:Option Nat}{ty:TypeId}{pos:String}{af:Array Edge}{g:Option (Nat × Bool)}
theorem ac7 {t t':TypeId}{x y:Operand}{f0 f1 f2:Field}{a b c a' b' c':Int}(ht:P.underlying t=some (.struct #[f0,f1,f2]))(hf:(RS P f0 0 && RS P f1 1 && RS P f2 2)=true)(hp:P.stoodInHeld t=false)(hm:P.eqGuardType P.depth t=false)(hx:ρ x=.agg #[.int .i64 a,.int .i64 b,.int .i64 c])(hy:ρ y=.agg #[.int .i64 a',.int .i64 b',.int .i64 c']):Yl P ρ (.binOp .eql t x y t') d ty pos af g w (.bool (decide ([a,b,c]=[a',b',c']))):=by have h1:=run_eql_struct (P:=P) w t #[.int .i64 a,.int .i64 b,.int .i64 c] #[.int .i64 a',.int .i64 b',.int .i64 c'];rw [XJ ht hf hp] at h1;have h2:=run_eqGuard_agg (P:=P) w .eql t x y #[.int .i64 a,.int .i64 b,.int .i64 c] #[.int .i64 a',.int .i64 b',.int .i64 c'] hm;simp only [Yl,execOp,hx,hy,Sem.run_bind,h2,Result.andThen_ok,h1];rfl
end
section
variable {P:Program}{w:World}{ρ:Operand->Value}{d:Option Nat}{ty:TypeId}{pos:String}{af:Array Edge}{g:Option (Nat × Bool)}
theorem yR {t e:TypeId}{x y:Operand}{b o n:Nat}{k:IntKind}{i:Int}{z:Value}{s by_:Nat}(j:Nat)(ht:P.underlying t=some (.array n e))(he:TI P e z s by_)(hx:ρ x=.pointer (some ⟨b,o,none⟩))(hy:ρ y=.int k i)(hi:i=(j:Int))(hj:j < n):Yl P ρ (.indexAddr t x y) d ty pos af g w (.pointer (some ⟨b,o+j * s,none⟩)):=by
 subst hi;obtain ⟨i,hi1,hi2,hi3,hi4⟩:=he;have h2:(0:Int)<=j/\(j:Int) < n:=by omega
 simp [Yl,execOp,hx,hy,Instr.indexAt,Instr.sureAddr,run_underlying ht,asIntOf,sizeOf,typeInfo,hi1,hi3,Addr.add_lit,hj]
variable {x y:Operand}{k:IntKind}{a b:Int}{t t':TypeId}
theorem ahp (hx:ρ x=.int k a)(hy:ρ y=.int k b):Yl P ρ (.binOp .and t x y t') d ty pos af g w (.int k (k.wrap ((BitVec.ofInt k.bits a &&& BitVec.ofInt k.bits b).toNat))):=by simp [Yl,execOp,hx,hy,binOp,eqGuard,Op.intBits]
theorem abh {t t':TypeId}{x y:Operand}{a b:Int}(hx:ρ x=.int .i64 a)(hy:ρ y=.int .i64 b):Yl P ρ (.binOp .and t x y t') d ty pos af g w (.int .i64 (aen a b)):=ahp hx hy
end
section
variable {P:Program}{w:World}
end
theorem YQ {xs vs cur:List Value}{o k:Nat}(hx:cur.take k=xs)(hl:o+vs.length<=k)(hk:k<=cur.length):(cur.take o ++ vs ++ cur.drop (o+vs.length)).take k=xs.take o ++ vs ++ xs.drop (o+vs.length):=by
 subst hx;have h1:(cur.take o).length=o:=by rw [zM];omega
 rw [ES,List.take_append,h1,List.take_append,List.take_of_length_le (by omega),List.take_of_length_le (l:=vs) (by omega),List.take_take,Nat.min_eq_left (by omega),List.drop_take,ES]
 congr 3
 omega
theorem Own.agF {P:Program}{w:World}{base:Nat}{e:TypeId}{sz n c:Nat}{A:Option Addr}{xs:List Value}(h:Own w base e sz A n c xs)(o:Nat)(vs:List Value)(h1:∀ v ∈ vs,v.oneCell'=true)(hn:0 < n)(hl:o+vs.length<=xs.length) :∃ w',(storeCells ⟨oH A,qo A+o,none⟩ vs 0).run P w=.ok () w'/\HZ (oH A) w w'/\Own w' base e sz A n c (xs.take o ++ vs ++ xs.drop (o+vs.length)):=by
 have hlen:=h.1;obtain ⟨_,h0⟩|⟨g,cap,cur,h3,h4,h5,h6,h7,h8,h9⟩:=h.2
 · subst h0;omega
 · injection h3 with h3a h3b h3c;subst h3a;have hcs:cur.toList.length=cur.size:=by simp
   have hk:n * sz<=cur.toList.length:=by have:=congrArg List.length h9;rw [zM] at this;rw [hlen] at this;omega
   have hst:=run_storeCells_at (P:=P) g o e vs 0 cur w h5 (by rw [<-hcs,Nat.add_zero];rw [hlen] at hl;omega) h1;rw [Nat.add_zero] at hst;refine ⟨_,by show (storeCells ⟨g,0+o,none⟩ vs 0).run P w=_;rw [DV];exact hst,HZ.setRow w g _,?_,.inr ⟨g,cap,_,by rw [h3c],h4,setRow_heap w g cur _ e (0,0) h5,h6,h7,?_,?_⟩⟩
   · rw [F9,F9,zM,GV];omega
   · rw [<-h8];simp only [List.size_toArray,F9,zM,GV];have:o+vs.length<=cur.toList.length:=by rw [hlen] at hl;omega
     simp only [Array.length_toList] at *
     omega
   · exact YQ h9 (by rw [hlen] at hl;omega) hk
theorem SQ {sz:Nat}:∀ {cs:List (List Value)}{k o:Nat}{d vs:List Value},cs[k]?=some d→(∀ x ∈ cs,x.length=sz)→o+vs.length≤sz→
  cs.flatten.take (k * sz+o) ++ vs ++ cs.flatten.drop (k * sz+o+vs.length)=(cs.set k (d.take o ++ vs ++ d.drop (o+vs.length))).flatten
 | c :: cs,0,o,d,vs,hk,hs,hl=>by simp only [EC,Dk] at hk;subst hk;have hc:=hs c (Ca ..);rw [List.set_cons_zero,Bh,Bh,Nat.zero_mul,DV,List.take_append_of_le_length (by omega),List.drop_append_of_le_length (by omega)];simp
 | c :: cs,k+1,o,d,vs,hk,hs,hl=>by
  have hc:=hs c (Ca ..);have ih:=SQ (k:=k) (o:=o) (vs:=vs) (by simpa using hk) (fun x hx=>hs x (yO _ hx)) hl;rw [List.set_cons_succ,Bh,Bh,<-ih];have e1:(k+1) * sz+o=c.length+(k * sz+o):=by rw [Nat.succ_mul,hc];omega
  have e2:(k+1) * sz+o+vs.length=c.length+(k * sz+o+vs.length):=by rw [e1];omega
  rw [e2,e1,List.take_length_add_append,List.drop_length_add_append];simp
 | [],_,_,_,_,hk,_,_=>by simp at hk
theorem QC {sz:Nat}:∀ {cs:List (List Value)},(∀ x ∈ cs,x.length=sz)→cs.flatten.length=cs.length * sz
 | [],_=>by simp
 | c :: cs,h=>by rw [Bh,F9,QC fun x hx=>h x (yO _ hx),h c (Ca ..),uM,Nat.succ_mul];omega
section
variable {P:Program}{ρ:Operand->Value}{w w0:World}{Z G:Nat->Prop}{L:List It}{D:List Da}{d:Option Nat}{ty:TypeId}{pos:String}{af:Array Edge}{g:Option (Nat × Bool)}
theorem acQ (hL:Bx w0 w Z G L D)(i:Nat){base c sz k o:Nat}{A:Option Addr}{t e:TypeId}{x y:Operand}{z:Value}{by_:Nat}{cs:List (List Value)}{u u':List Value}(vs:List Value)(hi:L[i]?=some (.own base A c e sz cs))(hk:cs[k]?=some u)(hs:∀ x ∈ cs,x.length=sz)(ht:TI P t z vs.length by_)(hx:ρ x=.pointer (some ⟨oH A,qo A+k * sz+o,none⟩))(hy:(ρ y).cells=vs.toArray)(hl:o+vs.length<=sz)(hc:u.take o ++ vs ++ u.drop (o+vs.length)=u')(h1:vs.all (fun v=>v.oneCell')=true:=by exact rfl) :Zh P ρ ⟨d,.store t x y,ty,pos,af,g⟩ w fun w'=>Bx w0 w' Z G (L.set i (.own base A c e sz (cs.set k u'))) D:=by
 subst hc;obtain ⟨q,hi1,hi2,hi3,hi4⟩:=ht;have hB:=hL.bo i hi;have hkl:=ku hk;have hfl:=QC hs;have hm:k * sz+sz<=cs.length * sz:=by rw [<-Nat.succ_mul];exact Nat.mul_le_mul_right _ hkl
 obtain ⟨w',h2,h3,h4⟩:=hB.agF (P:=P) (k * sz+o) vs (fun v hv=>List.all_eq_true.1 h1 v hv) (by omega) (by omega);rw [SQ hk hs hl] at h4;rw [<-Nat.add_assoc] at h2;refine ⟨w',?_,?_⟩
 · simp [execOp,hx,Instr.storeAt,Instr.sureAddr,storeVar,sizeOf,typeInfo,hi1,hi3,hy,h2]
 · refine hL.put i hi ⟨h3.os,h3.tape,h3.output,h3.size,fun b hb hn=>h3.block b hb fun e=>hn ?_⟩ (it':=.own base A c e sz _) ?_ (fun b hb=>.inl hb)
   · obtain ⟨g0,hg⟩:=hB.VP (by omega);show rowOf A=some b;subst hg;exact e.symm
   · show Own w' base e sz A (cs.set k _).length c (cs.set k _).flatten;rw [wR];exact h4
theorem Bx.abN {α:Type}[Rp α]{base:Nat}{e:TypeId}{sz:Nat}{R:List Rw}{m:List (List α)}(h:Bx w0 w Z G L D)(i j:Nat)(hi:L[i]?=some (.uH base e sz R none))(hj:D[j]?=some (.nA R m)) :Bx w0 w Z G (L.set i (.uH base e sz (R ++ [⟨none,0,[]⟩]) none)) (D.set j (.nA (R ++ [⟨none,0,[]⟩]) (m ++ [[]]))):=by
 have hgetn:∀ {i:Nat}{r:Rw},(R ++ [(⟨none,0,[]⟩:Rw)])[i]?=some r->R[i]?=some r\/r=⟨none,0,[]⟩:=by
   intro i r hi;rw [List.getElem?_append] at hi;split at hi
   · exact .inl hi
   · right;obtain h0 | h0:=Nat.eq_zero_or_pos (i - R.length)
     · rw [h0] at hi;simpa using hi.symm
     · rw [List.getElem?_eq_none (by simp;omega)] at hi;cases hi
 have hfam:=h.at i hi;have h5:Bx w0 w Z G L (D.set j (.nA (R ++ [⟨none,0,[]⟩]) (m ++ [[]]))):=h.KD j (d:=.nA _ _) ((h.d2 j hj).app ⟨kE,trivial⟩);refine h5.put i hi ((Ext.refl w).Hf _) ⟨fun i r h1 _=>?_,fun i j r s b h1 h2 _ _ h3 h4=>?_⟩ (fun b ⟨i,r,h1,_,h3⟩=>?_)
 · obtain h1 | rfl:=hgetn h1
   · exact hfam.1 i r h1 (by simp)
   · exact Own.nil w base e sz
 · obtain h1 | rfl:=hgetn h1
   · obtain h2 | rfl:=hgetn h2
     · exact hfam.2 i j r s b h1 h2 (by simp) (by simp) h3 h4
     · cases h4
   · cases h3
 · obtain h1 | rfl:=hgetn h1
   · exact .inl ⟨i,r,h1,by simp,h3⟩
   · cases h3
end
section
variable {P:Program}{ρ:Operand->Value}{w w0:World}{Z G:Nat->Prop}{L:List It}{D:List Da}{d:Option Nat}{ty:TypeId}{pos:String}{af:Array Edge}{g:Option (Nat × Bool)}
theorem agH (hL:Bx w0 w Z G L D)(i:Nat){k o b:Nat}{t te:TypeId}{x y:Operand}{z:Value}{by_:Nat}{B:List Nat}{C:List (List Value)}{u u':List Value}(vs:List Value)(hi:L[i]?=some (.Qr te B C))(hk:C[k]?=some u)(hb:B[k]?=some b)(ht:TI P t z vs.length by_)(hx:ρ x=.pointer (some ⟨b,o,none⟩))(hy:(ρ y).cells=vs.toArray)(hl:o+vs.length<=u.length)(hc:u.take o ++ vs ++ u.drop (o+vs.length)=u')(h1:vs.all (fun v=>v.oneCell')=true:=by exact rfl) :Zh P ρ ⟨d,.store t x y,ty,pos,af,g⟩ w fun w'=>Bx w0 w' Z G (L.set i (.Qr te B (C.set k u'))) D:=by subst hc;obtain ⟨q,hi1,hi2,hi3,hi4⟩:=ht;obtain ⟨hB,hn⟩:=hL.at i hi;obtain ⟨b',hb',hBk⟩:=hB.get hk;rw [hb] at hb';cases hb';have hst:=run_storeCells_at (P:=P) b o te vs 0 u.toArray w hBk (by simpa using hl) (fun v hv=>List.all_eq_true.1 h1 v hv);rw [Nat.add_zero] at hst;have hc:=HZ.setRow w b (u.take o ++ vs ++ u.drop (o+vs.length)).toArray;refine ⟨_,?_,hL.put i hi ⟨hc.os,hc.tape,hc.output,hc.size,fun k hk hn=>hc.block k hk (by intro e;injection e with e;exact hn (by subst e;exact vS hb))⟩ (it':=.Qr te B _) ⟨hB.set hn hb (hBk.setRow _) fun x _ hne=>setRow_other w b x _ hne,hn⟩ (fun k hk=>.inl hk)⟩;simp [execOp,hx,Instr.storeAt,Instr.sureAddr,storeVar,sizeOf,typeInfo,hi1,hi3,hy,hst]
end
def Zt (p:Int × Int):Value:=.agg #[.int .i64 p.1,.int .i64 p.2]
theorem ab0 {P:Program}{w:World}{t:TypeId}{f0 f1:Field}{a b a' b':Int}(ht:P.underlying t=some (.struct #[f0,f1]))(hf:(RS P f0 0 && RS P f1 1)=true)(hp:P.stoodInHeld t=false) :(Op.equalIn 10000 t (.agg #[.int .i64 a,.int .i64 b]) (.agg #[.int .i64 a',.int .i64 b'])).run P w=.ok (decide ([a,b]=[a',b'])) w:=by
 simp only [Ei] at hf;have hfs:P.fieldsOf t=#[f0,f1]:=by unfold Program.fieldsOf;rw [ht]
 rw [run_equalIn_struct (P:=P) w 9999 t _ _ (by rw [hfs,ht]) hp,hfs];rw [show (#[f0,f1]:Array Field).toList=[f0,f1] from rfl];rw [FT (P:=P) (dp:=9998) hf.1 rfl rfl,FT (P:=P) (dp:=9998) hf.2 rfl rfl];by_cases h1:a=a' <;> by_cases h2:b=b' <;> simp [h1,h2,Op.eqFields]
theorem ahc {P:Program}{t:TypeId}{f0 f1:Field}(ht:P.underlying t=some (.struct #[f0,f1]))(hf:(RS P f0 0 && RS P f1 1)=true)(hp:P.stoodInHeld t=false):FK P t Zt:=by
 refine ⟨fun ev k l ents w he=>?_,fun emp k w=>?_,fun k=>?_⟩
 · have key:∀ (l:List ((Int × Int) × _))(ents:List MapEntry)(i:Nat),ents.map (fun e=>(e.key,e.val))=l.map (fun p=>(Zt p.1,ev p.2))->(Instr.findAsking t (Zt k) ents i).run P w=.ok ((midx l k i).map (fun p=>(p.1,ev p.2))) w:=by
    intro l
    induction l with
    | nil=>intro ents i he;rw [List.map_nil,List.map_eq_nil_iff] at he;subst he;rfl
    | cons a l ih=>
     intro ents i he
     match ents,he with
     | e :: es,he=>
      simp only [List.map_cons,List.cons.injEq,Prod.mk.injEq] at he;obtain ⟨⟨h1,h2⟩,h3⟩:=he;unfold Instr.findAsking;have hq:(Op.equal t (Zt k) e.key).run P w=.ok (decide (k=a.1)) w:=by
        rw [h1];have:=ab0 (P:=P) (w:=w) (a:=k.1) (b:=k.2) (a':=a.1.1) (b':=a.1.2) ht hf hp;have e2:decide ([k.1,k.2]=[a.1.1,a.1.2])=decide (k=a.1):=by
         obtain ⟨x,y⟩:=k;obtain ⟨⟨x',y'⟩,v⟩:=a;by_cases h:(x,y)=(x',y')
         · simp only [Prod.mk.injEq] at h;obtain ⟨rfl,rfl⟩:=h;simp
         · rw [sS h];refine sS fun h'=>h ?_;simp only [List.cons.injEq,and_true] at h';rw [h'.1,h'.2]
        rw [e2] at this;exact this
      rw [Sem.run_bind,hq];simp only [Result.andThen_ok,h2];by_cases hk:k=a.1
      · simp only [sP hk,if_true,midx,lF hk,Option.map_some];rfl
      · simp only [sS hk,midx,kQ hk];exact ih es (i+1) h3
   unfold Instr.findKey;rw [Sem.run_bind,run_underlying ht w];simp only [Result.andThen_ok];cases ents with
   | nil=>
    cases l with
    | nil=>rfl
    | cons a l=>simp at he
   | cons e es=>
    have hn:Instr.findNow (.struct #[f0,f1]) (Zt k) (e :: es) 0=none:=by unfold Instr.findNow;have:Instr.sameNow (.struct #[f0,f1]) (Zt k) e.key=none:=rfl;rw [this]
    rw [hn];exact key l (e :: es) 0 he
 · simp only [Ei] at hf;have hpart : ∀ (f : Field) (o : Nat) (a : Int), RS P f o = true -> (#[Value.int .i64 k.1, .int .i64 k.2] : Array Value)[o]? = some (.int .i64 a) -> (part f.type #[Value.int .i64 k.1, .int .i64 k.2] f.offset).run P w = .ok (.int .i64 a) w /\ (Instr.checkKey emp 9999 f.type (.int .i64 a)).run P w = .ok () w /\ ¬ f.name = "_" := by
    intro f o a h hx;simp only [RS,Ei,bne_iff_ne,ne_eq,beq_iff_eq] at h;obtain ⟨⟨h1,rfl⟩,h3⟩:=h;cases hu:P.underlying f.type with
    | none=>rw [hu] at h3;cases h3
    | some D=>
     rw [hu] at h3;cases D with
     | int q=>
      have hagg:(isAgg f.type).run P w=.ok false w:=by unfold isAgg;rw [Sem.run_bind,run_underlying hu w];simp
      refine ⟨by simp [part,hagg,hx],?_,h1⟩;unfold Instr.checkKey;rw [Sem.run_bind,run_underlying hu w];simp
     | _=>cases h3
   have p0:=hpart f0 0 k.1 hf.1 rfl;have p1:=hpart f1 1 k.2 hf.2 rfl;unfold Instr.checkKey;rw [Sem.run_bind,run_underlying ht w];simp only [Result.andThen_ok,Zt];rw [<-Array.forIn_toList];simp [Sem.run_bind,p0.1,p0.2.1,p1.1,p1.2.1,p0.2.2,p1.2.2]
 · simp [Zt,Instr.sameBits]
section
variable {P:Program}{ρ:Operand->Value}{w w0:World}{Z G:Nat->Prop}{L:List It}{D:List Da}{d:Option Nat}{ty:TypeId}{pos:String}{af:Array Edge}{g:Option (Nat × Bool)}{κ ν:Type}{ek:κ->Value}{ev:ν->Value}
theorem Ov {i b:Option Nat}{l:Option (List (κ × ν))}{l':List (κ × ν)}(h:(It.PX ek ev b l).p w)(hl:l=some l'):∃ q,b=some q/\Mp ek ev w q l':=by
 subst hl;cases b with
 | none=>exact h.elim
 | some q=>exact ⟨q,rfl,h⟩
theorem aeS [DecidableEq κ] (hL:Bx w0 w Z G L D) (i:Nat) {t kt et:TypeId} {x y v:Operand} {b:Option Nat} {l:Option (List (κ × ν))} {l':List (κ × ν)} {k:κ} {u:ν} (hi:L[i]?=some (.PX ek ev b l)) (hl:l=some l') (ht:P.underlying t=some (.map kt et)) (hk:FK P kt ek) (hx:ρ x=.map b) (hy:ρ y=ek k) (hv:ρ v=ev u) :Zh P ρ ⟨d,.mapUpdate t x y v,ty,pos,af,g⟩ w fun w'=>Bx w0 w' Z G (L.set i (.PX ek ev b (some (yt l' k u)))) D:=by obtain ⟨q,rfl,hm⟩:=Ov (i:=none) (hL.at i hi) hl;obtain ⟨w',h1,h2,h3⟩:=aez (P:=P) (ρ:=ρ) (d:=d) (ty:=ty) (pos:=pos) (af:=af) (g:=g) ht hk hm hx hy hv;exact ⟨w',h1,hL.put i hi ⟨h3.os,h3.tape,h3.output,h3.size,fun k hk hn=>h3.block k hk (by intro e;injection e with e;exact hn (congrArg some e.symm))⟩ h2 (fun k hk=>.inl hk)⟩
end
end Go.Fw
set_option maxRecDepth 4000
namespace Go.Proofs.YtdkneekpdecjbaaGreat
open Go.RowKit Go.Fw Go.Proofs.Tryz
structure BC where
 cs:List Value
instance:Rp BC:=⟨10,152,fun _ _ cs x=>cs=x.cs/\cs.length=10/\cs.all (fun v=>v.oneCell')=true,fun h=>h.2.1,fun h=>h.2.2,fun h _=>h⟩
instance:Rp Pc:=⟨2,16,fun _ _ cs p=>cs=[V p.1,V p.2],fun h=>by rw [h];rfl,fun h=>by rw [h];rfl,fun h _=>h⟩
structure PB where
 b:Nat
instance:Rp PB:=⟨1,8,fun _ _ cs p=>cs=[Pt p.b],fun h=>by rw [h];rfl,fun h=>by rw [h];rfl,fun h _=>h⟩
abbrev ekP:Pc->Value:=Zt
structure ahj where
 a1:OA
 c1:Nat
 a2:OA
 c2:Nat
 a3:OA
 c3:Nat
 a4:OA
 c4:Nat
structure Rn where
 B:Nat
 lb:Nat
 ob:Nat
 a:ahj
 src:jW
structure zN where
 bA:OA
 bC:Nat
 R:List Rw
 tc:LV
 cA:OA
 cC:Nat
 oA:OA
 oC:Nat
 oc:LV
 vb:Option Nat
 pA:OA
 pC:Nat
 pc:LV
 hA:OA
 hC:Nat
 hp:List Nat
 bs:List Nat
 lh:LV
abbrev EF (R:Rn)(m:zN)(s:Lw):List Value:=[.slice R.a.a1 R.src.a.a.length R.a.c1,.slice R.a.a2 R.src.a.b.length R.a.c2,.slice R.a.a3 R.src.c.length R.a.c3,.slice R.a.a4 R.src.b.length R.a.c4,V s.f,V s.b,.slice m.bA s.blocks.length m.bC,.slice m.cA s.ctxs.length m.cC,.slice m.oA s.objs.length m.oC,.map (some R.ob),V s.ops,V s.blk,.bool s.opn,V s.next,.map m.vb,.slice m.pA s.pend.length m.pC,.slice m.hA s.hnd.length m.hC,V s.stmt]
def oI:List lN→List Rw→LV→LV
 | b :: bs,r :: R,t :: T=>(V b.a :: (r.hdr ++ t)) :: oI bs R T
 | _,_,_=>[]
def tZ:List (Int × List Pc)→LV→LV
 | t :: l,h :: H=>(V t.1 :: h) :: tZ l H
 | _,_=>[]
abbrev Df (l:List Nat):LV:=l.map fun b=>[Pt b]
def HP (hp bs hnd:List Nat):Prop:=hp.length=hnd.length/\∀ (k i:Nat),hnd[k]?=some i->∃ b:Nat,hp[k]?=some b/\bs[i]?=some b
abbrev Low (R:Rn)(m:zN)(s:Lw):List It:=
 [.box R.lb 90 (EF R m s).toArray,.own R.B m.bA m.bC 69 10 (oI s.blocks m.R m.tc),.uH R.B 73 11 m.R none,.own R.B m.oA m.oC 57 3 m.oc,.map WB Zl R.ob s.omap,.PX ekP Zl m.vb s.vals,.own R.B m.pA m.pC 3 1 m.pc,.own R.B m.hA m.hC 111 1 (Df m.hp),.Qr 170 m.bs (tZ s.labs m.lh)]
abbrev kK (R:Rn)(m:zN)(s:Lw):List Da:=
 [.nA m.R (s.blocks.map (·.c)),.els m.tc (s.blocks.map (·.b)),.els m.oc s.objs,.els m.pc s.pend,.els m.lh (s.labs.map (·.2)),.wp (.l m.cA m.cC s.ctxs) (HP m.hp m.bs s.hnd),.l R.a.a1 R.a.c1 R.src.a.a,.l R.a.a2 R.a.c2 R.src.a.b,.l R.a.a3 R.a.c3 R.src.c,.l R.a.a4 R.a.c4 R.src.b]
def Pb {α:Type}:Lo α→List PanicEntry→Prop
 | .ok _ _,_=>False
 | .lim,ch=>Pch (.iface 83 (.agg #[])) ch
 | .rt,ch=>∃ u,Pch (.iface prog.rt.boundsError u) ch
theorem Pb.then {α β:Type}{q:Lo α}{k:α->LM β}{p:Lo β}{ch:List PanicEntry}(h:Pb q ch)(e:q.then k=some p):Pb p ch:=by
 cases q with
 | ok a s=>exact h.elim
 | lim=>cases e;exact h
 | rt=>cases e;exact h
abbrev Zg (A G:Nat->Prop):Nat->Prop:=fun b=>A b\/G b
def LR {α:Type}(R:Rn)(m:zN)(w0:World)(Z G:Nat->Prop)(p:Lo α)(Vv:zN->α->Value->List Da->Prop):Ending->World->Prop:=RP (fun v w'=>∃ a s' m' ds,p=.ok a s'/\Vv m' a v ds/\(∃ t,m'.bs=m.bs ++ t)/\Bx w0 w' Z G (Low R m' s') (ds ++ kK R m' s')) (fun ch w'=>Pb p ch/\Bx w0 w' Z G [] [])
def CZ {α:Type}(R:Rn)(H:zN->Prop)(g:FuncId)(args:Array Value)(mm:LM α)(Vv:zN->α->Value->List Da->Prop)(Yc:List Da):Prop:=∀ (w:World)(A:Nat->Prop)(m:zN)(s:Lw)(p:Lo α),Pre w A (Low R m s) (Yc ++ kK R m s)->H m->R.B<=w.heap.size->mm s=some p-> Calls prog g args w (LR R m w (Zg A (mD (Low R m s))) (mD (Low R m s)) p Vv)
theorem qw {α:Type}{R:Rn}{H:zN->Prop}{g:FuncId}{args:Array Value}{mm:LM α}{Vv:zN->α->Value->List Da->Prop}{Yc:List Da}(h:∀ (w:World) (Z G:Nat->Prop) (m:zN) (s:Lw) (p:Lo α),Bx w w Z G (Low R m s ++ []) (kK R m s ++ Yc)->(∀ b,G b->Z b)->H m->R.B<=w.heap.size->mm s=some p->Calls prog g args w (LR R m w Z G p Vv)):CZ R H g args mm Vv Yc:=by
 intro w A m s p hP hH hB hm;refine h _ _ _ _ _ _ ((hP.bx.wid fun b hb=>.inl hb).Bl fun d hd=>?_) (fun b hb=>.inr hb) hH hB hm;obtain hd | hd:=qg.1 hd
 · exact List.mem_append_right _ hd
 · exact List.mem_append_left _ hd
def VU:zN->Unit->Value->List Da->Prop:=fun _ _ v ds=>v=.tuple #[]/\ds=[]
def VI:zN->Int->Value->List Da->Prop:=fun _ a v ds=>v=V a/\ds=[]
def VL:zN->Nat->Value->List Da->Prop:=fun m a v ds=>(∃ b,m.bs[a]?=some b/\v=Pt b)/\ds=[]
def VE:zN->nO->Value->List Da->Prop:=fun _ a v ds=>∃ A c,v=.agg #[V a.b,.slice A a.a.length c]/\ds=[.l A c a.a]
theorem lbi {α β:Type}{mm:LM α}{k:α->LM β}{s:Lw}{p:Lo β}(h:(mm.bind k) s=some p):∃ q,mm s=some q/\q.then k=some p:=bs h
theorem Ee {α:Type}{mm:LM α}:LM.bind mm oL=mm:=funext fun s=>by
 unfold LM.bind;cases mm s with
 | none=>rfl
 | some q=>cases q <;> rfl
theorem ZV {α β γ:Type}{mm:LM α}{k:α->LM β}{j:β->LM γ}:(mm.bind k).bind j=mm.bind fun a=>(k a).bind j:=funext fun s=>by
 unfold LM.bind;cases mm s with
 | none=>rfl
 | some q=>cases q <;> rfl
theorem uK {B B':List Nat}{i b:Nat}(h:∃ t,B'=B ++ t)(k:B[i]?=some b):B'[i]?=some b:=by obtain ⟨t,rfl⟩:=h;rw [zQ (ku k)];exact k
theorem lQ {B B' B2:List Nat}(h:∃ t,B'=B ++ t)(k:∃ t,B2=B' ++ t):∃ t,B2=B ++ t:=by obtain ⟨t,rfl⟩:=h;obtain ⟨u,rfl⟩:=k;exact ⟨t ++ u,by simp⟩
theorem Qq {B:List Nat}:∃ t,B=B ++ t:=⟨[],by simp⟩
section
variable {α β:Type}{R:Rn}{H:zN->Prop}{g:FuncId}{args:Array Value}{mm:LM α}{Vv:zN->α->Value->List Da->Prop}{Yc:List Da}
variable {w0 w w1:World}{Z G:Nat->Prop}{X:List It}{Y:List Da}{m:zN}{s:Lw}{q:Lo β}{k:α->LM β}
theorem YP (hc:CZ R H g args mm Vv Yc)(b:Bx w0 w Z G (Low R m s ++ X) (kK R m s ++ Y))(hZ:∀ b,G b->Z b)(hB:R.B<=w0.heap.size)(hH:H m)(hm:(mm.bind k) s=some q)(hY:∀ d ∈ Yc,d ∈ Y) :Calls prog g args w (RP (fun v w'=>∃ a s' m' ds,mm s=some (.ok a s')/\k a s'=some q/\Vv m' a v ds/\(∃ t,m'.bs=m.bs ++ t)/\Bx w0 w' Z G (Low R m' s' ++ X) (kK R m' s' ++ (ds ++ Y))) (fun ch w'=>Pb q ch/\Bx w0 w' Z G [] [])):=by
 obtain ⟨p,hp,hq⟩:=lbi hm;have hpre:Pre w (IU w0 Z (Low R m s ++ X)) (Low R m s) (Yc ++ kK R m s):=b.pre fun d hd=>by
  refine b.da d ?_;obtain hd | hd:=qg.1 hd
  · exact List.mem_append_right _ (hY d hd)
  · exact List.mem_append_left _ hd
 refine (hc _ _ _ _ _ hpre hH (sO hB b.uo.size) hp).mono fun e w' he=>?_;cases e with
 | returned v=>
  obtain ⟨a,s',m',ds,rfl,hv,hbs,hk⟩:=he;refine ⟨a,s',m',ds,hp,hq,hv,hbs,(b.Oy hZ hk).Bl fun d hd=>?_⟩;obtain hd | hd:=qg.1 hd
  · exact List.mem_append_left _ (List.mem_append_right _ hd)
  · obtain hd | hd:=qg.1 hd
    · exact List.mem_append_left _ (List.mem_append_left _ hd)
    · exact List.mem_append_right _ (List.mem_append_right _ hd)
 | panicked ch=>exact ⟨he.1.then hq,((b.Oy hZ he.2).sub (List.nil_sublist _)).Bl fun d hd=>by cases hd⟩
 | outgrown=>exact he.elim
variable {N:Fz}{ops:Array Oper}{K:KK}{rest:List Oper}{f:Fr}{d:Option Nat}{op:Op}{ty:TypeId}{pos:String}{af:Array Edge}
theorem lC (hc:CZ R H g args mm Vv Yc)(he:(execOp (ev f) ⟨d,op,ty,pos,af,none⟩).run prog w=.ok (.enter g args) w)(b:Bx w0 w Z G (Low R m s ++ X) (kK R m s ++ Y))(hZ:∀ b,G b->Z b)(hB:R.B<=w0.heap.size)(hH:H m)(hm:(mm.bind k) s=some q)(kk:∀ a s' m' v ds w',Vv m' a v ds->k a s'=some q->(∃ t,m'.bs=m.bs ++ t)->Bx w0 w' Z G (Low R m' s' ++ X) (kK R m' s' ++ (ds ++ Y))->pq prog N ops K rest (lD f d v) w')(hY:∀ d ∈ Yc,d ∈ Y)(kp:∀ ch w',Pb q ch->Bx w0 w' Z G [] []->K.p f ch w':=by exact fun _ _ h1 h2=>⟨h1,h2⟩):pq prog N ops K (⟨d,op,ty,pos,af,none⟩ :: rest) f w:=
 sCP he (YP hc b hZ hB hH hm hY) (fun ch w' h=>kp ch w' h.1 h.2) fun v w' ⟨a,s',m',ds,_,h1,h2,h3,h4⟩=>kk a s' m' v ds w' h2 h1 h3 h4
end
theorem yn {Y:List Da}:∀ d ∈ ([]:List Da),d ∈ Y:=fun _ h=>by cases h
section
variable {β:Type}{R:Rn}{H:zN->Prop}{g:FuncId}{args:Array Value}{Yc:List Da}
variable {w0 w w1:World}{Z G:Nat->Prop}{X:List It}{Y:List Da}{m:zN}{s:Lw}{q:Lo β}
variable {N:Fz}{ops:Array Oper}{K:KK}{rest:List Oper}{f:Fr}{d:Option Nat}{op:Op}{ty:TypeId}{pos:String}{af:Array Edge}
theorem vQ {mm:LM Unit}{k:Unit->LM β}(hc:CZ R H g args mm VU Yc)(he:(execOp (ev f) ⟨d,op,ty,pos,af,none⟩).run prog w=.ok (.enter g args) w)(b:Bx w0 w Z G (Low R m s ++ X) (kK R m s ++ Y))(hZ:∀ b,G b->Z b)(hB:R.B<=w0.heap.size)(hH:H m)(hm:(mm.bind k) s=some q)(kk:∀ s' m' w',k () s'=some q->(∃ t,m'.bs=m.bs ++ t)->Bx w0 w' Z G (Low R m' s' ++ X) (kK R m' s' ++ Y)->pq prog N ops K rest (lD f d (.tuple #[])) w')(hY:∀ d ∈ Yc,d ∈ Y:=by exact yn)(kp:∀ ch w',Pb q ch->Bx w0 w' Z G [] []->K.p f ch w':=by exact fun _ _ h1 h2=>⟨h1,h2⟩):pq prog N ops K (⟨d,op,ty,pos,af,none⟩ :: rest) f w:=
 lC hc he b hZ hB hH hm (fun a s' m' v ds w' h1 h2 h3 h4=>by obtain ⟨rfl,rfl⟩:=h1;exact kk s' m' w' h2 h3 h4) hY kp
theorem ag7 {mm:LM Unit}{k:Unit->LM β}(hc:CZ R H g args mm VU Yc)(he:(execOp (ev f) ⟨d,op,ty,pos,af,none⟩).run prog w=.ok (.enter g args) w)(b:Bx w0 w Z G (Low R m s ++ X) (kK R m s ++ Y))(hZ:∀ b,G b->Z b)(hB:R.B<=w0.heap.size)(hH:H m)(hm:(mm.bind k) s=some q)(kk:∀ s' m' w',mm s=some (.ok () s')->k () s'=some q->(∃ t,m'.bs=m.bs ++ t)->Bx w0 w' Z G (Low R m' s' ++ X) (kK R m' s' ++ Y)->pq prog N ops K rest (lD f d (.tuple #[])) w')(hY:∀ d ∈ Yc,d ∈ Y:=by exact yn)(kp:∀ ch w',Pb q ch->Bx w0 w' Z G [] []->K.p f ch w':=by exact fun _ _ h1 h2=>⟨h1,h2⟩):pq prog N ops K (⟨d,op,ty,pos,af,none⟩ :: rest) f w:=
 sCP he (YP hc b hZ hB hH hm hY) (fun ch w' h=>kp ch w' h.1 h.2) fun v w' ⟨a,s',m',ds,h0,h1,h2,h3,h4⟩=>by obtain ⟨rfl,rfl⟩:=h2;exact kk s' m' w' h0 h1 h3 h4
theorem Q0 {mm:LM Int}{k:Int->LM β}(hc:CZ R H g args mm VI Yc)(he:(execOp (ev f) ⟨d,op,ty,pos,af,none⟩).run prog w=.ok (.enter g args) w)(b:Bx w0 w Z G (Low R m s ++ X) (kK R m s ++ Y))(hZ:∀ b,G b->Z b)(hB:R.B<=w0.heap.size)(hH:H m)(hm:(mm.bind k) s=some q)(kk:∀ n s' m' w',k n s'=some q->(∃ t,m'.bs=m.bs ++ t)->Bx w0 w' Z G (Low R m' s' ++ X) (kK R m' s' ++ Y)->pq prog N ops K rest (lD f d (V n)) w')(hY:∀ d ∈ Yc,d ∈ Y:=by exact yn)(kp:∀ ch w',Pb q ch->Bx w0 w' Z G [] []->K.p f ch w':=by exact fun _ _ h1 h2=>⟨h1,h2⟩):pq prog N ops K (⟨d,op,ty,pos,af,none⟩ :: rest) f w:=
 lC hc he b hZ hB hH hm (fun a s' m' v ds w' h1 h2 h3 h4=>by obtain ⟨rfl,rfl⟩:=h1;exact kk a s' m' w' h2 h3 h4) hY kp
theorem lCl {mm:LM Nat}{k:Nat->LM β}(hc:CZ R H g args mm VL Yc)(he:(execOp (ev f) ⟨d,op,ty,pos,af,none⟩).run prog w=.ok (.enter g args) w)(b:Bx w0 w Z G (Low R m s ++ X) (kK R m s ++ Y))(hZ:∀ b,G b->Z b)(hB:R.B<=w0.heap.size)(hH:H m)(hm:(mm.bind k) s=some q)(kk:∀ n c s' m' w',m'.bs[n]?=some c->k n s'=some q->(∃ t,m'.bs=m.bs ++ t)->Bx w0 w' Z G (Low R m' s' ++ X) (kK R m' s' ++ Y)->pq prog N ops K rest (lD f d (Pt c)) w')(hY:∀ d ∈ Yc,d ∈ Y:=by exact yn)(kp:∀ ch w',Pb q ch->Bx w0 w' Z G [] []->K.p f ch w':=by exact fun _ _ h1 h2=>⟨h1,h2⟩):pq prog N ops K (⟨d,op,ty,pos,af,none⟩ :: rest) f w:=
 lC hc he b hZ hB hH hm (fun a s' m' v ds w' h1 h2 h3 h4=>by obtain ⟨⟨c,h5,rfl⟩,rfl⟩:=h1;exact kk a c s' m' w' h5 h2 h3 h4) hY kp
theorem WC {mm:LM nO}{k:nO->LM β}(hc:CZ R H g args mm VE Yc)(he:(execOp (ev f) ⟨d,op,ty,pos,af,none⟩).run prog w=.ok (.enter g args) w)(b:Bx w0 w Z G (Low R m s ++ X) (kK R m s ++ Y))(hZ:∀ b,G b->Z b)(hB:R.B<=w0.heap.size)(hH:H m)(hm:(mm.bind k) s=some q)(kk:∀ e A c s' m' w',k e s'=some q->(∃ t,m'.bs=m.bs ++ t)->Bx w0 w' Z G (Low R m' s' ++ X) (kK R m' s' ++ (.l A c e.a :: Y))->pq prog N ops K rest (lD f d (.agg #[V e.b,.slice A e.a.length c])) w')(hY:∀ d ∈ Yc,d ∈ Y:=by exact yn)(kp:∀ ch w',Pb q ch->Bx w0 w' Z G [] []->K.p f ch w':=by exact fun _ _ h1 h2=>⟨h1,h2⟩):pq prog N ops K (⟨d,op,ty,pos,af,none⟩ :: rest) f w:=
 lC hc he b hZ hB hH hm (fun a s' m' v ds w' h1 h2 h3 h4=>by obtain ⟨A,c,rfl,rfl⟩:=h1;exact kk a A c s' m' w' h2 h3 h4) hY kp
end
set_option maxHeartbeats 12800000
section
variable {N:Fz}{ops:Array Oper}{K:KK}{rest:List Oper}{f:Fr}{w:World}{d:Option Nat}{ty:TypeId}{pos:String}{af:Array Edge}{x y z:Operand}
theorem YS {t:TypeId}{a:OA}{n c:Nat}{i:Int}{t2:TypeId}(ht:prog.underlying t=some (.slice t2))(h1:ev f y=.slice a n c)(h2:ev f z=V i)(hi:¬ (0<=i/\i < n))(h:∀ u w',w'=w\/w'=w.drew->K.p f [⟨.iface prog.rt.boundsError u,false,false⟩] w'):pq prog N ops K (⟨d,.indexAddr t y z,ty,pos,af,none⟩ :: rest) f w:=by obtain ⟨w',v,hr,hw⟩:=UH (P:=prog) (w:=w) (d:=d) (ty:=ty) (pos:=pos) (af:=af) (g:=none) ht h1 h2 hi;exact abG hr (h v w' hw)
theorem xq {S1 S:World->Prop}{T':List Nat}{n':Nat}{L:Array Bool}{i:Nat}{t t2:TypeId}{a:OA}{n c:Nat}{iv:Int}(hi:ops[i]?=some ⟨d,.indexAddr t y z,ty,pos,af,none⟩)(ht:prog.underlying t=some (.slice t2))(h1:ev f y=.slice a n c)(h2:ev f z=V iv)(hb:¬ (0<=iv/\iv < n))(h:∀ u w',w'=w\/w'=w.drew->∀ f,K.p f [⟨.iface prog.rt.boundsError u,false,false⟩] w'):CG prog N ops S1 S T' K n' L f w i:=by obtain ⟨w',v,hr,hw⟩:=UH (P:=prog) (w:=w) (d:=d) (ty:=ty) (pos:=pos) (af:=af) (g:=none) ht h1 h2 hb;exact adv hi rfl hr (h v w' hw)
end
theorem ti4:TI prog 4 (.bool false) 1 1:=nY (by kernel_rfl)
theorem oK:TI prog 64 (.agg #[V 0,sn]) 2 32:=nY (by kernel_rfl)
theorem JO:TI prog 67 (.agg #[V 0,V 0,V 0,sn,V 0,sn,V 0,sn]) 8 112:=nY (by kernel_rfl)
theorem BI:TI prog 172 (.agg #[V 0,V 0]) 2 16:=nY (by kernel_rfl)
theorem aeB:TI prog 168 sn 1 24:=nY (by kernel_rfl)
theorem aeg:TI prog 88 sn 1 24:=nY (by kernel_rfl)
theorem UM:TI prog 111 (.pointer none) 1 8:=nY (by kernel_rfl)
theorem agy:TI prog 87 (.map none) 1 8:=nY (by kernel_rfl)
theorem yR {ρ:Operand->Value}{w:World}{d:Option Nat}{ty:TypeId}{pos:String}{af:Array Edge}{g:Option (Nat × Bool)}{t e:TypeId}{x y:Operand}{A:OA}{n c:Nat}{i:Int}{z:Value}{s by_:Nat}(j:Nat)(h5:A=some ⟨oH A,qo A,none⟩)(ht:prog.underlying t=some (.slice e))(he:TI prog e z s by_)(hx:ρ x=.slice A n c)(hy:ρ y=V i)(hi:i=(j:Int))(hj:j < n):Yl prog ρ (.indexAddr t x y) d ty pos af g w (.pointer (some ⟨oH A,qo A+j * s,none⟩)):=by rw [h5] at hx;exact xIdx j ht he hx hy hi hj
theorem KN {w:World}{base:Nat}{e:TypeId}{sz n c:Nat}{A:OA}{xs:List Value}(h:Go.Fw.Own w base e sz A n c xs)(hn:0 < n):A=some ⟨oH A,qo A,none⟩:=by obtain ⟨g,rfl⟩:=h.VP hn;rfl
theorem Zi {α:Type}{l:List α}{i:Int}{x:α}(h:ix? l i=some x):∃ k:Nat,i=(k:Int)/\l[k]?=some x:=by
 unfold ix? at h;split at h
 · cases h
 · exact ⟨i.toNat,by omega,h⟩
theorem ru {α:Type}{l:List α}{i:Int}(h:ix? l i=none):¬ (0<=i/\i < l.length):=by
 unfold ix? at h;split at h
 · omega
 · have:=List.getElem?_eq_none_iff.1 h;omega
section
variable {α:Type}{w w0:World}{Z G:Nat->Prop}{L:List It}{D:List Da}
theorem bno (b:Bx w0 w Z G L D):Bx w0 w Z G [] []:=b.ad [] []
theorem prt (b:Bx w0 w Z G L D)(u:Value)(w':World)(h:w'=w\/w'=w.drew):Pb (Lo.rt:Lo α) [⟨.iface prog.rt.boundsError u,false,false⟩]/\Bx w0 w' Z G [] []:=by
 refine ⟨⟨u,aee _⟩,?_⟩;obtain rfl | rfl:=h
 · exact bno b
 · exact bno b.drew
theorem aaC (b:Bx w0 w Z G L D):Pb (Lo.lim:Lo α) [⟨.iface 83 (.agg #[]),false,false⟩]/\Bx w0 w Z G [] []:=⟨aee _,bno b⟩
end
theorem aau {N:Fz}{ops:Array Oper}{K:KK}{rest:List Oper}{f:Fr}{w:World}{a b:Nat}{d:Option Nat}{ty ty2 ty3:TypeId}{pos pos2 pos3:String}{af af2 af3:Array Edge}(hab:(lD (lD f (some a) (.agg #[])) (some b) (.iface 83 (.agg #[]))) b=.iface 83 (.agg #[]))(kp:∀ f,K.p f [⟨.iface 83 (.agg #[]),false,false⟩] w):pq prog N ops K (⟨some a,.build 83 #[],ty,pos,af,none⟩ :: ⟨some b,.makeInterface 83 (.tmp a),ty2,pos2,af2,none⟩ :: ⟨d,.panic (.tmp b),ty3,pos3,af3,none⟩ :: rest) f w:=by
 have e:(Instr.build 83 #[]).run prog w=.ok (.agg #[]) w:=by kernel_rfl
 have h1:(execOp (ev f) ⟨some a,.build 83 #[],ty,pos,af,none⟩).run prog w=.ok (.value (.agg #[])) w:=by simp [execOp,e]
 refine jJ h1 ?_;refine jJ (ahd (v:=.agg #[]) ⟨.struct #[],by kernel_rfl,rfl⟩ ?_) ?_
 · show lD f (some a) (.agg #[]) a=_;simp [lD,upd]
 exact acu hab (kp _)
theorem GR:∀ {bl:List lN}{R:List Rw}{T:LV},R.length=bl.length→T.length=bl.length→(oI bl R T).length=bl.length
 | [],_,_,_,_=>by simp [oI]
 | b :: bl,r :: R,t :: T,h1,h2=>by rw [oI,uM,GR (by simpa using h1) (by simpa using h2),uM]
 | _ :: _,[],_,h,_=>by simp at h
 | _ :: _,_ :: _,[],_,h=>by simp at h
theorem LQ:∀ {bl:List lN}{R:List Rw}{T:LV}{k:Nat}{b:lN},R.length=bl.length→T.length=bl.length→bl[k]?=some b→∃ r t,R[k]?=some r∧T[k]?=some t∧(oI bl R T)[k]?=some (V b.a :: (r.hdr ++ t))
 | b :: bl,r :: R,t :: T,0,_,_,_,h=>by simp only [EC,Dk] at h;subst h;exact ⟨r,t,rfl,rfl,rfl⟩
 | b :: bl,r :: R,t :: T,k+1,_,h1,h2,h=>LQ (bl:=bl) (R:=R) (T:=T) (k:=k) (by simpa using h1) (by simpa using h2) (by simpa using h)
 | [],_,_,_,_,_,_,h=>by simp at h
 | _ :: _,[],_,_,_,h,_,_=>by simp at h
 | _ :: _,_ :: _,[],_,_,_,h,_=>by simp at h
theorem L8:∀ {bl:List lN}{R:List Rw}{T:LV}{k:Nat}{b:lN}{r:Rw}{t:List Value},R.length=bl.length→T.length=bl.length→(oI bl R T).set k (V b.a :: (r.hdr ++ t))=oI (bl.set k b) (R.set k r) (T.set k t)
 | b :: bl,r :: R,t :: T,0,_,_,_,_,_=>rfl
 | b :: bl,r :: R,t :: T,k+1,_,_,_,h1,h2=>by simp only [oI,List.set_cons_succ];rw [L8 (by simpa using h1) (by simpa using h2)]
 | [],_,_,_,_,_,_,_,_=>by simp [oI]
 | _ :: _,[],_,_,_,_,_,h,_=>by simp at h
 | _ :: _,_ :: _,[],_,_,_,_,_,h=>by simp at h
theorem Ms:∀ {bl:List lN}{R:List Rw}{T:LV}{b:lN}{r:Rw}{t:List Value},R.length=bl.length→T.length=bl.length→oI bl R T ++ [V b.a :: (r.hdr ++ t)]=oI (bl ++ [b]) (R ++ [r]) (T ++ [t])
 | b :: bl,r :: R,t :: T,_,_,_,h1,h2=>by simp only [oI,List.cons_append];rw [Ms (by simpa using h1) (by simpa using h2)]
 | [],[],[],_,_,_,_,_=>rfl
 | [],_ :: _,_,_,_,_,h,_=>by simp at h
 | [],[],_ :: _,_,_,_,_,h=>by simp at h
 | _ :: _,[],_,_,_,_,h,_=>by simp at h
 | _ :: _,_ :: _,[],_,_,_,_,h=>by simp at h
theorem Ht {F:Nat→Prop}{w:World}:∀ {bl:List lN}{R:List Rw}{T:LV}{q:List uG},xC F w T q→∀ x ∈ oI bl R T,x.length=10∧x.all (fun v=>v.oneCell')=true
 | b :: bl,r :: R,t :: T,q :: Q,h,x,hx=>by
  obtain rfl | hx:=nM.1 hx
  · have h1:=Rp.len h.1;have h2:=Rp.one h.1;have h3:t.length=8:=h1;refine ⟨by simp [Rw.hdr,h3],?_⟩;simp only [List.all_cons,List.all_append,Rw.hdr,List.all_nil,h2];rfl
  · exact Ht h.2 x hx
 | _ :: _,_ :: _,_ :: _,[],h,_,_=>h.elim
 | [],_,_,_,_,_,hx=>by simp [oI] at hx
 | _ :: _,[],_,_,_,_,hx=>by simp [oI] at hx
 | _ :: _,_ :: _,[],_,_,_,hx=>by simp [oI] at hx
theorem Ug {F:Nat→Prop}{w:World}:∀ {C:LV},(∀ x ∈ C,x.length=10∧x.all (fun v=>v.oneCell')=true)→xC F w C (C.map BC.mk)
 | [],_=>trivial
 | c :: C,h=>⟨⟨rfl,h c (Ca ..)⟩,Ug fun x hx=>h x (yO _ hx)⟩
theorem WM {F:Nat→Prop}{w:World}:∀ {C l:LV},xC F w C (l.map BC.mk)→C=l
 | [],[],_=>rfl
 | c :: C,x :: l,h=>by rw [h.1.1,WM h.2]
 | [],_ :: _,h=>h.elim
 | _ :: _,[],h=>h.elim
theorem TR {w0 w:World}{Z G:Nat->Prop}{L:List It}{D:List Da}{R:Rn}{m:zN}{s:Lw}{k:Nat}{bk:lN}(b:Bx w0 w Z G L D)(i j j2:Nat)(hi:L[i]?=some (.own R.B m.bA m.bC 69 10 (oI s.blocks m.R m.tc)))(hj:D[j]?=some (.nA m.R (s.blocks.map (·.c))))(hj2:D[j2]?=some (.els m.tc (s.blocks.map (·.b))))(hk:s.blocks[k]?=some bk) :m.R.length=s.blocks.length/\m.tc.length=s.blocks.length/\(∀ x ∈ oI s.blocks m.R m.tc,x.length=10/\x.all (fun v=>v.oneCell')=true)/\m.bA=some ⟨oH m.bA,qo m.bA,none⟩/\k < s.blocks.length/\∃ r t,m.R[k]?=some r/\m.tc[k]?=some t/\(oI s.blocks m.R m.tc)[k]?=some (V bk.a :: (r.hdr ++ t))/\r.cs.length=bk.c.length/\Cells w (oH m.bA) (qo m.bA+k * 10) (V bk.a :: (r.hdr ++ t)):=by
 have h1:m.R.length=s.blocks.length:=by rw [(b.d2 j hj).len,Dg]
 have h2:m.tc.length=s.blocks.length:=by rw [(b.de j2 hj2).len,Dg]
 have h3:=fun x hx=>Ht (R:=m.R) (bl:=s.blocks) (b.de j2 hj2) x hx;have hl:=GR h1 h2;have hkl:=ku hk;obtain ⟨r,t,hr,ht,hc⟩:=LQ h1 h2 hk;have ho:=b.bo i hi;obtain ⟨r',hr',hE⟩:=(b.d2 j hj).get (k:=k) (x:=bk.c) (by rw [zZ,hk];rfl);rw [hr] at hr';cases hr';refine ⟨h1,h2,h3,KN ho (by omega),hkl,r,t,hr,ht,hc,hE.len,?_⟩;have b2:=b.ko (d:=.els (oI s.blocks m.R m.tc) ((oI s.blocks m.R m.tc).map BC.mk)) (Ug h3);have hi':L[i]?=some (.own R.B m.bA m.bC 69 (Rp.sz BC) (oI s.blocks m.R m.tc)):=hi;exact b2.oc i 0 hi' rfl hc
theorem Qb {R:Rn}{m:zN}{s:Lw}{k:Nat}(b1:lN)(r:Rw)(t:List Value)(h1:m.R.length=s.blocks.length)(h2:m.tc.length=s.blocks.length):Low R { m with R:=m.R.set k r,tc:=m.tc.set k t } { s with blocks:=s.blocks.set k b1 } =
  [.box R.lb 90 (EF R m s).toArray,.own R.B m.bA m.bC 69 10 ((oI s.blocks m.R m.tc).set k (V b1.a :: (r.hdr ++ t))),.uH R.B 73 11 (m.R.set k r) none,.own R.B m.oA m.oC 57 3 m.oc,.map WB Zl R.ob s.omap,.PX ekP Zl m.vb s.vals,.own R.B m.pA m.pC 3 1 m.pc,.own R.B m.hA m.hC 111 1 (Df m.hp),.Qr 170 m.bs (tZ s.labs m.lh)]:=by
 simp only [Low,EF,wR,L8 h1 h2]
theorem MR {R:Rn}{m:zN}{s:Lw}{k:Nat}(b1:lN)(r:Rw)(t:List Value):kK R { m with R:=m.R.set k r,tc:=m.tc.set k t } { s with blocks:=s.blocks.set k b1 } =
  [.nA (m.R.set k r) ((s.blocks.map (·.c)).set k b1.c),.els (m.tc.set k t) ((s.blocks.map (·.b)).set k b1.b),.els m.oc s.objs,.els m.pc s.pend,.els m.lh (s.labs.map (·.2)),.wp (.l m.cA m.cC s.ctxs) (HP m.hp m.bs s.hnd),.l R.a.a1 R.a.c1 R.src.a.a,.l R.a.a2 R.a.c2 R.src.a.b,.l R.a.a3 R.a.c3 R.src.c,.l R.a.a4 R.a.c4 R.src.b]:=by
 simp only [kK,List.map_set]
theorem CX:∀ {l:List (Int × List Pc)}{H:LV},H.length=l.length→(tZ l H).length=l.length
 | [],_,_=>by simp [tZ]
 | t :: l,h :: H,e=>by rw [tZ,uM,CX (by simpa using e),uM]
 | _ :: _,[],e=>by simp at e
theorem LZ:∀ {l:List (Int × List Pc)}{H:LV}{k:Nat}{t:Int × List Pc},H.length=l.length→l[k]?=some t→∃ h,H[k]?=some h∧(tZ l H)[k]?=some (V t.1 :: h)
 | t :: l,h :: H,0,_,_,e=>by simp only [EC,Dk] at e;subst e;exact ⟨h,rfl,rfl⟩
 | t :: l,h :: H,k+1,_,h1,e=>LZ (l:=l) (H:=H) (k:=k) (by simpa using h1) (by simpa using e)
 | [],_,_,_,_,e=>by simp at e
 | _ :: _,[],_,_,h,_=>by simp at h
theorem LD:∀ {l:List (Int × List Pc)}{H:LV}{k:Nat}{n:Int}{t:Int × List Pc}{h:List Value},l[k]?=some t→H[k]?=some h→(tZ l H).set k (V n :: h)=tZ (l.set k (n,t.2)) H
 | t :: l,h :: H,0,n,_,_,e1,e2=>by simp only [EC,Dk] at e1 e2;subst e1 e2;rfl
 | t :: l,h :: H,k+1,n,_,_,e1,e2=>by simp only [tZ,List.set_cons_succ];rw [LD (by simpa using e1) (by simpa using e2)]
 | [],_,_,_,_,_,e,_=>by simp at e
 | _ :: _,[],_,_,_,_,_,e=>by simp at e
theorem Ll:∀ {l:List (Int × List Pc)}{H:LV}{t:Int × List Pc}{h:List Value},H.length=l.length→tZ l H ++ [V t.1 :: h]=tZ (l ++ [t]) (H ++ [h])
 | t :: l,h :: H,_,_,e=>by simp only [tZ,List.cons_append];rw [Ll (by simpa using e)]
 | [],[],_,_,_=>rfl
 | [],_ :: _,_,_,e=>by simp at e
 | _ :: _,[],_,_,e=>by simp at e
theorem WI {ρ:Operand->Value}{w:World}{d:Option Nat}{ty:TypeId}{pos:String}{af:Array Edge}{g:Option (Nat × Bool)}{x:Operand}{n:Int}(h:ρ x=V n):(execOp ρ ⟨d,.buildSlice 22 1 #[(0,x)],ty,pos,af,g⟩).run prog w=.ok (.value (.slice (some ⟨w.heap.size,0,none⟩) 1 1)) (w.alloc (.cells #[V n] 3)):=by
 have e:(Instr.buildSlice 22 1 #[(0,V n)]).run prog w=.ok (.slice (some ⟨w.heap.size,0,none⟩) 1 1) (w.alloc (.cells #[V n] 3)):=by kernel_rfl
 simp [execOp,h,e]
theorem Ga {R:Rn}{v:Int}:CZ R (fun _=>True) 170 #[Pt R.lb,V v] (Gt v) VU []:=by refine qw fun w Z G m s p b hZ _ hB hm=>?_;obtain ⟨pe,hpe,hm⟩:=bs hm;cases hm;refine lq func170 rfl ?_;refine uN [(0,Pt R.lb),(1,V v)] jA fun av=>?_;refine kr b ?_;refine o7 (jT b [[V v]] ([v]:List Int) (WI rfl) rfl rfl ⟨rfl,trivial⟩) ?_;rintro _ w1 ⟨b1,rfl,b⟩;refine o7 (kJ b 7 4 rfl rfl underlying22 p9 rfl hB rfl rfl (b.Cj 0 0 rfl rfl) hpe) ?_;rintro _ w2 ⟨A2,c2,cs2,rfl,b⟩;refine kr b ?_;refine kV (t_n b 1 [.slice A2 pe.length c2] rfl JF rfl rfl) fun w3 b=>?_;refine kr b ?_;exact nR rfl ⟨(),_,{ m with pA:=A2,pC:=c2,pc:=cs2 },[],rfl,⟨rfl,rfl⟩,Qq,b.ad [1,2,3,4,5,6,7,8,9] [1,2,3,4,5,6,7,8,9,10]⟩
theorem Wj {n:Nat}(h:n<=9223372036854775807):wr ((n:Int) - 1)=(n:Int) - 1:=by unfold wr;rw [Tp (by omega) (by omega)]
theorem YW {l:List Int}{v:Int}(h:l.getLast?=some v):l[l.length - 1]?=some v/\0 < l.length:=by rw [List.getLast?_eq_getElem?] at h;exact ⟨h,by have:=ku h;omega⟩
theorem JD {R:Rn}:CZ R (fun _=>True) 146 #[Pt R.lb] Ik VI []:=by
 refine qw fun w Z G m s p b hZ _ hB hm=>?_;unfold Ik at hm;refine lq func146 rfl ?_;refine uN [(0,Pt R.lb)] jA fun av=>?_;refine kr b ?_;have hbd:s.pend.length<=9223372036854775807:=(b.vw 6 3 rfl rfl).bd;rw [Wj hbd];cases hl:s.pend.getLast? with
 | none=>
  rw [hl] at hm;cases hm;have h0:s.pend=[]:=List.getLast?_eq_none_iff.1 hl;refine YS underlying22 rfl rfl (by rw [h0];simp) (prt b)
 | some v=>
  rw [hl] at hm;cases hm;obtain ⟨h1,h2⟩:=YW hl;refine jJ (kR underlying22 p9 rfl rfl (by omega) (b.vw 6 3 rfl rfl) h1) ?_;refine jJ (kH underlying3 rfl rfl ((uY (ds:=[V v]) (b.vw 6 3 rfl rfl) h1 (fun _ h=>h)) 0 _ rfl)) ?_;refine kr b ?_;refine jJ (BJ (s.pend.length - 1) underlying22 p9 rfl rfl (by omega) (by have:=(b.vw 6 3 rfl rfl).cap;omega)) ?_;have hr:(s.pend.drop 0).take (s.pend.length - 1 - 0)=s.pend.dropLast:=by rw [List.drop_zero,Nat.sub_zero,List.dropLast_eq_take]
  replace b:=b.shr 6 3 rfl rfl (by omega) hr;refine kr b ?_;have hlen:s.pend.length - 1=s.pend.dropLast.length:=by simp
  rw [hlen];refine kV (t_n b 0 [.slice m.pA s.pend.dropLast.length m.pC] rfl JF rfl rfl) fun w3 b=>?_;refine kr b ?_;refine lG ?_;exact jK rfl (mI rfl) ⟨v,{ s with pend:=s.pend.dropLast },{ m with pc:=m.pc.take (s.pend.length - 1) },[],rfl,⟨rfl,rfl⟩,Qq,b⟩
theorem Zc {R:Rn}{l:List yB}{a:OA}{c:Nat}:CZ R (fun _=>True) 102 #[Pt R.lb,.slice a l.length c] (lop l) VU [.l a c l]:=by
 refine qw fun w Z G m s p b hZ _ hB hm=>?_;unfold lop at hm;refine lq func102 rfl ?_;refine uN [(0,Pt R.lb),(1,.slice a l.length c)] jA fun av=>?_;refine kr b ?_;refine kV (t_n b 0 [V (wr (s.ops+l.length))] rfl p9 rfl rfl) fun w1 b=>?_;refine kr b ?_;refine tL rfl (fun h=>?_) (fun h=>?_)
 · rw [lF h] at hm;cases hm;refine kr b ?_;exact aau rfl fun _=>aaC b
 rw [kQ h] at hm;refine kr b ?_;refine EM b [] fun b=>?_;refine BQ b ?_;cases hb:ix? s.blocks s.blk with
 | none=>
   rw [hb] at hm;cases hm;refine hO 9 (xq rfl underlying48 rfl rfl (ru hb) fun u w' hw _=>?_);exact prt b u w' hw
 | some bk=>
   rw [hb] at hm;obtain ⟨os,hos,hm⟩:=bs hm;cases hm;obtain ⟨k,hk,hbk⟩:=Zi hb;obtain ⟨h1,h2,h3,hA,hkl,r,t,hr,ht,hc,hl,hcell⟩:=TR b 1 0 1 rfl rfl rfl hbk;refine wN 9 rfl ?_;refine dP (yR k hA underlying48 CS rfl rfl hk hkl) (jL kE b) ?_;refine BQ b ?_;refine hD ?_;obtain ⟨a2,c2,cs,hr2,hcl,b⟩:=(b.ad [2,0,1,3,4,5,6,7,8] [0,1,2,3,4,5,6,7,8,9,10]).foc (k:=k) (x:=bk.c) 0 rfl (by rw [zZ,hbk];rfl);rw [hr] at hr2;cases hr2;have hcell1:w1.drew.cell? ⟨oH m.bA,qo m.bA+k * 10+1,none⟩=some (.slice a2 bk.c.length c2):=by rw [<-hcl];exact hcell 1 _ rfl
   refine kr b ?_;refine gC rfl hcell1 rfl ?_;refine kr b ?_;refine o7 (kJ b 0 0 rfl rfl underlying62 KR rfl hB rfl rfl (b.ysD 11 rfl) hos) ?_;rintro _ w2 ⟨A3,c3,cs3,rfl,b⟩;refine kr b ?_;have hcs:cs3.length=os.length:=(b.de 0 rfl).len;refine kV (acQ (o:=1) (u':=V bk.a :: ((⟨A3,c3,cs3⟩:Rw).hdr ++ t)) b 3 [.slice A3 os.length c3] rfl hc (fun x hx=>(h3 x hx).1) aeI rfl rfl (by simp) (by rw [<-hcs];rfl)) fun w3 b=>?_;refine kr b ?_;have b2:=(b.unf 1 0 rfl rfl).ad [1,2,0,3,4,5,6,7,8] [1,2,3,4,5,6,7,8,9,10];have hkn:s.blk.toNat=k:=by omega
   refine nR rfl ⟨(),_,{ m with R:=m.R.set k ⟨A3,c3,cs3⟩,tc:=m.tc.set k t },[],rfl,⟨rfl,rfl⟩,Qq,?_⟩;rw [hkn,BZ];rw [Qb (s:={ s with ops:=wr (s.ops+l.length) }) _ _ _ h1 h2,MR (s:={ s with ops:=wr (s.ops+l.length) }),set_self ht,set_self (l:=s.blocks.map (·.b)) (by rw [zZ,hbk];rfl)];exact b2
theorem GU:jH prog 102:=vT func102
abbrev cO (o:yB):List Value:=[V o.b,V o.e,V o.A,V o.B,V o.N,V o.c,V o.f,V o.d,V o.a.b,V o.a.a,V o.a.c]
section
variable {R:Rn}{w0 w:World}{Z G:Nat->Prop}{X:List It}{Y ds:List Da}{m:zN}{s:Lw}
theorem lf0 (b:Bx w0 w Z G (Low R m s ++ X) (kK R m s ++ Y)):Bx w0 w Z G (Low R m s) ([] ++ kK R m s):=(b.sub (List.sublist_append_left _ _)).Bl fun d hd=>List.mem_append_left _ (by simpa using hd)
theorem y1 {d:Da}{Y:List Da}:∀ x ∈ [d],x ∈ d :: Y:=fun x hx=>by rw [List.mem_singleton] at hx;subst hx;exact Ca ..
theorem lY (b:Bx w0 w Z G (Low R m s ++ X) (kK R m s ++ Y))(i j:List Nat)(hn:nodup i=true:=by exact rfl):Bx w0 w Z G (Low R m s ++ pick X i) (kK R m s ++ pick Y j):=by
 have hp:=List.pairwise_append.1 b.pw;have hm:∀ x ∈ pick X i,x ∈ X:=fun x hx=>by obtain ⟨k,_,hk⟩:=D7 hx;exact vS hk
 have b1:Bx w0 w Z G (pick X i) (kK R m s ++ Y):=(b.sub (List.sublist_append_right _ _)).arr i hn;refine Bx.Bl ⟨b.uo,fun it hi=>?_,List.pairwise_append.2 ⟨hp.1,b1.pw,fun x hx y hy=>hp.2.2 x hx y (hm y hy)⟩,fun d hd=>d.mv (b.da d hd) (.same fun k hk _=>⟨hk.1,fun it hi=>hk.2 it ?_⟩)⟩ fun d hd=>?_
 · obtain hi | hi:=qg.1 hi
   · exact b.it it (List.mem_append_left _ hi)
   · exact b.it it (List.mem_append_right _ (hm it hi))
 · obtain hi | hi:=qg.1 hi
   · exact List.mem_append_left _ hi
   · exact List.mem_append_right _ (hm it hi)
 · obtain hd | hd:=qg.1 hd
   · exact List.mem_append_left _ hd
   · obtain ⟨k,_,hk⟩:=D7 hd;exact List.mem_append_right _ (vS hk)
variable {N:Fz}{ops:Array Oper}{K:KK}{rest:List Oper}{f:Fr}{d:Option Nat}{op:Op}{ty:TypeId}{pos:String}{af:Array Edge}{L:List It}{D:List Da}
theorem FD (h:Bx w0 w Z G (L ++ X) D){t:TypeId}{cs:Array Value}(e:(execOp (ev f) ⟨d,op,ty,pos,af,none⟩).run prog w=.ok (.value (.pointer (some ⟨w.heap.size,0,none⟩))) (w.alloc (.cells cs t)))(k:∀ w' b,Bx w0 w' Z G (L ++ (X ++ [.box b t cs])) D->pq prog N ops K rest (lD f d (.pointer (some ⟨b,0,none⟩))) w'):pq prog N ops K (⟨d,op,ty,pos,af,none⟩ :: rest) f w:=
 qZ h e fun w' b h=>k w' b (h.perm (by rw [<-ES];exact (List.perm_append_comm (l₁:=[_]) (l₂:=L ++ X))))
theorem WJ {ρ:Operand->Value}{g:Option (Nat × Bool)}{x:Operand}{o:yB}(h:ρ x=.agg (cO o).toArray):(execOp ρ ⟨d,.buildSlice 62 1 #[(0,x)],ty,pos,af,g⟩).run prog w=.ok (.value (.slice (some ⟨w.heap.size,0,none⟩) 1 1)) (w.alloc (.cells (cO o).toArray 73)):=by
 have e:(Instr.buildSlice 62 1 #[(0,.agg (cO o).toArray)]).run prog w=.ok (.slice (some ⟨w.heap.size,0,none⟩) 1 1) (w.alloc (.cells (cO o).toArray 73)):=by kernel_rfl
 simp [execOp,h,e]
theorem lOp {β:Type}{q:Lo β}{k:Unit->LM β}{o:yB}{x:Operand}{e:Nat}{ty2:TypeId}{pos2:String}{af2:Array Edge}(b:Bx w0 w Z G (Low R m s ++ X) (kK R m s ++ Y))(hZ:∀ b,G b->Z b)(hB:R.B<=w0.heap.size)(hm:((lop [o]).bind k) s=some q)(hx:ev f x=.agg (cO o).toArray)(he:∀ A w',(execOp (ev (lD f (some e) (.slice A 1 1))) ⟨d,op,ty2,pos2,af2,none⟩).run prog w'=.ok (.enter 102 #[Pt R.lb,.slice A 1 1]) w')(kk:∀ s' m' w' A,k () s'=some q->(∃ t,m'.bs=m.bs ++ t)->Bx w0 w' Z G (Low R m' s' ++ X) (kK R m' s' ++ Y)->pq prog N ops K rest (lD (lD f (some e) (.slice A 1 1)) d (.tuple #[])) w')(kp:∀ f ch w',Pb q ch->Bx w0 w' Z G [] []->K.p f ch w':=by exact fun _ _ _ h1 h2=>⟨h1,h2⟩):pq prog N ops K (⟨some e,.buildSlice 62 1 #[(0,x)],ty,pos,af,none⟩ :: ⟨d,op,ty2,pos2,af2,none⟩ :: rest) f w:=by
 refine o7 (jT b [cO o] ([o]:List yB) (WJ hx) (by simp) rfl ⟨rfl,trivial⟩) ?_;rintro _ w1 ⟨b1,rfl,b⟩;have b:=b.KS hZ 0 0 rfl rfl;have b:Bx w0 w1 Z G (Low R m s ++ X) (kK R m s ++ (.l (some ⟨b1,0,none⟩) 1 [o] :: Y)):=b.Bl fun d hd=>by
   obtain hd | hd:=qg.1 hd
   · exact yO _ (List.mem_append_left _ hd)
   · obtain rfl | hd:=nM.1 hd
     · exact Ca ..
     · exact yO _ (List.mem_append_right _ hd)
 refine vQ Zc (he _ _) b hZ hB kE hm (fun s' m' w2 h1 h2 b=>kk s' m' w2 _ h1 h2 (b.Bl fun d hd=>?_)) y1 (kp _);obtain hd | hd:=qg.1 hd
 · exact List.mem_append_left _ hd
 · exact List.mem_append_right _ (yO _ hd)
end
theorem Hu:jH prog 147:=vT func147
theorem Ec {ρ:Operand->Value}{w:World}{d:Option Nat}{ty:TypeId}{pos:String}{af:Array Edge}{g:Option (Nat × Bool)}{t:TypeId}{l:List (Nat × Operand)}{l':List (Nat × Value)}{v:Value}(h:l.map (fun p=>(p.1,ρ p.2))=l')(e:(Instr.build t l'.toArray).run prog w=.ok v w):Yl prog ρ (.build t l.toArray) d ty pos af g w v:=by subst h;simp [Yl,execOp,e]
theorem zY {R:Rn}{o:yB}:CZ R (fun _=>True) 147 #[Pt R.lb,.agg (cO o).toArray] (KG o) VI []:=by refine qw fun w Z G m s p b hZ _ hB hm=>lq func147 rfl (uN [(0,Pt R.lb),(1,.agg (cO o).toArray)] jA fun av=>tV (nU (FD b (rD rfl) fun w1 b3 b=>kr b ?_)));refine kV (t_n b 9 [V s.next] rfl p9 rfl rfl) fun w2 b=>kr b ?_;refine kV (t_n b 0 [V (wr (s.next+1))] rfl p9 rfl rfl) fun w3 b=>kr b ?_;refine jJ (kZ (cO { o with e:=s.next }) underlying73 KR rfl (b.bk 9 rfl)) ?_;have b:Bx w w3 Z G (Low R m { s with next:=wr (s.next+1) } ++ [.box b3 73 (cO { o with e:=s.next }).toArray]) (kK R m { s with next:=wr (s.next+1) } ++ []):=b;refine lOp b hZ hB hm rfl (fun _ _=>jO GU rfl) fun s' m' w4 A hm hbs b=>?_;cases hm;refine kr b ?_;exact lG (jK rfl (mI rfl) ⟨_,_,_,[],rfl,⟨rfl,rfl⟩,hbs,lf0 b⟩)
theorem uO {R:Rn}{n:Int}:CZ R (fun _=>True) 114 #[Pt R.lb,V n] (uy n) VI []:=by refine qw fun w Z G m s p b hZ _ hB hm=>lq func114 rfl (uN [(0,Pt R.lb),(1,V n)] jA fun av=>kr b ?_);refine jJ (Ec (v:=.agg (cO ⟨1,0,0,0,n,0,0,0,tY⟩).toArray) rfl (by kernel_rfl)) (Q0 (k:=oL) zY (jO Hu rfl) b hZ hB kE (by rw [Ee];exact hm) fun v s' m' w4 hm hbs b=>?_);cases hm;refine kr b ?_;exact lG (jK rfl (mI rfl) ⟨_,_,_,[],rfl,⟨rfl,rfl⟩,hbs,lf0 b⟩)
theorem UY {R:Rn}:CZ R (fun _=>True) 104 #[Pt R.lb] I9 VU []:=by refine qw fun w Z G m s p b hZ _ hB hm=>lq func104 rfl (uN [(0,Pt R.lb)] jA fun av=>kr b ?_);refine jJ (Ec (v:=.agg (cO ⟨19,0,0,0,s.stmt,0,0,0,tY⟩).toArray) rfl (by kernel_rfl)) (lOp (k:=oL) b hZ hB (by rw [Ee];exact hm) rfl (fun _ _=>jO GU rfl) fun s' m' w4 A hm hbs b=>?_);cases hm;refine kr b ?_;exact nR rfl ⟨_,_,_,[],rfl,⟨rfl,rfl⟩,hbs,lf0 b⟩
theorem Yn {R:Rn}:CZ R (fun _=>True) 150 #[Pt R.lb] Tn VU []:=by refine qw fun w Z G m s p b hZ _ hB hm=>lq func150 rfl (uN [(0,Pt R.lb)] jA fun av=>kr b ?_);refine jJ (Ec (v:=.agg (cO ⟨20,0,0,0,s.stmt,0,0,0,tY⟩).toArray) rfl (by kernel_rfl)) (lOp (k:=oL) b hZ hB (by rw [Ee];exact hm) rfl (fun _ _=>jO GU rfl) fun s' m' w4 A hm hbs b=>?_);cases hm;refine kr b ?_;exact nR rfl ⟨_,_,_,[],rfl,⟨rfl,rfl⟩,hbs,lf0 b⟩
theorem fkP:FK prog 172 Zt:=ahc underlying172 (by kernel_rfl) (by kernel_rfl)
abbrev cP (p:Pc):List Value:=[V p.1,V p.2]
theorem Ib {R:Rn}{p:Pc}{v:Int}:CZ R (fun _=>True) 69 #[Pt R.lb,.agg (cP p).toArray,V v] (vB p v) VU []:=by refine qw fun w Z G m s q b hZ _ hB hm=>?_;obtain ⟨l,hl,hm⟩:=bs hm;refine lq func69 rfl ?_;refine uN [(0,Pt R.lb),(1,.agg (cP p).toArray),(2,V v)] jA fun av=>?_;refine tV (nU ?_);refine FD b (rD rfl) fun w1 b4 b=>?_;refine kr b ?_;refine EM b [6] fun b=>?_;refine BQ b ?_;refine wN 4 rfl ?_;refine dU (fun hu=>kZ (cP p) underlying172 BI rfl (hu.bk 9 rfl)) (jL kE b) ?_;refine BQ b ?_;refine hO 6 (os rfl rfl (aeS b 5 (k:=p) rfl hl underlying87 fkP rfl rfl rfl) fun w2 b=>⟨sy 6 kE,hD ?_⟩);refine tV (nU ?_);refine kr b ?_;refine jJ (Ec (v:=.agg #[V 2,V v,V 0]) rfl (by kernel_rfl)) ?_;have b:Bx w w2 Z G (Low R m { s with vals:=some (yt l p v) } ++ [.box b4 172 (cP p).toArray]) (kK R m { s with vals:=some (yt l p v) } ++ []):=b;refine FD b (jN XK) fun w3 b6 b=>?_;refine kV (mQ b 10 [V 2,V v,V 0] rfl XK rfl rfl) fun w4 b=>?_;refine kr b ?_;refine jJ (kZ [V 2,V v,V 0] underlying71 XK rfl (b.bk 10 rfl)) ?_;refine jJ (Ec (v:=.agg (cO ⟨21,0,0,0,0,0,p.1,p.2,⟨2,v,0⟩⟩).toArray) rfl (by kernel_rfl)) ?_;have b:Bx w w4 Z G (Low R m { s with vals:=some (yt l p v) } ++ [.box b4 172 (cP p).toArray,.box b6 71 #[V 2,V v,V 0]]) (kK R m { s with vals:=some (yt l p v) } ++ []):=b;refine lOp (k:=oL) b hZ hB (by rw [Ee];exact hm) rfl (fun _ _=>jO GU rfl) fun s' m' w5 A hm hbs b=>?_;cases hm;refine kr b ?_;exact nR rfl ⟨_,_,_,[],rfl,⟨rfl,rfl⟩,hbs,lf0 b⟩
abbrev cT (t:uG)(a1:OA)(c1:Nat)(a2:OA)(c2:Nat)(a3:OA)(c3:Nat):List Value:=[V t.b,V t.A,V t.N,.slice a1 t.a.length c1,V t.d.b.b,.slice a2 t.d.b.a.length c2,V t.d.a.b,.slice a3 t.d.a.a.length c3]
theorem Jr {R:Rn}{t:uG}{a1 a2 a3:OA}{c1 c2 c3:Nat}:CZ R (fun _=>True) 149 #[Pt R.lb,.agg (cT t a1 c1 a2 c2 a3 c3).toArray] (lend t) VU [.l a1 c1 t.a,.l a2 c2 t.d.b.a,.l a3 c3 t.d.a.a]:=by
 refine qw fun w Z G m s q b hZ _ hB hm=>?_;unfold lend at hm;refine lq func149 rfl ?_;refine uN [(0,Pt R.lb),(1,.agg (cT t a1 c1 a2 c2 a3 c3).toArray)] jA fun av=>?_;refine tV (nU ?_);refine FD b (rD rfl) fun w1 b3 b=>?_;refine kr b ?_;refine EM b [12] fun b=>?_;refine BQ b ?_;refine wN 9 rfl ?_;refine dU (fun hu=>kZ (cT t a1 c1 a2 c2 a3 c3) underlying67 JO rfl (hu.bk 9 rfl)) (jL kE b) ?_;cases hb:ix? s.blocks s.blk with
 | none=>
  rw [hb] at hm;cases hm;refine hO 10 (xq rfl underlying48 rfl rfl (ru hb) fun u w' hw _=>?_);exact prt b u w' hw
 | some bk=>
  rw [hb] at hm;cases hm;obtain ⟨k,hk,hbk⟩:=Zi hb;obtain ⟨h1,h2,h3,hA,hkl,r,tt,hr,ht,hc,hl,hcell⟩:=TR b 1 0 1 rfl rfl rfl hbk;refine wN 10 rfl ?_;refine dP (yR k hA underlying48 CS rfl rfl hk hkl) (jL kE b) ?_;refine BQ b ?_;have htl:tt.length=8:=by have:=(h3 _ (vS hc)).1;simp [Rw.hdr] at this;omega
  refine hO 12 (os rfl rfl (acQ (o:=2) (u':=V bk.a :: (r.hdr ++ cT t a1 c1 a2 c2 a3 c3)) b 1 (cT t a1 c1 a2 c2 a3 c3) rfl hc (fun x hx=>(h3 x hx).1) JO rfl rfl (by simp) ?_) fun w2 b=>⟨sy 12 kE,hD ?_⟩)
  · rw [List.drop_eq_nil_of_le (by simp [Rw.hdr,htl]),EW];rfl
  refine kr b ?_;refine kV (t_n b 0 [.bool false] rfl ti4 rfl rfl) fun w3 b=>?_;refine kr b ?_;have hE:=(b.de 1 rfl).set k (y:=t) (uG.inn (F:=IU w Z _) (w:=w3) ⟨a1,c1,a2,c2,a3,c3,rfl,b.dl 10 rfl,b.dl 11 rfl,b.dl 12 rfl⟩);replace b:=b.KD 1 (d:=.els _ _) hE;have hkn:s.blk.toNat=k:=by omega
  refine nR rfl ⟨(),_,{ m with R:=m.R.set k r,tc:=m.tc.set k (cT t a1 c1 a2 c2 a3 c3) },[],rfl,⟨rfl,rfl⟩,Qq,?_⟩;rw [hkn,BZ];rw [Qb (s:={ s with opn:=false }) _ _ _ h1 h2,MR (s:={ s with opn:=false }),set_self hr,set_self (l:=s.blocks.map (·.c)) (by rw [zZ,hbk];rfl)];exact b.ad [0,1,2,3,4,5,6,7,8] [0,1,2,3,4,5,6,7,8,9]
theorem EA {w0 w:World}{Z G:Nat->Prop}{L:List It}{D:List Da}{m:zN}{s:Lw}{i c:Nat}{t:Int × List Pc}(b:Bx w0 w Z G L D)(k j:Nat)(hk:L[k]?=some (.Qr 170 m.bs (tZ s.labs m.lh)))(hj:D[j]?=some (.els m.lh (s.labs.map (·.2))))(hc:m.bs[i]?=some c)(ht:s.labs[i]?=some t) :m.lh.length=s.labs.length/\∃ h,m.lh[i]?=some h/\(tZ s.labs m.lh)[i]?=some (V t.1 :: h)/\yA w c 170 (V t.1 :: h).toArray/\Rp.rep (IU w0 Z L) w h t.2:=by
 have h1:m.lh.length=s.labs.length:=by rw [(b.de j hj).len,Dg]
 obtain ⟨h,h2,h3⟩:=LZ h1 ht;obtain ⟨c',h4,h5⟩:=(b.at k hk).1.get h3;rw [hc] at h4;cases h4;obtain ⟨h',h6,h7⟩:=(b.de j hj).get (k:=i) (x:=t.2) (by rw [zZ,ht];rfl);rw [h2] at h6;cases h6;exact ⟨h1,h,h2,h3,h5,h7⟩
theorem aeL {ρ:Operand->Value}{w:World}{d:Option Nat}{ty:TypeId}{pos:String}{af:Array Edge}{g:Option (Nat × Bool)}{x:Operand}(h:ρ x=.agg #[V 0,sn,V 0,V 0,V 0,sn,V 0,sn,V 0,sn]):(execOp ρ ⟨d,.buildSlice 48 1 #[(0,x)],ty,pos,af,g⟩).run prog w=.ok (.value (.slice (some ⟨w.heap.size,0,none⟩) 1 1)) (w.alloc (.cells #[V 0,sn,V 0,V 0,V 0,sn,V 0,sn,V 0,sn] 69)):=by
 have e:(Instr.buildSlice 48 1 #[(0,.agg #[V 0,sn,V 0,V 0,V 0,sn,V 0,sn,V 0,sn])]).run prog w=.ok (.slice (some ⟨w.heap.size,0,none⟩) 1 1) (w.alloc (.cells #[V 0,sn,V 0,V 0,V 0,sn,V 0,sn,V 0,sn] 69)):=by kernel_rfl
 simp [execOp,h,e]
theorem Ot {R:Rn}{i c:Nat}:CZ R (fun m=>m.bs[i]?=some c) 36 #[Pt R.lb,Pt c] (wQ i) VU []:=by
 refine qw fun w Z G m s q b hZ hH hB hm=>?_;obtain ⟨t,ht,hm⟩:=bs hm;refine lq func36 rfl ?_;refine uN [(0,Pt R.lb),(1,Pt c)] jA fun av=>?_;obtain ⟨hl1,h,h2,h3,h5,h7⟩:=EA b 8 4 rfl rfl hH ht;refine kr b ?_;refine gL rfl h5 rfl rfl ?_;refine kr b ?_;refine tL rfl (fun h0=>?_) (fun h0=>?_)
 · rw [lF h0] at hm;cases hm;refine lG ?_;exact nR rfl ⟨_,_,_,[],rfl,⟨rfl,rfl⟩,Qq,lf0 b⟩
 rw [kQ h0] at hm;refine kr b ?_;refine tL rfl (fun h4=>?_) (fun h4=>?_)
 · rw [lF (by omega)] at hm;cases hm;refine kr b ?_;exact aau rfl fun _=>aaC b
 rw [kQ (by omega)] at hm;cases hm;refine kr b ?_;refine kV (agH (o:=0) (u':=V (s.blocks.length:Int) :: h) b 8 [V (s.blocks.length:Int)] rfl h3 hH p9 rfl rfl (by simp) (by simp)) fun w1 b=>?_;refine kr b ?_;refine jJ (Ec (v:=.agg #[V 0,sn,V 0,V 0,V 0,sn,V 0,sn,V 0,sn]) rfl (by kernel_rfl)) ?_;have hR:m.R.length=s.blocks.length:=by rw [(b.d2 0 rfl).len,Dg]
 have hT:m.tc.length=s.blocks.length:=by rw [(b.de 1 rfl).len,Dg]
 have hten:=fun x hx=>Ht (R:=m.R) (bl:=s.blocks) (b.de 1 rfl) x hx;have hlen:=GR hR hT;replace b:=b.ko (d:=.els (oI s.blocks m.R m.tc) ((oI s.blocks m.R m.tc).map BC.mk)) (Ug hten);refine o7 (jT b [[V 0,sn,V 0,V 0,V 0,sn,V 0,sn,V 0,sn]] ([⟨[V 0,sn,V 0,V 0,V 0,sn,V 0,sn,V 0,sn]⟩]:List BC) (aeL rfl) rfl rfl ⟨⟨rfl,rfl,rfl⟩,trivial⟩) ?_;rintro _ w2 ⟨b1,rfl,b⟩;have happ:app ((oI s.blocks m.R m.tc).map BC.mk) [⟨[V 0,sn,V 0,V 0,V 0,sn,V 0,sn,V 0,sn]⟩]=some ((oI s.blocks m.R m.tc ++ [[V 0,sn,V 0,V 0,V 0,sn,V 0,sn,V 0,sn]]).map BC.mk):=by unfold app;rw [lF (by simp [hlen];omega),List.map_append];rfl
 refine o7 (kJ (α:=BC) b 2 1 rfl rfl underlying48 CS rfl hB (by show Value.slice m.bA s.blocks.length m.bC=_;rw [Dg,hlen]) rfl (b.Cj 0 0 rfl rfl) happ) ?_;rintro _ w3 ⟨A2,c2,cs2,rfl,b⟩;have hcs:=WM (b.de 1 rfl);subst hcs;refine kr b ?_;refine kV (t_n b 1 [.slice A2 ((oI s.blocks m.R m.tc ++ [[V 0,sn,V 0,V 0,V 0,sn,V 0,sn,V 0,sn]]).map BC.mk).length c2] rfl aeD rfl rfl) fun w4 b=>?_;refine kr b ?_;replace b:=b.abN (α:=yB) 3 2 rfl rfl;have hE:=(b.de 3 rfl).app (ds:=[[V 0,V 0,V 0,sn,V 0,sn,V 0,sn]]) (m:=[(⟨0,0,0,[],⟨⟨0,[]⟩,⟨0,[]⟩⟩⟩:uG)]) ⟨uG.inn ⟨none,0,none,0,none,0,rfl,l5.nil,l5.nil,l5.nil⟩,trivial⟩;replace b:=b.KD 3 (d:=.els _ _) hE;have b:Bx w w4 Z G _ _:=b.ad [1,2,3,4,5,6,7,8,9] [2,3,4,5,6,7,8,9,10,11];refine nR rfl ⟨(),_,{ m with bA:=A2,bC:=c2,R:=m.R ++ [⟨none,0,[]⟩],tc:=m.tc ++ [[V 0,V 0,V 0,sn,V 0,sn,V 0,sn]] },[],rfl,⟨rfl,rfl⟩,Qq,?_⟩;have e1:oI (s.blocks ++ [MB]) (m.R ++ [⟨none,0,[]⟩]) (m.tc ++ [[V 0,V 0,V 0,sn,V 0,sn,V 0,sn]])=oI s.blocks m.R m.tc ++ [[V 0,sn,V 0,V 0,V 0,sn,V 0,sn,V 0,sn]]:=(Ms hR hT).symm;have e2:(s.blocks ++ [MB]).length=((oI s.blocks m.R m.tc ++ [[V 0,sn,V 0,V 0,V 0,sn,V 0,sn,V 0,sn]]).map BC.mk).length:=by simp [hlen]
 have e3:tZ (s.labs.set i ((s.blocks.length:Int),t.2)) m.lh=(tZ s.labs m.lh).set i (V (s.blocks.length:Int) :: h):=(LD ht h2).symm;have e4:(s.labs.set i ((s.blocks.length:Int),t.2)).map (·.2)=s.labs.map (·.2):=by rw [List.map_set,set_self (by rw [zZ,ht];rfl)]
 have e5:(s.blocks ++ [MB]).map (·.c)=s.blocks.map (·.c) ++ [[]]:=by simp
 have e6:(s.blocks ++ [MB]).map (·.b)=s.blocks.map (·.b) ++ [(⟨0,0,0,[],⟨⟨0,[]⟩,⟨0,[]⟩⟩⟩:uG)]:=by simp
 simp only [Low,kK,EF,e1,e2,e3,e4,e5,e6,BZ];exact b
noncomputable section
def GL (m:jW->Int->Int->Option (List Int)):Prop:=∀ {t:World}{A}{p:jW}{x z a b c d e f h i u},Pre t A [] [.l a b p.a.a,.l c d p.a.b,.l e f p.c,.l h i p.b]->m p x z=some u-> Calls prog 68 #[.agg #[Z a p.a.a b,Z c p.a.b d,Z e p.c f,Z h p.b i],V x,V z] t (rV fun v w=>∃ (j:OA)(k:Nat)(o:LV),v=Z j u k/\Bx t w A (mD []) [O t.heap.size j k 3 Int o] [.els o u])
def kS (fu:Nat)(b:Int):List Gv→Nat→(List Int)→Option (Ld (List Int) ((List Int)))
 | [],_,a=>some (.go a)
 | f :: d,c,a=>
 if f.e≤b then
  if b≤f.d then
   (app a ([(c:Int)]:List Int)).bind fun e=>
   kS fu b d (c+1) e
  else
   kS fu b d (c+1) a
 else
  kS fu b d (c+1) a
def jS (fu:Nat)(c:jW)(b d:Int):Option (List Int):=if b < 0 then some ([]:List Int) else if (c.c.length:Int)<=b then some ([]:List Int) else (ix c.c b).bind fun e=>(kS fu d e 0 ([]:List Int)).bind fun f=>f.el (fun a=>some a) (fun o=>some o)
theorem H9 (fu:Nat):GL (jS fu):=by
 intro S au U x1 W A B C D E F H I r0 hP p;unfold jS at p;have e:=hP.bx;clear hP;generalize hG:mD _=G at e ⊢;refine cf func68 r (q (g (qZ e (rD r) fun w1 b1 e=>s (q9 r) (n (q (q (g (s (mi r) (s (sU r r) (s (mh r) ?_))))))))));obtain ⟨X,p⟩|⟨X,p⟩:=iv p
 ·rw [wu X];refine kX r (kX r (kX r (kX r (kX r (s (mK r r) (n (jQ r (q (g (s (q9 r) (n (lG ?_))))))))))));replace e:=e.Gf Int 3;obtain rfl:=sm p;exact jK r (mI r) ⟨none,0,[],r,e.ad [0] [0]⟩
 rw [wZ X];refine kY r (s (mi r) (kY r (s (I7 r) (kY r (s (l27 r (e.bk 0 r) r) (kY r (s (qG Kz r) (kY r (s (FI r r) (s (lu r r) (n ?_)))))))))));obtain ⟨Y,p⟩|⟨Y,p⟩:=iv p
 ·refine jQ (bt Y) (q (g (s (q9 r) (n (lG ?_)))));replace e:=e.Gf Int 3;obtain rfl:=sm p;exact jK r (mI r) ⟨none,0,[],r,e.ad [0] [0]⟩
 refine jM (bf Y) (wk (q (g (s (q9 r) (n (q (q (g (s (I7 r) (s (l27 r (e.bk 0 r) r) (s (mi r) ?_)))))))))));obtain ⟨u,z,p⟩:=bs p;obtain ⟨k6,a0,z⟩:=kU z;obtain ⟨ab,a1,e⟩:=e.nm 2 rfl z;obtain ⟨v,x,rfl,N⟩:=a1;replace e:=e.ko (d:=.l v x u) N;refine s (kR Kz Gj r r a0 (e.dl 4 r) z) (s (kH Gq r r ((e.dc 1 r) 0 _ r)) (s (qG Gq r) (s (mi r) (n ?_))));replace e:=e.Gf Int 3;have ac:=(e.dl 1 r).bd;obtain ⟨Y8,m,p⟩:=bs p;refine qQ (fun f w=>∃ j a b c,Has f [(7,Z a j b)]/\Bx S w au G [O S.heap.size a b 3 Int c] [.els c j,.l v x u]/\Ld.go j=Y8) (fun J8 a2=>?_) ?_
 ·refine oN (kG (fun aw f w=>∃ t j a b c,aw=u.length - t/\t<=u.length/\Has f [(25,V (t:Int)),(2,V W),(7,Z a j b),(23,Z v u x),(24,V (u.length:Int))]/\Bx S w au G [O S.heap.size a b 3 Int c] [.els c j,.l v x u]/\kS fu W (u.drop t) t j=some Y8) u.length ⟨0,KI,none,0,[],r,uL _,jA,e.ad [0] [0,1],m⟩ ?_);clear e m;rintro aw f w ⟨t,j,a,b,c,rfl,ae,hf,e,m⟩ K8 J;obtain ⟨av,rfl⟩:=nS hf;obtain Q | Q:=xw t u.length
  ·obtain ⟨o,K⟩:=lZ (l:=u) Q;rw [mV K,kS] at m;refine q (g (s (vC r r) (n (q (jQ r (wk (q (oN (q (g (s (mi r) (s (kR Gq vE r r r (e.dl 1 r) K) (s (RG [T o.c,V o.b,V o.f,V o.a,.bool o.g,V o.e,V o.d] NV vE r (e.dl 1 r) K) (qZ e (jN vE) fun af ag e=>s (xi r) (kV (mQ e 0 [T o.c,V o.b,V o.f,V o.a,.bool o.g,V o.e,V o.d] r vE r r) fun ah e=>n (q (g (s (aef r) (s (l3 r (e.bk 0 r) r) (s (mi r) (s (Ns r r) (s (mh r) ?_))))))))))))))))))))));obtain ⟨L,m⟩|⟨L,m⟩:=iv m
   ·rw [wu L];refine kY r (s (mi r) (kY r (s (U8 r) (kY r (s (l3 r (e.bk 0 r) r) (kY r (s (Ns r r) (s (mK r r) (n ?_)))))))));obtain ⟨M,m⟩|⟨M,m⟩:=iv m
    ·refine jQ (bt M) (g (s (vR r) (s (mi r) (o7 (jT e [[V (t:Int)]] ([(t:Int)]:List Int) (DY r) r r ⟨r,y⟩) ?_))));rintro _ ai ⟨aj,rfl,e⟩;obtain ⟨a3,R,m⟩:=bs m;refine o7 (kJ e 2 1 r r DX p9 r (nD _) r r (e.Cj 0 0 r r) R) ?_;rintro _ ak ⟨a4,a5,a6,rfl,e⟩;exact s (q9 r) (n (g (s (lT r r) (s (mi r) (n (J (u.length - (t+1)) _ _ (by omega) ⟨t+1,a3,a4,a5,a6,r,by omega,jA,e.ad [2] [1,2],m⟩))))))
    exact jM (bf M) (wk (g (s (lT r r) (s (mi r) (n (J (u.length - (t+1)) _ _ (by omega) ⟨t+1,j,a,b,c,r,by omega,jA,e.arr [1] r,m⟩))))))
   rw [wZ L];exact kX r (kX r (kX r (kX r (s (lu r r) (n (jM r (wk (g (s (lT r r) (s (mi r) (n (J (u.length - (t+1)) _ _ (by omega) ⟨t+1,j,a,b,c,r,by omega,jA,e.arr [1] r,m⟩))))))))))))
  obtain rfl:t=u.length:=by omega
  rw [mF,kS] at m;exact q (g (s (u6 r r) (n (q (jM r (uw (a2 _ _ ⟨j,a,b,c,jA,e,sm m⟩)))))))
 clear e;rintro f w ⟨j,a,b,c,hf,e,a7⟩;obtain ⟨av,rfl⟩:=nS hf;subst a7;replace p:=gi p;refine q (g (s (vR r) (s (q9 r) (n (lG ?_)))));obtain rfl:=sm p;exact jK r (mI r) ⟨a,b,c,r,e.dp [0]⟩
end
theorem WE {t:Nat}(h:t < 9223372036854775807):wr ((t:Int)+1)=((t+1:Nat):Int):=by unfold wr;rw [Tp (by omega) (by omega)];omega
abbrev cV (x:iA):List Value:=[T x.c,V x.b,V x.f,V x.a,.bool x.g,V x.e,V x.d]
def parts (v:Int)(j:Nat):List Pc:=(List.range j).map fun i=>(v,((i:Nat):Int))
theorem VH {v:Int}{j:Nat}:(parts v j).length=j:=by simp [parts]
theorem Ut {v:Int}{j:Nat}:parts v (j+1)=parts v j ++ [(v,(j:Int))]:=by simp [parts,List.range_succ]
theorem abU {ρ:Operand->Value}{w:World}{d:Option Nat}{ty:TypeId}{pos:String}{af:Array Edge}{g:Option (Nat × Bool)}{x:Operand}{p:Pc}(h:ρ x=.agg (cP p).toArray):(execOp ρ ⟨d,.buildSlice 168 1 #[(0,x)],ty,pos,af,g⟩).run prog w=.ok (.value (.slice (some ⟨w.heap.size,0,none⟩) 1 1)) (w.alloc (.cells (cP p).toArray 172)):=by
 have e:(Instr.buildSlice 168 1 #[(0,.agg (cP p).toArray)]).run prog w=.ok (.slice (some ⟨w.heap.size,0,none⟩) 1 1) (w.alloc (.cells (cP p).toArray 172)):=by kernel_rfl
 simp [execOp,h,e]
theorem RH {N:Fz}{ops:Array Oper}{S1 S:World->Prop}{T:List Nat}{K:KK}{n:Nat}{L:Array Bool}{f:Fr}{w:World}(i j:Nat)(hr:Region.ready .any ops L=[i,j])(h1:CG prog N ops S1 S T K n L f w i)(h2:CG prog N ops S1 S T K n L f w j):nV prog N ops S1 S T K (n+1) L f w:=
 nQ i [j] hr fun k hk=>by
  obtain rfl | hk:=nM.1 hk
  · exact h1
  · rw [List.mem_singleton.1 hk];exact h2
theorem Ig {R:Rn}{fv:Nat}{stmt:Int}:CZ R (fun _=>True) 35 #[Pt R.lb,V stmt] (sM (jS fv R.src) R.src.c stmt) VL []:=by
 refine qw fun w Z G m s q b hZ _ hB hm=>?_;obtain ⟨vl,hvl,hm⟩:=bs hm;obtain ⟨rp,hrp,hm⟩:=bs hm;refine lq func35 rfl (uN [(0,Pt R.lb),(1,V stmt)] jA fun av=>kr b ?_);refine jJ (Ec (v:=.agg #[V (-1),sn]) rfl (by kernel_rfl)) (FD b (rD rfl) fun w1 b11 b=>kr b ?_);refine EM b [] fun b=>BQ b ?_;refine wN 3 rfl (dU (fun hu=>kZ [.slice R.a.a1 R.src.a.a.length R.a.c1,.slice R.a.a2 R.src.a.b.length R.a.c2,.slice R.a.a3 R.src.c.length R.a.c3,.slice R.a.a4 R.src.b.length R.a.c4] underlying30 zR rfl (hu.bk 0 rfl)) (jL kE b) (BQ b ?_));refine hO 9 (oc rfl rfl (jO (vT func68) rfl) (H9 fv (b.pr [] [0,1,2,3,4,5,6,7,8,9] [6,7,8,9] rfl) hvl) ?_);rintro _ w2 ⟨A1,c1,cs1,rfl,hK⟩;have b2:=b.cn [] [0,1,2,3,4,5,6,7,8,9] hK;have b3:Bx w w2 Z G (Low R m s ++ ([] ++ [.box b11 170 #[V (-1),sn]])) (kK R m s ++ []):=b2.ad [1,2,3,4,5,6,7,8,9,10] [1,2,3,4,5,6,7,8,9,10];refine ⟨jL kE b3,BQ b3 ?_⟩;refine hD ?_;have hbd:vl.length<=9223372036854775807:=by rw [<-(b2.de 0 rfl).len];have:=(b2.bo 0 rfl).cap;have h2:cs1.length<=maxLen:=sO this.1 this.2;simp only [maxLen] at h2;omega
 replace b:=(b2.KS hZ 0 0 rfl rfl).Gf Pc 172;have b:Bx w w2 Z G (Low R m s ++ [.box b11 170 #[V (-1),.slice none ([]:List Pc).length 0],.own w.heap.size none 0 172 (Rp.sz Pc) []]) (kK R m s ++ [.l A1 c1 vl,.els [] ([]:List Pc)]):=b.ad [1,2,3,4,5,6,7,8,9,10,0] [2,3,4,5,6,7,8,9,10,11,1,0];refine kr b ?_
 refine kG (fun aw f w'=>∃ (t:Nat)(acc:List Pc)(a1:OA)(c2:Nat)(cs:LV),aw=vl.length - t∧t≤vl.length∧Has f [(0,Pt R.lb),(5,Pt b11),(21,.slice A1 vl.length c1),(22,V (vl.length:Int)),(23,V (t:Int))]∧
     Bx w w' Z G (Low R m s ++ [.box b11 170 #[V (-1),.slice a1 acc.length c2],.own w.heap.size a1 c2 172 (Rp.sz Pc) cs]) (kK R m s ++ [.l A1 c1 vl,.els cs acc])/\NK (ix? R.src.c s.f) (vl.drop t) acc=some rp)
   vl.length ⟨0,[],none,0,[],rfl,uL _,jA,b,hrp⟩ ?_
 clear b b2 b3 hK hrp;rintro aw f w3 ⟨t,acc,a1,c2,cs,rfl,ht,hf,b,hrp⟩ J hJ;obtain ⟨av,rfl⟩:=lg _ _ hf;clear hf;refine kr b ?_;refine tL rfl (fun h=>?_) (fun h=>?_)
 · obtain ⟨v,hv⟩:=lZ (l:=vl) (k:=t) (by omega);rw [mV hv,NK] at hrp;refine kr b ?_;refine jJ (kR underlying22 p9 rfl rfl rfl (b.dl 10 rfl) hv) (jJ (kH underlying3 rfl rfl ((uY (ds:=[V v]) (b.dl 10 rfl) hv (fun _ h=>h)) 0 _ rfl)) (kr b ?_));cases hvs:ix? R.src.c s.f with
   | none=>
     rw [hvs] at hrp;cases hrp;cases hm;refine EM b [15] fun b=>BQ b ?_;refine RH 9 14 (by kernel_rfl) (xq rfl underlying27 rfl rfl (ru hvs) fun u w' hw _=>?_) (oo rfl rfl (ql b (jN vE)) ?_)
     · exact prt b u w' hw
     rintro _ w4 ⟨b8,rfl,b⟩;exact ⟨jL kE b.tl,hO 9 (xq rfl underlying27 rfl rfl (ru hvs) fun u w' hw _=>prt b u w' hw)⟩
   | some vs=>
   rw [hvs] at hrp;obtain ⟨kf,hkf,hvk⟩:=Zi hvs;obtain ⟨cs0,hr0,b⟩:=b.nm 8 rfl hvk;obtain ⟨a5,c5,rfl,hv5⟩:=hr0;replace b:=b.ko (d:=.l a5 c5 vs) hv5;refine EM b [15] fun b=>BQ b ?_;refine wN 9 rfl (dP (kR underlying27 Gj rfl rfl hkf (b.dl 10 rfl) hvk) (jL kE b) (wN 10 rfl (dU (fun hu=>kH underlying53 rfl rfl ((hu.dc 1 rfl) 0 _ rfl)) (jL kE b) ?_)));cases hx:ix? vs v with
   | none=>
     rw [Option.bind_some,hx] at hrp;cases hrp;cases hm;refine RH 12 14 (by kernel_rfl) (xq rfl underlying53 rfl rfl (ru hx) fun u w' hw _=>?_) (oo rfl rfl (ql b (jN vE)) ?_)
     · exact prt b u w' hw
     rintro _ w4 ⟨b8,rfl,b⟩;exact ⟨jL kE b.tl,hO 12 (xq rfl underlying53 rfl rfl (ru hx) fun u w' hw _=>prt b u w' hw)⟩
   | some x=>
   rw [Option.bind_some,hx] at hrp;obtain ⟨kx,hkx,hxk⟩:=Zi hx;refine wN 12 rfl (dP (kR underlying53 vE rfl rfl hkx (b.dl 0 rfl) hxk) (jL kE b) (wN 13 rfl (dU (fun hu=>lK (cV x) underlying55 rfl vE rfl rfl (uY (hu.dl 0 rfl) hxk (fun _ h=>h))) (jL kE b) (hO 14 (oo rfl rfl (ql b (jN vE)) ?_)))));rintro _ w4 ⟨b8,rfl,b⟩;refine ⟨jL kE b.tl,hO 15 (os rfl rfl (mQ b 0 (cV x) rfl vE rfl rfl) fun w5 b=>⟨sy 15 kE,hD ?_⟩)⟩;have b:Bx w w5 Z G (Low R m s ++ [.box b11 170 #[V (-1),.slice a1 acc.length c2],.own w.heap.size a1 c2 172 (Rp.sz Pc) cs,.box b8 55 (cV x).toArray]) (kK R m s ++ [.l A1 c1 vl,.els cs acc]):=b.ad [1,2,3,4,5,6,7,8,9,10,11,0] [2,3,4,5,6,7,8,9,10,11,12,13];refine kr b ?_;refine tL rfl (fun hk=>?_) (fun hk=>?_)
   · dsimp only at hrp;rw [lF hk] at hrp;refine uw (kr b ?_);exact hJ (vl.length - (t+1)) _ _ (by omega) ⟨t+1,acc,a1,c2,cs,rfl,by omega,⟨rfl,rfl,rfl,rfl,congrArg V (WE (by omega)),trivial⟩,lY b [0,1] [0,1],by rw [hvs];exact hrp⟩
   · dsimp only at hrp;rw [kQ hk] at hrp;obtain ⟨acc2,hacc,hrp⟩:=bs hrp;obtain ⟨hcap,rfl⟩:=pY hacc;have hcap:acc.length+x.a.toNat<=1000000000:=by simpa using hcap
     refine kr b ?_
     refine kG (fun aw f w'=>∃ (j:Nat)(a1:OA)(c2:Nat)(cs:LV),aw=x.a.toNat - j∧j≤x.a.toNat∧Has f [(0,Pt R.lb),(5,Pt b11),(7,V v),(21,.slice A1 vl.length c1),(22,V (vl.length:Int)),(23,V (t:Int)),(45,V x.a),(46,V (j:Int))]∧
        Bx w w' Z G (Low R m s ++ [.box b11 170 #[V (-1),.slice a1 (acc ++ parts v j).length c2],.own w.heap.size a1 c2 172 (Rp.sz Pc) cs]) (kK R m s ++ [.l A1 c1 vl,.els cs (acc ++ parts v j)]))
       x.a.toNat ⟨0,a1,c2,cs,rfl,uL _,jA,by rw [show parts v 0=[] from rfl,EW];exact lY b [0,1] [0,1]⟩ ?_
     clear b;rintro aw f w6 ⟨j,a1,c2,cs,rfl,hj,hf,b⟩ J2 hJ2;obtain ⟨av2,rfl⟩:=lg _ _ hf;clear hf;refine kr b ?_;refine tL rfl (fun hlt=>?_) (fun hlt=>?_)
     · have happ:app (acc ++ parts v j) [((v,(j:Int)):Pc)]=some (acc ++ parts v (j+1)):=by unfold app;rw [lF (by simp [VH];omega),Ut,ES]
       refine kr b ?_;refine jJ (Ec (v:=.agg (cP (v,(j:Int))).toArray) rfl (by kernel_rfl)) (o7 (jT b [cP (v,(j:Int))] ([(v,(j:Int))]:List Pc) (abU rfl) rfl rfl ⟨rfl,trivial⟩) ?_);rintro _ w7 ⟨b12,rfl,b⟩;refine o7 (kJ (α:=Pc) b 11 12 rfl rfl underlying168 BI rfl (nD _) rfl rfl (b.Cj 0 0 rfl rfl) happ) ?_;rintro _ w8 ⟨A3,c3,cs3,rfl,b⟩;refine kr b ?_;refine kV (t_n b 10 [.slice A3 (acc ++ parts v (j+1)).length c3] rfl aeB rfl rfl) fun w9 b=>kr b ?_;exact hJ2 (x.a.toNat - (j+1)) _ _ (by omega) ⟨j+1,A3,c3,cs3,rfl,by omega,⟨rfl,rfl,rfl,rfl,rfl,rfl,rfl,congrArg V (WE (by omega)),trivial⟩,b.ad [1,2,3,4,5,6,7,8,9,10,11] [1,2,3,4,5,6,7,8,9,10,11,12]⟩
     · obtain rfl:j=x.a.toNat:=by omega
       refine kr b ?_;refine uw (kr b ?_);exact hJ (vl.length - (t+1)) _ _ (by omega) ⟨t+1,acc ++ parts v x.a.toNat,a1,c2,cs,rfl,by omega,⟨rfl,rfl,rfl,rfl,congrArg V (WE (by omega)),trivial⟩,b,by rw [hvs];exact hrp⟩
 · obtain rfl:t=vl.length:=by omega
   rw [mF,NK] at hrp;cases hrp;cases hm;refine kr b ?_;refine uw (kr b ?_);refine lG ?_;have hlh:m.lh.length=s.labs.length:=by rw [(b.de 4 rfl).len,Dg]
   have hbs:m.bs.length=s.labs.length:=by rw [(b.at 8 rfl).1.len,CX hlh]
   replace b:=b.KS hZ 10 11 rfl rfl;have hE:=(b.de 5 rfl).app (ds:=[[.slice a1 acc.length c2]]) (m:=[acc]) ⟨⟨a1,c2,rfl,b.dl 0 rfl⟩,trivial⟩;replace b:=b.KD 5 (d:=.els _ _) hE;have hQ:Da.ok (.wp (.l m.cA m.cC s.ctxs) (HP m.hp m.bs s.hnd)) _ _:=b.d 6 rfl;have hq2:HP m.hp (m.bs ++ [b11]) s.hnd:=⟨hQ.2.1,fun k i hk=>by obtain ⟨x,h1,h2⟩:=hQ.2.2 k i hk;exact ⟨x,h1,uK ⟨[b11],rfl⟩ h2⟩⟩;replace b:=b.KD 6 (d:=.wp (.l m.cA m.cC s.ctxs) (HP m.hp (m.bs ++ [b11]) s.hnd)) ⟨hQ.1,hq2⟩;replace b:=b.ZL 8 9 (c:=[V (-1),.slice a1 acc.length c2]) (by decide) rfl rfl;refine jK rfl (mI rfl) ⟨_,_,{ m with bs:=m.bs ++ [b11],lh:=m.lh ++ [[.slice a1 acc.length c2]] },[],rfl,⟨⟨b11,?_,rfl⟩,rfl⟩,⟨[b11],rfl⟩,?_⟩
   · show (m.bs ++ [b11])[s.labs.length]?=_;rw [<-hbs];simp
   · have e1:tZ (s.labs ++ [((-1:Int),acc)]) (m.lh ++ [[.slice a1 acc.length c2]])=tZ s.labs m.lh ++ [[V (-1),.slice a1 acc.length c2]]:=(Ll hlh).symm;have e2:(s.labs ++ [((-1:Int),acc)]).map (·.2)=s.labs.map (·.2) ++ [acc]:=by simp
     simp only [Low,kK,EF,e1,e2,BZ];exact b.ad [0,1,2,3,4,5,6,7,8] [1,2,3,4,5,6,7,8,9,10]
end Go.Proofs.YtdkneekpdecjbaaGreat
