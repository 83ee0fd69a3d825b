/- Tables of the program's types, and the steps that need no choice by them. -/
import Derived.Test.YtfglbdkfnphjgaaGreatZ16
import Derived.Test.YtfglbdkfnphjgaaGreatZ4
import Derived.Test.YtfglbdkfnphjgaaGreatLa
import Derived.Test.YtfglbdkfnphjgaaGreatLb
import Derived.Test.YtfglbdkfnphjgaaGreatLc
import Derived.Test.YtfglbdkfnphjgaaGreatLd
import Derived.Test.YtfglbdkfnphjgaaGreatLg
set_option linter.unusedVariables false
namespace Go.Proofs.YtfglbdkfnphjgaaGreat
open Go.RowKit Go.Fw Go.Proofs.Tryz
def tbO (t:Nat):List Nat:=bif Nat.beq t 26 then [0,1] else bif Nat.beq t 30 then [0,2,3] else bif Nat.beq t 39 then [0,1,2,3] else bif Nat.beq t 43 then [0,1,2,3] else bif Nat.beq t 59 then [0] else bif Nat.beq t 62 then [0,1,2] else bif Nat.beq t 65 then [0,1,2] else bif Nat.beq t 69 then [0,4,5,6,7,8,9,10] else bif Nat.beq t 76 then [0,4,5,6,7,8,9,10,14] else bif Nat.beq t 84 then [0,1,2,3] else bif Nat.beq t 90 then [0,4,5,6,7] else bif Nat.beq t 95 then [0,1,2] else bif Nat.beq t 98 then [0,1,2,3,4,5,6] else bif Nat.beq t 103 then [0,1,2] else bif Nat.beq t 109 then [0,1,2,3] else bif Nat.beq t 115 then [0,1] else bif Nat.beq t 122 then [0,1,2,3,4,5,6,7,8,9,10,11,12] else bif Nat.beq t 129 then [0,1] else bif Nat.beq t 132 then [0,1,2,3,4,5,6,7,8] else bif Nat.beq t 135 then [0,1,2,3,4,5] else []
def gtO:List Nat→Nat→Option Nat
 | [],_=>none
 | a :: _,0=>some a
 | _ :: l,n+1=>gtO l n
def fT (t n:Nat):Option Nat:=gtO (tbO t) n
noncomputable def fo (t n:Nat):Option Nat:=match prog.underlying t with
 | some (.struct fs)=>match fs[n]? with
  | some f=>match prog.info? f.type with
   | some i=>bif i.zero.isSome && !Nat.beq i.size 0 then some f.offset else none
   | none=>none
  | none=>none
 | _=>none
def scB (t:Nat):Bool:=Nat.beq (Nat.mod (Nat.shiftRight 0x810000213000840c9200033019c00238 t) 2) 1
def slB (t:Nat):Bool:=Nat.beq (Nat.mod (Nat.shiftRight 0x100000000001000001000084089200013019c00000 t) 2) 1
noncomputable def okT:Bool:=(List.range 207).all fun t=>((List.range 16).all fun n=>(match fT t n with | none=>true | some j=>(match fo t n with | some i=>Nat.beq i j | none=>false))) && (!scB t || (match prog.underlying t with | some D=>!Km D | none=>false)) && (!slB t || (match prog.underlying t with | some (.slice _)=>true | _=>false))
theorem ady:okT=true:=by kernel_rfl
theorem JD {t:Nat}(ht:Nat.blt t 207=true):(((List.range 16).all fun n=>(match fT t n with | none=>true | some j=>(match fo t n with | some i=>Nat.beq i j | none=>false))) && (!scB t || (match prog.underlying t with | some D=>!Km D | none=>false)) && (!slB t || (match prog.underlying t with | some (.slice _)=>true | _=>false)))=true:=by have h:=ady;unfold okT at h;exact List.all_eq_true.1 h t (List.mem_range.2 (by simpa using ht))
section
variable {N:Fz}{ops:Array Oper}{K:KK}{rest:List Oper}{f:Fr}{w:World}{d:Option Nat}{ty:TypeId}{pos:String}{af:Array Edge}{x:Operand}{b o t n j:Nat}
theorem gF (h:ev f x=.pointer (some ⟨b,o,none⟩))(hj:fT t n=some j)(k:pV prog N ops K rest (nU f d (.pointer (some ⟨b,o+j,none⟩))) w)(ht:Nat.blt t 207=true:=by exact rfl)(hn:Nat.blt n 16=true:=by exact rfl):pV prog N ops K (⟨d,.fieldAddr t x n,ty,pos,af,none⟩ :: rest) f w:=by
 have h1:=JD ht;simp only [Dx] at h1;have h2:=List.all_eq_true.1 h1.1.1 n (List.mem_range.2 (by simpa using hn));rw [hj] at h2;dsimp only at h2;cases hf:fo t n with
 | none=>rw [hf] at h2;cases h2
 | some j'=>
  rw [hf] at h2;have hjj:j'=j:=Nat.eq_of_beq_eq_true h2;subst hjj;unfold fo at hf;cases hu:prog.underlying t with
  | none=>rw [hu] at hf;cases hf
  | some D=>
   rw [hu] at hf;cases D with
   | struct fs=>
    dsimp only at hf;cases hfs:fs[n]? with
    | none=>rw [hfs] at hf;cases hf
    | some fd=>
     rw [hfs] at hf;dsimp only at hf;cases hi:prog.info? fd.type with
     | none=>rw [hi] at hf;cases hf
     | some i=>
      rw [hi] at hf;dsimp only at hf;cases hz:i.zero with
      | none=>rw [hz] at hf;cases hf
      | some z=>
       rw [hz] at hf;cases hs:Nat.beq i.size 0 with
       | true=>rw [hs] at hf;cases hf
       | false=>
        rw [hs] at hf;have ho:fd.offset=j':=vK hf;exact kr (UK (k:=j') hu hfs ho ⟨i,hi,hz,rfl,rfl⟩ (fun e=>by rw [e] at hs;cases hs) h) k
   | _=>cases hf
theorem gL {t':TypeId}{cs:Array Value}{v:Value}(h:ev f x=.pointer (some ⟨b,o,none⟩))(hb:nS w b t' cs)(hi:cs[o]?=some v)(hs:scB t=true)(k:pV prog N ops K rest (nU f d v) w)(ht:Nat.blt t 207=true:=by exact rfl):pV prog N ops K (⟨d,.load t x,ty,pos,af,none⟩ :: rest) f w:=by
 have h1:=JD ht;simp only [Dx] at h1;have h2:=h1.1.2;rw [hs,Bool.not_true,Bool.false_or] at h2;cases hu:prog.underlying t with
 | none=>rw [hu] at h2;cases h2
 | some D=>
  rw [hu] at h2;exact kr (jV hu (by simpa using h2) h (hb.cell hi)) k
theorem gN {A:Option Addr}{m c:Nat}(h:ev f x=.slice A m c)(hs:slB t=true)(k:pV prog N ops K rest (nU f d (V (m:Int))) w)(ht:Nat.blt t 207=true:=by exact rfl):pV prog N ops K (⟨d,.call { callee:=.builtin .len,args:=#[x],argTypes:=#[t] },ty,pos,af,none⟩ :: rest) f w:=by
 have h1:=JD ht;simp only [Dx] at h1;have h2:=h1.2;rw [hs,Bool.not_true,Bool.false_or] at h2;cases hu:prog.underlying t with
 | none=>rw [hu] at h2;cases h2
 | some D=>
  rw [hu] at h2;cases D with
  | slice e=>exact kr (lT hu h) k
  | _=>cases h2
end
theorem goC {w0 w:World}{Z G':Nat->Prop}{Lt:List It}{D:List Da}{G R:Prop}(e:Bx w0 w Z G' Lt D)(k:R) (h:Bx w0 w Z G' Lt D->R->G:=by
 intro e k
 repeat (first
  | refine Im ?_
  | refine AX ?_
  | refine LH ?_
  | refine Hz ?_
  | refine pG ?_
  | refine aa0 rfl ?_
  | refine abd rfl ?_
  | refine acM rfl ?_
  | refine aar rfl ?_
  | refine acw rfl ?_
  | refine aNl rfl ?_
  | refine abM rfl ?_
  | refine ab9 rfl ?_
  | refine abx rfl ?_
  | refine ab5 rfl ?_
  | refine aaI rfl ?_
  | refine abL rfl rfl ?_
  | refine aal rfl rfl ?_
  | refine aaG rfl rfl ?_
  | refine aaK rfl rfl ?_
  | refine acL rfl rfl ?_
  | refine abk rfl rfl ?_
  | refine abE rfl rfl ?_
  | refine ab7 rfl rfl ?_
  | refine abC rfl rfl ?_
  | refine abq rfl rfl ?_
  | refine aci rfl rfl ?_
  | refine aOr rfl rfl ?_
  | refine aa4 rfl rfl ?_
  | refine abU rfl ?_
  | refine abH rfl rfl ?_
  | refine acQ rfl rfl ?_
  | refine aam rfl ?_
  | refine acr rfl ?_
  | refine acN rfl ?_
  | refine jN rfl ?_
  | refine jK rfl ?_
  | refine gF rfl rfl ?_
  | refine gN rfl rfl ?_
  | refine gL rfl (e.bk 0 rfl) rfl rfl ?_
  | refine gL rfl (e.bk 1 rfl) rfl rfl ?_
  | refine gL rfl (e.bk 2 rfl) rfl rfl ?_
  | refine gL rfl (e.bk 3 rfl) rfl rfl ?_
  | refine gL rfl (e.bk 4 rfl) rfl rfl ?_
  | refine gL rfl (e.bk 5 rfl) rfl rfl ?_
  | refine gL rfl (e.bk 6 rfl) rfl rfl ?_
  | refine gL rfl (e.bk 7 rfl) rfl rfl ?_
  | refine gL rfl (e.bk 8 rfl) rfl rfl ?_)
 exact k):G:=h e k
theorem Qt:TI prog 40 sn 1 24:=oW (by kernel_rfl)
theorem Xh:TI prog 67 sn 1 24:=oW (by kernel_rfl)
theorem Yj:TI prog 93 sn 1 24:=oW (by kernel_rfl)
theorem acu:TI prog 66 (.pointer none) 1 8:=oW (by kernel_rfl)
theorem Wz:TI prog 92 (.pointer none) 1 8:=oW (by kernel_rfl)
theorem ZB:TI prog 70 (V 0) 1 8:=oW (by kernel_rfl)
theorem adW:TI prog 71 (V 0) 1 8:=oW (by kernel_rfl)
section
variable {N:Fz}{ops:Array Oper}{K:KK}{rest:List Oper}{f:Fr}{w w0:World}{d:Option Nat}{ty:TypeId}{pos:String}{af:Array Edge}{x:Operand}{b o:Nat}{Z G:Nat->Prop}{Lt:List It}{D:List Da}
theorem ZX (h:ev f x=.pointer (some ⟨b,o,none⟩))(k:pV prog N ops K rest (nU f d (.pointer (some ⟨b,o+1,none⟩))) w):pV prog N ops K (⟨d,.fieldAddr 95 x 1,ty,pos,af,none⟩ :: rest) f w:=kr (UK (k:=1) underlying95 rfl rfl ny (by decide) h) k
theorem aL3 {t:TypeId}{cs:Array Value}{v:Value}(h:ev f x=.pointer (some ⟨b,o,none⟩))(hb:nS w b t cs)(hi:cs[o]?=some v)(k:pV prog N ops K rest (nU f d v) w):pV prog N ops K (⟨d,.load 3 x,ty,pos,af,none⟩ :: rest) f w:=kr (jV underlying3 rfl h (hb.cell hi)) k
theorem adb {t:TypeId}{cs:Array Value}{v:Value}(h:ev f x=.pointer (some ⟨b,o,none⟩))(hb:nS w b t cs)(hi:cs[o]?=some v)(k:pV prog N ops K rest (nU f d v) w):pV prog N ops K (⟨d,.load 67 x,ty,pos,af,none⟩ :: rest) f w:=kr (jV underlying67 rfl h (hb.cell hi)) k
theorem adY {t:TypeId}{cs:Array Value}{v:Value}(h:ev f x=.pointer (some ⟨b,o,none⟩))(hb:nS w b t cs)(hi:cs[o]?=some v)(k:pV prog N ops K rest (nU f d v) w):pV prog N ops K (⟨d,.load 93 x,ty,pos,af,none⟩ :: rest) f w:=kr (jV underlying93 rfl h (hb.cell hi)) k
theorem ado {A:Option Addr}{n c:Nat}(h:ev f x=.slice A n c)(k:pV prog N ops K rest (nU f d (V (n:Int))) w):pV prog N ops K (⟨d,.call { callee:=.builtin .len,args:=#[x],argTypes:=#[67] },ty,pos,af,none⟩ :: rest) f w:=kr (lT underlying67 h) k
end
section
variable {ρ:Operand->Value}{w w0:World}{d:Option Nat}{ty:TypeId}{pos:String}{af:Array Edge}{g:Option (Nat × Bool)}{x:Operand}{b o:Nat}
theorem Ua:FB 95:=fb underlying95 rfl rfl ny
theorem UZ:FA 95 1 1:=fa 1 1 underlying95 rfl rfl ny
theorem IX:FA 95 2 2:=fa 2 2 underlying95 rfl rfl Yj
theorem YI:FB 69:=fb underlying69 rfl rfl xL
theorem Iz:FA 69 1 4:=fa 1 4 underlying69 rfl rfl Xh
theorem Yo:FA 69 2 5:=fa 2 5 underlying69 rfl rfl ny
theorem Yy:FA 69 3 6:=fa 3 6 underlying69 rfl rfl ny
theorem ZC:FA 69 4 7:=fa 4 7 underlying69 rfl rfl ny
theorem Zr:FA 69 5 8:=fa 5 8 underlying69 rfl rfl ny
theorem Mt:FA 69 6 9:=fa 6 9 underlying69 rfl rfl Qt
theorem MK:FA 69 7 10:=fa 7 10 underlying69 rfl rfl xg
theorem Sc:LA 40:=la GY rfl
theorem GD:LA 66:=la underlying66 rfl
theorem WH:LA 67:=la underlying67 rfl
theorem Wn:LA 93:=la underlying93 rfl
end
structure qx where
 f:Int
 st:Int
 ws:List (List Int)
inductive Pn (α:Type) where
 | ok (a:α)
 | uP (v:Int)
 | err (e:Int)
 | rt
def Pn.el {α β:Type}(p:Pn α)(f:α->β)(g:∀ {γ:Type},Pn γ):β ⊕ Unit:=match p with | .ok a=>.inl (f a)|_=>.inr ()
def Pn.up {α β:Type}:Pn α→Pn β
 | .ok _=>.rt
 | .uP v=>.uP v
 | .err e=>.err e
 | .rt=>.rt
def Pn.then {α β:Type}:Pn α→(α→Option (Pn β))→Option (Pn β)
 | .ok a,f=>f a
 | .uP v,_=>some (.uP v)
 | .err e,_=>some (.err e)
 | .rt,_=>some .rt
def ix? {α:Type}(l:List α)(i:Int):Option α:=if i < 0 then none else l[i.toNat]?
def CR (op x y:Int):Pn Int:=if op=6 then .ok (wr (x+y)) else if op=7 then .ok (wr (x - y)) else if op=8 then .ok (wr (x * y)) else if op=9 then (if y=0 then .uP 1 else .ok (wr (x.tdiv y))) else if op=10 then (if y=0 then .uP 1 else .ok (x.tmod y)) else if op=11 then .ok (Ij (· &&& ·) x y) else if op=12 then .ok (Ij (· ||| ·) x y) else if op=13 then .ok (Ij (· ^^^ ·) x y) else if op=14 then .ok (Bl (decide (x < y))) else if op=15 then .ok (Bl (decide (x<=y))) else if op=16 then .ok (Bl (decide (x=y))) else if op=17 then .ok (Bl (decide (x≠y))) else .err 4
def O4 (ev:jA->Option (Pn Int))(ws:List (List Int))(e:jA):Option (Pn (Nat × Nat)):=
 match ix? ws e.g with
 | none=>some .rt
 | some l=>
  if e.e=2 then some (if 0<=e.d/\e.d < l.length then .ok (e.g.toNat,e.d.toNat) else .rt)
  else if e.e=3 then
   match e.a with
   | []=>some .rt
   | x :: _=>(ev x).bind fun p=>p.then fun i=>some (if i < 0\/(l.length:Int)<=i then .uP 2 else .ok (e.g.toNat,i.toNat))
  else some (if l=[] then .rt else .ok (e.g.toNat,0))
def Vb (ws:List (List Int))(p:Nat × Nat):Int:=(ws.getD p.1 []).getD p.2 0
def setW (ws:List (List Int))(p:Nat × Nat)(v:Int):List (List Int):=ws.set p.1 ((ws.getD p.1 []).set p.2 v)
def xD:Nat→List (List Int)→jA→Option (Pn Int)
 | 0,_,_=>none
 | fu+1,ws,e=>
  if e.e=0 then some (.ok e.d)
  else if e.e=1\/e.e=2\/e.e=3 then (O4 (xD fu ws) ws e).bind fun p=>p.then fun q=>some (.ok (Vb ws q))
  else if e.e=4 then match e.a with
   | []=>some .rt
   | x :: _=>(xD fu ws x).bind fun p=>p.then fun n=>some (.ok (wr (0 - n)))
  else if e.e=5 then match e.a with
   | []=>some .rt
   | x :: _=>(xD fu ws x).bind fun p=>p.then fun n=>some (.ok (Bl (decide (n=0))))
  else match e.a with
   | []=>some .rt
   | x :: l=>(xD fu ws x).bind fun p=>p.then fun n=>match l with
    | []=>some .rt
    | y :: _=>(xD fu ws y).bind fun p=>p.then fun m=>some (CR e.e n m)
def zq (ev:jA→Option (Pn Int)):List jA→List Int→Option (Pn (List Int))
 | [],acc=>some (.ok acc)
 | x :: l,acc=>(ev x).bind fun p=>p.then fun n=>(app acc [n]).bind fun acc=>zq ev l acc
structure Sg where
 a:qx
 hist:List kC
 out:List Int
def SE (ws:List (List Int)):List Int→List qO→Option (List qO)
 | [],acc=>some acc
 | v :: l,acc=>(ix? ws v).bind fun r=>(app acc [(⟨v,List.replicate r.length true,r⟩:qO)]).bind fun acc=>SE ws l acc
def YX (vis:Int->Int->Option (List Int))(g:qx):Option nK:=(vis g.f g.st).bind fun l=>(SE g.ws l []).bind fun vs=>some ⟨g.f,g.st,vs⟩
def VN (vis:Int→Int→Option (List Int)):List qx→List nK→Option (List nK)
 | [],acc=>some acc
 | g :: l,acc=>(YX vis g).bind fun f=>(app acc [f]).bind fun acc=>VN vis l acc
def event (vis:Int->Int->Option (List Int))(steps:Nat)(rest:List qx)(s:Sg)(id:Int):Option (Pn Unit × Sg):=if steps<=s.hist.length then some (.err 13,s) else (VN vis ((⟨s.a.f,id,s.a.ws⟩:qx) :: rest) []).bind fun fs=>some (.ok (),⟨⟨s.a.f,id,s.a.ws⟩,s.hist ++ [⟨fs⟩],s.out⟩)
abbrev Sm:=Sg->jI->Option (Pn (Option Int) × Sg)
def EJ (sm:Sm):Sg→List jI→Option (Pn (Option Int) × Sg)
 | s,[]=>some (.ok none,s)
 | s,x :: l=>(sm s x).bind fun (p,s)=>match p with
  | .ok none=>EJ sm s l
  | p=>some (p,s)
def BP:List jy→List (List Int)→Option (Pn (List (List Int)))
 | [],acc=>some (.ok acc)
 | v :: l,acc=>if v.a < 0\/8 < v.a then some (.err 4) else (app acc [List.replicate v.a.toNat 0]).bind fun acc=>BP l acc
def Dv:List Int→Nat→List (List Int)→Pn (List (List Int))
 | [],_,ws=>.ok ws
 | v :: l,i,ws=>match ws[i]? with
  | none=>.rt
  | some []=>.rt
  | some (_ :: r)=>Dv l (i+1) (ws.set i (v :: r))
def AB (sm:List qx->Sm)(src:jL)(stk:List qx)(f:Int)(args:List Int)(hist:List kC)(out:List Int):Option (Pn Int × List kC × List Int):=
 if 20<=stk.length then some (.err 5,hist,out)
 else match ix? src.c f with
  | none=>some (.rt,hist,out)
  | some vars=>(BP vars []).bind fun p=>match p with
   | .ok ws=>match Dv args 0 ws with
    | .ok ws=>match ix? src.a.b f with
     | none=>some (.rt,hist,out)
     | some fn=>(EJ (sm stk) ⟨⟨f,0,ws⟩,hist,out⟩ fn.e).bind fun (p,s)=>some (match p with | .ok r=>.ok (r.getD 0)|p=>p.up,s.hist,s.out)
    | p=>some (p.up,hist,out)
   | p=>some (p.up,hist,out)
def one (ev:jA->Option (Pn Int))(l:List jA)(s:Sg){β:Type}(k:Int->Option (Pn β × Sg)):Option (Pn β × Sg):=match l with
 | []=>some (.rt,s)
 | x :: _=>(ev x).bind fun p=>match p with
  | .ok n=>k n
  | p=>some (p.up,s)
def VP (cond:Sg→Option (Pn Int))(body:Sg→Option (Pn (Option Int) × Sg))(ev:Sg→Option (Pn Unit × Sg)):Nat→Sg→Option (Pn (Option Int) × Sg)
 | 0,_=>none
 | n+1,s=>(cond s).bind fun p=>match p with
  | .ok v=>if v=0 then some (.ok none,s) else (body s).bind fun (p,s)=>match p with
   | .ok none=>(ev s).bind fun (p,s)=>match p with
    | .ok _=>VP cond body ev n s
    | p=>some (p.up,s)
   | p=>some (p,s)
  | p=>some (p.up,s)
def Kh (ev:jA->Option (Pn Int))(ws:List (List Int))(l:List jA)(s:Sg){β:Type}(k:Nat × Nat->Option (Pn β × Sg)):Option (Pn β × Sg):=match l with
 | []=>some (.rt,s)
 | x :: _=>(O4 ev ws x).bind fun p=>match p with
  | .ok n=>k n
  | p=>some (p.up,s)
def U1 (ev:jA→Option (Pn Int)):List jA→Option (Pn Int)
 | []=>some .rt
 | e :: _=>ev e
def wdA (ev:jA→Option (Pn Int))(ws:List (List Int)):List jA→Option (Pn (Nat × Nat))
 | []=>some .rt
 | e :: _=>O4 ev ws e
def ED (sm:List qx->Sm)(src:jL)(rest:List qx)(fu:Nat)(s:Sg)(x:jI)(k:Int->Sg->Option (Pn (Option Int) × Sg)):Option (Pn (Option Int) × Sg):=
 (zq (xD fu s.a.ws) x.a []).bind fun p=>match p with
  | .ok l=>(AB sm src (s.a :: rest) x.i l s.hist s.out).bind fun (p,h,o)=>match p with
   | .ok v=>k v { s with hist:=h,out:=o }
   | p=>some (p.up,{ s with hist:=h,out:=o })
  | p=>some (p.up,s)
def stM (vis:Int→Int→Option (List Int))(src:jL)(steps:Nat):Nat→List qx→Sm
 | 0,_,_,_=>none
 | fu+1,rest,s,x=>(event vis steps rest s x.n).bind fun (p,s)=>match p with
  | .ok _=>
   if x.c=1 then match ix? s.a.ws x.g with
    | none=>some (.rt,s)
    | some l=>some (.ok none,{ s with a:={ s.a with ws:=s.a.ws.set x.g.toNat (List.replicate l.length 0) } })
   else if x.c=2 then Kh (xD fu s.a.ws) s.a.ws x.d s fun q=>one (xD fu s.a.ws) x.a s fun v=>some (.ok none,{ s with a:={ s.a with ws:=setW s.a.ws q v } })
   else if x.c=3 then ED (stM vis src steps fu) src rest fu s x fun v s=>if x.d.length=0 then some (.ok none,s) else Kh (xD fu s.a.ws) s.a.ws x.d s fun q=>some (.ok none,{ s with a:={ s.a with ws:=setW s.a.ws q v } })
   else if x.c=4 then one (xD fu s.a.ws) x.a s fun v=>EJ (stM vis src steps fu rest) s (if v≠0 then x.e else x.h)
   else if x.c=5 then VP (fun s=>U1 (xD fu s.a.ws) x.a) (fun s=>EJ (stM vis src steps fu rest) s x.e) (fun s=>event vis steps rest s x.n) fu s
   else if x.c=6 then
    if x.j≠be then ED (stM vis src steps fu) src rest fu s x fun v s=>some (.ok (some v),s)
    else one (xD fu s.a.ws) x.a s fun v=>some (.ok (some v),s)
   else if x.c=7 then one (xD fu s.a.ws) x.a s fun v=>some (.uP v,s)
   else if x.c=8 then (EJ (stM vis src steps fu rest) s x.e).bind fun (p,s)=>match p with
    | .uP v=>match ix? s.a.ws x.g with
     | none=>some (.rt,s)
     | some []=>some (.rt,s)
     | some (_ :: r)=>EJ (stM vis src steps fu rest) { s with a:={ s.a with ws:=s.a.ws.set x.g.toNat (v :: r) } } x.h
    | p=>some (p,s)
   else if x.c=9 then one (xD fu s.a.ws) x.a s fun v=>(app s.out [v]).bind fun o=>some (.ok none,{ s with out:=o })
   else if x.c=10 then some (.ok (some 0),s)
   else some (.ok none,s)
  | p=>some (p.up,s)
def window (hist:List kC)(from_ most:Nat):List kC:=(hist.drop from_).take most
def traceM (fu:Nat)(vis:Int->Int->Option (List Int))(src:jL)(f:Int)(args:List Int)(steps from_ most:Int):Option (List kC × mU):=
 match ix? src.a.b f with
 | none=>some ([],⟨1,false,0,[]⟩)
 | some fn=>
  if args.length≠fn.a.length\/steps < 0\/5000 < steps\/from_ < 0\/most < 0\/100 < most then some ([],⟨1,false,0,[]⟩)
  else (AB (stM vis src steps.toNat fu) src [] f args [] []).bind fun (p,h,o)=>some (window h from_.toNat most.toNat,match p with
   | .ok v=>⟨0,false,v,o⟩
   | .uP v=>⟨0,true,v,o⟩
   | .err e=>⟨e,false,0,o⟩
   | .rt=>⟨4,false,0,o⟩)
set_option maxHeartbeats 12800000
set_option linter.unusedSimpArgs false
set_option maxRecDepth 4000
noncomputable section
def O0 (m:(List Int)->(List Int)->Option Bool):Prop:=∀ {e j f h a b c d i},Pre e j [] [.l a b f,.l c d h]->m f h=some i-> Calls prog 23 #[Z a f b,Z c h d] e (pU fun v w=>v=.bool i/\Bx e w j (lH []) [] [])
def vv (fu:Nat)(b c:(List Int)):Nat→Int→Option (Ld (Int) (Bool))
 | 0,_=>none
 | d+1,a=>
 if a < (b.length:Int) then
  (ix b a).bind fun e=>
  (ix c a).bind fun f=>
  if e≠f then
   some (.out false)
  else
   vv fu b c d (wr (a+1))
 else
  some (.go a)
def zF (fu:Nat)(a b:(List Int)):Option Bool:=if (a.length:Int)≠(b.length:Int) then some false else (vv fu a b fu 0).bind fun d=>d.el (fun c=>some true) (fun o=>some o)
theorem Hr (fu:Nat):O0 (zF fu):=by
 intro H W t u c d e i M I k;unfold zF at k;have j:=I.bx;clear I;generalize N:lH _=G at j ⊢;refine cf func23 r ?_;refine lG [(0,Z c t d),(1,Z e u i)] ⟨r,r,y⟩ fun X=>?_;refine q (g (s (kD r) (n (q (q (g (s (mK r) (s (lT ru r) (s (mK r) (s (lT ru r) (s (rz r r) (n ?_))))))))))));rcases iv k with ⟨v,k⟩|⟨v,k⟩
 ·refine jN (bt v) (q (g (s (kD r) (n (kH ?_)))));obtain rfl:=sm k;refine jC r (kL r) ?_;exact ⟨r,j.dp []⟩
 refine jK (bf v) (wk (q (q (g (s (xi r) (n ?_))))));obtain ⟨J,a,k⟩:=bs k;refine qR (fun f w=>∃ (b:Int),Has f []/\Bx H w W G [] [.l c d t,.l e i u]/\Ld.go b=J) (fun Q x=>?_) ?_
 ·refine pG (kK (fun Y f w=>∃ (b:Int),Has f [(0,Z c t d),(1,Z e u i),(5,V b)]/\Bx H w W G [] [.l c d t,.l e i u]/\vv fu t u Y b=some J) fu ⟨0,⟨r,r,r,y⟩,j,a⟩ ?_);clear j a;rintro z f w ⟨b,hf,j,a⟩ R A;obtain ⟨X,rfl⟩:=mJ _ _ hf;clear hf;cases z with
  | zero=>exact nn a
  | succ z=>
   rw [vv] at a;refine q (q (g (s (mi r) (s (mK r) (s (lT ru r) (s (qC r r) (n ?_)))))));rcases iv a with ⟨B,a⟩|⟨B,a⟩
   ·refine jN (bt B) (wk (q (pG (q (qA j [] [0,1] [] (by kernel_rfl) ?_)))));replace j:=j.drew;have m:=j;refine pF 0 r (mK r) m (pF 1 r (mi r) m ?_);obtain ⟨K,o,a⟩:=bs a;obtain ⟨S,C,o⟩:=kN o;refine pF 2 r (kY ru ny r r C (j.dl 0 r) o) m (tU 3 r (fun _ hS=>jV Ir r r ((uo (ds:=[V K]) (hS.dl 0 r) o (fun _ h=>h)) 0 _ r)) (sF m) (pF 4 r (mK r) m (pF 5 r (mi r) m ?_)));obtain ⟨L,p,a⟩:=bs a;obtain ⟨U,D,p⟩:=kN p;refine pF 6 r (kY ru ny r r D (j.dl 1 r) p) m (tU 7 r (fun _ hS=>jV Ir r r ((uo (ds:=[V L]) (hS.dl 1 r) p (fun _ h=>h)) 0 _ r)) (sF m) (pF 8 r (rz r r) m (hD ?_)));rcases iv a with ⟨E,a⟩|⟨E,a⟩
    ·refine jN (bt E) (q (g (s (kD r) (n (kH ?_)))));obtain rfl:=sm a;replace k:=oi k;obtain rfl:=sm k;refine jC r (kL r) ?_;exact ⟨r,j.dp []⟩
    refine jK (bf E) (wk (g (s (mi r) (s (kU r r) (s (xi r) (n ?_))))));exact A z _ _ (CG _) ⟨wr (b+1),⟨r,r,r,y⟩,j,a⟩
   refine jK (bf B) (uS ?_);exact x _ _ ⟨b,y,j,sm a⟩
 clear j;rintro f w ⟨b,hf,j,F⟩;obtain ⟨X,rfl⟩:=mJ _ _ hf;clear hf;subst F;replace k:=gi k;refine q (g (s (kD r) (n (kH ?_))));obtain rfl:=sm k;refine jC r (kL r) ?_;exact ⟨r,j.dp []⟩
end
noncomputable section
def Pm (m:(List Int)->Option BA):Prop:=∀ {c f d a b e},Pre c f [] [.l a b d]->m d=some e-> Calls prog 15 #[Z a d b] c (pU fun v w=>v=T e/\Bx c w f (lH []) [] [])
def Bv (fu:Nat)(c:(List Int)):Option BA:=(wZ fu c).bind fun a=>(vN fu a).bind fun b=>some b
theorem Nz (fu:Nat):Pm (Bv fu):=by
 intro u A o b c v k d;unfold Bv at d;have a:=k.bx;clear k;generalize w:lH _=G at a ⊢;refine cf func15 r ?_;refine lG [(0,Z b o c)] ⟨r,y⟩ fun B=>?_;refine q (g (s (mX r) (n (q (g (s (mK r) ?_))))));obtain ⟨l,p,d⟩:=bs d;refine sc (ec acp r) (I5 fu (a.pr [] [] [0] r) p) ?_;rintro _ x ⟨e,f,h,i,rfl,j⟩;replace a:=a.cl [] [] r j r;try dsimp only [pick,nth,ca,na] at a
 obtain ⟨m,t,d⟩:=bs d;refine sc (ec aco r) (Ma fu (a.pr [] [] [0,1] r) t) ?_;rintro _ z ⟨rfl,j⟩;replace a:=a.cl [] [] r j r;try dsimp only [pick,nth,ca,na] at a
 refine s (mX r) (n (kH ?_));obtain rfl:=sm d;refine jC r (kL r) ?_;exact ⟨r,a.dp []⟩
def MG (m:(List Bool)->(List Bool)->Option Bool):Prop:=∀ {e j f h a b c d i},Pre e j [] [.l a b f,.l c d h]->m f h=some i-> Calls prog 32 #[Z a f b,Z c h d] e (pU fun v w=>v=.bool i/\Bx e w j (lH []) [] [])
def uj (fu:Nat)(b c:(List Bool)):Nat→Int→Option (Ld (Int) (Bool))
 | 0,_=>none
 | d+1,a=>
 if a < (b.length:Int) then
  (ix b a).bind fun e=>
  (ix c a).bind fun f=>
  if ¬ e=f then
   some (.out false)
  else
   uj fu b c d (wr (a+1))
 else
  some (.go a)
def AU (fu:Nat)(a b:(List Bool)):Option Bool:=if (a.length:Int)≠(b.length:Int) then some false else (uj fu a b fu 0).bind fun d=>d.el (fun c=>some true) (fun o=>some o)
theorem Mw (fu:Nat):MG (AU fu):=by
 intro H W t u c d e i M I k;unfold AU at k;have j:=I.bx;clear I;generalize N:lH _=G at j ⊢;refine cf func32 r ?_;refine lG [(0,Z c t d),(1,Z e u i)] ⟨r,r,y⟩ fun X=>?_;refine q (g (s (kD r) (n (q (q (g (s (mK r) (s (lT P8 r) (s (mK r) (s (lT P8 r) (s (rz r r) (n ?_))))))))))));rcases iv k with ⟨v,k⟩|⟨v,k⟩
 ·refine jN (bt v) (q (g (s (kD r) (n (kH ?_)))));obtain rfl:=sm k;refine jC r (kL r) ?_;exact ⟨r,j.dp []⟩
 refine jK (bf v) (wk (q (q (g (s (xi r) (n ?_))))));obtain ⟨J,a,k⟩:=bs k;refine qR (fun f w=>∃ b,Has f []/\Bx H w W G [] [.l c d t,.l e i u]/\Ld.go b=J) (fun Q x=>?_) ?_
 ·refine pG (kK (fun Y f w=>∃ b,Has f [(0,Z c t d),(1,Z e u i),(5,V b)]/\Bx H w W G [] [.l c d t,.l e i u]/\uj fu t u Y b=some J) fu ⟨0,⟨r,r,r,y⟩,j,a⟩ ?_);clear j a;rintro z f w ⟨b,hf,j,a⟩ R A;obtain ⟨X,rfl⟩:=mZ hf;cases z with
  | zero=>exact nn a
  | succ z=>
   rw [uj] at a;refine q (q (g (s (mi r) (s (mK r) (s (lT P8 r) (s (qC r r) (n ?_)))))));rcases iv a with ⟨B,a⟩|⟨B,a⟩
   ·refine jN (bt B) (wk (q (pG (q (qA j [] [0,1] [] (by kernel_rfl) ?_)))));replace j:=j.drew;have m:=j;refine pF 0 r (mK r) m (pF 1 r (mi r) m ?_);obtain ⟨K,o,a⟩:=bs a;obtain ⟨S,C,o⟩:=kN o;refine pF 2 r (kY P8 Pz r r C (j.dl 0 r) o) m (tU 3 r (fun _ hS=>jV u4_ r r ((uo (ds:=[.bool K]) (hS.dl 0 r) o (fun _ h=>h)) 0 _ r)) (sF m) (pF 4 r (mK r) m (pF 5 r (mi r) m ?_)));obtain ⟨L,p,a⟩:=bs a;obtain ⟨U,D,p⟩:=kN p;refine pF 6 r (kY P8 Pz r r D (j.dl 1 r) p) m (tU 7 r (fun _ hS=>jV u4_ r r ((uo (ds:=[.bool L]) (hS.dl 1 r) p (fun _ h=>h)) 0 _ r)) (sF m) (pF 8 r (adA u4_ r r) m (hD ?_)));rcases iv a with ⟨E,a⟩|⟨E,a⟩
    ·refine jN (bt E) (q (g (s (kD r) (n (kH ?_)))));obtain rfl:=sm a;replace k:=oi k;obtain rfl:=sm k;refine jC r (kL r) ?_;exact ⟨r,j.dp []⟩
    refine jK (bf E) (wk (g (s (mi r) (s (kU r r) (s (xi r) (n ?_))))));exact A z _ _ (CG _) ⟨wr (b+1),⟨r,r,r,y⟩,j,a⟩
   refine jK (bf B) (uS ?_);exact x _ _ ⟨b,y,j,sm a⟩
 clear j;rintro f w ⟨b,hf,j,F⟩;obtain ⟨X,rfl⟩:=mZ hf;subst F;replace k:=gi k;refine q (g (s (kD r) (n (kH ?_))));obtain rfl:=sm k;refine jC r (kL r) ?_;exact ⟨r,j.dp []⟩
def Kg (m:nK->nK->Option Bool):Prop:=∀ {h j}{e f:nK}{a b c d i},Pre h j [] [.l a b e.c,.l c d f.c]->m e f=some i-> Calls prog 22 #[.agg #[V e.j,V e.a,Z a e.c b],.agg #[V f.j,V f.a,Z c f.c d]] h (pU fun v w=>v=.bool i/\Bx h w j (lH []) [] [])
def sD (fu:Nat)(e h:nK):Nat→Int→Option (Ld (Int) (Bool))
 | 0,_=>none
 | i+1,a=>
 if a < (e.c.length:Int) then
  (ix e.c a).bind fun f=>
  (ix h.c a).bind fun b=>
  if f.g≠b.g then
   some (.out false)
  else
   (AU fu f.b b.b).bind fun c=>
   if (!c)=true then
    some (.out false)
   else
    (zF fu f.a b.a).bind fun d=>
    if (!d)=true then
     some (.out false)
    else
     sD fu e h i (wr (a+1))
 else
  some (.go a)
def yI (fu:Nat)(a b:nK):Option Bool:=if a.j≠b.j then some false else if a.a≠b.a then some false else if (a.c.length:Int)≠(b.c.length:Int) then some false else (sD fu a b fu 0).bind fun d=>d.el (fun c=>some true) (fun o=>some o)
theorem KG (fu:Nat):Kg (yI fu):=by
 intro w0 ax v x j m o p r0 hP e;unfold yI at e;have b:=hP.bx;clear hP;generalize hG:lH _=G at b ⊢;refine cf func22 r ?_;refine lG [(0,.agg #[V v.j,V v.a,Z j v.c m]),(1,.agg #[V x.j,V x.a,Z o x.c p])] ⟨r,r,y⟩ fun ay=>?_;refine q (g (nW (nD b (uK r)) ?_));rintro _ w1 ⟨X,rfl,b⟩;refine nW (nD b (uK r)) ?_;rintro _ w2 ⟨Y,rfl,b⟩;refine s (kD r) (n (q (q (g (s (XV r) (s (l3 r (b.bk 1 r) r) (s (XV r) (s (l3 r (b.bk 0 r) r) (s (rz r r) (s (kV r) ?_))))))))));rcases iv e with ⟨h3,e⟩|⟨h3,e⟩
 ·rw [um h3];refine jM r (jM r (jM r (jM r (jM r (s (kP r r) (s (kV r) (jM r (jM r (jM r (jM r (jM r (jM r (jM r ?_)))))))))))));refine s (kP r r) (n (jN r (q (g (s (kD r) (n (kH ?_)))))));obtain rfl:=sm e;refine jC r (kL r) ?_;exact ⟨r,b.ad [] []⟩
 rw [uO h3];refine kG r (s (Yd r) (kG r (s (l3 r (b.bk 1 r) r) (kG r (s (Yd r) (kG r (s (l3 r (b.bk 0 r) r) (kG r (s (rz r r) (s (ko r r) (s (kV r) ?_)))))))))));rcases iv e with ⟨h4,e⟩|⟨h4,e⟩
 ·rw [um h4];refine jM r (jM r (jM r (jM r (jM r (jM r (jM r (s (kP r r) (n (jN r (q (g (s (kD r) (n ?_)))))))))))));refine kH ?_;obtain rfl:=sm e;refine jC r (kL r) ?_;exact ⟨r,b.ad [] []⟩
 rw [uO h4];refine kG r (s (DJ r) (kG r (s (WM r (b.bk 1 r) r) (kG r (s (lT FD r) (kG r (s (DJ r) (kG r (s (WM r (b.bk 0 r) r) (kG r (s (lT FD r) (kG r (s (rz r r) ?_)))))))))))));refine s (ko r r) (n ?_);rcases iv e with ⟨h5,e⟩|⟨h5,e⟩
 ·refine jN (bt h5) (q (g (s (kD r) (n (kH ?_)))));obtain rfl:=sm e;refine jC r (kL r) ?_;exact ⟨r,b.ad [] []⟩
 refine jK (bf h5) (wk (q (q (g (s (xi r) (n ?_))))));obtain ⟨Y6,c,e⟩:=bs e;refine qR (fun f w=>∃ h,Has f []/\Bx w0 w ax G [.box Y 62 #[V x.j,V x.a,Z o x.c p],.box X 62 #[V v.j,V v.a,Z j v.c m]] [.l j m v.c,.l o p x.c]/\Ld.go h=Y6) (fun J6 a3=>?_) ?_
 ·refine pG (kK (fun az f w=>∃ h,Has f [(2,Pt X),(3,Pt Y),(5,V h)]/\Bx w0 w ax G [.box Y 62 #[V x.j,V x.a,Z o x.c p],.box X 62 #[V v.j,V v.a,Z j v.c m]] [.l j m v.c,.l o p x.c]/\sD fu v x az h=some Y6) fu ⟨0,⟨r,r,r,y⟩,b,c⟩ ?_);clear b c;rintro n6 f w ⟨h,hf,b,c⟩ K6 a5;obtain ⟨ay,rfl⟩:=mZ hf;cases n6 with
  | zero=>exact nn c
  | succ n6=>
   rw [sD] at c;refine q (q (g (s (mi r) (s (DJ r) (s (WM r (b.bk 1 r) r) (s (lT FD r) (s (qC r r) (n ?_))))))));rcases iv c with ⟨h7,c⟩|⟨h7,c⟩
   ·refine jN (bt h7) (wk (q (pG (q ?_))));obtain ⟨e8,u,c⟩:=bs c;obtain ⟨k8,C,u⟩:=kN u;obtain ⟨ak,a7,b⟩:=b.nm 0 rfl u;obtain ⟨L,M,N,Q,rfl,R,S⟩:=qO.out a7;replace b:=b.kF (d:=.l L M e8.b) R;replace b:=b.kF (d:=.l N Q e8.a) S;obtain ⟨U,t,c⟩:=bs c;obtain ⟨al,z,t⟩:=kN t;obtain ⟨aj,W,b⟩:=b.nm 4 rfl t;obtain ⟨D,E,F,H,rfl,I,J⟩:=qO.out W;replace b:=b.kF (d:=.l D E U.b) I;replace b:=b.kF (d:=.l F H U.a) J;refine qA b [0,1] [0,1,2,3,4,5,6,7] [] (by kernel_rfl) ?_;replace b:=b.drew;have a:=b;refine pF 0 r (DJ r) a (uF 1 r (fun hS=>WM r (hS.bk 1 r) r) a (pF 2 r (mi r) a (pF 3 r (kY FD HZ r r C (b.dl 6 r) u) a (pF 4 r (XL r) a (uF 5 r (fun hS=>jV Ir r r ((hS.dc 5 r) 0 _ r)) a (pF 6 r (DJ r) a (uF 7 r (fun hS=>WM r (hS.bk 0 r) r) a (pF 8 r (mi r) a (pF 9 r (kY FD HZ r r z (b.dl 7 r) t) a (pF 10 r (XL r) a (uF 11 r (fun hS=>jV Ir r r ((hS.dc 2 r) 0 _ r)) a (pF 12 r (rz r r) a (pF 13 r (kV r) a ?_)))))))))))));rcases iv c with ⟨K,c⟩|⟨K,c⟩
    ·rw [um K];have a:=b;refine jY 14 r (by kernel_rfl) r (sF a) (jY 15 r (by kernel_rfl) r (sF a) (jY 16 r (by kernel_rfl) r (sF a) (jY 17 r (by kernel_rfl) r (sF a) (jY 18 r (by kernel_rfl) r (sF a) (jY 19 r (by kernel_rfl) r (sF a) (jY 20 r (by kernel_rfl) r (sF a) (jY 21 r (by kernel_rfl) r (sF a) (jY 22 r (by kernel_rfl) r (sF a) (jY 23 r (by kernel_rfl) r (sF a) (jY 24 r (by kernel_rfl) r (sF a) (jY 25 r (by kernel_rfl) r (sF a) (jY 26 r (by kernel_rfl) r (sF a) (jY 27 r (by kernel_rfl) r (sF a) ?_)))))))))))));refine pF 28 r (kP r r) a (pF 29 r (kV r) a (jY 30 r (by kernel_rfl) r (sF a) (jY 31 r (by kernel_rfl) r (sF a) (jY 32 r (by kernel_rfl) r (sF a) (jY 33 r (by kernel_rfl) r (sF a) (jY 34 r (by kernel_rfl) r (sF a) (jY 35 r (by kernel_rfl) r (sF a) (jY 36 r (by kernel_rfl) r (sF a) (jY 37 r (by kernel_rfl) r (sF a) (jY 38 r (by kernel_rfl) r (sF a) (jY 39 r (by kernel_rfl) r (sF a) (jY 40 r (by kernel_rfl) r (sF a) (jY 41 r (by kernel_rfl) r (sF a) ?_)))))))))))));refine jY 42 r (by kernel_rfl) r (sF a) (jY 43 r (by kernel_rfl) r (sF a) (pF 44 r (kP r r) a (hD (jN r (q (g (s (kD r) (n (kH ?_)))))))));obtain rfl:=sm c;replace e:=oi e;obtain rfl:=sm e;refine jC r (kL r) ?_;exact ⟨r,b.ad [] []⟩
    rw [uO K];have a:=b;refine pF 14 r (DJ r) a (uF 15 r (fun hS=>WM r (hS.bk 1 r) r) a (pF 16 r (mi r) a (pF 17 r (kY FD HZ r r C (b.dl 6 r) u) a (pF 18 r (XD r) a (uF 19 r (fun hS=>jV P8 r r ((hS.dc 5 r) 1 _ r)) a (pF 20 r (DJ r) a (uF 21 r (fun hS=>WM r (hS.bk 0 r) r) a (pF 22 r (mi r) a (pF 23 r (kY FD HZ r r z (b.dl 7 r) t) a (pF 24 r (XD r) a (uF 25 r (fun hS=>jV P8 r r ((hS.dc 2 r) 1 _ r)) a ?_)))))))))));obtain ⟨a8,a9,c⟩:=bs c;refine hO 26 (oc r r (ec ab1 r) (Mw fu (b.pr [] [0,1] [4,1] r) a9) ?_);rintro _ am ⟨rfl,hK⟩;replace b:=b.cl [] [0,1] r hK r;try dsimp only [pick,nth,ca,na] at b
    have a:=b;refine ⟨sF a,?_⟩;refine pF 27 r (BU r) a (pF 28 r (ko r r) a (pF 29 r (kV r) a ?_));rcases iv c with ⟨A,c⟩|⟨A,c⟩
    ·rw [A];have a:=b;refine jY 30 r (by kernel_rfl) r (sF a) (jY 31 r (by kernel_rfl) r (sF a) (jY 32 r (by kernel_rfl) r (sF a) (jY 33 r (by kernel_rfl) r (sF a) (jY 34 r (by kernel_rfl) r (sF a) (jY 35 r (by kernel_rfl) r (sF a) (jY 36 r (by kernel_rfl) r (sF a) (jY 37 r (by kernel_rfl) r (sF a) (jY 38 r (by kernel_rfl) r (sF a) (jY 39 r (by kernel_rfl) r (sF a) (jY 40 r (by kernel_rfl) r (sF a) (jY 41 r (by kernel_rfl) r (sF a) (jY 42 r (by kernel_rfl) r (sF a) (jY 43 r (by kernel_rfl) r (sF a) ?_)))))))))))));refine pF 44 r (kP r r) a (hD (jN r (q (g (s (kD r) (n (kH ?_)))))));obtain rfl:=sm c;replace e:=oi e;obtain rfl:=sm e;refine jC r (kL r) ?_;exact ⟨r,b.ad [] []⟩
    replace A:=nt A;rw [A];have a:=b;refine pF 30 r (DJ r) a (uF 31 r (fun hS=>WM r (hS.bk 1 r) r) a (pF 32 r (mi r) a (pF 33 r (kY FD HZ r r C (b.dl 6 r) u) a (pF 34 r (Va r) a (uF 35 r (fun hS=>jV ru r r ((hS.dc 5 r) 2 _ r)) a (pF 36 r (DJ r) a (uF 37 r (fun hS=>WM r (hS.bk 0 r) r) a (pF 38 r (mi r) a (pF 39 r (kY FD HZ r r z (b.dl 7 r) t) a (pF 40 r (Va r) a (uF 41 r (fun hS=>jV ru r r ((hS.dc 2 r) 2 _ r)) a ?_)))))))))));obtain ⟨ab,ac,c⟩:=bs c;refine hO 42 (oc r r (ec Xt r) (Hr fu (b.pr [] [0,1] [3,0] r) ac) ?_);rintro _ an ⟨rfl,hK⟩;replace b:=b.cl [] [0,1] r hK r;try dsimp only [pick,nth,ca,na] at b
    have a:=b;refine ⟨sF a,?_⟩;refine pF 43 r (BU r) a (pF 44 r (ko r r) a (hD ?_));rcases iv c with ⟨B,c⟩|⟨B,c⟩
    ·refine jN (cb B) (q (g (s (kD r) (n (kH ?_)))));obtain rfl:=sm c;replace e:=oi e;obtain rfl:=sm e;refine jC r (kL r) ?_;exact ⟨r,b.ad [] []⟩
    refine jK (wS B) (wk (g (s (mi r) (s (kU r r) (s (xi r) (n ?_))))));exact a5 n6 _ _ (CG _) ⟨wr (h+1),⟨r,r,r,y⟩,b.dp [6,7],c⟩
   refine jK (bf h7) (uS ?_);exact a3 _ _ ⟨h,y,b,sm c⟩
 clear b;rintro f w ⟨h,hf,b,ae⟩;obtain ⟨ay,rfl⟩:=mZ hf;subst ae;replace e:=gi e;refine q (g (s (kD r) (n (kH ?_))));obtain rfl:=sm e;refine jC r (kL r) ?_;exact ⟨r,b.ad [] []⟩
def JJ (m:(List kC)->(List kC)->Option Bool):Prop:=∀ {e j f h a b c d i},Pre e j [] [.l a b f,.l c d h]->m f h=some i-> Calls prog 12 #[Z a f b,Z c h d] e (pU fun v w=>v=.bool i/\Bx e w j (lH []) [] [])
def rQ (fu:Nat)(i j:(List kC))(b:Int):Nat→Int→Option (Ld (Int) (Bool))
 | 0,_=>none
 | k+1,a=>
 (ix i b).bind fun d=>
 if a < (d.a.length:Int) then
  (ix d.a a).bind fun e=>
  (ix j b).bind fun f=>
  (ix f.a a).bind fun h=>
  (yI fu e h).bind fun c=>
  if (!c)=true then
   some (.out false)
  else
   rQ fu i j b k (wr (a+1))
 else
  some (.go a)
def rO (fu:Nat)(b c:(List kC)):Nat→Int→Option (Ld (Int) (Bool))
 | 0,_=>none
 | e+1,a=>
 if a < (b.length:Int) then
  (ix b a).bind fun f=>
  (ix c a).bind fun h=>
  if (f.a.length:Int)≠(h.a.length:Int) then
   some (.out false)
  else
   (rQ fu b c a fu 0).bind fun i=>i.el (fun d=>
   rO fu b c e (wr (a+1))
   ) (fun o=>some (.out o))
 else
  some (.go a)
def tq (fu:Nat)(a b:(List kC)):Option Bool:=if (a.length:Int)≠(b.length:Int) then some false else (rO fu a b fu 0).bind fun d=>d.el (fun c=>some true) (fun o=>some o)
theorem Ja (fu:Nat):JJ (tq fu):=by
 intro w0 aZ E F e h i j r0 hP t;unfold tq at t;have a:=hP.bx;clear hP;generalize hG:lH _=G at a ⊢;refine cf func12 r ?_;refine lG [(0,Z e E h),(1,Z i F j)] ⟨r,r,y⟩ fun b0=>?_;refine q (g (s (kD r) (n (q (q (g (s (mK r) (s (lT GY r) (s (mK r) (s (lT GY r) (s (rz r r) (n ?_))))))))))));rcases iv t with ⟨h1,t⟩|⟨h1,t⟩
 ·refine jN (bt h1) (q (g (s (kD r) (n (kH ?_)))));obtain rfl:=sm t;refine jC r (kL r) ?_;exact ⟨r,a.dp []⟩
 refine jK (bf h1) (wk (q (q (g (s (xi r) (n ?_))))));obtain ⟨Y2,b,t⟩:=bs t;refine qR (fun f w=>∃ k,Has f []/\Bx w0 w aZ G [] [.l e h E,.l i j F]/\Ld.go k=Y2) (fun J2 ag=>?_) ?_
 ·refine pG (kK (fun b1 f w=>∃ k,Has f [(0,Z e E h),(1,Z i F j),(5,V k)]/\Bx w0 w aZ G [] [.l e h E,.l i j F]/\rO fu E F b1 k=some Y2) fu ⟨0,⟨r,r,r,y⟩,a,b⟩ ?_);clear a b;rintro n2 f w ⟨k,hf,a,b⟩ K2 ai;obtain ⟨b0,rfl⟩:=mZ hf;cases n2 with
  | zero=>exact nn b
  | succ n2=>
   rw [rO] at b;refine q (q (g (s (mi r) (s (mK r) (s (lT GY r) (s (qC r r) (n ?_)))))));rcases iv b with ⟨h3,b⟩|⟨h3,b⟩
   ·refine jN (bt h3) (wk (q (pG (q (q ?_)))));obtain ⟨e4,H,b⟩:=bs b;obtain ⟨k4,ak,H⟩:=kN H;obtain ⟨aI,al,a⟩:=a.nm 0 rfl H;obtain ⟨a0,a1,rfl,a2⟩:=kC.out al;replace a:=a.kF (d:=.l a0 a1 e4.a) a2;obtain ⟨e6,I,b⟩:=bs b;obtain ⟨k6,am,I⟩:=kN I;obtain ⟨aK,an,a⟩:=a.nm 3 rfl I;obtain ⟨a3,a4,rfl,a5⟩:=kC.out an;replace a:=a.kF (d:=.l a3 a4 e6.a) a5;refine qA a [] [0,1,2,3,4,5] [] (by kernel_rfl) ?_;replace a:=a.drew;have m:=a;refine pF 0 r (mK r) m (pF 1 r (mi r) m (pF 2 r (kY GY E5 r r ak (a.dl 4 r) H) m (pF 3 r (Et r) m (uF 4 r (fun hS=>jV D7 r r ((hS.dc 3 r) 0 _ r)) m (pF 5 r (lT D7 r) m (pF 6 r (mK r) m (pF 7 r (mi r) m (pF 8 r (kY GY E5 r r am (a.dl 5 r) I) m (pF 9 r (Et r) m (uF 10 r (fun hS=>jV D7 r r ((hS.dc 1 r) 0 _ r)) m (pF 11 r (lT D7 r) m (pF 12 r (rz r r) m (hD ?_)))))))))))));rcases iv b with ⟨h8,b⟩|⟨h8,b⟩
    ·refine jN (bt h8) (q (g (s (kD r) (n (kH ?_)))));obtain rfl:=sm b;replace t:=oi t;obtain rfl:=sm t;refine jC r (kL r) ?_;exact ⟨r,a.dp []⟩
    refine jK (bf h8) (wk (q (g (s (xi r) (n ?_)))));obtain ⟨Y9,c,b⟩:=bs b;refine qR (fun f w=>∃ o,Has f [(0,Z e E h),(1,Z i F j),(5,V k)]/\Bx w0 w aZ G [] [.l e h E,.l i j F]/\Ld.go o=Y9) (fun J9 ap=>?_) ?_
    ·refine pG (kK (fun b1 f w=>∃ o,Has f [(0,Z e E h),(1,Z i F j),(5,V k),(6,V o)]/\Bx w0 w aZ G [] [.l e h E,.l i j F]/\rQ fu E F k b1 o=some Y9) fu ⟨0,⟨r,r,r,r,y⟩,a.dp [4,5],c⟩ ?_);clear a c;rintro n9 f w ⟨o,hf,a,c⟩ K9 ar;obtain ⟨b0,rfl⟩:=mZ hf;cases n9 with
     | zero=>exact nn c
     | succ n9=>
      rw [rQ] at c;refine q (q (g (s (mi r) (s (mK r) (s (mi r) ?_)))));obtain ⟨au,p,c⟩:=bs c;obtain ⟨aL,L,p⟩:=kN p;obtain ⟨aD,a6,a⟩:=a.nm 0 rfl p;obtain ⟨M,N,rfl,Q⟩:=kC.out a6;replace a:=a.kF (d:=.l M N au.a) Q;refine s (kY GY E5 r r L (a.dl 2 r) p) (s (Et r) (s (jV D7 r r ((a.dc 1 r) 0 _ r)) (s (lT D7 r) (s (qC r r) (n ?_)))));rcases iv c with ⟨R,c⟩|⟨R,c⟩
      ·refine jN (bt R) (wk (q (pG (q ?_))));obtain ⟨J,u,c⟩:=bs c;obtain ⟨aM,a7,u⟩:=kN u;obtain ⟨aE,a8,a⟩:=a.nm 0 rfl u;obtain ⟨z,A,rfl,S⟩:=nK.out a8;replace a:=a.kF (d:=.l z A J.c) S;obtain ⟨av,v,c⟩:=bs c;obtain ⟨aN,a9,v⟩:=kN v;obtain ⟨aF,aa,a⟩:=a.nm 5 rfl v;obtain ⟨U,W,rfl,X⟩:=kC.out aa;replace a:=a.kF (d:=.l U W av.a) X;obtain ⟨K,x,c⟩:=bs c;obtain ⟨aO,ab,x⟩:=kN x;obtain ⟨aG,ac,a⟩:=a.nm 0 rfl x;obtain ⟨B,C,rfl,Y⟩:=nK.out ac;replace a:=a.kF (d:=.l B C K.c) Y;refine qA a [] [0,1,2,3,4,5,6,7,8,9] [] (by kernel_rfl) ?_;replace a:=a.drew;have m:=a;refine pF 0 r (mK r) m (pF 1 r (mi r) m (pF 2 r (kY GY E5 r r L (a.dl 8 r) p) m (pF 3 r (Et r) m (uF 4 r (fun hS=>jV D7 r r ((hS.dc 7 r) 0 _ r)) m (pF 5 r (mi r) m (pF 6 r (kY D7 CP r r a7 (a.dl 6 r) u) m (uF 7 r (fun hS=>nA [V J.j,V J.a,Z z J.c A] PX r CP r r (hS.dc 5 r)) m (pF 8 r (mK r) m (pF 9 r (mi r) m (pF 10 r (kY GY E5 r r a9 (a.dl 9 r) v) m (pF 11 r (Et r) m (uF 12 r (fun hS=>jV D7 r r ((hS.dc 3 r) 0 _ r)) m (pF 13 r (mi r) m ?_)))))))))))));refine pF 14 r (kY D7 CP r r ab (a.dl 2 r) x) m (uF 15 r (fun hS=>nA [V K.j,V K.a,Z B K.c C] PX r CP r r (hS.dc 1 r)) m ?_);obtain ⟨aw,ax,c⟩:=bs c;refine hO 16 (oc r r (ec acv r) (KG fu (a.pr [] [] [4,0] r) ax) ?_);rintro _ aP ⟨rfl,hK⟩;replace a:=a.cl [] [] r hK r;try dsimp only [pick,nth,ca,na] at a
       have m:=a;refine ⟨sF m,?_⟩;refine pF 17 r (BU r) m (hD ?_);rcases iv c with ⟨D,c⟩|⟨D,c⟩
       ·refine jN (cb D) (q (g (s (kD r) (n (kH ?_)))));obtain rfl:=sm c;replace b:=oi b;obtain rfl:=sm b;replace t:=oi t;obtain rfl:=sm t;refine jC r (kL r) ?_;exact ⟨r,a.dp []⟩
       refine jK (wS D) (wk (g (s (mi r) (s (kU r r) (s (xi r) (n ?_))))));exact ar n9 _ _ (CG _) ⟨wr (o+1),⟨r,r,r,r,y⟩,a.dp [8,9],c⟩
      refine jK (bf R) (uS ?_);exact ap _ _ ⟨o,⟨r,r,r,y⟩,a.dp [2,3],sm c⟩
    clear a;rintro f w ⟨o,hf,a,ay⟩;obtain ⟨b0,rfl⟩:=mZ hf;subst ay;replace b:=gi b;refine g (s (mi r) (s (kU r r) (s (xi r) (n ?_))));exact ai n2 _ _ (CG _) ⟨wr (k+1),⟨r,r,r,y⟩,a,b⟩
   refine jK (bf h3) (uS ?_);exact ag _ _ ⟨k,y,a,sm b⟩
 clear a;rintro f w ⟨k,hf,a,az⟩;obtain ⟨b0,rfl⟩:=mZ hf;subst az;replace t:=gi t;refine q (g (s (kD r) (n (kH ?_))));obtain rfl:=sm t;refine jC r (kL r) ?_;exact ⟨r,a.dp []⟩
def H8 (m:mU->mU->Option Bool):Prop:=∀ {h j}{e f:mU}{a b c d i},Pre h j [] [.l a b e.a,.l c d f.a]->m e f=some i-> Calls prog 13 #[.agg #[V e.d,.bool e.b,V e.c,Z a e.a b],.agg #[V f.d,.bool f.b,V f.c,Z c f.a d]] h (pU fun v w=>v=.bool i/\Bx h w j (lH []) [] [])
def rW (fu:Nat)(b c:mU):Option Bool:=if b.d=c.d then if b.b=c.b then if b.c=c.c then (zF fu b.a c.a).bind fun a=>some a else some false else some false else some false
theorem Ii (fu:Nat):H8 (rW fu):=by
 intro w F h j c d e f x p b;unfold rW at b;have a:=p.bx;clear p;generalize z:lH _=G at a ⊢;refine cf func13 r ?_;refine lG [(0,.agg #[V h.d,.bool h.b,V h.c,Z c h.a d]),(1,.agg #[V j.d,.bool j.b,V j.c,Z e j.a f])] ⟨r,r,y⟩ fun H=>?_;refine q (g (nW (nD a (uK r)) ?_));rintro _ A ⟨B,rfl,a⟩;refine nW (nD a (uK r)) ?_;rintro _ C ⟨D,rfl,a⟩;refine s (kD r) (n (q (g (s (Pg r) (s (DY r (a.bk 1 r) r) (s (Pg r) (s (DY r (a.bk 0 r) r) (s (kT r r) (s (kV r) ?_)))))))));rcases iv b with ⟨l,b⟩|⟨l,b⟩
 ·rw [um l];refine kG r (s (Rl r) (kG r (s (l4 r (a.bk 1 r) r) (kG r (s (Rl r) (kG r (s (l4 r (a.bk 0 r) r) (kG r (s (ad2 u4_ r r) (s (kP r r) (s (kV r) ?_)))))))))));rcases iv b with ⟨m,b⟩|⟨m,b⟩
  ·rw [um m];refine kG r (s (Oc r) (kG r (s (l3 r (a.bk 1 r) r) (kG r (s (Oc r) (kG r (s (l3 r (a.bk 0 r) r) (kG r (s (kT r r) (s (kP r r) (s (kV r) ?_)))))))))));rcases iv b with ⟨o,b⟩|⟨o,b⟩
   ·rw [um o];refine kG r (s (Vl r) (kG r (s (Qa r (a.bk 1 r) r) (kG r (s (Vl r) (kG r (s (Qa r (a.bk 0 r) r) ?_)))))));obtain ⟨t,u,b⟩:=bs b;refine kG r ?_;refine sc (ec Xt r) (Hr fu (a.pr [] [0,1] [0,1] r) u) ?_;rintro _ E ⟨rfl,v⟩;replace a:=a.cl [] [0,1] r v r;try dsimp only [pick,nth,ca,na] at a
    refine s (kP r r) (s (kD r) (n (kH ?_)));obtain rfl:=sm b;refine jC r (kL r) ?_;exact ⟨r,a.ad [] []⟩
   rw [uO o];refine jM r (jM r (jM r (jM r (jM r (s (ko r r) (s (kD r) (n (kH ?_))))))));obtain rfl:=sm b;refine jC r (kL r) ?_;exact ⟨r,a.ad [] []⟩
  rw [uO m];refine jM r (jM r (jM r (jM r (jM r (s (ko r r) (s (kV r) (jM r (jM r (jM r (jM r (jM r (s (ko r r) (s (kD r) ?_)))))))))))));refine n (kH ?_);obtain rfl:=sm b;refine jC r (kL r) ?_;exact ⟨r,a.ad [] []⟩
 rw [uO l];refine jM r (jM r (jM r (jM r (jM r (s (ko r r) (s (kV r) (jM r (jM r (jM r (jM r (jM r (s (ko r r) (s (kV r) ?_)))))))))))));refine jM r (jM r (jM r (jM r (jM r (s (ko r r) (s (kD r) (n (kH ?_))))))));obtain rfl:=sm b;refine jC r (kL r) ?_;exact ⟨r,a.ad [] []⟩
def Nf (m:Int->Option Int):Prop:=∀ {a d b c},Pre a d [] []->m b=some c-> Calls prog 10 #[V b] a (pU fun v w=>v=V c/\Bx a w d (lH []) [] [])
def xX (fu:Nat)(b:Int):Option Int:=(tX fu b 401).bind fun a=>some a
theorem Bf (fu:Nat):Nf (xX fu):=by
 intro i m e j c b;unfold xX at b;have a:=c.bx;clear c;generalize k:lH _=G at a ⊢;refine cf func10 r ?_;refine lG [(0,V e)] ⟨r,y⟩ fun o=>?_;refine q (g (s (xi r) (n (q (g (s (mi r) ?_))))));obtain ⟨d,f,b⟩:=bs b;refine sc (ec DL r) (nX fu (a.pr [] [] [] r) f) ?_;rintro _ l ⟨rfl,h⟩;replace a:=a.cl [] [] r h r;try dsimp only [pick,nth,ca,na] at a
 refine s (xi r) (n (kH ?_));obtain rfl:=sm b;refine jC r (kL r) ?_;exact ⟨r,a⟩
def Iy (m:(List Int)->Option (jL × Bool)):Prop:=∀ {p x t a b R},Pre p x [] [.l a b t]->m t=some R-> Calls prog 5 #[Z a t b] p (pU fun v w=>iA R fun o u=>∃ c d e f h i j k,v=.tuple #[.agg #[Z c o.a.a d,Z e o.a.b f,Z h o.c i,Z j o.b k],.bool u]/\Bx p w x (lH []) [] [.l c d o.a.a,.l e f o.a.b,.l h i o.c,.l j k o.b])
def wR (fu:Nat)(j:(List Int)):Option (jL × Bool):=(AP fu j).bind fun c=>(Bv fu c).bind fun d=>(uG fu d).bind fun k=>iA k fun e k=>iA k fun i f=>if f≠0 then some ((⟨(⟨([]:List Gr),([]:List Gn)⟩:jS),([]:List (List Gv)),([]:List Gi)⟩:jL),false) else (sU fu e).bind fun k=>iA k fun a k=>iA k fun h b=>some (a,decide (b=0))
theorem JQ (fu:Nat):Iy (wR fu):=by
 intro w0 ae N x z R I v;unfold wR at v;have b:=I.bx;clear I;generalize hG:lH _=G at b ⊢;refine cf func5 r ?_;refine lG [(0,Z x N z)] ⟨r,y⟩ fun af=>?_;refine q (g (nW (nD b (jT xL)) ?_));rintro _ w1 ⟨b1,rfl,b⟩;refine s (kD r) (n (q (g (s (mK r) ?_))));obtain ⟨J,Q,v⟩:=bs v;refine sc (ec abI r) (LQ fu (b.pr [] [0] [0] r) Q) ?_;rintro _ w2 ⟨B,C,rfl,A⟩;replace b:=b.cl [] [0] r A r;try dsimp only [pick,nth,ca,na] at b
 obtain ⟨K,S,v⟩:=bs v;refine sc (ec abS r) (Nz fu (b.pr [] [0] [0] r) S) ?_;rintro _ w3 ⟨rfl,A⟩;replace b:=b.cl [] [0] r A r;try dsimp only [pick,nth,ca,na] at b
 obtain ⟨⟨w,L,M⟩,U,v⟩:=bs v;replace v:=pi v;replace v:=pi v;refine sc (ec XW r) (Gl fu (b.pr [] [0] [] r) U) ?_;rintro _ w4 ⟨o,p,t,u,rfl,A⟩;replace b:=b.cl [] [0] r A r;try dsimp only [pick,nth,ca,na] at b
 refine s rR (s (jX r r) (s (jX r r) (s (jX r r) (nW (nD b (jT vG)) ?_))));rintro _ w5 ⟨b5,rfl,b⟩;refine lD (tb b 0 [Z o w.a p,Z t w.b u] r vG r r r r r (show _=#[Z o w.a p,Z t w.b u] from r)) ?_;intro w6 b;try dsimp only [List.set] at b
 refine s (xi r) (s (xi r) (n (q (q (g (s (mi r) (s (rz r r) (n ?_))))))));rcases iv v with ⟨D,v⟩|⟨D,v⟩
 ·refine jN (bt D) (q (g (s XA (lD (tb b 1 [sn,sn,sn,sn] r xL r r r r r (show _=#[sn,sn,sn,sn] from r)) ?_))));intro w8 b;try dsimp only [List.set] at b
  refine s (kD r) (n (kH ?_));replace b:=b.kF (d:=.l none 0 ([]:List Gr)) pX;replace b:=b.kF (d:=.l none 0 ([]:List Gn)) pX;replace b:=b.kF (d:=.l none 0 ([]:List (List Gv))) pX;replace b:=b.kF (d:=.l none 0 ([]:List Gi)) pX;obtain rfl:=sm v;refine ng r (vC r Du r xL r (b.bk 1 r)) (kL r) ?_;exact nJ (⟨none,0,none,0,none,0,none,0,r,b.ad [] [3,2,1,0]⟩)
 refine jK (bf D) (wk (q (g (s (nA [Z o w.a p,Z t w.b u] DR r vG r r (Cells.part (b.bk 0 r).cells (o2:=0) r)) ?_))));obtain ⟨⟨a,E,F⟩,H,v⟩:=bs v;replace v:=pi v;replace v:=pi v;refine sc (ec XG r) (FJ fu (b.pr [] [0,1] [0,1] r) H) ?_;rintro _ X ⟨c,e,f,h,i,j,k,m,rfl,A⟩;replace b:=b.cl [] [0,1] r A r;try dsimp only [pick,nth,ca,na] at b
 refine s rR (s (jX r r) (s (jX r r) (s (jX r r) (nW (nD b (jT xL)) ?_))));rintro _ Y ⟨a0,rfl,b⟩;refine lD (tb b 0 [Z c a.a.a e,Z f a.a.b h,Z i a.c j,Z k a.b m] r xL r r r r r (show _=#[Z c a.a.a e,Z f a.a.b h,Z i a.c j,Z k a.b m] from r)) ?_;intro a1 b;try dsimp only [List.set] at b
 refine s (xi r) (s (xi r) (n (q (g (s (nA [Z c a.a.a e,Z f a.a.b h,Z i a.c j,Z k a.b m] Du r xL r r (Cells.part (b.bk 0 r).cells (o2:=0) r)) (s (mi r) (s (kT r r) (lD (tb b 2 [Z c a.a.a e,Z f a.a.b h,Z i a.c j,Z k a.b m] r xL r r r r r (show _=#[Z c a.a.a e,Z f a.a.b h,Z i a.c j,Z k a.b m] from r)) ?_))))))));intro a2 b;try dsimp only [List.set] at b
 refine s (kD r) (n (kH ?_));obtain rfl:=sm v;refine ng r (vC r Du r xL r (b.bk 2 r)) (kL r) ?_;exact nJ (⟨c,e,f,h,i,j,k,m,r,b.ad [] [0,1,2,3]⟩)
end
end Go.Proofs.YtfglbdkfnphjgaaGreat
