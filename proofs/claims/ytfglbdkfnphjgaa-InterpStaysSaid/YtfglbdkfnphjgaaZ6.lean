/- Tables of the program's types, and the steps that need no choice by them. -/
import Derived.Test.YtfglbdkfnphjgaaZ5
set_option linter.unusedVariables false
namespace Go.Proofs.Ytfglbdkfnphjgaa
open Go.RowKit Go.Fw
def tbO (t:Nat):List Nat:=bif Nat.beq t 26 then [0,1] else bif Nat.beq t 30 then [0,2,3] else bif Nat.beq t 39 then [0,1,2,3] else bif Nat.beq t 50 then [0] else bif Nat.beq t 53 then [0,1,2] else bif Nat.beq t 57 then [0,1,2] else bif Nat.beq t 59 then [0,1,2,3,4,5,6] else bif Nat.beq t 65 then [0,1] else bif Nat.beq t 82 then [0,1,2,3] else bif Nat.beq t 89 then [0,4,5,6,7,8,9,10] else bif Nat.beq t 102 then [0,1,2,3] else bif Nat.beq t 107 then [0,1,2,6,7,8,9,10] else bif Nat.beq t 111 then [0,1,2,3,4,5,6,7,8,9,10,11,12] else bif Nat.beq t 115 then [0,4,5,6,7] else bif Nat.beq t 120 then [0,1,2] else bif Nat.beq t 127 then [0,1] else bif Nat.beq t 132 then [0,1] else bif Nat.beq t 135 then [0,1,2,3,4,5,6,7,8] else bif Nat.beq t 138 then [0,1,2,3,4,5] else bif Nat.beq t 143 then [0,1,2,3] else []
def ZU:List Nat→Nat→Option Nat
 | [],_=>none
 | a :: _,0=>some a
 | _ :: l,n+1=>ZU l n
def fT (t n:Nat):Option Nat:=ZU (tbO t) n
noncomputable def fo (t n:Nat):Option Nat:=match Try.prog.underlying t with
 | some (.struct fs)=>match fs[n]? with
  | some f=>match Try.prog.info? f.type with
   | some i=>bif i.zero.isSome && !Nat.beq i.size 0 then some f.offset else none
   | none=>none
  | none=>none
 | _=>none
def Zv (t:Nat):Bool:=Nat.beq (Nat.mod (Nat.shiftRight 0x40060220200c100401089003019c00238 t) 2) 1
def ZJ (t:Nat):Bool:=Nat.beq (Nat.mod (Nat.shiftRight 0x80000000000000000002002008100401089001019c00000 t) 2) 1
noncomputable def Z5:Bool:=(List.range 233).all fun t=>((List.range 16).all fun n=>(match fT t n with | none=>true | some j=>(match fo t n with | some i=>Nat.beq i j | none=>false))) && (!Zv t || (match Try.prog.underlying t with | some D=>!Jc D | none=>false)) && (!ZJ t || (match Try.prog.underlying t with | some (.slice _)=>true | _=>false))
theorem YQ:Z5=true:=by kernel_rfl
theorem Mc {t:Nat} (ht:Nat.blt t 233=true):(((List.range 16).all fun n=>(match fT t n with | none=>true | some j=>(match fo t n with | some i=>Nat.beq i j | none=>false))) && (!Zv t || (match Try.prog.underlying t with | some D=>!Jc D | none=>false)) && (!ZJ t || (match Try.prog.underlying t with | some (.slice _)=>true | _=>false)))=true:=by
 have h:=YQ
 unfold Z5 at h
 exact List.all_eq_true.1 h t (List.mem_range.2 (by simpa using ht))
section
variable {N:Fz} {ops:Array Oper} {K:KK} {rest:List Oper} {f:Fr} {w:World} {d:Option Nat} {ty:TypeId} {pos:String} {af:Array Edge} {x:Operand} {b o t n j:Nat}
theorem gF (h:ev f x=.pointer (some ⟨b,o,none⟩)) (hj:fT t n=some j) (k:oG Try.prog N ops K rest (ny f d (.pointer (some ⟨b,o+j,none⟩))) w) (ht:Nat.blt t 233=true:=by exact rfl) (hn:Nat.blt n 16=true:=by exact rfl):oG Try.prog N ops K (⟨d,.fieldAddr t x n,ty,pos,af,none⟩ :: rest) f w:=by
 have h1:=Mc ht
 simp only [Bool.and_eq_true] at h1
 have h2:=List.all_eq_true.1 h1.1.1 n (List.mem_range.2 (by simpa using hn))
 rw [hj] at h2
 dsimp only at h2
 cases hf:fo t n with
 | none=>rw [hf] at h2;cases h2
 | some j'=>
  rw [hf] at h2
  have hjj:j'=j:=Nat.eq_of_beq_eq_true h2
  subst hjj
  unfold fo at hf
  cases hu:Try.prog.underlying t with
  | none=>rw [hu] at hf;cases hf
  | some D=>
   rw [hu] at hf
   cases D with
   | struct fs=>
    dsimp only at hf
    cases hfs:fs[n]? with
    | none=>rw [hfs] at hf;cases hf
    | some fd=>
     rw [hfs] at hf
     dsimp only at hf
     cases hi:Try.prog.info? fd.type with
     | none=>rw [hi] at hf;cases hf
     | some i=>
      rw [hi] at hf
      dsimp only at hf
      cases hz:i.zero with
      | none=>rw [hz] at hf;cases hf
      | some z=>
       rw [hz] at hf
       cases hs:Nat.beq i.size 0 with
       | true=>rw [hs] at hf;cases hf
       | false=>
        rw [hs] at hf
        have ho:fd.offset=j':=Option.some.inj hf
        exact kU (nD (k:=j') hu hfs ho ⟨i,hi,hz,rfl,rfl⟩ (fun e=>by rw [e] at hs;cases hs) h) k
   | _=>cases hf
theorem gL {t':TypeId} {cs:Array Value} {v:Value} (h:ev f x=.pointer (some ⟨b,o,none⟩)) (hb:nA w b t' cs) (hi:cs[o]?=some v) (hs:Zv t=true) (k:oG Try.prog N ops K rest (ny f d v) w) (ht:Nat.blt t 233=true:=by exact rfl):oG Try.prog N ops K (⟨d,.load t x,ty,pos,af,none⟩ :: rest) f w:=by
 have h1:=Mc ht
 simp only [Bool.and_eq_true] at h1
 have h2:=h1.1.2
 rw [hs,Bool.not_true,Bool.false_or] at h2
 cases hu:Try.prog.underlying t with
 | none=>rw [hu] at h2;cases h2
 | some D=>
  rw [hu] at h2
  exact kU (jT hu (by simpa using h2) h (hb.cell hi)) k
theorem gN {A:Option Addr} {m c:Nat} (h:ev f x=.slice A m c) (hs:ZJ t=true) (k:oG Try.prog N ops K rest (ny f d (V (m:Int))) w) (ht:Nat.blt t 233=true:=by exact rfl):oG Try.prog N ops K (⟨d,.call { callee:=.builtin .len,args:=#[x],argTypes:=#[t] },ty,pos,af,none⟩ :: rest) f w:=by
 have h1:=Mc ht
 simp only [Bool.and_eq_true] at h1
 have h2:=h1.2
 rw [hs,Bool.not_true,Bool.false_or] at h2
 cases hu:Try.prog.underlying t with
 | none=>rw [hu] at h2;cases h2
 | some D=>
  rw [hu] at h2
  cases D with
  | slice e=>exact kU (lX hu h) k
  | _=>cases h2
end
end Go.Proofs.Ytfglbdkfnphjgaa
set_option linter.unusedVariables false
namespace Go.Proofs.Ytfglbdkfnphjgaa
open Go.RowKit Go.Fw
theorem goC {w0 w:World} {Z G':Nat→Prop} {Lt:List It} {D:List Da} {G R:Prop} (e:Bx w0 w Z G' Lt D) (k:R) (h:Bx w0 w Z G' Lt D→R→G:=by
 intro e k
 repeat (first
  | refine Jb ?_
  | refine zW ?_
  | refine LZ ?_
  | refine EU ?_
  | refine oM ?_
  | refine XF rfl ?_
  | refine WG rfl ?_
  | refine WU rfl ?_
  | refine Xw rfl ?_
  | refine Yb rfl ?_
  | refine Z8 rfl ?_
  | refine Yk rfl ?_
  | refine WK rfl ?_
  | refine XW rfl ?_
  | refine XM rfl ?_
  | refine Ye rfl ?_
  | refine Xp rfl rfl ?_
  | refine Xd rfl rfl ?_
  | refine WI rfl rfl ?_
  | refine Xy rfl rfl ?_
  | refine Yv rfl rfl ?_
  | refine Yx rfl rfl ?_
  | refine Xt rfl rfl ?_
  | refine Yc rfl rfl ?_
  | refine Xx rfl rfl ?_
  | refine Xa rfl rfl ?_
  | refine Wn rfl rfl ?_
  | refine ZY rfl rfl ?_
  | refine Wu rfl rfl ?_
  | refine Xm rfl ?_
  | refine Xg rfl rfl ?_
  | refine Xf rfl rfl ?_
  | refine XD rfl ?_
  | refine V9 rfl ?_
  | refine YA rfl ?_
  | refine jN rfl ?_
  | refine jK rfl ?_
  | refine gF rfl rfl ?_
  | refine gN rfl rfl ?_
  | refine gL rfl (e.bk 0 rfl) rfl rfl ?_
  | refine gL rfl (e.bk 1 rfl) rfl rfl ?_
  | refine gL rfl (e.bk 2 rfl) rfl rfl ?_
  | refine gL rfl (e.bk 3 rfl) rfl rfl ?_
  | refine gL rfl (e.bk 4 rfl) rfl rfl ?_
  | refine gL rfl (e.bk 5 rfl) rfl rfl ?_
  | refine gL rfl (e.bk 6 rfl) rfl rfl ?_
  | refine gL rfl (e.bk 7 rfl) rfl rfl ?_
  | refine gL rfl (e.bk 8 rfl) rfl rfl ?_)
 exact k):G:=h e k
end Go.Proofs.Ytfglbdkfnphjgaa
set_option linter.unusedVariables false
namespace Go.Proofs.Ytfglbdkfnphjgaa
open Go.RowKit Go.Fw
theorem Oh:TI Try.prog 36 sn 1 24:=oN (by kernel_rfl)
theorem Sy:TI Try.prog 87 sn 1 24:=oN (by kernel_rfl)
theorem TR:TI Try.prog 118 sn 1 24:=oN (by kernel_rfl)
theorem WM:TI Try.prog 86 (.pointer none) 1 8:=oN (by kernel_rfl)
theorem NV:TI Try.prog 117 (.pointer none) 1 8:=oN (by kernel_rfl)
theorem Vk:TI Try.prog 90 (V 0) 1 8:=oN (by kernel_rfl)
theorem YS:TI Try.prog 91 (V 0) 1 8:=oN (by kernel_rfl)
section
variable {N:Fz} {ops:Array Oper} {K:KK} {rest:List Oper} {f:Fr} {w w0:World} {d:Option Nat} {ty:TypeId} {pos:String} {af:Array Edge} {x:Operand} {b o:Nat} {Z G:Nat→Prop} {Lt:List It} {D:List Da}
theorem Q7 (h:ev f x=.pointer (some ⟨b,o,none⟩)) (k:oG Try.prog N ops K rest (ny f d (.pointer (some ⟨b,o+1,none⟩))) w):oG Try.prog N ops K (⟨d,.fieldAddr 120 x 1,ty,pos,af,none⟩ :: rest) f w:=kU (nD (k:=1) Try.underlying120 rfl rfl nO (by decide) h) k
theorem aL3 {t:TypeId} {cs:Array Value} {v:Value} (h:ev f x=.pointer (some ⟨b,o,none⟩)) (hb:nA w b t cs) (hi:cs[o]?=some v) (k:oG Try.prog N ops K rest (ny f d v) w):oG Try.prog N ops K (⟨d,.load 3 x,ty,pos,af,none⟩ :: rest) f w:=kU (jT Try.underlying3 rfl h (hb.cell hi)) k
theorem Zu {t:TypeId} {cs:Array Value} {v:Value} (h:ev f x=.pointer (some ⟨b,o,none⟩)) (hb:nA w b t cs) (hi:cs[o]?=some v) (k:oG Try.prog N ops K rest (ny f d v) w):oG Try.prog N ops K (⟨d,.load 87 x,ty,pos,af,none⟩ :: rest) f w:=kU (jT Try.underlying87 rfl h (hb.cell hi)) k
theorem WQ {t:TypeId} {cs:Array Value} {v:Value} (h:ev f x=.pointer (some ⟨b,o,none⟩)) (hb:nA w b t cs) (hi:cs[o]?=some v) (k:oG Try.prog N ops K rest (ny f d v) w):oG Try.prog N ops K (⟨d,.load 118 x,ty,pos,af,none⟩ :: rest) f w:=kU (jT Try.underlying118 rfl h (hb.cell hi)) k
theorem Zk {A:Option Addr} {n c:Nat} (h:ev f x=.slice A n c) (k:oG Try.prog N ops K rest (ny f d (V (n:Int))) w):oG Try.prog N ops K (⟨d,.call { callee:=.builtin .len,args:=#[x],argTypes:=#[87] },ty,pos,af,none⟩ :: rest) f w:=kU (lX Try.underlying87 h) k
end
section
variable {ρ:Operand→Value} {w w0:World} {d:Option Nat} {ty:TypeId} {pos:String} {af:Array Edge} {g:Option (Nat × Bool)} {x:Operand} {b o:Nat}
theorem Ru (h:ρ x=.pointer (some ⟨b,o,none⟩)):Yl Try.prog ρ (.fieldAddr 138 x 2) d ty pos af g w (.pointer (some ⟨b,o+2,none⟩)):=nD (k:=2) Try.underlying138 rfl rfl nO (by decide) h
theorem Nh (h:ρ x=.pointer (some ⟨b,o,none⟩)):Yl Try.prog ρ (.fieldAddr 111 x 6) d ty pos af g w (.pointer (some ⟨b,o+6,none⟩)):=nD (k:=6) Try.underlying111 rfl rfl nO (by decide) h
theorem NK (h:ρ x=.pointer (some ⟨b,o,none⟩)):Yl Try.prog ρ (.fieldAddr 111 x 9) d ty pos af g w (.pointer (some ⟨b,o+9,none⟩)):=nD (k:=9) Try.underlying111 rfl rfl nO (by decide) h
theorem CS (h:ρ x=.pointer (some ⟨b,o,none⟩)):Yl Try.prog ρ (.fieldAddr 111 x 10) d ty pos af g w (.pointer (some ⟨b,o+10,none⟩)):=nD (k:=10) Try.underlying111 rfl rfl uw (by decide) h
theorem Nt (h:ρ x=.pointer (some ⟨b,o,none⟩)):Yl Try.prog ρ (.fieldAddr 120 x 0) d ty pos af g w (.pointer (some ⟨b,o,none⟩)):=wD Try.underlying120 rfl rfl nO (by decide) h
theorem Nl (h:ρ x=.pointer (some ⟨b,o,none⟩)):Yl Try.prog ρ (.fieldAddr 120 x 1) d ty pos af g w (.pointer (some ⟨b,o+1,none⟩)):=nD (k:=1) Try.underlying120 rfl rfl nO (by decide) h
theorem Dl (h:ρ x=.pointer (some ⟨b,o,none⟩)):Yl Try.prog ρ (.fieldAddr 120 x 2) d ty pos af g w (.pointer (some ⟨b,o+2,none⟩)):=nD (k:=2) Try.underlying120 rfl rfl TR (by decide) h
theorem UD (h:ρ x=.pointer (some ⟨b,o,none⟩)):Yl Try.prog ρ (.fieldAddr 89 x 0) d ty pos af g w (.pointer (some ⟨b,o,none⟩)):=wD Try.underlying89 rfl rfl xD (by decide) h
theorem FV (h:ρ x=.pointer (some ⟨b,o,none⟩)):Yl Try.prog ρ (.fieldAddr 89 x 1) d ty pos af g w (.pointer (some ⟨b,o+4,none⟩)):=nD (k:=4) Try.underlying89 rfl rfl Sy (by decide) h
theorem Vy (h:ρ x=.pointer (some ⟨b,o,none⟩)):Yl Try.prog ρ (.fieldAddr 89 x 2) d ty pos af g w (.pointer (some ⟨b,o+5,none⟩)):=nD (k:=5) Try.underlying89 rfl rfl nO (by decide) h
theorem Vh (h:ρ x=.pointer (some ⟨b,o,none⟩)):Yl Try.prog ρ (.fieldAddr 89 x 3) d ty pos af g w (.pointer (some ⟨b,o+6,none⟩)):=nD (k:=6) Try.underlying89 rfl rfl nO (by decide) h
theorem Ui (h:ρ x=.pointer (some ⟨b,o,none⟩)):Yl Try.prog ρ (.fieldAddr 89 x 4) d ty pos af g w (.pointer (some ⟨b,o+7,none⟩)):=nD (k:=7) Try.underlying89 rfl rfl nO (by decide) h
theorem VD (h:ρ x=.pointer (some ⟨b,o,none⟩)):Yl Try.prog ρ (.fieldAddr 89 x 5) d ty pos af g w (.pointer (some ⟨b,o+8,none⟩)):=nD (k:=8) Try.underlying89 rfl rfl nO (by decide) h
theorem Ji (h:ρ x=.pointer (some ⟨b,o,none⟩)):Yl Try.prog ρ (.fieldAddr 89 x 6) d ty pos af g w (.pointer (some ⟨b,o+9,none⟩)):=nD (k:=9) Try.underlying89 rfl rfl Oh (by decide) h
theorem IJ (h:ρ x=.pointer (some ⟨b,o,none⟩)):Yl Try.prog ρ (.fieldAddr 89 x 7) d ty pos af g w (.pointer (some ⟨b,o+10,none⟩)):=nD (k:=10) Try.underlying89 rfl rfl AZ (by decide) h
theorem UG (h:ρ x=.pointer (some ⟨b,o,none⟩)):Yl Try.prog ρ (.fieldAddr 59 x 3) d ty pos af g w (.pointer (some ⟨b,o+3,none⟩)):=nD (k:=3) Try.underlying59 rfl rfl nO (by decide) h
theorem QM (h:ρ x=.pointer (some ⟨b,o,none⟩)):Yl Try.prog ρ (.fieldAddr 50 x 0) d ty pos af g w (.pointer (some ⟨b,o,none⟩)):=wD Try.underlying50 rfl rfl UR (by decide) h
theorem JX {t:TypeId} {cs:Array Value} {v:Value} (h:ρ x=.pointer (some ⟨b,o,none⟩)) (hb:nA w b t cs) (hi:cs[o]?=some v):Yl Try.prog ρ (.load 3 x) d ty pos af g w v:=jT Try.underlying3 rfl h (hb.cell hi)
theorem WT {t:TypeId} {cs:Array Value} {v:Value} (h:ρ x=.pointer (some ⟨b,o,none⟩)) (hb:nA w b t cs) (hi:cs[o]?=some v):Yl Try.prog ρ (.load 4 x) d ty pos af g w v:=jT Try.underlying4 rfl h (hb.cell hi)
theorem VN {t:TypeId} {cs:Array Value} {v:Value} (h:ρ x=.pointer (some ⟨b,o,none⟩)) (hb:nA w b t cs) (hi:cs[o]?=some v):Yl Try.prog ρ (.load 22 x) d ty pos af g w v:=jT Try.underlying22 rfl h (hb.cell hi)
theorem NZ {t:TypeId} {cs:Array Value} {v:Value} (h:ρ x=.pointer (some ⟨b,o,none⟩)) (hb:nA w b t cs) (hi:cs[o]?=some v):Yl Try.prog ρ (.load 36 x) d ty pos af g w v:=jT Try.underlying36 rfl h (hb.cell hi)
theorem YU {t:TypeId} {cs:Array Value} {v:Value} (h:ρ x=.pointer (some ⟨b,o,none⟩)) (hb:nA w b t cs) (hi:cs[o]?=some v):Yl Try.prog ρ (.load 48 x) d ty pos af g w v:=jT Try.underlying48 rfl h (hb.cell hi)
theorem DX {t:TypeId} {cs:Array Value} {v:Value} (h:ρ x=.pointer (some ⟨b,o,none⟩)) (hb:nA w b t cs) (hi:cs[o]?=some v):Yl Try.prog ρ (.load 86 x) d ty pos af g w v:=jT Try.underlying86 rfl h (hb.cell hi)
theorem SF {t:TypeId} {cs:Array Value} {v:Value} (h:ρ x=.pointer (some ⟨b,o,none⟩)) (hb:nA w b t cs) (hi:cs[o]?=some v):Yl Try.prog ρ (.load 87 x) d ty pos af g w v:=jT Try.underlying87 rfl h (hb.cell hi)
theorem Nz {t:TypeId} {cs:Array Value} {v:Value} (h:ρ x=.pointer (some ⟨b,o,none⟩)) (hb:nA w b t cs) (hi:cs[o]?=some v):Yl Try.prog ρ (.load 109 x) d ty pos af g w v:=jT Try.underlying109 rfl h (hb.cell hi)
theorem Nr {t:TypeId} {cs:Array Value} {v:Value} (h:ρ x=.pointer (some ⟨b,o,none⟩)) (hb:nA w b t cs) (hi:cs[o]?=some v):Yl Try.prog ρ (.load 118 x) d ty pos af g w v:=jT Try.underlying118 rfl h (hb.cell hi)
end
end Go.Proofs.Ytfglbdkfnphjgaa
set_option linter.unusedVariables false
namespace Go.Proofs.Ytfglbdkfnphjgaa
open Go.RowKit Go.Fw
structure sJ where
 f:Int
 st:Int
 ws:List (List Int)
inductive Pn (α:Type) where
 | ok (a:α)
 | Eu (v:Int)
 | err (e:Int)
 | rt
def Pn.el {α β:Type} (p:Pn α) (f:α→β) (g:∀ {γ:Type},Pn γ):β ⊕ Unit:=match p with | .ok a=>.inl (f a)|_=>.inr ()
def Pn.up {α β:Type}:Pn α→Pn β
 | .ok _=>.rt
 | .Eu v=>.Eu v
 | .err e=>.err e
 | .rt=>.rt
def Pn.then {α β:Type}:Pn α→(α→Option (Pn β))→Option (Pn β)
 | .ok a,f=>f a
 | .Eu v,_=>some (.Eu v)
 | .err e,_=>some (.err e)
 | .rt,_=>some .rt
def ix? {α:Type} (l:List α) (i:Int):Option α:=if i < 0 then none else l[i.toNat]?
def Rb (op x y:Int):Pn Int:=
 if op=6 then .ok (wr (x+y)) else if op=7 then .ok (wr (x - y)) else if op=8 then .ok (wr (x * y))
 else if op=9 then (if y=0 then .Eu 1 else .ok (wr (x.tdiv y))) else if op=10 then (if y=0 then .Eu 1 else .ok (x.tmod y))
 else if op=11 then .ok (EA (· &&& ·) x y) else if op=12 then .ok (EA (· ||| ·) x y) else if op=13 then .ok (EA (· ^^^ ·) x y)
 else if op=14 then .ok (BI (decide (x < y))) else if op=15 then .ok (BI (decide (x≤y))) else if op=16 then .ok (BI (decide (x=y))) else if op=17 then .ok (BI (decide (x≠y)))
 else .err 4
def SH (ev:jB→Option (Pn Int)) (ws:List (List Int)) (e:jB):Option (Pn (Nat × Nat)):=
 match ix? ws e.g with
 | none=>some .rt
 | some l=>
  if e.e=2 then some (if 0≤e.d∧e.d < l.length then .ok (e.g.toNat,e.d.toNat) else .rt)
  else if e.e=3 then
   match e.a with
   | []=>some .rt
   | x :: _=>(ev x).bind fun p=>p.then fun i=>some (if i < 0 ∨ (l.length:Int)≤i then .Eu 2 else .ok (e.g.toNat,i.toNat))
  else some (if l=[] then .rt else .ok (e.g.toNat,0))
def UO (ws:List (List Int)) (p:Nat × Nat):Int:=(ws.getD p.1 []).getD p.2 0
def setW (ws:List (List Int)) (p:Nat × Nat) (v:Int):List (List Int):=ws.set p.1 ((ws.getD p.1 []).set p.2 v)
def CG:Nat→List (List Int)→jB→Option (Pn Int)
 | 0,_,_=>none
 | fu+1,ws,e=>
  if e.e=0 then some (.ok e.d)
  else if e.e=1 ∨ e.e=2 ∨ e.e=3 then (SH (CG fu ws) ws e).bind fun p=>p.then fun q=>some (.ok (UO ws q))
  else if e.e=4 then match e.a with
   | []=>some .rt
   | x :: _=>(CG fu ws x).bind fun p=>p.then fun n=>some (.ok (wr (0 - n)))
  else if e.e=5 then match e.a with
   | []=>some .rt
   | x :: _=>(CG fu ws x).bind fun p=>p.then fun n=>some (.ok (BI (decide (n=0))))
  else match e.a with
   | []=>some .rt
   | x :: l=>(CG fu ws x).bind fun p=>p.then fun n=>match l with
    | []=>some .rt
    | y :: _=>(CG fu ws y).bind fun p=>p.then fun m=>some (Rb e.e n m)
def IL (ev:jB→Option (Pn Int)):List jB→List Int→Option (Pn (List Int))
 | [],acc=>some (.ok acc)
 | x :: l,acc=>(ev x).bind fun p=>p.then fun n=>(app acc [n]).bind fun acc=>IL ev l acc
structure Sg where
 a:sJ
 hist:List kR
 out:List Int
def Q5 (ws:List (List Int)):List Int→List pV→Option (List pV)
 | [],acc=>some acc
 | v :: l,acc=>(ix? ws v).bind fun r=>(app acc [(⟨v,List.replicate r.length true,r⟩:pV)]).bind fun acc=>Q5 ws l acc
def Wl (vis:Int→Int→Option (List Int)) (g:sJ):Option p8:=
 (vis g.f g.st).bind fun l=>(Q5 g.ws l []).bind fun vs=>some ⟨g.f,g.st,vs⟩
def Tz (vis:Int→Int→Option (List Int)):List sJ→List p8→Option (List p8)
 | [],acc=>some acc
 | g :: l,acc=>(Wl vis g).bind fun f=>(app acc [f]).bind fun acc=>Tz vis l acc
def event (vis:Int→Int→Option (List Int)) (steps:Nat) (rest:List sJ) (s:Sg) (id:Int):Option (Pn Unit × Sg):=
 if steps≤s.hist.length then some (.err 13,s)
 else (Tz vis ((⟨s.a.f,id,s.a.ws⟩:sJ) :: rest) []).bind fun fs=>some (.ok (),⟨⟨s.a.f,id,s.a.ws⟩,s.hist ++ [⟨fs⟩],s.out⟩)
abbrev Sm:=Sg→jD→Option (Pn (Option Int) × Sg)
def Gy (sm:Sm):Sg→List jD→Option (Pn (Option Int) × Sg)
 | s,[]=>some (.ok none,s)
 | s,x :: l=>(sm s x).bind fun (p,s)=>match p with
  | .ok none=>Gy sm s l
  | p=>some (p,s)
def F4:List jA→List (List Int)→Option (Pn (List (List Int)))
 | [],acc=>some (.ok acc)
 | v :: l,acc=>if v.a < 0 ∨ 8 < v.a then some (.err 4) else (app acc [List.replicate v.a.toNat 0]).bind fun acc=>F4 l acc
def G7:List Int→Nat→List (List Int)→Pn (List (List Int))
 | [],_,ws=>.ok ws
 | v :: l,i,ws=>match ws[i]? with
  | none=>.rt
  | some []=>.rt
  | some (_ :: r)=>G7 l (i+1) (ws.set i (v :: r))
def BO (sm:List sJ→Sm) (src:jO) (stk:List sJ) (f:Int) (args:List Int) (hist:List kR) (out:List Int):Option (Pn Int × List kR × List Int):=
 if 20≤stk.length then some (.err 5,hist,out)
 else match ix? src.c f with
  | none=>some (.rt,hist,out)
  | some vars=>(F4 vars []).bind fun p=>match p with
   | .ok ws=>match G7 args 0 ws with
    | .ok ws=>match ix? src.a.b f with
     | none=>some (.rt,hist,out)
     | some fn=>(Gy (sm stk) ⟨⟨f,0,ws⟩,hist,out⟩ fn.e).bind fun (p,s)=>some (match p with | .ok r=>.ok (r.getD 0)|p=>p.up,s.hist,s.out)
    | p=>some (p.up,hist,out)
   | p=>some (p.up,hist,out)
def one (ev:jB→Option (Pn Int)) (l:List jB) (s:Sg) {β:Type} (k:Int→Option (Pn β × Sg)):Option (Pn β × Sg):=match l with
 | []=>some (.rt,s)
 | x :: _=>(ev x).bind fun p=>match p with
  | .ok n=>k n
  | p=>some (p.up,s)
def TM (cond:Sg→Option (Pn Int)) (body:Sg→Option (Pn (Option Int) × Sg)) (ev:Sg→Option (Pn Unit × Sg)):Nat→Sg→Option (Pn (Option Int) × Sg)
 | 0,_=>none
 | n+1,s=>(cond s).bind fun p=>match p with
  | .ok v=>if v=0 then some (.ok none,s) else (body s).bind fun (p,s)=>match p with
   | .ok none=>(ev s).bind fun (p,s)=>match p with
    | .ok _=>TM cond body ev n s
    | p=>some (p.up,s)
   | p=>some (p,s)
  | p=>some (p.up,s)
def KA (ev:jB→Option (Pn Int)) (ws:List (List Int)) (l:List jB) (s:Sg) {β:Type} (k:Nat × Nat→Option (Pn β × Sg)):Option (Pn β × Sg):=match l with
 | []=>some (.rt,s)
 | x :: _=>(SH ev ws x).bind fun p=>match p with
  | .ok n=>k n
  | p=>some (p.up,s)
def YB (ev:jB→Option (Pn Int)):List jB→Option (Pn Int)
 | []=>some .rt
 | e :: _=>ev e
def wdA (ev:jB→Option (Pn Int)) (ws:List (List Int)):List jB→Option (Pn (Nat × Nat))
 | []=>some .rt
 | e :: _=>SH ev ws e
def CZ (sm:List sJ→Sm) (src:jO) (rest:List sJ) (fu:Nat) (s:Sg) (x:jD) (k:Int→Sg→Option (Pn (Option Int) × Sg)):Option (Pn (Option Int) × Sg):=
 (IL (CG fu s.a.ws) x.a []).bind fun p=>match p with
  | .ok l=>(BO sm src (s.a :: rest) x.i l s.hist s.out).bind fun (p,h,o)=>match p with
   | .ok v=>k v { s with hist:=h,out:=o }
   | p=>some (p.up,{ s with hist:=h,out:=o })
  | p=>some (p.up,s)
def stM (vis:Int→Int→Option (List Int)) (src:jO) (steps:Nat):Nat→List sJ→Sm
 | 0,_,_,_=>none
 | fu+1,rest,s,x=>(event vis steps rest s x.n).bind fun (p,s)=>match p with
  | .ok _=>
   if x.c=1 then match ix? s.a.ws x.g with
    | none=>some (.rt,s)
    | some l=>some (.ok none,{ s with a:={ s.a with ws:=s.a.ws.set x.g.toNat (List.replicate l.length 0) } })
   else if x.c=2 then KA (CG fu s.a.ws) s.a.ws x.d s fun q=>one (CG fu s.a.ws) x.a s fun v=>some (.ok none,{ s with a:={ s.a with ws:=setW s.a.ws q v } })
   else if x.c=3 then CZ (stM vis src steps fu) src rest fu s x fun v s=>if x.d.length=0 then some (.ok none,s) else KA (CG fu s.a.ws) s.a.ws x.d s fun q=>some (.ok none,{ s with a:={ s.a with ws:=setW s.a.ws q v } })
   else if x.c=4 then one (CG fu s.a.ws) x.a s fun v=>Gy (stM vis src steps fu rest) s (if v≠0 then x.e else x.h)
   else if x.c=5 then TM (fun s=>YB (CG fu s.a.ws) x.a) (fun s=>Gy (stM vis src steps fu rest) s x.e) (fun s=>event vis steps rest s x.n) fu s
   else if x.c=6 then
    if x.j≠be then CZ (stM vis src steps fu) src rest fu s x fun v s=>some (.ok (some v),s)
    else one (CG fu s.a.ws) x.a s fun v=>some (.ok (some v),s)
   else if x.c=7 then one (CG fu s.a.ws) x.a s fun v=>some (.Eu v,s)
   else if x.c=8 then (Gy (stM vis src steps fu rest) s x.e).bind fun (p,s)=>match p with
    | .Eu v=>match ix? s.a.ws x.g with
     | none=>some (.rt,s)
     | some []=>some (.rt,s)
     | some (_ :: r)=>Gy (stM vis src steps fu rest) { s with a:={ s.a with ws:=s.a.ws.set x.g.toNat (v :: r) } } x.h
    | p=>some (p,s)
   else if x.c=9 then one (CG fu s.a.ws) x.a s fun v=>(app s.out [v]).bind fun o=>some (.ok none,{ s with out:=o })
   else if x.c=10 then some (.ok (some 0),s)
   else some (.ok none,s)
  | p=>some (p.up,s)
def window (hist:List kR) (from_ most:Nat):List kR:=(hist.drop from_).take most
def traceM (fu:Nat) (vis:Int→Int→Option (List Int)) (src:jO) (f:Int) (args:List Int) (steps from_ most:Int):Option (List kR × rG):=
 match ix? src.a.b f with
 | none=>some ([],⟨1,false,0,[]⟩)
 | some fn=>
  if args.length≠fn.a.length ∨ steps < 0 ∨ 5000 < steps ∨ from_ < 0 ∨ most < 0 ∨ 100 < most then some ([],⟨1,false,0,[]⟩)
  else (BO (stM vis src steps.toNat fu) src [] f args [] []).bind fun (p,h,o)=>some (window h from_.toNat most.toNat,match p with
   | .ok v=>⟨0,false,v,o⟩
   | .Eu v=>⟨0,true,v,o⟩
   | .err e=>⟨e,false,0,o⟩
   | .rt=>⟨4,false,0,o⟩)
end Go.Proofs.Ytfglbdkfnphjgaa
