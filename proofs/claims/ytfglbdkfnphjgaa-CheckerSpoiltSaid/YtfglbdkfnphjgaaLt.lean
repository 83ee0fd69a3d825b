/- Types of the program, and facts about them. -/
import Derived.Test.YtfglbdkfnphjgaaRows
import Derived.Test.YtfglbdkfnphjgaaX2
import Derived.Test.YtfglbdkfnphjgaaX3
set_option linter.unusedVariables false
set_option maxHeartbeats 12800000
set_option linter.unusedSimpArgs false
set_option maxRecDepth 4000
namespace Go.Proofs.Ytfglbdkfnphjgaa
open Go.RowKit Go.Fw
theorem r.{u} {α : Sort u} {a : α} : a = a := rfl
abbrev OA := Option Addr
abbrev LV := List (List Value)
noncomputable section
structure jR where
 l:(List Int)
 a:Int
instance:Rp jR:=⟨2,32,fun F w cs x=>∃ (a1:OA) (c1:Nat),cs=[.slice a1 x.l.length c1,Vi x.a]∧ll F w a1 c1 x.l,fun h=>by obtain ⟨a1,c1,rfl,_⟩:=h;rfl,fun h=>by obtain ⟨a1,c1,rfl,_⟩:=h;rfl,fun h m=>by obtain ⟨a1,c1,h,k1⟩:=h;exact ⟨a1,c1,h,k1.mv m⟩⟩
theorem jR.out {F:Nat→Prop} {w:World} {cs:List Value} {x:jR} (h:Rp.Bo F w cs x):∃ (a:OA) (b:Nat),cs=[.slice a x.l.length b,Vi x.a]∧ll F w a b x.l:=h
theorem jR.tQ {F:Nat→Prop} {w:World} {cs:List Value} {x:jR} (h:∃ (a:OA) (b:Nat),cs=[.slice a x.l.length b,Vi x.a]∧ll F w a b x.l):Rp.Bo F w cs x:=h
structure jL where
 e:Int
 d:Int
 j:Int
 a:ByteArray
 c:ByteArray
 b:(List jL)
inductive jL.R (F:Nat→Prop) (w:World):List Value→jL→Prop
 | mk (x:jL) (a1:OA) (c1:Nat) (C1:Nat→List Value) (h1:x.b.length≤c1∧c1≤maxLen) (k1:0 < x.b.length→a1=some ⟨uB a1,xk a1,none⟩∧F (uB a1)∧uB a1 < w.heap.size) (e1:∀ i y,x.b[i]?=some y→Cells w (uB a1) (xk a1+i * 6) (C1 i)) (r1:∀ i y,x.b[i]?=some y→jL.R F w (C1 i) y):jL.R F w [Vi x.e,Vi x.d,Vi x.j,Vt x.a,Vt x.c,.slice a1 x.b.length c1] x
instance:Rp jL where
 sz:=6
 bs:=80
 Bo:=jL.R
 len h:=by cases h;rfl
 one h:=by cases h;rfl
 mv {F G w w' cs x} h m:=by
  induction h with
  | mk x a1 c1 C1 h1 k1 e1 r1 ih1=>exact .mk x a1 c1 C1 h1 (fun h0=>⟨(k1 h0).1,(m.1 _ (k1 h0).2.1 (k1 h0).2.2).1,Nat.lt_of_lt_of_le (k1 h0).2.2 m.2⟩) (fun i y hy=>(e1 i y hy).same (m.1 _ (k1 (by have:=kE hy;omega)).2.1 (k1 (by have:=kE hy;omega)).2.2).2) ih1
theorem jL.out {F:Nat→Prop} {w:World} {cs:List Value} {x:jL} (h:Rp.Bo F w cs x):∃ (a:OA) (b:Nat),cs=[Vi x.e,Vi x.d,Vi x.j,Vt x.a,Vt x.c,.slice a x.b.length b]∧ll F w a b x.b:=by
 cases h with
 | mk _ a b f e c j k=>exact ⟨a,b,rfl,⟨e.1,e.2,fun d=>⟨(c d).1,(c d).2.1,(c d).2.2,fun i l hy=>⟨f i,j i l hy,k i l hy⟩⟩⟩⟩
theorem jL.tQ {F:Nat→Prop} {w:World} {cs:List Value} {x:jL} (h:∃ (b:OA) (c:Nat),cs=[Vi x.e,Vi x.d,Vi x.j,Vt x.a,Vt x.c,.slice b x.b.length c]∧ll F w b c x.b):Rp.Bo F w cs x:=by
 obtain ⟨b,c,rfl,a⟩:=h
 obtain ⟨e,f,i⟩:=a.fn
 exact .mk x b c e ⟨a.1,a.2.1⟩ (fun d=>⟨(a.2.2 d).1,(a.2.2 d).2.1,(a.2.2 d).2.2.1⟩) f i
structure kv where
 e:Int
 c:Int
 a:ByteArray
 d:Int
instance:Rp kv:=⟨4,40,fun _ _ cs x=>cs=[Vi x.e,Vi x.c,Vt x.a,Vi x.d],fun h=>by rw [h];rfl,fun h=>by rw [h];rfl,fun h _=>h⟩
structure jy where
 l:(List kv)
 a:Int
 c:Int
 e:Int
instance:Rp jy:=⟨4,48,fun F w cs x=>∃ (a1:OA) (c1:Nat),cs=[.slice a1 x.l.length c1,Vi x.a,Vi x.c,Vi x.e]∧ll F w a1 c1 x.l,fun h=>by obtain ⟨a1,c1,rfl,_⟩:=h;rfl,fun h=>by obtain ⟨a1,c1,rfl,_⟩:=h;rfl,fun h m=>by obtain ⟨a1,c1,h,k1⟩:=h;exact ⟨a1,c1,h,k1.mv m⟩⟩
theorem jy.out {F:Nat→Prop} {w:World} {cs:List Value} {x:jy} (h:Rp.Bo F w cs x):∃ (a:OA) (b:Nat),cs=[.slice a x.l.length b,Vi x.a,Vi x.c,Vi x.e]∧ll F w a b x.l:=h
theorem jy.tQ {F:Nat→Prop} {w:World} {cs:List Value} {x:jy} (h:∃ (a:OA) (b:Nat),cs=[.slice a x.l.length b,Vi x.a,Vi x.c,Vi x.e]∧ll F w a b x.l):Rp.Bo F w cs x:=h
structure jM where
 e:Int
 c:Int
 n:Int
 a:ByteArray
 g:ByteArray
 m:Int
 j:Int
 d:(List jL)
 k:ByteArray
 h:Int
 b:(List jL)
 f:(List jM)
 i:(List jM)
inductive jM.R (F:Nat→Prop) (w:World):List Value→jM→Prop
 | mk (x:jM) (a1:OA) (c1:Nat) (a2:OA) (c2:Nat) (a3:OA) (c3:Nat) (a4:OA) (c4:Nat) (k1:ll F w a1 c1 x.d) (k2:ll F w a2 c2 x.b) (C3:Nat→List Value) (h3:x.f.length≤c3∧c3≤maxLen) (k3:0 < x.f.length→a3=some ⟨uB a3,xk a3,none⟩∧F (uB a3)∧uB a3 < w.heap.size) (e3:∀ i y,x.f[i]?=some y→Cells w (uB a3) (xk a3+i * 13) (C3 i)) (r3:∀ i y,x.f[i]?=some y→jM.R F w (C3 i) y) (C4:Nat→List Value) (h4:x.i.length≤c4∧c4≤maxLen) (k4:0 < x.i.length→a4=some ⟨uB a4,xk a4,none⟩∧F (uB a4)∧uB a4 < w.heap.size) (e4:∀ i y,x.i[i]?=some y→Cells w (uB a4) (xk a4+i * 13) (C4 i)) (r4:∀ i y,x.i[i]?=some y→jM.R F w (C4 i) y):jM.R F w [Vi x.e,Vi x.c,Vi x.n,Vt x.a,Vt x.g,Vi x.m,Vi x.j,.slice a1 x.d.length c1,Vt x.k,Vi x.h,.slice a2 x.b.length c2,.slice a3 x.f.length c3,.slice a4 x.i.length c4] x
instance:Rp jM where
 sz:=13
 bs:=192
 Bo:=jM.R
 len h:=by cases h;rfl
 one h:=by cases h;rfl
 mv {F G w w' cs x} h m:=by
  induction h with
  | mk x a1 c1 a2 c2 a3 c3 a4 c4 k1 k2 C3 h3 k3 e3 r3 C4 h4 k4 e4 r4 ih3 ih4=>exact .mk x a1 c1 a2 c2 a3 c3 a4 c4 (k1.mv m) (k2.mv m) C3 h3 (fun h0=>⟨(k3 h0).1,(m.1 _ (k3 h0).2.1 (k3 h0).2.2).1,Nat.lt_of_lt_of_le (k3 h0).2.2 m.2⟩) (fun i y hy=>(e3 i y hy).same (m.1 _ (k3 (by have:=kE hy;omega)).2.1 (k3 (by have:=kE hy;omega)).2.2).2) ih3 C4 h4 (fun h0=>⟨(k4 h0).1,(m.1 _ (k4 h0).2.1 (k4 h0).2.2).1,Nat.lt_of_lt_of_le (k4 h0).2.2 m.2⟩) (fun i y hy=>(e4 i y hy).same (m.1 _ (k4 (by have:=kE hy;omega)).2.1 (k4 (by have:=kE hy;omega)).2.2).2) ih4
theorem jM.out {F:Nat→Prop} {w:World} {cs:List Value} {x:jM} (h:Rp.Bo F w cs x):∃ (b:OA) (c:Nat) (d:OA) (e:Nat) (f:OA) (j:Nat) (k:OA) (l:Nat),cs=[Vi x.e,Vi x.c,Vi x.n,Vt x.a,Vt x.g,Vi x.m,Vi x.j,.slice b x.d.length c,Vt x.k,Vi x.h,.slice d x.b.length e,.slice f x.f.length j,.slice k x.i.length l]∧ll F w b c x.d∧ll F w d e x.b∧ll F w f j x.f∧ll F w k l x.i:=by
 cases h with
 | mk _ b c d e f j k l u v z p m A B C t o D E=>exact ⟨b,c,d,e,f,j,k,l,rfl,u,v,⟨p.1,p.2,fun a=>⟨(m a).1,(m a).2.1,(m a).2.2,fun i G hy=>⟨z i,A i G hy,B i G hy⟩⟩⟩,⟨t.1,t.2,fun a=>⟨(o a).1,(o a).2.1,(o a).2.2,fun i G hy=>⟨C i,D i G hy,E i G hy⟩⟩⟩⟩
theorem jM.tQ {F:Nat→Prop} {w:World} {cs:List Value} {x:jM} (h:∃ (d:OA) (e:Nat) (f:OA) (i:Nat) (j:OA) (k:Nat) (l:OA) (m:Nat),cs=[Vi x.e,Vi x.c,Vi x.n,Vt x.a,Vt x.g,Vi x.m,Vi x.j,.slice d x.d.length e,Vt x.k,Vi x.h,.slice f x.b.length i,.slice j x.f.length k,.slice l x.i.length m]∧ll F w d e x.d∧ll F w f i x.b∧ll F w j k x.f∧ll F w l m x.i):Rp.Bo F w cs x:=by
 obtain ⟨d,e,f,i,j,k,l,m,rfl,o,p,b,c⟩:=h
 obtain ⟨t,u,v⟩:=b.fn
 obtain ⟨z,A,B⟩:=c.fn
 exact .mk x d e f i j k l m o p t ⟨b.1,b.2.1⟩ (fun a=>⟨(b.2.2 a).1,(b.2.2 a).2.1,(b.2.2 a).2.2.1⟩) u v z ⟨c.1,c.2.1⟩ (fun a=>⟨(c.2.2 a).1,(c.2.2 a).2.1,(c.2.2 a).2.2.1⟩) A B
structure kD where
 a:ByteArray
 b:(List ByteArray)
instance:Rp kD:=⟨2,40,fun F w cs x=>∃ (a1:OA) (c1:Nat),cs=[Vt x.a,.slice a1 x.b.length c1]∧ll F w a1 c1 x.b,fun h=>by obtain ⟨a1,c1,rfl,_⟩:=h;rfl,fun h=>by obtain ⟨a1,c1,rfl,_⟩:=h;rfl,fun h m=>by obtain ⟨a1,c1,h,k1⟩:=h;exact ⟨a1,c1,h,k1.mv m⟩⟩
theorem kD.out {F:Nat→Prop} {w:World} {cs:List Value} {x:kD} (h:Rp.Bo F w cs x):∃ (a:OA) (b:Nat),cs=[Vt x.a,.slice a x.b.length b]∧ll F w a b x.b:=h
theorem kD.tQ {F:Nat→Prop} {w:World} {cs:List Value} {x:kD} (h:∃ (a:OA) (b:Nat),cs=[Vt x.a,.slice a x.b.length b]∧ll F w a b x.b):Rp.Bo F w cs x:=h
structure kC where
 a:ByteArray
 c:Int
 b:(List ByteArray)
 f:(List jM)
instance:Rp kC:=⟨4,72,fun F w cs x=>∃ (a1:OA) (c1:Nat) (a2:OA) (c2:Nat),cs=[Vt x.a,Vi x.c,.slice a1 x.b.length c1,.slice a2 x.f.length c2]∧ll F w a1 c1 x.b∧ll F w a2 c2 x.f,fun h=>by obtain ⟨a1,c1,a2,c2,rfl,_⟩:=h;rfl,fun h=>by obtain ⟨a1,c1,a2,c2,rfl,_⟩:=h;rfl,fun h m=>by obtain ⟨a1,c1,a2,c2,h,k1,k2⟩:=h;exact ⟨a1,c1,a2,c2,h,k1.mv m,k2.mv m⟩⟩
theorem kC.out {F:Nat→Prop} {w:World} {cs:List Value} {x:kC} (h:Rp.Bo F w cs x):∃ (a:OA) (b:Nat) (c:OA) (d:Nat),cs=[Vt x.a,Vi x.c,.slice a x.b.length b,.slice c x.f.length d]∧ll F w a b x.b∧ll F w c d x.f:=h
theorem kC.tQ {F:Nat→Prop} {w:World} {cs:List Value} {x:kC} (h:∃ (a:OA) (b:Nat) (c:OA) (d:Nat),cs=[Vt x.a,Vi x.c,.slice a x.b.length b,.slice c x.f.length d]∧ll F w a b x.b∧ll F w c d x.f):Rp.Bo F w cs x:=h
structure jJ where
 a:(List kD)
 b:(List kC)
instance:Rp jJ:=⟨2,48,fun F w cs x=>∃ (a1:OA) (c1:Nat) (a2:OA) (c2:Nat),cs=[.slice a1 x.a.length c1,.slice a2 x.b.length c2]∧ll F w a1 c1 x.a∧ll F w a2 c2 x.b,fun h=>by obtain ⟨a1,c1,a2,c2,rfl,_⟩:=h;rfl,fun h=>by obtain ⟨a1,c1,a2,c2,rfl,_⟩:=h;rfl,fun h m=>by obtain ⟨a1,c1,a2,c2,h,k1,k2⟩:=h;exact ⟨a1,c1,a2,c2,h,k1.mv m,k2.mv m⟩⟩
theorem jJ.out {F:Nat→Prop} {w:World} {cs:List Value} {x:jJ} (h:Rp.Bo F w cs x):∃ (a:OA) (b:Nat) (c:OA) (d:Nat),cs=[.slice a x.a.length b,.slice c x.b.length d]∧ll F w a b x.a∧ll F w c d x.b:=h
theorem jJ.tQ {F:Nat→Prop} {w:World} {cs:List Value} {x:jJ} (h:∃ (a:OA) (b:Nat) (c:OA) (d:Nat),cs=[.slice a x.a.length b,.slice c x.b.length d]∧ll F w a b x.a∧ll F w c d x.b):Rp.Bo F w cs x:=h
structure lK where
 f:Int
 e:Int
 b:(List Int)
 a:(List ByteArray)
 d:(List ByteArray)
 c:(List ByteArray)
 g:Int
 h:Int
structure jA where
 a:ByteArray
 e:Int
 b:Int
 f:Int
 c:Bool
 d:Int
 g:Int
instance:Rp jA:=⟨7,64,fun _ _ cs x=>cs=[Vt x.a,Vi x.e,Vi x.b,Vi x.f,.bool x.c,Vi x.d,Vi x.g],fun h=>by rw [h];rfl,fun h=>by rw [h];rfl,fun h _=>h⟩
structure ky where
 k:Int
 e:Int
 c:Int
instance:Rp ky:=⟨3,24,fun _ _ cs x=>cs=[Vi x.k,Vi x.e,Vi x.c],fun h=>by rw [h];rfl,fun h=>by rw [h];rfl,fun h _=>h⟩
structure jW where
 a:jJ
 c:(List (List jA))
 b:(List ky)
instance:Rp jW:=⟨4,96,fun F w cs x=>∃ (a1:OA) (c1:Nat) (a2:OA) (c2:Nat) (a3:OA) (c3:Nat) (a4:OA) (c4:Nat),cs=[.slice a1 x.a.a.length c1,.slice a2 x.a.b.length c2,.slice a3 x.c.length c3,.slice a4 x.b.length c4]∧ll F w a1 c1 x.a.a∧ll F w a2 c2 x.a.b∧ll F w a3 c3 x.c∧ll F w a4 c4 x.b,fun h=>by obtain ⟨a1,c1,a2,c2,a3,c3,a4,c4,rfl,_⟩:=h;rfl,fun h=>by obtain ⟨a1,c1,a2,c2,a3,c3,a4,c4,rfl,_⟩:=h;rfl,fun h m=>by obtain ⟨a1,c1,a2,c2,a3,c3,a4,c4,h,k1,k2,k3,k4⟩:=h;exact ⟨a1,c1,a2,c2,a3,c3,a4,c4,h,k1.mv m,k2.mv m,k3.mv m,k4.mv m⟩⟩
theorem jW.out {F:Nat→Prop} {w:World} {cs:List Value} {x:jW} (h:Rp.Bo F w cs x):∃ (a:OA) (b:Nat) (c:OA) (d:Nat) (e:OA) (f:Nat) (i:OA) (j:Nat),cs=[.slice a x.a.a.length b,.slice c x.a.b.length d,.slice e x.c.length f,.slice i x.b.length j]∧ll F w a b x.a.a∧ll F w c d x.a.b∧ll F w e f x.c∧ll F w i j x.b:=h
theorem jW.tQ {F:Nat→Prop} {w:World} {cs:List Value} {x:jW} (h:∃ (a:OA) (b:Nat) (c:OA) (d:Nat) (e:OA) (f:Nat) (i:OA) (j:Nat),cs=[.slice a x.a.a.length b,.slice c x.a.b.length d,.slice e x.c.length f,.slice i x.b.length j]∧ll F w a b x.a.a∧ll F w c d x.a.b∧ll F w e f x.c∧ll F w i j x.b):Rp.Bo F w cs x:=h
structure fV where
 a:jW
 f:Int
 b:(List Int)
 c:Int
 e:Int
instance:Rp fV:=⟨8,144,fun F w cs x=>∃ (a1:OA) (c1:Nat) (a2:OA) (c2:Nat) (a3:OA) (c3:Nat) (a4:OA) (c4:Nat) (a5:OA) (c5:Nat),cs=[.slice a1 x.a.a.a.length c1,.slice a2 x.a.a.b.length c2,.slice a3 x.a.c.length c3,.slice a4 x.a.b.length c4,Vi x.f,.slice a5 x.b.length c5,Vi x.c,Vi x.e]∧ll F w a1 c1 x.a.a.a∧ll F w a2 c2 x.a.a.b∧ll F w a3 c3 x.a.c∧ll F w a4 c4 x.a.b∧ll F w a5 c5 x.b,fun h=>by obtain ⟨a1,c1,a2,c2,a3,c3,a4,c4,a5,c5,rfl,_⟩:=h;rfl,fun h=>by obtain ⟨a1,c1,a2,c2,a3,c3,a4,c4,a5,c5,rfl,_⟩:=h;rfl,fun h m=>by obtain ⟨a1,c1,a2,c2,a3,c3,a4,c4,a5,c5,h,k1,k2,k3,k4,k5⟩:=h;exact ⟨a1,c1,a2,c2,a3,c3,a4,c4,a5,c5,h,k1.mv m,k2.mv m,k3.mv m,k4.mv m,k5.mv m⟩⟩
theorem fV.out {F:Nat→Prop} {w:World} {cs:List Value} {x:fV} (h:Rp.Bo F w cs x):∃ (a:OA) (b:Nat) (c:OA) (d:Nat) (i:OA) (j:Nat) (k:OA) (l:Nat) (m:OA) (o:Nat),cs=[.slice a x.a.a.a.length b,.slice c x.a.a.b.length d,.slice i x.a.c.length j,.slice k x.a.b.length l,Vi x.f,.slice m x.b.length o,Vi x.c,Vi x.e]∧ll F w a b x.a.a.a∧ll F w c d x.a.a.b∧ll F w i j x.a.c∧ll F w k l x.a.b∧ll F w m o x.b:=h
theorem fV.tQ {F:Nat→Prop} {w:World} {cs:List Value} {x:fV} (h:∃ (a:OA) (b:Nat) (c:OA) (d:Nat) (i:OA) (j:Nat) (k:OA) (l:Nat) (m:OA) (o:Nat),cs=[.slice a x.a.a.a.length b,.slice c x.a.a.b.length d,.slice i x.a.c.length j,.slice k x.a.b.length l,Vi x.f,.slice m x.b.length o,Vi x.c,Vi x.e]∧ll F w a b x.a.a.a∧ll F w c d x.a.a.b∧ll F w i j x.a.c∧ll F w k l x.a.b∧ll F w m o x.b):Rp.Bo F w cs x:=h
structure jD where
 h:(List (ByteArray × Int))
 e:(List (ByteArray × Int))
 a:jW
 b:(List Int)
 g:(List jA)
 d:(List Int)
 f:Int
 c:Int
theorem Nq {ρ:Operand→Value} {w:World} {d:Option Nat} {ty:TypeId} {pos:String} {af:Array Edge} {a9:Option (Nat × Bool)} {t:Int} {u:Int} {v:Int} {x:Int} {z:Int} {A:Int} {B:Int} {C:Int} {D:Int} {E:Int} {a:Int} {b:Int} {c:Int} {f:Int} {h:Int} {i:Int} {L:Operand} {M:Operand} {N:Operand} {P:Operand} {Q:Operand} {R:Operand} {S:Operand} {U:Operand} {W:Operand} {X:Operand} {j:Operand} {k:Operand} {l:Operand} {m:Operand} {o:Operand} {p:Operand} (Y:ρ L=Vi t) (h1:ρ M=Vi u) (h2:ρ N=Vi v) (h3:ρ P=Vi x) (h4:ρ Q=Vi z) (h5:ρ R=Vi A) (h6:ρ S=Vi B) (h7:ρ U=Vi C) (h8:ρ W=Vi D) (h9:ρ X=Vi E) (F:ρ j=Vi a) (G:ρ k=Vi b) (H:ρ l=Vi c) (I:ρ m=Vi f) (J:ρ o=Vi h) (K:ρ p=Vi i) :
  (execOp ρ ⟨d,.buildSlice 22 16 #[(0,L),(1,M),(2,N),(3,P),(4,Q),(5,R),(6,S),(7,U),(8,W),(9,X),(10,j),(11,k),(12,l),(13,m),(14,o),(15,p)],ty,pos,af,a9⟩).run Try.prog w=.ok (.value (.slice (some ⟨w.heap.size,0,none⟩) 16 16)) (w.alloc (.cells #[Vi t,Vi u,Vi v,Vi x,Vi z,Vi A,Vi B,Vi C,Vi D,Vi E,Vi a,Vi b,Vi c,Vi f,Vi h,Vi i] 3)):=by
 have e:(Instr.buildSlice 22 16 #[(0,Vi t),(1,Vi u),(2,Vi v),(3,Vi x),(4,Vi z),(5,Vi A),(6,Vi B),(7,Vi C),(8,Vi D),(9,Vi E),(10,Vi a),(11,Vi b),(12,Vi c),(13,Vi f),(14,Vi h),(15,Vi i)]).run Try.prog w=.ok (.slice (some ⟨w.heap.size,0,none⟩) 16 16) (w.alloc (.cells #[Vi t,Vi u,Vi v,Vi x,Vi z,Vi A,Vi B,Vi C,Vi D,Vi E,Vi a,Vi b,Vi c,Vi f,Vi h,Vi i] 3)):=by kernel_rfl
 simp [execOp,Y,h1,h2,h3,h4,h5,h6,h7,h8,h9,F,G,H,I,J,K,e]
theorem Es {ρ:Operand→Value} {w:World} {d:Option Nat} {ty:TypeId} {pos:String} {af:Array Edge} {W:Option (Nat × Bool)} {h:ByteArray} {i:ByteArray} {j:ByteArray} {k:ByteArray} {l:ByteArray} {m:ByteArray} {o:ByteArray} {p:ByteArray} {t:ByteArray} {u:ByteArray} {a:ByteArray} {b:ByteArray} {z:Operand} {A:Operand} {B:Operand} {C:Operand} {D:Operand} {E:Operand} {F:Operand} {G:Operand} {H:Operand} {I:Operand} {c:Operand} {f:Operand} (J:ρ z=Vt h) (K:ρ A=Vt i) (L:ρ B=Vt j) (M:ρ C=Vt k) (N:ρ D=Vt l) (P:ρ E=Vt m) (Q:ρ F=Vt o) (R:ρ G=Vt p) (S:ρ H=Vt t) (U:ρ I=Vt u) (v:ρ c=Vt a) (x:ρ f=Vt b) :
  (execOp ρ ⟨d,.buildSlice 70 12 #[(0,z),(1,A),(2,B),(3,C),(4,D),(5,E),(6,F),(7,G),(8,H),(9,I),(10,c),(11,f)],ty,pos,af,W⟩).run Try.prog w=.ok (.value (.slice (some ⟨w.heap.size,0,none⟩) 12 12)) (w.alloc (.cells #[Vt h,Vt i,Vt j,Vt k,Vt l,Vt m,Vt o,Vt p,Vt t,Vt u,Vt a,Vt b] 9)):=by
 have e:(Instr.buildSlice 70 12 #[(0,Vt h),(1,Vt i),(2,Vt j),(3,Vt k),(4,Vt l),(5,Vt m),(6,Vt o),(7,Vt p),(8,Vt t),(9,Vt u),(10,Vt a),(11,Vt b)]).run Try.prog w=.ok (.slice (some ⟨w.heap.size,0,none⟩) 12 12) (w.alloc (.cells #[Vt h,Vt i,Vt j,Vt k,Vt l,Vt m,Vt o,Vt p,Vt t,Vt u,Vt a,Vt b] 9)):=by kernel_rfl
 simp [execOp,J,K,L,M,N,P,Q,R,S,U,v,x,e]
theorem OJ {ρ:Operand→Value} {w:World} {d:Option Nat} {ty:TypeId} {pos:String} {af:Array Edge} {m:Option (Nat × Bool)} {a:ByteArray} {b:ByteArray} {c:ByteArray} {f:Operand} {h:Operand} {i:Operand} (j:ρ f=Vt a) (k:ρ h=Vt b) (l:ρ i=Vt c) :
  (execOp ρ ⟨d,.buildSlice 70 3 #[(0,f),(1,h),(2,i)],ty,pos,af,m⟩).run Try.prog w=.ok (.value (.slice (some ⟨w.heap.size,0,none⟩) 3 3)) (w.alloc (.cells #[Vt a,Vt b,Vt c] 9)):=by
 have e:(Instr.buildSlice 70 3 #[(0,Vt a),(1,Vt b),(2,Vt c)]).run Try.prog w=.ok (.slice (some ⟨w.heap.size,0,none⟩) 3 3) (w.alloc (.cells #[Vt a,Vt b,Vt c] 9)):=by kernel_rfl
 simp [execOp,j,k,l,e]
theorem Ml {ρ:Operand→Value} {w:World} {d:Option Nat} {ty:TypeId} {pos:String} {af:Array Edge} {aq:Option (Nat × Bool)} {F:Int} {G:Int} {H:Int} {I:Int} {J:Int} {K:Int} {L:Int} {M:Int} {N:Int} {P:Int} {a:Int} {b:Int} {c:Int} {f:Int} {h:Int} {i:Int} {j:Int} {k:Int} {l:Int} {m:Int} {o:Int} {o0:Operand} {o1:Operand} {o2:Operand} {o3:Operand} {o4:Operand} {o5:Operand} {o6:Operand} {o7:Operand} {o8:Operand} {o9:Operand} {p:Operand} {t:Operand} {u:Operand} {v:Operand} {x:Operand} {z:Operand} {A:Operand} {B:Operand} {C:Operand} {D:Operand} {E:Operand} (h0:ρ o0=.int .u8 F) (h1:ρ o1=.int .u8 G) (h2:ρ o2=.int .u8 H) (h3:ρ o3=.int .u8 I) (h4:ρ o4=.int .u8 J) (h5:ρ o5=.int .u8 K) (h6:ρ o6=.int .u8 L) (h7:ρ o7=.int .u8 M) (h8:ρ o8=.int .u8 N) (h9:ρ o9=.int .u8 P) (Q:ρ p=.int .u8 a) (R:ρ t=.int .u8 b) (S:ρ u=.int .u8 c) (U:ρ v=.int .u8 f) (W:ρ x=.int .u8 h) (X:ρ z=.int .u8 i) (Y:ρ A=.int .u8 j) (a0:ρ B=.int .u8 k) (a1:ρ C=.int .u8 l) (a2:ρ D=.int .u8 m) (a3:ρ E=.int .u8 o) :
  (execOp ρ ⟨d,.buildSlice 187 21 #[(0,o0),(1,o1),(2,o2),(3,o3),(4,o4),(5,o5),(6,o6),(7,o7),(8,o8),(9,o9),(10,p),(11,t),(12,u),(13,v),(14,x),(15,z),(16,A),(17,B),(18,C),(19,D),(20,E)],ty,pos,af,aq⟩).run Try.prog w=.ok (.value (.slice (some ⟨w.heap.size,0,none⟩) 21 21)) (w.alloc (.cells #[.int .u8 F,.int .u8 G,.int .u8 H,.int .u8 I,.int .u8 J,.int .u8 K,.int .u8 L,.int .u8 M,.int .u8 N,.int .u8 P,.int .u8 a,.int .u8 b,.int .u8 c,.int .u8 f,.int .u8 h,.int .u8 i,.int .u8 j,.int .u8 k,.int .u8 l,.int .u8 m,.int .u8 o] 5)):=by
 have e:(Instr.buildSlice 187 21 #[(0,.int .u8 F),(1,.int .u8 G),(2,.int .u8 H),(3,.int .u8 I),(4,.int .u8 J),(5,.int .u8 K),(6,.int .u8 L),(7,.int .u8 M),(8,.int .u8 N),(9,.int .u8 P),(10,.int .u8 a),(11,.int .u8 b),(12,.int .u8 c),(13,.int .u8 f),(14,.int .u8 h),(15,.int .u8 i),(16,.int .u8 j),(17,.int .u8 k),(18,.int .u8 l),(19,.int .u8 m),(20,.int .u8 o)]).run Try.prog w=.ok (.slice (some ⟨w.heap.size,0,none⟩) 21 21) (w.alloc (.cells #[.int .u8 F,.int .u8 G,.int .u8 H,.int .u8 I,.int .u8 J,.int .u8 K,.int .u8 L,.int .u8 M,.int .u8 N,.int .u8 P,.int .u8 a,.int .u8 b,.int .u8 c,.int .u8 f,.int .u8 h,.int .u8 i,.int .u8 j,.int .u8 k,.int .u8 l,.int .u8 m,.int .u8 o] 5)):=by kernel_rfl
 simp [execOp,h0,h1,h2,h3,h4,h5,h6,h7,h8,h9,Q,R,S,U,W,X,Y,a0,a1,a2,a3,e]
theorem EH {ρ:Operand→Value} {w:World} {d:Option Nat} {ty:TypeId} {pos:String} {af:Array Edge} {j:Option (Nat × Bool)} {a:Int} {b:ByteArray} {c:Operand} {f:Operand} (h:ρ c=Vi a) (i:ρ f=Vt b):Yl Try.prog ρ (.build 138 #[(0,c),(3,f)]) d ty pos af j w (.agg #[Vi a,Vi 0,Vi 0,Vt b,Vt be,sn]):=by
 have e:(Instr.build 138 #[(0,Vi a),(3,Vt b)]).run Try.prog w=.ok (.agg #[Vi a,Vi 0,Vi 0,Vt b,Vt be,sn]) w:=by kernel_rfl
 simp [Yl,execOp,h,i,e]
theorem IR {ρ:Operand→Value} {w:World} {d:Option Nat} {ty:TypeId} {pos:String} {af:Array Edge} {j:Option (Nat × Bool)} {a:Int} {b:Int} {c:Operand} {f:Operand} (h:ρ c=Vi a) (i:ρ f=Vi b):Yl Try.prog ρ (.build 138 #[(0,c),(1,f)]) d ty pos af j w (.agg #[Vi a,Vi b,Vi 0,Vt be,Vt be,sn]):=by
 have e:(Instr.build 138 #[(0,Vi a),(1,Vi b)]).run Try.prog w=.ok (.agg #[Vi a,Vi b,Vi 0,Vt be,Vt be,sn]) w:=by kernel_rfl
 simp [Yl,execOp,h,i,e]
theorem Cq {ρ:Operand→Value} {w:World} {d:Option Nat} {ty:TypeId} {pos:String} {af:Array Edge} {f:Option (Nat × Bool)} {a:Int} {b:Operand} (c:ρ b=Vi a) :
  (execOp ρ ⟨d,.buildSlice 22 1 #[(0,b)],ty,pos,af,f⟩).run Try.prog w=.ok (.value (.slice (some ⟨w.heap.size,0,none⟩) 1 1)) (w.alloc (.cells #[Vi a] 3)):=by
 have e:(Instr.buildSlice 22 1 #[(0,Vi a)]).run Try.prog w=.ok (.slice (some ⟨w.heap.size,0,none⟩) 1 1) (w.alloc (.cells #[Vi a] 3)):=by kernel_rfl
 simp [execOp,c,e]
theorem JY {ρ:Operand→Value} {w:World} {d:Option Nat} {ty:TypeId} {pos:String} {af:Array Edge} {a:Option (Nat × Bool)}:Yl Try.prog ρ (.build 143 #[]) d ty pos af a w (.agg #[Vi 0,Vi 0,Vt be,Vi 0]):=by
 have e:(Instr.build 143 #[]).run Try.prog w=.ok (.agg #[Vi 0,Vi 0,Vt be,Vi 0]) w:=by kernel_rfl
 simp [Yl,execOp,e]
theorem BU {ρ:Operand→Value} {w:World} {d:Option Nat} {ty:TypeId} {pos:String} {af:Array Edge} {m:Option (Nat × Bool)} {a:Int} {b:Int} {c:ByteArray} {f:Operand} {h:Operand} {i:Operand} (j:ρ f=Vi a) (k:ρ h=Vi b) (l:ρ i=Vt c):Yl Try.prog ρ (.build 143 #[(0,f),(1,h),(2,i)]) d ty pos af m w (.agg #[Vi a,Vi b,Vt c,Vi 0]):=by
 have e:(Instr.build 143 #[(0,Vi a),(1,Vi b),(2,Vt c)]).run Try.prog w=.ok (.agg #[Vi a,Vi b,Vt c,Vi 0]) w:=by kernel_rfl
 simp [Yl,execOp,j,k,l,e]
theorem Lv {ρ:Operand→Value} {w:World} {d:Option Nat} {ty:TypeId} {pos:String} {af:Array Edge} {m:Option (Nat × Bool)} {a:Int} {b:Int} {c:Int} {f:Operand} {h:Operand} {i:Operand} (j:ρ f=Vi a) (k:ρ h=Vi b) (l:ρ i=Vi c):Yl Try.prog ρ (.build 143 #[(0,f),(1,h),(3,i)]) d ty pos af m w (.agg #[Vi a,Vi b,Vt be,Vi c]):=by
 have e:(Instr.build 143 #[(0,Vi a),(1,Vi b),(3,Vi c)]).run Try.prog w=.ok (.agg #[Vi a,Vi b,Vt be,Vi c]) w:=by kernel_rfl
 simp [Yl,execOp,j,k,l,e]
theorem KC {ρ:Operand→Value} {w:World} {d:Option Nat} {ty:TypeId} {pos:String} {af:Array Edge} {c:Option (Nat × Bool)} {x00_:Int} {x01_:Int} {x02_:ByteArray} {x03_:Int} {a:Operand} (b:ρ a=.agg #[Vi x00_,Vi x01_,Vt x02_,Vi x03_]) :
  (execOp ρ ⟨d,.buildSlice 97 1 #[(0,a)],ty,pos,af,c⟩).run Try.prog w=.ok (.value (.slice (some ⟨w.heap.size,0,none⟩) 1 1)) (w.alloc (.cells #[Vi x00_,Vi x01_,Vt x02_,Vi x03_] 143)):=by
 have e:(Instr.buildSlice 97 1 #[(0,.agg #[Vi x00_,Vi x01_,Vt x02_,Vi x03_])]).run Try.prog w=.ok (.slice (some ⟨w.heap.size,0,none⟩) 1 1) (w.alloc (.cells #[Vi x00_,Vi x01_,Vt x02_,Vi x03_] 143)):=by kernel_rfl
 simp [execOp,b,e]
theorem NM {ρ:Operand→Value} {w:World} {d:Option Nat} {ty:TypeId} {pos:String} {af:Array Edge} {j:Option (Nat × Bool)} {a:Int} {b:Int} {c:Operand} {f:Operand} (h:ρ c=Vi a) (i:ρ f=Vi b):Yl Try.prog ρ (.build 143 #[(0,c),(1,f)]) d ty pos af j w (.agg #[Vi a,Vi b,Vt be,Vi 0]):=by
 have e:(Instr.build 143 #[(0,Vi a),(1,Vi b)]).run Try.prog w=.ok (.agg #[Vi a,Vi b,Vt be,Vi 0]) w:=by kernel_rfl
 simp [Yl,execOp,h,i,e]
theorem NC {ρ:Operand→Value} {w:World} {d:Option Nat} {ty:TypeId} {pos:String} {af:Array Edge} {f:Option (Nat × Bool)} {a:Int} {b:Operand} (c:ρ b=.int .u8 a) :
  (execOp ρ ⟨d,.buildSlice 187 1 #[(0,b)],ty,pos,af,f⟩).run Try.prog w=.ok (.value (.slice (some ⟨w.heap.size,0,none⟩) 1 1)) (w.alloc (.cells #[.int .u8 a] 5)):=by
 have e:(Instr.buildSlice 187 1 #[(0,.int .u8 a)]).run Try.prog w=.ok (.slice (some ⟨w.heap.size,0,none⟩) 1 1) (w.alloc (.cells #[.int .u8 a] 5)):=by kernel_rfl
 simp [execOp,c,e]
theorem AA {ρ:Operand→Value} {w:World} {d:Option Nat} {ty:TypeId} {pos:String} {af:Array Edge} {f:Option (Nat × Bool)} {a:ByteArray} {b:Operand} (c:ρ b=Vt a) :
  (execOp ρ ⟨d,.buildSlice 70 1 #[(0,b)],ty,pos,af,f⟩).run Try.prog w=.ok (.value (.slice (some ⟨w.heap.size,0,none⟩) 1 1)) (w.alloc (.cells #[Vt a] 9)):=by
 have e:(Instr.buildSlice 70 1 #[(0,Vt a)]).run Try.prog w=.ok (.slice (some ⟨w.heap.size,0,none⟩) 1 1) (w.alloc (.cells #[Vt a] 9)):=by kernel_rfl
 simp [execOp,c,e]
theorem Np {ρ:Operand→Value} {w:World} {d:Option Nat} {ty:TypeId} {pos:String} {af:Array Edge} {W:Option (Nat × Bool)} {h:Int} {i:Int} {j:Int} {k:Int} {l:Int} {m:Int} {o:Int} {p:Int} {t:Int} {u:Int} {a:Int} {b:Int} {z:Operand} {A:Operand} {B:Operand} {C:Operand} {D:Operand} {E:Operand} {F:Operand} {G:Operand} {H:Operand} {I:Operand} {c:Operand} {f:Operand} (J:ρ z=Vi h) (K:ρ A=Vi i) (L:ρ B=Vi j) (M:ρ C=Vi k) (N:ρ D=Vi l) (P:ρ E=Vi m) (Q:ρ F=Vi o) (R:ρ G=Vi p) (S:ρ H=Vi t) (U:ρ I=Vi u) (v:ρ c=Vi a) (x:ρ f=Vi b) :
  (execOp ρ ⟨d,.buildSlice 22 12 #[(0,z),(1,A),(2,B),(3,C),(4,D),(5,E),(6,F),(7,G),(8,H),(9,I),(10,c),(11,f)],ty,pos,af,W⟩).run Try.prog w=.ok (.value (.slice (some ⟨w.heap.size,0,none⟩) 12 12)) (w.alloc (.cells #[Vi h,Vi i,Vi j,Vi k,Vi l,Vi m,Vi o,Vi p,Vi t,Vi u,Vi a,Vi b] 3)):=by
 have e:(Instr.buildSlice 22 12 #[(0,Vi h),(1,Vi i),(2,Vi j),(3,Vi k),(4,Vi l),(5,Vi m),(6,Vi o),(7,Vi p),(8,Vi t),(9,Vi u),(10,Vi a),(11,Vi b)]).run Try.prog w=.ok (.slice (some ⟨w.heap.size,0,none⟩) 12 12) (w.alloc (.cells #[Vi h,Vi i,Vi j,Vi k,Vi l,Vi m,Vi o,Vi p,Vi t,Vi u,Vi a,Vi b] 3)):=by kernel_rfl
 simp [execOp,J,K,L,M,N,P,Q,R,S,U,v,x,e]
theorem Py {ρ:Operand→Value} {w:World} {d:Option Nat} {ty:TypeId} {pos:String} {af:Array Edge} {E:Option (Nat × Bool)} {a:ByteArray} {b:ByteArray} {c:ByteArray} {f:ByteArray} {h:ByteArray} {i:ByteArray} {j:ByteArray} {k:Operand} {l:Operand} {m:Operand} {o:Operand} {p:Operand} {t:Operand} {u:Operand} (v:ρ k=Vt a) (x:ρ l=Vt b) (z:ρ m=Vt c) (A:ρ o=Vt f) (B:ρ p=Vt h) (C:ρ t=Vt i) (D:ρ u=Vt j) :
  (execOp ρ ⟨d,.buildSlice 70 7 #[(0,k),(1,l),(2,m),(3,o),(4,p),(5,t),(6,u)],ty,pos,af,E⟩).run Try.prog w=.ok (.value (.slice (some ⟨w.heap.size,0,none⟩) 7 7)) (w.alloc (.cells #[Vt a,Vt b,Vt c,Vt f,Vt h,Vt i,Vt j] 9)):=by
 have e:(Instr.buildSlice 70 7 #[(0,Vt a),(1,Vt b),(2,Vt c),(3,Vt f),(4,Vt h),(5,Vt i),(6,Vt j)]).run Try.prog w=.ok (.slice (some ⟨w.heap.size,0,none⟩) 7 7) (w.alloc (.cells #[Vt a,Vt b,Vt c,Vt f,Vt h,Vt i,Vt j] 9)):=by kernel_rfl
 simp [execOp,v,x,z,A,B,C,D,e]
theorem xz {ρ:Operand→Value} {w:World} {d:Option Nat} {ty:TypeId} {pos:String} {af:Array Edge} {o:Option (Nat × Bool)} {x00_:Int} {x01_:Int} {x02_:Int} {x03_:ByteArray} {x04_:ByteArray} {a:Option Addr} {b c:Nat} {x10_:Int} {x11_:Int} {x12_:Int} {x13_:ByteArray} {x14_:ByteArray} {f:Option Addr} {h i:Nat} {j:Operand} {k:Operand} (l:ρ j=.agg #[Vi x00_,Vi x01_,Vi x02_,Vt x03_,Vt x04_,.slice a b c]) (m:ρ k=.agg #[Vi x10_,Vi x11_,Vi x12_,Vt x13_,Vt x14_,.slice f h i]) :
  (execOp ρ ⟨d,.buildSlice 109 2 #[(0,j),(1,k)],ty,pos,af,o⟩).run Try.prog w=.ok (.value (.slice (some ⟨w.heap.size,0,none⟩) 2 2)) (w.alloc (.cells #[Vi x00_,Vi x01_,Vi x02_,Vt x03_,Vt x04_,.slice a b c,Vi x10_,Vi x11_,Vi x12_,Vt x13_,Vt x14_,.slice f h i] 138)):=by
 have e:(Instr.buildSlice 109 2 #[(0,.agg #[Vi x00_,Vi x01_,Vi x02_,Vt x03_,Vt x04_,.slice a b c]),(1,.agg #[Vi x10_,Vi x11_,Vi x12_,Vt x13_,Vt x14_,.slice f h i])]).run Try.prog w=.ok (.slice (some ⟨w.heap.size,0,none⟩) 2 2) (w.alloc (.cells #[Vi x00_,Vi x01_,Vi x02_,Vt x03_,Vt x04_,.slice a b c,Vi x10_,Vi x11_,Vi x12_,Vt x13_,Vt x14_,.slice f h i] 138)):=by kernel_rfl
 simp [execOp,l,m,e]
theorem vD {ρ:Operand→Value} {w:World} {d:Option Nat} {ty:TypeId} {pos:String} {af:Array Edge} {i:Option (Nat × Bool)} {a:Int} {x5A:Option Addr} {x5n x5c:Nat} {b:Operand} {c:Operand} (f:ρ b=Vi a) (h:ρ c=.slice x5A x5n x5c):Yl Try.prog ρ (.build 138 #[(0,b),(5,c)]) d ty pos af i w (.agg #[Vi a,Vi 0,Vi 0,Vt be,Vt be,.slice x5A x5n x5c]):=by
 have e:(Instr.build 138 #[(0,Vi a),(5,.slice x5A x5n x5c)]).run Try.prog w=.ok (.agg #[Vi a,Vi 0,Vi 0,Vt be,Vt be,.slice x5A x5n x5c]) w:=by kernel_rfl
 simp [Yl,execOp,f,h,e]
theorem Md {ρ:Operand→Value} {w:World} {d:Option Nat} {ty:TypeId} {pos:String} {af:Array Edge} {a:Option (Nat × Bool)}:Yl Try.prog ρ (.build 138 #[]) d ty pos af a w (.agg #[Vi 0,Vi 0,Vi 0,Vt be,Vt be,sn]):=by
 have e:(Instr.build 138 #[]).run Try.prog w=.ok (.agg #[Vi 0,Vi 0,Vi 0,Vt be,Vt be,sn]) w:=by kernel_rfl
 simp [Yl,execOp,e]
theorem wF {ρ:Operand→Value} {w:World} {d:Option Nat} {ty:TypeId} {pos:String} {af:Array Edge} {j:Option (Nat × Bool)} {a:ByteArray} {b:ByteArray} {c:Operand} {f:Operand} (h:ρ c=Vt a) (i:ρ f=Vt b) :
  (execOp ρ ⟨d,.buildSlice 70 2 #[(0,c),(1,f)],ty,pos,af,j⟩).run Try.prog w=.ok (.value (.slice (some ⟨w.heap.size,0,none⟩) 2 2)) (w.alloc (.cells #[Vt a,Vt b] 9)):=by
 have e:(Instr.buildSlice 70 2 #[(0,Vt a),(1,Vt b)]).run Try.prog w=.ok (.slice (some ⟨w.heap.size,0,none⟩) 2 2) (w.alloc (.cells #[Vt a,Vt b] 9)):=by kernel_rfl
 simp [execOp,h,i,e]
theorem kX {ρ:Operand→Value} {w:World} {d:Option Nat} {ty:TypeId} {pos:String} {af:Array Edge} {i:Option (Nat × Bool)} {x00_:Int} {x01_:Int} {x02_:Int} {x03_:ByteArray} {x04_:ByteArray} {a:Option Addr} {b c:Nat} {f:Operand} (h:ρ f=.agg #[Vi x00_,Vi x01_,Vi x02_,Vt x03_,Vt x04_,.slice a b c]) :
  (execOp ρ ⟨d,.buildSlice 109 1 #[(0,f)],ty,pos,af,i⟩).run Try.prog w=.ok (.value (.slice (some ⟨w.heap.size,0,none⟩) 1 1)) (w.alloc (.cells #[Vi x00_,Vi x01_,Vi x02_,Vt x03_,Vt x04_,.slice a b c] 138)):=by
 have e:(Instr.buildSlice 109 1 #[(0,.agg #[Vi x00_,Vi x01_,Vi x02_,Vt x03_,Vt x04_,.slice a b c])]).run Try.prog w=.ok (.slice (some ⟨w.heap.size,0,none⟩) 1 1) (w.alloc (.cells #[Vi x00_,Vi x01_,Vi x02_,Vt x03_,Vt x04_,.slice a b c] 138)):=by kernel_rfl
 simp [execOp,h,e]
theorem vK {ρ:Operand→Value} {w:World} {d:Option Nat} {ty:TypeId} {pos:String} {af:Array Edge} {m:Option (Nat × Bool)} {a:Int} {b:ByteArray} {c:ByteArray} {f:Operand} {h:Operand} {i:Operand} (j:ρ f=Vi a) (k:ρ h=Vt b) (l:ρ i=Vt c):Yl Try.prog ρ (.build 138 #[(0,f),(3,h),(4,i)]) d ty pos af m w (.agg #[Vi a,Vi 0,Vi 0,Vt b,Vt c,sn]):=by
 have e:(Instr.build 138 #[(0,Vi a),(3,Vt b),(4,Vt c)]).run Try.prog w=.ok (.agg #[Vi a,Vi 0,Vi 0,Vt b,Vt c,sn]) w:=by kernel_rfl
 simp [Yl,execOp,j,k,l,e]
theorem Cn {ρ:Operand→Value} {w:World} {d:Option Nat} {ty:TypeId} {pos:String} {af:Array Edge} {l:Option (Nat × Bool)} {a:Int} {b:ByteArray} {x5A:Option Addr} {x5n x5c:Nat} {c:Operand} {f:Operand} {h:Operand} (i:ρ c=Vi a) (j:ρ f=Vt b) (k:ρ h=.slice x5A x5n x5c):Yl Try.prog ρ (.build 138 #[(0,c),(3,f),(5,h)]) d ty pos af l w (.agg #[Vi a,Vi 0,Vi 0,Vt b,Vt be,.slice x5A x5n x5c]):=by
 have e:(Instr.build 138 #[(0,Vi a),(3,Vt b),(5,.slice x5A x5n x5c)]).run Try.prog w=.ok (.agg #[Vi a,Vi 0,Vi 0,Vt b,Vt be,.slice x5A x5n x5c]) w:=by kernel_rfl
 simp [Yl,execOp,i,j,k,e]
theorem tH {ρ:Operand→Value} {w:World} {d:Option Nat} {ty:TypeId} {pos:String} {af:Array Edge} {v:Option (Nat × Bool)} {x00_:Int} {x01_:Int} {x02_:Int} {x03_:ByteArray} {x04_:ByteArray} {x05_:Int} {x06_:Int} {m:Option Addr} {o p:Nat} {x08_:ByteArray} {x09_:Int} {a:Option Addr} {b c:Nat} {f:Option Addr} {h i:Nat} {j:Option Addr} {k l:Nat} {t:Operand} (u:ρ t=.agg #[Vi x00_,Vi x01_,Vi x02_,Vt x03_,Vt x04_,Vi x05_,Vi x06_,.slice m o p,Vt x08_,Vi x09_,.slice a b c,.slice f h i,.slice j k l]) :
  (execOp ρ ⟨d,.buildSlice 80 1 #[(0,t)],ty,pos,af,v⟩).run Try.prog w=.ok (.value (.slice (some ⟨w.heap.size,0,none⟩) 1 1)) (w.alloc (.cells #[Vi x00_,Vi x01_,Vi x02_,Vt x03_,Vt x04_,Vi x05_,Vi x06_,.slice m o p,Vt x08_,Vi x09_,.slice a b c,.slice f h i,.slice j k l] 111)):=by
 have e:(Instr.buildSlice 80 1 #[(0,.agg #[Vi x00_,Vi x01_,Vi x02_,Vt x03_,Vt x04_,Vi x05_,Vi x06_,.slice m o p,Vt x08_,Vi x09_,.slice a b c,.slice f h i,.slice j k l])]).run Try.prog w=.ok (.slice (some ⟨w.heap.size,0,none⟩) 1 1) (w.alloc (.cells #[Vi x00_,Vi x01_,Vi x02_,Vt x03_,Vt x04_,Vi x05_,Vi x06_,.slice m o p,Vt x08_,Vi x09_,.slice a b c,.slice f h i,.slice j k l] 111)):=by kernel_rfl
 simp [execOp,u,e]
theorem Qx {ρ:Operand→Value} {w:World} {d:Option Nat} {ty:TypeId} {pos:String} {af:Array Edge} {f:Option (Nat × Bool)} {a:Int} {b:Operand} (c:ρ b=Vi a):Yl Try.prog ρ (.build 111 #[(1,b)]) d ty pos af f w (.agg #[Vi 0,Vi a,Vi 0,Vt be,Vt be,Vi 0,Vi 0,sn,Vt be,Vi 0,sn,sn,sn]):=by
 have e:(Instr.build 111 #[(1,Vi a)]).run Try.prog w=.ok (.agg #[Vi 0,Vi a,Vi 0,Vt be,Vt be,Vi 0,Vi 0,sn,Vt be,Vi 0,sn,sn,sn]) w:=by kernel_rfl
 simp [Yl,execOp,c,e]
theorem PY {ρ:Operand→Value} {w:World} {d:Option Nat} {ty:TypeId} {pos:String} {af:Array Edge} {f:Option (Nat × Bool)} {a:ByteArray} {b:Operand} (c:ρ b=Vt a):Yl Try.prog ρ (.build 127 #[(0,b)]) d ty pos af f w (.agg #[Vt a,sn]):=by
 have e:(Instr.build 127 #[(0,Vt a)]).run Try.prog w=.ok (.agg #[Vt a,sn]) w:=by kernel_rfl
 simp [Yl,execOp,c,e]
theorem Gb {ρ:Operand→Value} {w:World} {d:Option Nat} {ty:TypeId} {pos:String} {af:Array Edge} {i:Option (Nat × Bool)} {x00_:ByteArray} {a:Option Addr} {b c:Nat} {f:Operand} (h:ρ f=.agg #[Vt x00_,.slice a b c]) :
  (execOp ρ ⟨d,.buildSlice 23 1 #[(0,f)],ty,pos,af,i⟩).run Try.prog w=.ok (.value (.slice (some ⟨w.heap.size,0,none⟩) 1 1)) (w.alloc (.cells #[Vt x00_,.slice a b c] 127)):=by
 have e:(Instr.buildSlice 23 1 #[(0,.agg #[Vt x00_,.slice a b c])]).run Try.prog w=.ok (.slice (some ⟨w.heap.size,0,none⟩) 1 1) (w.alloc (.cells #[Vt x00_,.slice a b c] 127)):=by kernel_rfl
 simp [execOp,h,e]
theorem Sa {ρ:Operand→Value} {w:World} {d:Option Nat} {ty:TypeId} {pos:String} {af:Array Edge} {f:Option (Nat × Bool)} {a:Int} {b:Operand} (c:ρ b=Vi a):Yl Try.prog ρ (.build 82 #[(1,b)]) d ty pos af f w (.agg #[Vt be,Vi a,sn,sn]):=by
 have e:(Instr.build 82 #[(1,Vi a)]).run Try.prog w=.ok (.agg #[Vt be,Vi a,sn,sn]) w:=by kernel_rfl
 simp [Yl,execOp,c,e]
theorem NJ {ρ:Operand→Value} {w:World} {d:Option Nat} {ty:TypeId} {pos:String} {af:Array Edge} {j:Option (Nat × Bool)} {a:Int} {b:Int} {c:Operand} {f:Operand} (h:ρ c=Vi a) (i:ρ f=Vi b):Yl Try.prog ρ (.build 111 #[(0,c),(1,f)]) d ty pos af j w (.agg #[Vi a,Vi b,Vi 0,Vt be,Vt be,Vi 0,Vi 0,sn,Vt be,Vi 0,sn,sn,sn]):=by
 have e:(Instr.build 111 #[(0,Vi a),(1,Vi b)]).run Try.prog w=.ok (.agg #[Vi a,Vi b,Vi 0,Vt be,Vt be,Vi 0,Vi 0,sn,Vt be,Vi 0,sn,sn,sn]) w:=by kernel_rfl
 simp [Yl,execOp,h,i,e]
theorem Gx {ρ:Operand→Value} {w:World} {d:Option Nat} {ty:TypeId} {pos:String} {af:Array Edge} {l:Option (Nat × Bool)} {x00_:ByteArray} {x01_:Int} {a:Option Addr} {b c:Nat} {f:Option Addr} {h i:Nat} {j:Operand} (k:ρ j=.agg #[Vt x00_,Vi x01_,.slice a b c,.slice f h i]) :
  (execOp ρ ⟨d,.buildSlice 24 1 #[(0,j)],ty,pos,af,l⟩).run Try.prog w=.ok (.value (.slice (some ⟨w.heap.size,0,none⟩) 1 1)) (w.alloc (.cells #[Vt x00_,Vi x01_,.slice a b c,.slice f h i] 82)):=by
 have e:(Instr.buildSlice 24 1 #[(0,.agg #[Vt x00_,Vi x01_,.slice a b c,.slice f h i])]).run Try.prog w=.ok (.slice (some ⟨w.heap.size,0,none⟩) 1 1) (w.alloc (.cells #[Vt x00_,Vi x01_,.slice a b c,.slice f h i] 82)):=by kernel_rfl
 simp [execOp,k,e]
theorem Rf {ρ:Operand→Value} {w:World} {d:Option Nat} {ty:TypeId} {pos:String} {af:Array Edge} {a:Option (Nat × Bool)}:Yl Try.prog ρ (.build 26 #[]) d ty pos af a w (.agg #[sn,sn]):=by
 have e:(Instr.build 26 #[]).run Try.prog w=.ok (.agg #[sn,sn]) w:=by kernel_rfl
 simp [Yl,execOp,e]
theorem PM {ρ:Operand→Value} {w:World} {d:Option Nat} {ty:TypeId} {pos:String} {af:Array Edge} {c:Option (Nat × Bool)} {x0A:Option Addr} {x0n x0c:Nat} {a:Operand} (b:ρ a=.slice x0A x0n x0c):Yl Try.prog ρ (.build 102 #[(0,a)]) d ty pos af c w (.agg #[.slice x0A x0n x0c,Vi 0,Vi 0,Vi 0]):=by
 have e:(Instr.build 102 #[(0,.slice x0A x0n x0c)]).run Try.prog w=.ok (.agg #[.slice x0A x0n x0c,Vi 0,Vi 0,Vi 0]) w:=by kernel_rfl
 simp [Yl,execOp,b,e]
theorem sS {ρ:Operand→Value} {w:World} {d:Option Nat} {ty:TypeId} {pos:String} {af:Array Edge} {t:Option (Nat × Bool)} {a:ByteArray} {b:ByteArray} {c:ByteArray} {f:ByteArray} {h:Operand} {i:Operand} {j:Operand} {k:Operand} (l:ρ h=Vt a) (m:ρ i=Vt b) (o:ρ j=Vt c) (p:ρ k=Vt f) :
  (execOp ρ ⟨d,.buildSlice 70 4 #[(0,h),(1,i),(2,j),(3,k)],ty,pos,af,t⟩).run Try.prog w=.ok (.value (.slice (some ⟨w.heap.size,0,none⟩) 4 4)) (w.alloc (.cells #[Vt a,Vt b,Vt c,Vt f] 9)):=by
 have e:(Instr.buildSlice 70 4 #[(0,Vt a),(1,Vt b),(2,Vt c),(3,Vt f)]).run Try.prog w=.ok (.slice (some ⟨w.heap.size,0,none⟩) 4 4) (w.alloc (.cells #[Vt a,Vt b,Vt c,Vt f] 9)):=by kernel_rfl
 simp [execOp,l,m,o,p,e]
theorem IG {ρ:Operand→Value} {w:World} {d:Option Nat} {ty:TypeId} {pos:String} {af:Array Edge} {j:Option (Nat × Bool)} {a:Int} {b:ByteArray} {c:Operand} {f:Operand} (h:ρ c=Vi a) (i:ρ f=Vt b):Yl Try.prog ρ (.build 111 #[(0,c),(3,f)]) d ty pos af j w (.agg #[Vi a,Vi 0,Vi 0,Vt b,Vt be,Vi 0,Vi 0,sn,Vt be,Vi 0,sn,sn,sn]):=by
 have e:(Instr.build 111 #[(0,Vi a),(3,Vt b)]).run Try.prog w=.ok (.agg #[Vi a,Vi 0,Vi 0,Vt b,Vt be,Vi 0,Vi 0,sn,Vt be,Vi 0,sn,sn,sn]) w:=by kernel_rfl
 simp [Yl,execOp,h,i,e]
theorem Eb {ρ:Operand→Value} {w:World} {d:Option Nat} {ty:TypeId} {pos:String} {af:Array Edge} {f:Option (Nat × Bool)} {a:Int} {b:Operand} (c:ρ b=Vi a):Yl Try.prog ρ (.build 111 #[(0,b)]) d ty pos af f w (.agg #[Vi a,Vi 0,Vi 0,Vt be,Vt be,Vi 0,Vi 0,sn,Vt be,Vi 0,sn,sn,sn]):=by
 have e:(Instr.build 111 #[(0,Vi a)]).run Try.prog w=.ok (.agg #[Vi a,Vi 0,Vi 0,Vt be,Vt be,Vi 0,Vi 0,sn,Vt be,Vi 0,sn,sn,sn]) w:=by kernel_rfl
 simp [Yl,execOp,c,e]
theorem ru {ρ:Operand→Value} {w:World} {d:Option Nat} {ty:TypeId} {pos:String} {af:Array Edge} {i:Option (Nat × Bool)} {b:Int} {x10A:Option Addr} {x10n x10c:Nat} {f:Operand} {a:Operand} (h:ρ f=Vi b) (c:ρ a=.slice x10A x10n x10c):Yl Try.prog ρ (.build 111 #[(0,f),(10,a)]) d ty pos af i w (.agg #[Vi b,Vi 0,Vi 0,Vt be,Vt be,Vi 0,Vi 0,sn,Vt be,Vi 0,.slice x10A x10n x10c,sn,sn]):=by
 have e:(Instr.build 111 #[(0,Vi b),(10,.slice x10A x10n x10c)]).run Try.prog w=.ok (.agg #[Vi b,Vi 0,Vi 0,Vt be,Vt be,Vi 0,Vi 0,sn,Vt be,Vi 0,.slice x10A x10n x10c,sn,sn]) w:=by kernel_rfl
 simp [Yl,execOp,h,c,e]
theorem mO {ρ:Operand→Value} {w:World} {d:Option Nat} {ty:TypeId} {pos:String} {af:Array Edge} {a:Option (Nat × Bool)}    :
  (execOp ρ ⟨d,.buildSlice 70 0 #[],ty,pos,af,a⟩).run Try.prog w=.ok (.value (.slice (some ⟨w.heap.size,0,none⟩) 0 0)) (w.alloc (.cells #[] 9)):=by
 have e:(Instr.buildSlice 70 0 #[]).run Try.prog w=.ok (.slice (some ⟨w.heap.size,0,none⟩) 0 0) (w.alloc (.cells #[] 9)):=by kernel_rfl
 simp [execOp,e]
theorem JX {ρ:Operand→Value} {w:World} {d:Option Nat} {ty:TypeId} {pos:String} {af:Array Edge} {k:Option (Nat × Bool)} {b:Int} {x7A:Option Addr} {x7n x7c:Nat} {x10A:Option Addr} {x10n x10c:Nat} {f:Operand} {h:Operand} {a:Operand} (i:ρ f=Vi b) (j:ρ h=.slice x7A x7n x7c) (c:ρ a=.slice x10A x10n x10c):Yl Try.prog ρ (.build 111 #[(0,f),(7,h),(10,a)]) d ty pos af k w (.agg #[Vi b,Vi 0,Vi 0,Vt be,Vt be,Vi 0,Vi 0,.slice x7A x7n x7c,Vt be,Vi 0,.slice x10A x10n x10c,sn,sn]):=by
 have e:(Instr.build 111 #[(0,Vi b),(7,.slice x7A x7n x7c),(10,.slice x10A x10n x10c)]).run Try.prog w=.ok (.agg #[Vi b,Vi 0,Vi 0,Vt be,Vt be,Vi 0,Vi 0,.slice x7A x7n x7c,Vt be,Vi 0,.slice x10A x10n x10c,sn,sn]) w:=by kernel_rfl
 simp [Yl,execOp,i,j,c,e]
theorem OX {ρ:Operand→Value} {w:World} {d:Option Nat} {ty:TypeId} {pos:String} {af:Array Edge} {L:Option (Nat × Bool)} {x00_:Int} {x01_:Int} {x02_:Int} {x03_:ByteArray} {x04_:ByteArray} {x05_:Int} {x06_:Int} {B:Option Addr} {C D:Nat} {x08_:ByteArray} {x09_:Int} {a:Option Addr} {b c:Nat} {f:Option Addr} {h i:Nat} {j:Option Addr} {k l:Nat} {x10_:Int} {x11_:Int} {x12_:Int} {x13_:ByteArray} {x14_:ByteArray} {x15_:Int} {x16_:Int} {E:Option Addr} {F G:Nat} {x18_:ByteArray} {x19_:Int} {m:Option Addr} {o p:Nat} {t:Option Addr} {u v:Nat} {x:Option Addr} {z A:Nat} {H:Operand} {I:Operand} (J:ρ H=.agg #[Vi x00_,Vi x01_,Vi x02_,Vt x03_,Vt x04_,Vi x05_,Vi x06_,.slice B C D,Vt x08_,Vi x09_,.slice a b c,.slice f h i,.slice j k l]) (K:ρ I=.agg #[Vi x10_,Vi x11_,Vi x12_,Vt x13_,Vt x14_,Vi x15_,Vi x16_,.slice E F G,Vt x18_,Vi x19_,.slice m o p,.slice t u v,.slice x z A]) :
  (execOp ρ ⟨d,.buildSlice 80 2 #[(0,H),(1,I)],ty,pos,af,L⟩).run Try.prog w=.ok (.value (.slice (some ⟨w.heap.size,0,none⟩) 2 2)) (w.alloc (.cells #[Vi x00_,Vi x01_,Vi x02_,Vt x03_,Vt x04_,Vi x05_,Vi x06_,.slice B C D,Vt x08_,Vi x09_,.slice a b c,.slice f h i,.slice j k l,Vi x10_,Vi x11_,Vi x12_,Vt x13_,Vt x14_,Vi x15_,Vi x16_,.slice E F G,Vt x18_,Vi x19_,.slice m o p,.slice t u v,.slice x z A] 111)):=by
 have e:(Instr.buildSlice 80 2 #[(0,.agg #[Vi x00_,Vi x01_,Vi x02_,Vt x03_,Vt x04_,Vi x05_,Vi x06_,.slice B C D,Vt x08_,Vi x09_,.slice a b c,.slice f h i,.slice j k l]),(1,.agg #[Vi x10_,Vi x11_,Vi x12_,Vt x13_,Vt x14_,Vi x15_,Vi x16_,.slice E F G,Vt x18_,Vi x19_,.slice m o p,.slice t u v,.slice x z A])]).run Try.prog w=.ok (.slice (some ⟨w.heap.size,0,none⟩) 2 2) (w.alloc (.cells #[Vi x00_,Vi x01_,Vi x02_,Vt x03_,Vt x04_,Vi x05_,Vi x06_,.slice B C D,Vt x08_,Vi x09_,.slice a b c,.slice f h i,.slice j k l,Vi x10_,Vi x11_,Vi x12_,Vt x13_,Vt x14_,Vi x15_,Vi x16_,.slice E F G,Vt x18_,Vi x19_,.slice m o p,.slice t u v,.slice x z A] 111)):=by kernel_rfl
 simp [execOp,J,K,e]
theorem H7 {ρ:Operand→Value} {w:World} {d:Option Nat} {ty:TypeId} {pos:String} {af:Array Edge} {k:Option (Nat × Bool)} {c:Int} {x10A:Option Addr} {x10n x10c:Nat} {x11A:Option Addr} {x11n x11c:Nat} {i:Operand} {a:Operand} {b:Operand} (j:ρ i=Vi c) (f:ρ a=.slice x10A x10n x10c) (h:ρ b=.slice x11A x11n x11c):Yl Try.prog ρ (.build 111 #[(0,i),(10,a),(11,b)]) d ty pos af k w (.agg #[Vi c,Vi 0,Vi 0,Vt be,Vt be,Vi 0,Vi 0,sn,Vt be,Vi 0,.slice x10A x10n x10c,.slice x11A x11n x11c,sn]):=by
 have e:(Instr.build 111 #[(0,Vi c),(10,.slice x10A x10n x10c),(11,.slice x11A x11n x11c)]).run Try.prog w=.ok (.agg #[Vi c,Vi 0,Vi 0,Vt be,Vt be,Vi 0,Vi 0,sn,Vt be,Vi 0,.slice x10A x10n x10c,.slice x11A x11n x11c,sn]) w:=by kernel_rfl
 simp [Yl,execOp,j,f,h,e]
theorem PW {ρ:Operand→Value} {w:World} {d:Option Nat} {ty:TypeId} {pos:String} {af:Array Edge} {c:Option (Nat × Bool)} {x0A:Option Addr} {x0n x0c:Nat} {a:Operand} (b:ρ a=.slice x0A x0n x0c):Yl Try.prog ρ (.build 132 #[(0,a)]) d ty pos af c w (.agg #[.slice x0A x0n x0c,Vi 0]):=by
 have e:(Instr.build 132 #[(0,.slice x0A x0n x0c)]).run Try.prog w=.ok (.agg #[.slice x0A x0n x0c,Vi 0]) w:=by kernel_rfl
 simp [Yl,execOp,b,e]
theorem Nu {ρ:Operand→Value} {w:World} {d:Option Nat} {ty:TypeId} {pos:String} {af:Array Edge} {i:Option (Nat × Bool)} {a:ByteArray} {x1A:Option Addr} {x1n x1c:Nat} {b:Operand} {c:Operand} (f:ρ b=Vt a) (h:ρ c=.slice x1A x1n x1c):Yl Try.prog ρ (.build 127 #[(0,b),(1,c)]) d ty pos af i w (.agg #[Vt a,.slice x1A x1n x1c]):=by
 have e:(Instr.build 127 #[(0,Vt a),(1,.slice x1A x1n x1c)]).run Try.prog w=.ok (.agg #[Vt a,.slice x1A x1n x1c]) w:=by kernel_rfl
 simp [Yl,execOp,f,h,e]
theorem SF {ρ:Operand→Value} {w:World} {d:Option Nat} {ty:TypeId} {pos:String} {af:Array Edge} {c:Option (Nat × Bool)} {x0A:Option Addr} {x0n x0c:Nat} {a:Operand} (b:ρ a=.slice x0A x0n x0c):Yl Try.prog ρ (.build 26 #[(0,a)]) d ty pos af c w (.agg #[.slice x0A x0n x0c,sn]):=by
 have e:(Instr.build 26 #[(0,.slice x0A x0n x0c)]).run Try.prog w=.ok (.agg #[.slice x0A x0n x0c,sn]) w:=by kernel_rfl
 simp [Yl,execOp,b,e]
theorem NW {ρ:Operand→Value} {w:World} {d:Option Nat} {ty:TypeId} {pos:String} {af:Array Edge} {t:Option (Nat × Bool)} {a:Int} {b:Int} {c:Int} {f:Int} {h:Operand} {i:Operand} {j:Operand} {k:Operand} (l:ρ h=Vi a) (m:ρ i=Vi b) (o:ρ j=Vi c) (p:ρ k=Vi f) :
  (execOp ρ ⟨d,.buildSlice 22 4 #[(0,h),(1,i),(2,j),(3,k)],ty,pos,af,t⟩).run Try.prog w=.ok (.value (.slice (some ⟨w.heap.size,0,none⟩) 4 4)) (w.alloc (.cells #[Vi a,Vi b,Vi c,Vi f] 3)):=by
 have e:(Instr.buildSlice 22 4 #[(0,Vi a),(1,Vi b),(2,Vi c),(3,Vi f)]).run Try.prog w=.ok (.slice (some ⟨w.heap.size,0,none⟩) 4 4) (w.alloc (.cells #[Vi a,Vi b,Vi c,Vi f] 3)):=by kernel_rfl
 simp [execOp,l,m,o,p,e]
theorem FM {ρ:Operand→Value} {w:World} {d:Option Nat} {ty:TypeId} {pos:String} {af:Array Edge} {v:Option (Nat × Bool)} {a:Option Addr} {b:Int} {c:Int} {x3A:Option Addr} {x3n x3c:Nat} {f:Int} {h:Operand} {i:Operand} {j:Operand} {k:Operand} {l:Operand} (m:ρ h=.pointer a) (o:ρ i=Vi b) (p:ρ j=Vi c) (t:ρ k=.slice x3A x3n x3c) (u:ρ l=Vi f):Yl Try.prog ρ (.build 135 #[(0,h),(1,i),(2,j),(3,k),(8,l)]) d ty pos af v w (.agg #[.pointer a,Vi b,Vi c,.slice x3A x3n x3c,sn,sn,sn,Vi 0,Vi f]):=by
 have e:(Instr.build 135 #[(0,.pointer a),(1,Vi b),(2,Vi c),(3,.slice x3A x3n x3c),(8,Vi f)]).run Try.prog w=.ok (.agg #[.pointer a,Vi b,Vi c,.slice x3A x3n x3c,sn,sn,sn,Vi 0,Vi f]) w:=by kernel_rfl
 simp [Yl,execOp,m,o,p,t,u,e]
theorem u6 {ρ:Operand→Value} {w:World} {d:Option Nat} {ty:TypeId} {pos:String} {af:Array Edge} {i:Option (Nat × Bool)} {a:ByteArray} {x2A:Option Addr} {x2n x2c:Nat} {b:Operand} {c:Operand} (f:ρ b=Vt a) (h:ρ c=.slice x2A x2n x2c):Yl Try.prog ρ (.build 82 #[(0,b),(2,c)]) d ty pos af i w (.agg #[Vt a,Vi 0,.slice x2A x2n x2c,sn]):=by
 have e:(Instr.build 82 #[(0,Vt a),(2,.slice x2A x2n x2c)]).run Try.prog w=.ok (.agg #[Vt a,Vi 0,.slice x2A x2n x2c,sn]) w:=by kernel_rfl
 simp [Yl,execOp,f,h,e]
theorem KW {ρ:Operand→Value} {w:World} {d:Option Nat} {ty:TypeId} {pos:String} {af:Array Edge} {c:Option (Nat × Bool)} {x00_:ByteArray} {x01_:Int} {x02_:Int} {x03_:Int} {x04_:Bool} {x05_:Int} {x06_:Int} {a:Operand} (b:ρ a=.agg #[Vt x00_,Vi x01_,Vi x02_,Vi x03_,.bool x04_,Vi x05_,Vi x06_]) :
  (execOp ρ ⟨d,.buildSlice 60 1 #[(0,a)],ty,pos,af,c⟩).run Try.prog w=.ok (.value (.slice (some ⟨w.heap.size,0,none⟩) 1 1)) (w.alloc (.cells #[Vt x00_,Vi x01_,Vi x02_,Vi x03_,.bool x04_,Vi x05_,Vi x06_] 59)):=by
 have e:(Instr.buildSlice 60 1 #[(0,.agg #[Vt x00_,Vi x01_,Vi x02_,Vi x03_,.bool x04_,Vi x05_,Vi x06_])]).run Try.prog w=.ok (.slice (some ⟨w.heap.size,0,none⟩) 1 1) (w.alloc (.cells #[Vt x00_,Vi x01_,Vi x02_,Vi x03_,.bool x04_,Vi x05_,Vi x06_] 59)):=by kernel_rfl
 simp [execOp,b,e]
theorem KM {ρ:Operand→Value} {w:World} {d:Option Nat} {ty:TypeId} {pos:String} {af:Array Edge} {a:Option (Nat × Bool)}    :
  (execOp ρ ⟨d,.buildSlice 22 0 #[],ty,pos,af,a⟩).run Try.prog w=.ok (.value (.slice (some ⟨w.heap.size,0,none⟩) 0 0)) (w.alloc (.cells #[] 3)):=by
 have e:(Instr.buildSlice 22 0 #[]).run Try.prog w=.ok (.slice (some ⟨w.heap.size,0,none⟩) 0 0) (w.alloc (.cells #[] 3)):=by kernel_rfl
 simp [execOp,e]
theorem Hq {ρ:Operand→Value} {w:World} {d:Option Nat} {ty:TypeId} {pos:String} {af:Array Edge} {m:Option (Nat × Bool)} {a:Int} {b:Int} {c:Int} {f:Operand} {h:Operand} {i:Operand} (j:ρ f=Vi a) (k:ρ h=Vi b) (l:ρ i=Vi c):Yl Try.prog ρ (.build 65 #[(0,f),(1,h),(2,i)]) d ty pos af m w (.agg #[Vi a,Vi b,Vi c]):=by
 have e:(Instr.build 65 #[(0,Vi a),(1,Vi b),(2,Vi c)]).run Try.prog w=.ok (.agg #[Vi a,Vi b,Vi c]) w:=by kernel_rfl
 simp [Yl,execOp,j,k,l,e]
theorem KP {ρ:Operand→Value} {w:World} {d:Option Nat} {ty:TypeId} {pos:String} {af:Array Edge} {c:Option (Nat × Bool)} {x00_:Int} {x01_:Int} {x02_:Int} {a:Operand} (b:ρ a=.agg #[Vi x00_,Vi x01_,Vi x02_]) :
  (execOp ρ ⟨d,.buildSlice 28 1 #[(0,a)],ty,pos,af,c⟩).run Try.prog w=.ok (.value (.slice (some ⟨w.heap.size,0,none⟩) 1 1)) (w.alloc (.cells #[Vi x00_,Vi x01_,Vi x02_] 65)):=by
 have e:(Instr.buildSlice 28 1 #[(0,.agg #[Vi x00_,Vi x01_,Vi x02_])]).run Try.prog w=.ok (.slice (some ⟨w.heap.size,0,none⟩) 1 1) (w.alloc (.cells #[Vi x00_,Vi x01_,Vi x02_] 65)):=by kernel_rfl
 simp [execOp,b,e]
theorem Cu {ρ:Operand→Value} {w:World} {d:Option Nat} {ty:TypeId} {pos:String} {af:Array Edge} {x:Option (Nat × Bool)} {a:ByteArray} {b:Int} {c:Int} {f:Int} {h:Int} {i:Operand} {j:Operand} {k:Operand} {l:Operand} {m:Operand} (o:ρ i=Vt a) (p:ρ j=Vi b) (t:ρ k=Vi c) (u:ρ l=Vi f) (v:ρ m=Vi h):Yl Try.prog ρ (.build 59 #[(0,i),(1,j),(2,k),(3,l),(5,m)]) d ty pos af x w (.agg #[Vt a,Vi b,Vi c,Vi f,.bool false,Vi h,Vi 0]):=by
 have e:(Instr.build 59 #[(0,Vt a),(1,Vi b),(2,Vi c),(3,Vi f),(5,Vi h)]).run Try.prog w=.ok (.agg #[Vt a,Vi b,Vi c,Vi f,.bool false,Vi h,Vi 0]) w:=by kernel_rfl
 simp [Yl,execOp,o,p,t,u,v,e]
theorem EO {ρ:Operand→Value} {w:World} {d:Option Nat} {ty:TypeId} {pos:String} {af:Array Edge} {B:Option (Nat × Bool)} {a:ByteArray} {b:Int} {c:Int} {f:Int} {h:Bool} {i:Int} {j:Operand} {k:Operand} {l:Operand} {m:Operand} {o:Operand} {p:Operand} (t:ρ j=Vt a) (u:ρ k=Vi b) (v:ρ l=Vi c) (x:ρ m=Vi f) (z:ρ o=.bool h) (A:ρ p=Vi i):Yl Try.prog ρ (.build 59 #[(0,j),(1,k),(2,l),(3,m),(4,o),(5,p)]) d ty pos af B w (.agg #[Vt a,Vi b,Vi c,Vi f,.bool h,Vi i,Vi 0]):=by
 have e:(Instr.build 59 #[(0,Vt a),(1,Vi b),(2,Vi c),(3,Vi f),(4,.bool h),(5,Vi i)]).run Try.prog w=.ok (.agg #[Vt a,Vi b,Vi c,Vi f,.bool h,Vi i,Vi 0]) w:=by kernel_rfl
 simp [Yl,execOp,t,u,v,x,z,A,e]
theorem Ow {ρ:Operand→Value} {w:World} {d:Option Nat} {ty:TypeId} {pos:String} {af:Array Edge} {a:Option (Nat × Bool)}    :
  (execOp ρ ⟨d,.buildSlice 24 0 #[],ty,pos,af,a⟩).run Try.prog w=.ok (.value (.slice (some ⟨w.heap.size,0,none⟩) 0 0)) (w.alloc (.cells #[] 82)):=by
 have e:(Instr.buildSlice 24 0 #[]).run Try.prog w=.ok (.slice (some ⟨w.heap.size,0,none⟩) 0 0) (w.alloc (.cells #[] 82)):=by kernel_rfl
 simp [execOp,e]
theorem Pm {ρ:Operand→Value} {w:World} {d:Option Nat} {ty:TypeId} {pos:String} {af:Array Edge} {h:Option (Nat × Bool)} {x0A:Option Addr} {x0n x0c:Nat} {x1A:Option Addr} {x1n x1c:Nat} {a:Operand} {b:Operand} (c:ρ a=.slice x0A x0n x0c) (f:ρ b=.slice x1A x1n x1c):Yl Try.prog ρ (.build 26 #[(0,a),(1,b)]) d ty pos af h w (.agg #[.slice x0A x0n x0c,.slice x1A x1n x1c]):=by
 have e:(Instr.build 26 #[(0,.slice x0A x0n x0c),(1,.slice x1A x1n x1c)]).run Try.prog w=.ok (.agg #[.slice x0A x0n x0c,.slice x1A x1n x1c]) w:=by kernel_rfl
 simp [Yl,execOp,c,f,e]
theorem Sk {ρ:Operand→Value} {w:World} {d:Option Nat} {ty:TypeId} {pos:String} {af:Array Edge} {l:Option (Nat × Bool)} {a:Option Addr} {b c:Nat} {f:Option Addr} {h i:Nat} {j:Operand} (k:ρ j=.agg #[.slice a b c,.slice f h i]):Yl Try.prog ρ (.build 30 #[(0,j)]) d ty pos af l w (.agg #[.slice a b c,.slice f h i,sn,sn]):=by
 have e:(Instr.build 30 #[(0,.agg #[.slice a b c,.slice f h i])]).run Try.prog w=.ok (.agg #[.slice a b c,.slice f h i,sn,sn]) w:=by kernel_rfl
 simp [Yl,execOp,k,e]
theorem P6 {ρ:Operand→Value} {w:World} {d:Option Nat} {ty:TypeId} {pos:String} {af:Array Edge} {v:Option (Nat × Bool)} {a:Option Addr} {b c:Nat} {f:Option Addr} {h i:Nat} {j:Option Addr} {k l:Nat} {m:Option Addr} {o p:Nat} {t:Operand} (u:ρ t=.agg #[.slice a b c,.slice f h i,.slice j k l,.slice m o p]):Yl Try.prog ρ (.build 115 #[(0,t)]) d ty pos af v w (.agg #[.slice a b c,.slice f h i,.slice j k l,.slice m o p,Vi 0,sn,Vi 0,Vi 0]):=by
 have e:(Instr.build 115 #[(0,.agg #[.slice a b c,.slice f h i,.slice j k l,.slice m o p])]).run Try.prog w=.ok (.agg #[.slice a b c,.slice f h i,.slice j k l,.slice m o p,Vi 0,sn,Vi 0,Vi 0]) w:=by kernel_rfl
 simp [Yl,execOp,u,e]
theorem KG {ρ:Operand→Value} {w:World} {d:Option Nat} {ty:TypeId} {pos:String} {af:Array Edge} {c:Option (Nat × Bool)} {x0A:Option Addr} {x0n x0c:Nat} {a:Operand} (b:ρ a=.slice x0A x0n x0c) :
  (execOp ρ ⟨d,.buildSlice 27 1 #[(0,a)],ty,pos,af,c⟩).run Try.prog w=.ok (.value (.slice (some ⟨w.heap.size,0,none⟩) 1 1)) (w.alloc (.cells #[.slice x0A x0n x0c] 60)):=by
 have e:(Instr.buildSlice 27 1 #[(0,.slice x0A x0n x0c)]).run Try.prog w=.ok (.slice (some ⟨w.heap.size,0,none⟩) 1 1) (w.alloc (.cells #[.slice x0A x0n x0c] 60)):=by kernel_rfl
 simp [execOp,b,e]
theorem Q5 {ρ:Operand→Value} {w:World} {d:Option Nat} {ty:TypeId} {pos:String} {af:Array Edge} {a:Option (Nat × Bool)}:Yl Try.prog ρ (.build 30 #[]) d ty pos af a w (.agg #[sn,sn,sn,sn]):=by
 have e:(Instr.build 30 #[]).run Try.prog w=.ok (.agg #[sn,sn,sn,sn]) w:=by kernel_rfl
 simp [Yl,execOp,e]
theorem DZ {ρ:Operand→Value} {w:World} {d:Option Nat} {ty:TypeId} {pos:String} {af:Array Edge} {t:Option (Nat × Bool)} {a:ByteArray} {b:Int} {c:Int} {f:Int} {h:Operand} {i:Operand} {j:Operand} {k:Operand} (l:ρ h=Vt a) (m:ρ i=Vi b) (o:ρ j=Vi c) (p:ρ k=Vi f):Yl Try.prog ρ (.build 59 #[(0,h),(1,i),(2,j),(3,k)]) d ty pos af t w (.agg #[Vt a,Vi b,Vi c,Vi f,.bool false,Vi 0,Vi 0]):=by
 have e:(Instr.build 59 #[(0,Vt a),(1,Vi b),(2,Vi c),(3,Vi f)]).run Try.prog w=.ok (.agg #[Vt a,Vi b,Vi c,Vi f,.bool false,Vi 0,Vi 0]) w:=by kernel_rfl
 simp [Yl,execOp,l,m,o,p,e]
theorem Gg {ρ:Operand→Value} {w:World} {d:Option Nat} {ty:TypeId} {pos:String} {af:Array Edge} {x:Option (Nat × Bool)} {a:ByteArray} {b:Int} {c:Int} {f:Int} {h:Bool} {i:Operand} {j:Operand} {k:Operand} {l:Operand} {m:Operand} (o:ρ i=Vt a) (p:ρ j=Vi b) (t:ρ k=Vi c) (u:ρ l=Vi f) (v:ρ m=.bool h):Yl Try.prog ρ (.build 59 #[(0,i),(1,j),(2,k),(3,l),(4,m)]) d ty pos af x w (.agg #[Vt a,Vi b,Vi c,Vi f,.bool h,Vi 0,Vi 0]):=by
 have e:(Instr.build 59 #[(0,Vt a),(1,Vi b),(2,Vi c),(3,Vi f),(4,.bool h)]).run Try.prog w=.ok (.agg #[Vt a,Vi b,Vi c,Vi f,.bool h,Vi 0,Vi 0]) w:=by kernel_rfl
 simp [Yl,execOp,o,p,t,u,v,e]
theorem Nz {ρ:Operand→Value} {w:World} {d:Option Nat} {ty:TypeId} {pos:String} {af:Array Edge} {j:Option (Nat × Bool)} {a:Option Nat} {b:Option Nat} {c:Operand} {f:Operand} (h:ρ c=.map a) (i:ρ f=.map b):Yl Try.prog ρ (.build 107 #[(0,c),(1,f)]) d ty pos af j w (.agg #[.map a,.map b,sn,sn,sn,sn,sn,sn,sn,Vi 0,Vi 0]):=by
 have e:(Instr.build 107 #[(0,.map a),(1,.map b)]).run Try.prog w=.ok (.agg #[.map a,.map b,sn,sn,sn,sn,sn,sn,sn,Vi 0,Vi 0]) w:=by kernel_rfl
 simp [Yl,execOp,h,i,e]
theorem Nt {ρ:Operand→Value} {w:World} {d:Option Nat} {ty:TypeId} {pos:String} {af:Array Edge} {a9:Option (Nat × Bool)} {t:ByteArray} {u:ByteArray} {v:ByteArray} {x:ByteArray} {z:ByteArray} {A:ByteArray} {B:ByteArray} {C:ByteArray} {D:ByteArray} {E:ByteArray} {a:ByteArray} {b:ByteArray} {c:ByteArray} {f:ByteArray} {h:ByteArray} {i:ByteArray} {L:Operand} {M:Operand} {N:Operand} {P:Operand} {Q:Operand} {R:Operand} {S:Operand} {U:Operand} {W:Operand} {X:Operand} {j:Operand} {k:Operand} {l:Operand} {m:Operand} {o:Operand} {p:Operand} (Y:ρ L=Vt t) (h1:ρ M=Vt u) (h2:ρ N=Vt v) (h3:ρ P=Vt x) (h4:ρ Q=Vt z) (h5:ρ R=Vt A) (h6:ρ S=Vt B) (h7:ρ U=Vt C) (h8:ρ W=Vt D) (h9:ρ X=Vt E) (F:ρ j=Vt a) (G:ρ k=Vt b) (H:ρ l=Vt c) (I:ρ m=Vt f) (J:ρ o=Vt h) (K:ρ p=Vt i) :
  (execOp ρ ⟨d,.buildSlice 70 16 #[(0,L),(1,M),(2,N),(3,P),(4,Q),(5,R),(6,S),(7,U),(8,W),(9,X),(10,j),(11,k),(12,l),(13,m),(14,o),(15,p)],ty,pos,af,a9⟩).run Try.prog w=.ok (.value (.slice (some ⟨w.heap.size,0,none⟩) 16 16)) (w.alloc (.cells #[Vt t,Vt u,Vt v,Vt x,Vt z,Vt A,Vt B,Vt C,Vt D,Vt E,Vt a,Vt b,Vt c,Vt f,Vt h,Vt i] 9)):=by
 have e:(Instr.buildSlice 70 16 #[(0,Vt t),(1,Vt u),(2,Vt v),(3,Vt x),(4,Vt z),(5,Vt A),(6,Vt B),(7,Vt C),(8,Vt D),(9,Vt E),(10,Vt a),(11,Vt b),(12,Vt c),(13,Vt f),(14,Vt h),(15,Vt i)]).run Try.prog w=.ok (.slice (some ⟨w.heap.size,0,none⟩) 16 16) (w.alloc (.cells #[Vt t,Vt u,Vt v,Vt x,Vt z,Vt A,Vt B,Vt C,Vt D,Vt E,Vt a,Vt b,Vt c,Vt f,Vt h,Vt i] 9)):=by kernel_rfl
 simp [execOp,Y,h1,h2,h3,h4,h5,h6,h7,h8,h9,F,G,H,I,J,K,e]
theorem pJ:TI Try.prog 3 (Vi 0) 1 8:=uP (by kernel_rfl)
theorem VQ:TI Try.prog 4 (.bool false) 1 1:=uP (by kernel_rfl)
theorem VN:TI Try.prog 5 (.int .u8 0) 1 1:=uP (by kernel_rfl)
theorem pV:TI Try.prog 9 (Vt be) 1 16:=uP (by kernel_rfl)
theorem Er:TI Try.prog 22 (sn) 1 24:=uP (by kernel_rfl)
theorem RI:TI Try.prog 23 (sn) 1 24:=uP (by kernel_rfl)
theorem Qs:TI Try.prog 24 (sn) 1 24:=uP (by kernel_rfl)
theorem uI:TI Try.prog 26 (.agg #[sn,sn]) 2 48:=uP (by kernel_rfl)
theorem Ry:TI Try.prog 27 (sn) 1 24:=uP (by kernel_rfl)
theorem RD:TI Try.prog 28 (sn) 1 24:=uP (by kernel_rfl)
theorem zM:TI Try.prog 30 (.agg #[sn,sn,sn,sn]) 4 96:=uP (by kernel_rfl)
theorem Qm:TI Try.prog 37 (Vi 0) 1 8:=uP (by kernel_rfl)
theorem wz:TI Try.prog 59 (.agg #[Vt be,Vi 0,Vi 0,Vi 0,.bool false,Vi 0,Vi 0]) 7 64:=uP (by kernel_rfl)
theorem Br:TI Try.prog 60 (sn) 1 24:=uP (by kernel_rfl)
theorem Ns:TI Try.prog 65 (.agg #[Vi 0,Vi 0,Vi 0]) 3 24:=uP (by kernel_rfl)
theorem pO:TI Try.prog 70 (sn) 1 24:=uP (by kernel_rfl)
theorem yG:TI Try.prog 80 (sn) 1 24:=uP (by kernel_rfl)
theorem mX:TI Try.prog 82 (.agg #[Vt be,Vi 0,sn,sn]) 4 72:=uP (by kernel_rfl)
theorem VA:TI Try.prog 97 (sn) 1 24:=uP (by kernel_rfl)
theorem QC:TI Try.prog 105 (.map none) 1 8:=uP (by kernel_rfl)
theorem uk:TI Try.prog 109 (sn) 1 24:=uP (by kernel_rfl)
theorem jP:TI Try.prog 111 (.agg #[Vi 0,Vi 0,Vi 0,Vt be,Vt be,Vi 0,Vi 0,sn,Vt be,Vi 0,sn,sn,sn]) 13 192:=uP (by kernel_rfl)
theorem tu:TI Try.prog 127 (.agg #[Vt be,sn]) 2 40:=uP (by kernel_rfl)
theorem TF:TI Try.prog 130 (.pointer none) 1 8:=uP (by kernel_rfl)
theorem jT:TI Try.prog 138 (.agg #[Vi 0,Vi 0,Vi 0,Vt be,Vt be,sn]) 6 80:=uP (by kernel_rfl)
theorem qO:TI Try.prog 143 (.agg #[Vi 0,Vi 0,Vt be,Vi 0]) 4 40:=uP (by kernel_rfl)
theorem N9:jK Try.prog 16:=⟨_,Try.func16,by kernel_rfl,by kernel_rfl⟩
theorem Uk:jK Try.prog 21:=⟨_,Try.func21,by kernel_rfl,by kernel_rfl⟩
theorem Uq:jK Try.prog 25:=⟨_,Try.func25,by kernel_rfl,by kernel_rfl⟩
theorem UM:jK Try.prog 26:=⟨_,Try.func26,by kernel_rfl,by kernel_rfl⟩
theorem UQ:jK Try.prog 27:=⟨_,Try.func27,by kernel_rfl,by kernel_rfl⟩
theorem UR:jK Try.prog 28:=⟨_,Try.func28,by kernel_rfl,by kernel_rfl⟩
theorem Tp:jK Try.prog 29:=⟨_,Try.func29,by kernel_rfl,by kernel_rfl⟩
theorem TE:jK Try.prog 30:=⟨_,Try.func30,by kernel_rfl,by kernel_rfl⟩
theorem Uz:jK Try.prog 31:=⟨_,Try.func31,by kernel_rfl,by kernel_rfl⟩
theorem QE:jK Try.prog 32:=⟨_,Try.func32,by kernel_rfl,by kernel_rfl⟩
theorem Qz:jK Try.prog 33:=⟨_,Try.func33,by kernel_rfl,by kernel_rfl⟩
theorem Ut:jK Try.prog 36:=⟨_,Try.func36,by kernel_rfl,by kernel_rfl⟩
theorem UE:jK Try.prog 41:=⟨_,Try.func41,by kernel_rfl,by kernel_rfl⟩
theorem Uf:jK Try.prog 42:=⟨_,Try.func42,by kernel_rfl,by kernel_rfl⟩
theorem TC:jK Try.prog 43:=⟨_,Try.func43,by kernel_rfl,by kernel_rfl⟩
theorem TN:jK Try.prog 44:=⟨_,Try.func44,by kernel_rfl,by kernel_rfl⟩
theorem TB:jK Try.prog 45:=⟨_,Try.func45,by kernel_rfl,by kernel_rfl⟩
theorem UI:jK Try.prog 46:=⟨_,Try.func46,by kernel_rfl,by kernel_rfl⟩
theorem Ui:jK Try.prog 48:=⟨_,Try.func48,by kernel_rfl,by kernel_rfl⟩
theorem Ri:jK Try.prog 49:=⟨_,Try.func49,by kernel_rfl,by kernel_rfl⟩
theorem Ub:jK Try.prog 52:=⟨_,Try.func52,by kernel_rfl,by kernel_rfl⟩
theorem Uo:jK Try.prog 53:=⟨_,Try.func53,by kernel_rfl,by kernel_rfl⟩
theorem Us:jK Try.prog 54:=⟨_,Try.func54,by kernel_rfl,by kernel_rfl⟩
theorem QP:jK Try.prog 55:=⟨_,Try.func55,by kernel_rfl,by kernel_rfl⟩
theorem IC:jK Try.prog 56:=⟨_,Try.func56,by kernel_rfl,by kernel_rfl⟩
theorem pG:jK Try.prog 57:=⟨_,Try.func57,by kernel_rfl,by kernel_rfl⟩
theorem Q6:jK Try.prog 58:=⟨_,Try.func58,by kernel_rfl,by kernel_rfl⟩
theorem ER:jK Try.prog 59:=⟨_,Try.func59,by kernel_rfl,by kernel_rfl⟩
theorem Rb:jK Try.prog 60:=⟨_,Try.func60,by kernel_rfl,by kernel_rfl⟩
theorem Tu:jK Try.prog 61:=⟨_,Try.func61,by kernel_rfl,by kernel_rfl⟩
theorem wK:jK Try.prog 62:=⟨_,Try.func62,by kernel_rfl,by kernel_rfl⟩
theorem CY:jK Try.prog 63:=⟨_,Try.func63,by kernel_rfl,by kernel_rfl⟩
theorem xA:jK Try.prog 64:=⟨_,Try.func64,by kernel_rfl,by kernel_rfl⟩
theorem Ra:jK Try.prog 65:=⟨_,Try.func65,by kernel_rfl,by kernel_rfl⟩
theorem IV:jK Try.prog 66:=⟨_,Try.func66,by kernel_rfl,by kernel_rfl⟩
theorem D6:jK Try.prog 67:=⟨_,Try.func67,by kernel_rfl,by kernel_rfl⟩
theorem DY:jK Try.prog 68:=⟨_,Try.func68,by kernel_rfl,by kernel_rfl⟩
theorem QO:jK Try.prog 69:=⟨_,Try.func69,by kernel_rfl,by kernel_rfl⟩
theorem QX:jK Try.prog 70:=⟨_,Try.func70,by kernel_rfl,by kernel_rfl⟩
theorem UB:jK Try.prog 71:=⟨_,Try.func71,by kernel_rfl,by kernel_rfl⟩
theorem zR:jK Try.prog 72:=⟨_,Try.func72,by kernel_rfl,by kernel_rfl⟩
theorem OD:jK Try.prog 73:=⟨_,Try.func73,by kernel_rfl,by kernel_rfl⟩
theorem MU:jK Try.prog 74:=⟨_,Try.func74,by kernel_rfl,by kernel_rfl⟩
theorem Om:jK Try.prog 76:=⟨_,Try.func76,by kernel_rfl,by kernel_rfl⟩
theorem Nf:jK Try.prog 77:=⟨_,Try.func77,by kernel_rfl,by kernel_rfl⟩
theorem EZ:jK Try.prog 78:=⟨_,Try.func78,by kernel_rfl,by kernel_rfl⟩
theorem I4:jK Try.prog 79:=⟨_,Try.func79,by kernel_rfl,by kernel_rfl⟩
theorem IK:jK Try.prog 80:=⟨_,Try.func80,by kernel_rfl,by kernel_rfl⟩
theorem Um:jK Try.prog 81:=⟨_,Try.func81,by kernel_rfl,by kernel_rfl⟩
theorem TA:jK Try.prog 82:=⟨_,Try.func82,by kernel_rfl,by kernel_rfl⟩
theorem Bg:jK Try.prog 83:=⟨_,Try.func83,by kernel_rfl,by kernel_rfl⟩
theorem IP:jK Try.prog 84:=⟨_,Try.func84,by kernel_rfl,by kernel_rfl⟩
theorem Tw:jK Try.prog 85:=⟨_,Try.func85,by kernel_rfl,by kernel_rfl⟩
theorem Oc:jK Try.prog 86:=⟨_,Try.func86,by kernel_rfl,by kernel_rfl⟩
theorem Rc:jK Try.prog 87:=⟨_,Try.func87,by kernel_rfl,by kernel_rfl⟩
theorem UJ:jK Try.prog 88:=⟨_,Try.func88,by kernel_rfl,by kernel_rfl⟩
theorem Pk:jK Try.prog 89:=⟨_,Try.func89,by kernel_rfl,by kernel_rfl⟩
theorem Oq:jK Try.prog 90:=⟨_,Try.func90,by kernel_rfl,by kernel_rfl⟩
theorem UD:jK Try.prog 91:=⟨_,Try.func91,by kernel_rfl,by kernel_rfl⟩
theorem Ug:jK Try.prog 92:=⟨_,Try.func92,by kernel_rfl,by kernel_rfl⟩
theorem T9:jK Try.prog 93:=⟨_,Try.func93,by kernel_rfl,by kernel_rfl⟩
theorem Uj:jK Try.prog 94:=⟨_,Try.func94,by kernel_rfl,by kernel_rfl⟩
theorem QF:jK Try.prog 95:=⟨_,Try.func95,by kernel_rfl,by kernel_rfl⟩
theorem Re:jK Try.prog 96:=⟨_,Try.func96,by kernel_rfl,by kernel_rfl⟩
theorem Oa:jK Try.prog 97:=⟨_,Try.func97,by kernel_rfl,by kernel_rfl⟩
theorem QK:jK Try.prog 98:=⟨_,Try.func98,by kernel_rfl,by kernel_rfl⟩
theorem Ue:jK Try.prog 99:=⟨_,Try.func99,by kernel_rfl,by kernel_rfl⟩
theorem Mg:jK Try.prog 105:=⟨_,Try.func105,by kernel_rfl,by kernel_rfl⟩
theorem RQ:jK Try.prog 106:=⟨_,Try.func106,by kernel_rfl,by kernel_rfl⟩
theorem Oe:jK Try.prog 107:=⟨_,Try.func107,by kernel_rfl,by kernel_rfl⟩
theorem Dh:jK Try.prog 108:=⟨_,Try.func108,by kernel_rfl,by kernel_rfl⟩
theorem Rq:jK Try.prog 109:=⟨_,Try.func109,by kernel_rfl,by kernel_rfl⟩
theorem Pw:jK Try.prog 110:=⟨_,Try.func110,by kernel_rfl,by kernel_rfl⟩
theorem Rm:jK Try.prog 111:=⟨_,Try.func111,by kernel_rfl,by kernel_rfl⟩
theorem BC:jK Try.prog 112:=⟨_,Try.func112,by kernel_rfl,by kernel_rfl⟩
theorem GQ:jK Try.prog 113:=⟨_,Try.func113,by kernel_rfl,by kernel_rfl⟩
theorem Rz:jK Try.prog 114:=⟨_,Try.func114,by kernel_rfl,by kernel_rfl⟩
theorem RO:jK Try.prog 115:=⟨_,Try.func115,by kernel_rfl,by kernel_rfl⟩
theorem Sm:jK Try.prog 116:=⟨_,Try.func116,by kernel_rfl,by kernel_rfl⟩
theorem Mq:jK Try.prog 117:=⟨_,Try.func117,by kernel_rfl,by kernel_rfl⟩
theorem SS:jK Try.prog 118:=⟨_,Try.func118,by kernel_rfl,by kernel_rfl⟩
theorem NV:jK Try.prog 124:=⟨_,Try.func124,by kernel_rfl,by kernel_rfl⟩
theorem RY:jK Try.prog 125:=⟨_,Try.func125,by kernel_rfl,by kernel_rfl⟩
theorem N8:jK Try.prog 126:=⟨_,Try.func126,by kernel_rfl,by kernel_rfl⟩
theorem Su:jK Try.prog 127:=⟨_,Try.func127,by kernel_rfl,by kernel_rfl⟩
theorem OU:jK Try.prog 128:=⟨_,Try.func128,by kernel_rfl,by kernel_rfl⟩
theorem SV:jK Try.prog 129:=⟨_,Try.func129,by kernel_rfl,by kernel_rfl⟩
theorem RJ:jK Try.prog 130:=⟨_,Try.func130,by kernel_rfl,by kernel_rfl⟩
theorem Ta:jK Try.prog 131:=⟨_,Try.func131,by kernel_rfl,by kernel_rfl⟩
theorem Rt:jK Try.prog 132:=⟨_,Try.func132,by kernel_rfl,by kernel_rfl⟩
theorem SH:jK Try.prog 136:=⟨_,Try.func136,by kernel_rfl,by kernel_rfl⟩
theorem O8:jK Try.prog 137:=⟨_,Try.func137,by kernel_rfl,by kernel_rfl⟩
theorem Gq:jK Try.prog 138:=⟨_,Try.func138,by kernel_rfl,by kernel_rfl⟩
theorem Pv:jK Try.prog 139:=⟨_,Try.func139,by kernel_rfl,by kernel_rfl⟩
theorem NY:jK Try.prog 140:=⟨_,Try.func140,by kernel_rfl,by kernel_rfl⟩
theorem RF:jK Try.prog 141:=⟨_,Try.func141,by kernel_rfl,by kernel_rfl⟩
theorem R4:jK Try.prog 142:=⟨_,Try.func142,by kernel_rfl,by kernel_rfl⟩
end
end Go.Proofs.Ytfglbdkfnphjgaa
