/- Types of the program, and facts about them. -/
import Derived.Test.YtfglbdkfnphjgaaRows
import Derived.Test.YtfglbdkfnphjgaaZ3
set_option linter.unusedVariables false
set_option maxHeartbeats 12800000
set_option linter.unusedSimpArgs false
set_option maxRecDepth 4000
namespace Go.Proofs.Ytfglbdkfnphjgaa
open Go.RowKit Go.Fw
theorem r.{u} {α : Sort u} {a : α} : a = a := rfl
abbrev OA := Option Addr
abbrev LV := List (List Value)
noncomputable section
structure jM where
 l:(List Int)
 a:Int
instance:Rp jM:=⟨2,32,fun F w cs x=>∃ (a1:OA) (c1:Nat),cs=[.slice a1 x.l.length c1,Vi x.a]∧kN F w a1 c1 x.l,fun h=>by obtain ⟨a1,c1,rfl,_⟩:=h;rfl,fun h=>by obtain ⟨a1,c1,rfl,_⟩:=h;rfl,fun h m=>by obtain ⟨a1,c1,h,k1⟩:=h;exact ⟨a1,c1,h,k1.mv m⟩⟩
theorem jM.out {F:Nat→Prop} {w:World} {cs:List Value} {x:jM} (h:Rp.rep F w cs x):∃ (a:OA) (b:Nat),cs=[.slice a x.l.length b,Vi x.a]∧kN F w a b x.l:=h
theorem jM.inn {F:Nat→Prop} {w:World} {cs:List Value} {x:jM} (h:∃ (a:OA) (b:Nat),cs=[.slice a x.l.length b,Vi x.a]∧kN F w a b x.l):Rp.rep F w cs x:=h
structure jB where
 e:Int
 d:Int
 g:Int
 b:ByteArray
 c:ByteArray
 a:(List jB)
inductive jB.R (F:Nat→Prop) (w:World):List Value→jB→Prop
 | mk (x:jB) (a1:OA) (c1:Nat) (C1:Nat→List Value) (h1:x.a.length≤c1∧c1≤maxLen) (k1:0 < x.a.length→a1=some ⟨nS a1,pE a1,none⟩∧F (nS a1)∧nS a1 < w.heap.size) (e1:∀ i y,x.a[i]?=some y→Cells w (nS a1) (pE a1+i * 6) (C1 i)) (r1:∀ i y,x.a[i]?=some y→jB.R F w (C1 i) y):jB.R F w [Vi x.e,Vi x.d,Vi x.g,Vt x.b,Vt x.c,.slice a1 x.a.length c1] x
instance:Rp jB where
 sz:=6
 bs:=80
 rep:=jB.R
 len h:=by cases h;rfl
 one h:=by cases h;rfl
 mv {F G w w' cs x} h m:=by
  induction h with
  | mk x a1 c1 C1 h1 k1 e1 r1 ih1=>exact .mk x a1 c1 C1 h1 (fun h0=>⟨(k1 h0).1,(m.1 _ (k1 h0).2.1 (k1 h0).2.2).1,Nat.lt_of_lt_of_le (k1 h0).2.2 m.2⟩) (fun i y hy=>(e1 i y hy).same (m.1 _ (k1 (by have:=kI hy;omega)).2.1 (k1 (by have:=kI hy;omega)).2.2).2) ih1
theorem jB.out {F:Nat→Prop} {w:World} {cs:List Value} {x:jB} (h:Rp.rep F w cs x):∃ (a:OA) (b:Nat),cs=[Vi x.e,Vi x.d,Vi x.g,Vt x.b,Vt x.c,.slice a x.a.length b]∧kN F w a b x.a:=by
 cases h with
 | mk _ a b f e c j k=>exact ⟨a,b,rfl,⟨e.1,e.2,fun d=>⟨(c d).1,(c d).2.1,(c d).2.2,fun i l hy=>⟨f i,j i l hy,k i l hy⟩⟩⟩⟩
theorem jB.inn {F:Nat→Prop} {w:World} {cs:List Value} {x:jB} (h:∃ (b:OA) (c:Nat),cs=[Vi x.e,Vi x.d,Vi x.g,Vt x.b,Vt x.c,.slice b x.a.length c]∧kN F w b c x.a):Rp.rep F w cs x:=by
 obtain ⟨b,c,rfl,a⟩:=h
 obtain ⟨e,f,i⟩:=a.fn
 exact .mk x b c e ⟨a.1,a.2.1⟩ (fun d=>⟨(a.2.2 d).1,(a.2.2 d).2.1,(a.2.2 d).2.2.1⟩) f i
structure jX where
 c:Int
 f:Int
 a:ByteArray
 d:Int
instance:Rp jX:=⟨4,40,fun _ _ cs x=>cs=[Vi x.c,Vi x.f,Vt x.a,Vi x.d],fun h=>by rw [h];rfl,fun h=>by rw [h];rfl,fun h _=>h⟩
structure gP where
 l:(List jX)
 a:Int
 c:Int
 e:Int
instance:Rp gP:=⟨4,48,fun F w cs x=>∃ (a1:OA) (c1:Nat),cs=[.slice a1 x.l.length c1,Vi x.a,Vi x.c,Vi x.e]∧kN F w a1 c1 x.l,fun h=>by obtain ⟨a1,c1,rfl,_⟩:=h;rfl,fun h=>by obtain ⟨a1,c1,rfl,_⟩:=h;rfl,fun h m=>by obtain ⟨a1,c1,h,k1⟩:=h;exact ⟨a1,c1,h,k1.mv m⟩⟩
theorem gP.out {F:Nat→Prop} {w:World} {cs:List Value} {x:gP} (h:Rp.rep F w cs x):∃ (a:OA) (b:Nat),cs=[.slice a x.l.length b,Vi x.a,Vi x.c,Vi x.e]∧kN F w a b x.l:=h
theorem gP.inn {F:Nat→Prop} {w:World} {cs:List Value} {x:gP} (h:∃ (a:OA) (b:Nat),cs=[.slice a x.l.length b,Vi x.a,Vi x.c,Vi x.e]∧kN F w a b x.l):Rp.rep F w cs x:=h
structure jD where
 c:Int
 f:Int
 n:Int
 b:ByteArray
 k:ByteArray
 m:Int
 g:Int
 d:(List jB)
 j:ByteArray
 i:Int
 a:(List jB)
 e:(List jD)
 h:(List jD)
inductive jD.R (F:Nat→Prop) (w:World):List Value→jD→Prop
 | mk (x:jD) (a1:OA) (c1:Nat) (a2:OA) (c2:Nat) (a3:OA) (c3:Nat) (a4:OA) (c4:Nat) (k1:kN F w a1 c1 x.d) (k2:kN F w a2 c2 x.a) (C3:Nat→List Value) (h3:x.e.length≤c3∧c3≤maxLen) (k3:0 < x.e.length→a3=some ⟨nS a3,pE a3,none⟩∧F (nS a3)∧nS a3 < w.heap.size) (e3:∀ i y,x.e[i]?=some y→Cells w (nS a3) (pE a3+i * 13) (C3 i)) (r3:∀ i y,x.e[i]?=some y→jD.R F w (C3 i) y) (C4:Nat→List Value) (h4:x.h.length≤c4∧c4≤maxLen) (k4:0 < x.h.length→a4=some ⟨nS a4,pE a4,none⟩∧F (nS a4)∧nS a4 < w.heap.size) (e4:∀ i y,x.h[i]?=some y→Cells w (nS a4) (pE a4+i * 13) (C4 i)) (r4:∀ i y,x.h[i]?=some y→jD.R F w (C4 i) y):jD.R F w [Vi x.c,Vi x.f,Vi x.n,Vt x.b,Vt x.k,Vi x.m,Vi x.g,.slice a1 x.d.length c1,Vt x.j,Vi x.i,.slice a2 x.a.length c2,.slice a3 x.e.length c3,.slice a4 x.h.length c4] x
instance:Rp jD where
 sz:=13
 bs:=192
 rep:=jD.R
 len h:=by cases h;rfl
 one h:=by cases h;rfl
 mv {F G w w' cs x} h m:=by
  induction h with
  | mk x a1 c1 a2 c2 a3 c3 a4 c4 k1 k2 C3 h3 k3 e3 r3 C4 h4 k4 e4 r4 ih3 ih4=>exact .mk x a1 c1 a2 c2 a3 c3 a4 c4 (k1.mv m) (k2.mv m) C3 h3 (fun h0=>⟨(k3 h0).1,(m.1 _ (k3 h0).2.1 (k3 h0).2.2).1,Nat.lt_of_lt_of_le (k3 h0).2.2 m.2⟩) (fun i y hy=>(e3 i y hy).same (m.1 _ (k3 (by have:=kI hy;omega)).2.1 (k3 (by have:=kI hy;omega)).2.2).2) ih3 C4 h4 (fun h0=>⟨(k4 h0).1,(m.1 _ (k4 h0).2.1 (k4 h0).2.2).1,Nat.lt_of_lt_of_le (k4 h0).2.2 m.2⟩) (fun i y hy=>(e4 i y hy).same (m.1 _ (k4 (by have:=kI hy;omega)).2.1 (k4 (by have:=kI hy;omega)).2.2).2) ih4
theorem jD.out {F:Nat→Prop} {w:World} {cs:List Value} {x:jD} (h:Rp.rep F w cs x):∃ (b:OA) (c:Nat) (d:OA) (e:Nat) (f:OA) (j:Nat) (k:OA) (l:Nat),cs=[Vi x.c,Vi x.f,Vi x.n,Vt x.b,Vt x.k,Vi x.m,Vi x.g,.slice b x.d.length c,Vt x.j,Vi x.i,.slice d x.a.length e,.slice f x.e.length j,.slice k x.h.length l]∧kN F w b c x.d∧kN F w d e x.a∧kN F w f j x.e∧kN F w k l x.h:=by
 cases h with
 | mk _ b c d e f j k l u v z p m A B C t o D E=>exact ⟨b,c,d,e,f,j,k,l,rfl,u,v,⟨p.1,p.2,fun a=>⟨(m a).1,(m a).2.1,(m a).2.2,fun i G hy=>⟨z i,A i G hy,B i G hy⟩⟩⟩,⟨t.1,t.2,fun a=>⟨(o a).1,(o a).2.1,(o a).2.2,fun i G hy=>⟨C i,D i G hy,E i G hy⟩⟩⟩⟩
theorem jD.inn {F:Nat→Prop} {w:World} {cs:List Value} {x:jD} (h:∃ (d:OA) (e:Nat) (f:OA) (i:Nat) (j:OA) (k:Nat) (l:OA) (m:Nat),cs=[Vi x.c,Vi x.f,Vi x.n,Vt x.b,Vt x.k,Vi x.m,Vi x.g,.slice d x.d.length e,Vt x.j,Vi x.i,.slice f x.a.length i,.slice j x.e.length k,.slice l x.h.length m]∧kN F w d e x.d∧kN F w f i x.a∧kN F w j k x.e∧kN F w l m x.h):Rp.rep F w cs x:=by
 obtain ⟨d,e,f,i,j,k,l,m,rfl,o,p,b,c⟩:=h
 obtain ⟨t,u,v⟩:=b.fn
 obtain ⟨z,A,B⟩:=c.fn
 exact .mk x d e f i j k l m o p t ⟨b.1,b.2.1⟩ (fun a=>⟨(b.2.2 a).1,(b.2.2 a).2.1,(b.2.2 a).2.2.1⟩) u v z ⟨c.1,c.2.1⟩ (fun a=>⟨(c.2.2 a).1,(c.2.2 a).2.1,(c.2.2 a).2.2.1⟩) A B
structure kV where
 b:ByteArray
 a:(List ByteArray)
instance:Rp kV:=⟨2,40,fun F w cs x=>∃ (a1:OA) (c1:Nat),cs=[Vt x.b,.slice a1 x.a.length c1]∧kN F w a1 c1 x.a,fun h=>by obtain ⟨a1,c1,rfl,_⟩:=h;rfl,fun h=>by obtain ⟨a1,c1,rfl,_⟩:=h;rfl,fun h m=>by obtain ⟨a1,c1,h,k1⟩:=h;exact ⟨a1,c1,h,k1.mv m⟩⟩
theorem kV.out {F:Nat→Prop} {w:World} {cs:List Value} {x:kV} (h:Rp.rep F w cs x):∃ (a:OA) (b:Nat),cs=[Vt x.b,.slice a x.a.length b]∧kN F w a b x.a:=h
theorem kV.inn {F:Nat→Prop} {w:World} {cs:List Value} {x:kV} (h:∃ (a:OA) (b:Nat),cs=[Vt x.b,.slice a x.a.length b]∧kN F w a b x.a):Rp.rep F w cs x:=h
structure lI where
 b:ByteArray
 f:Int
 a:(List ByteArray)
 e:(List jD)
instance:Rp lI:=⟨4,72,fun F w cs x=>∃ (a1:OA) (c1:Nat) (a2:OA) (c2:Nat),cs=[Vt x.b,Vi x.f,.slice a1 x.a.length c1,.slice a2 x.e.length c2]∧kN F w a1 c1 x.a∧kN F w a2 c2 x.e,fun h=>by obtain ⟨a1,c1,a2,c2,rfl,_⟩:=h;rfl,fun h=>by obtain ⟨a1,c1,a2,c2,rfl,_⟩:=h;rfl,fun h m=>by obtain ⟨a1,c1,a2,c2,h,k1,k2⟩:=h;exact ⟨a1,c1,a2,c2,h,k1.mv m,k2.mv m⟩⟩
theorem lI.out {F:Nat→Prop} {w:World} {cs:List Value} {x:lI} (h:Rp.rep F w cs x):∃ (a:OA) (b:Nat) (c:OA) (d:Nat),cs=[Vt x.b,Vi x.f,.slice a x.a.length b,.slice c x.e.length d]∧kN F w a b x.a∧kN F w c d x.e:=h
theorem lI.inn {F:Nat→Prop} {w:World} {cs:List Value} {x:lI} (h:∃ (a:OA) (b:Nat) (c:OA) (d:Nat),cs=[Vt x.b,Vi x.f,.slice a x.a.length b,.slice c x.e.length d]∧kN F w a b x.a∧kN F w c d x.e):Rp.rep F w cs x:=h
structure jR where
 a:(List kV)
 b:(List lI)
instance:Rp jR:=⟨2,48,fun F w cs x=>∃ (a1:OA) (c1:Nat) (a2:OA) (c2:Nat),cs=[.slice a1 x.a.length c1,.slice a2 x.b.length c2]∧kN F w a1 c1 x.a∧kN F w a2 c2 x.b,fun h=>by obtain ⟨a1,c1,a2,c2,rfl,_⟩:=h;rfl,fun h=>by obtain ⟨a1,c1,a2,c2,rfl,_⟩:=h;rfl,fun h m=>by obtain ⟨a1,c1,a2,c2,h,k1,k2⟩:=h;exact ⟨a1,c1,a2,c2,h,k1.mv m,k2.mv m⟩⟩
theorem jR.out {F:Nat→Prop} {w:World} {cs:List Value} {x:jR} (h:Rp.rep F w cs x):∃ (a:OA) (b:Nat) (c:OA) (d:Nat),cs=[.slice a x.a.length b,.slice c x.b.length d]∧kN F w a b x.a∧kN F w c d x.b:=h
theorem jR.inn {F:Nat→Prop} {w:World} {cs:List Value} {x:jR} (h:∃ (a:OA) (b:Nat) (c:OA) (d:Nat),cs=[.slice a x.a.length b,.slice c x.b.length d]∧kN F w a b x.a∧kN F w c d x.b):Rp.rep F w cs x:=h
structure lD where
 f:Int
 e:Int
 d:(List Int)
 a:(List ByteArray)
 c:(List ByteArray)
 b:(List ByteArray)
 g:Int
 h:Int
structure jA where
 b:ByteArray
 c:Int
 d:Int
 a:Int
 f:Bool
 e:Int
 g:Int
instance:Rp jA:=⟨7,64,fun _ _ cs x=>cs=[Vt x.b,Vi x.c,Vi x.d,Vi x.a,.bool x.f,Vi x.e,Vi x.g],fun h=>by rw [h];rfl,fun h=>by rw [h];rfl,fun h _=>h⟩
structure kK where
 j:Int
 c:Int
 f:Int
instance:Rp kK:=⟨3,24,fun _ _ cs x=>cs=[Vi x.j,Vi x.c,Vi x.f],fun h=>by rw [h];rfl,fun h=>by rw [h];rfl,fun h _=>h⟩
structure jO where
 a:jR
 c:(List (List jA))
 b:(List kK)
instance:Rp jO:=⟨4,96,fun F w cs x=>∃ (a1:OA) (c1:Nat) (a2:OA) (c2:Nat) (a3:OA) (c3:Nat) (a4:OA) (c4:Nat),cs=[.slice a1 x.a.a.length c1,.slice a2 x.a.b.length c2,.slice a3 x.c.length c3,.slice a4 x.b.length c4]∧kN F w a1 c1 x.a.a∧kN F w a2 c2 x.a.b∧kN F w a3 c3 x.c∧kN F w a4 c4 x.b,fun h=>by obtain ⟨a1,c1,a2,c2,a3,c3,a4,c4,rfl,_⟩:=h;rfl,fun h=>by obtain ⟨a1,c1,a2,c2,a3,c3,a4,c4,rfl,_⟩:=h;rfl,fun h m=>by obtain ⟨a1,c1,a2,c2,a3,c3,a4,c4,h,k1,k2,k3,k4⟩:=h;exact ⟨a1,c1,a2,c2,a3,c3,a4,c4,h,k1.mv m,k2.mv m,k3.mv m,k4.mv m⟩⟩
theorem jO.out {F:Nat→Prop} {w:World} {cs:List Value} {x:jO} (h:Rp.rep F w cs x):∃ (a:OA) (b:Nat) (c:OA) (d:Nat) (e:OA) (f:Nat) (i:OA) (j:Nat),cs=[.slice a x.a.a.length b,.slice c x.a.b.length d,.slice e x.c.length f,.slice i x.b.length j]∧kN F w a b x.a.a∧kN F w c d x.a.b∧kN F w e f x.c∧kN F w i j x.b:=h
theorem jO.inn {F:Nat→Prop} {w:World} {cs:List Value} {x:jO} (h:∃ (a:OA) (b:Nat) (c:OA) (d:Nat) (e:OA) (f:Nat) (i:OA) (j:Nat),cs=[.slice a x.a.a.length b,.slice c x.a.b.length d,.slice e x.c.length f,.slice i x.b.length j]∧kN F w a b x.a.a∧kN F w c d x.a.b∧kN F w e f x.c∧kN F w i j x.b):Rp.rep F w cs x:=h
structure fV where
 a:jO
 f:Int
 b:(List Int)
 c:Int
 e:Int
instance:Rp fV:=⟨8,144,fun F w cs x=>∃ (a1:OA) (c1:Nat) (a2:OA) (c2:Nat) (a3:OA) (c3:Nat) (a4:OA) (c4:Nat) (a5:OA) (c5:Nat),cs=[.slice a1 x.a.a.a.length c1,.slice a2 x.a.a.b.length c2,.slice a3 x.a.c.length c3,.slice a4 x.a.b.length c4,Vi x.f,.slice a5 x.b.length c5,Vi x.c,Vi x.e]∧kN F w a1 c1 x.a.a.a∧kN F w a2 c2 x.a.a.b∧kN F w a3 c3 x.a.c∧kN F w a4 c4 x.a.b∧kN F w a5 c5 x.b,fun h=>by obtain ⟨a1,c1,a2,c2,a3,c3,a4,c4,a5,c5,rfl,_⟩:=h;rfl,fun h=>by obtain ⟨a1,c1,a2,c2,a3,c3,a4,c4,a5,c5,rfl,_⟩:=h;rfl,fun h m=>by obtain ⟨a1,c1,a2,c2,a3,c3,a4,c4,a5,c5,h,k1,k2,k3,k4,k5⟩:=h;exact ⟨a1,c1,a2,c2,a3,c3,a4,c4,a5,c5,h,k1.mv m,k2.mv m,k3.mv m,k4.mv m,k5.mv m⟩⟩
theorem fV.out {F:Nat→Prop} {w:World} {cs:List Value} {x:fV} (h:Rp.rep F w cs x):∃ (a:OA) (b:Nat) (c:OA) (d:Nat) (i:OA) (j:Nat) (k:OA) (l:Nat) (m:OA) (o:Nat),cs=[.slice a x.a.a.a.length b,.slice c x.a.a.b.length d,.slice i x.a.c.length j,.slice k x.a.b.length l,Vi x.f,.slice m x.b.length o,Vi x.c,Vi x.e]∧kN F w a b x.a.a.a∧kN F w c d x.a.a.b∧kN F w i j x.a.c∧kN F w k l x.a.b∧kN F w m o x.b:=h
theorem fV.inn {F:Nat→Prop} {w:World} {cs:List Value} {x:fV} (h:∃ (a:OA) (b:Nat) (c:OA) (d:Nat) (i:OA) (j:Nat) (k:OA) (l:Nat) (m:OA) (o:Nat),cs=[.slice a x.a.a.a.length b,.slice c x.a.a.b.length d,.slice i x.a.c.length j,.slice k x.a.b.length l,Vi x.f,.slice m x.b.length o,Vi x.c,Vi x.e]∧kN F w a b x.a.a.a∧kN F w c d x.a.a.b∧kN F w i j x.a.c∧kN F w k l x.a.b∧kN F w m o x.b):Rp.rep F w cs x:=h
structure pV where
 g:Int
 b:(List Bool)
 a:(List Int)
instance:Rp pV:=⟨3,56,fun F w cs x=>∃ (a1:OA) (c1:Nat) (a2:OA) (c2:Nat),cs=[Vi x.g,.slice a1 x.b.length c1,.slice a2 x.a.length c2]∧kN F w a1 c1 x.b∧kN F w a2 c2 x.a,fun h=>by obtain ⟨a1,c1,a2,c2,rfl,_⟩:=h;rfl,fun h=>by obtain ⟨a1,c1,a2,c2,rfl,_⟩:=h;rfl,fun h m=>by obtain ⟨a1,c1,a2,c2,h,k1,k2⟩:=h;exact ⟨a1,c1,a2,c2,h,k1.mv m,k2.mv m⟩⟩
theorem pV.out {F:Nat→Prop} {w:World} {cs:List Value} {x:pV} (h:Rp.rep F w cs x):∃ (a:OA) (b:Nat) (c:OA) (d:Nat),cs=[Vi x.g,.slice a x.b.length b,.slice c x.a.length d]∧kN F w a b x.b∧kN F w c d x.a:=h
theorem pV.inn {F:Nat→Prop} {w:World} {cs:List Value} {x:pV} (h:∃ (a:OA) (b:Nat) (c:OA) (d:Nat),cs=[Vi x.g,.slice a x.b.length b,.slice c x.a.length d]∧kN F w a b x.b∧kN F w c d x.a):Rp.rep F w cs x:=h
structure p8 where
 j:Int
 a:Int
 c:(List pV)
instance:Rp p8:=⟨3,40,fun F w cs x=>∃ (a1:OA) (c1:Nat),cs=[Vi x.j,Vi x.a,.slice a1 x.c.length c1]∧kN F w a1 c1 x.c,fun h=>by obtain ⟨a1,c1,rfl,_⟩:=h;rfl,fun h=>by obtain ⟨a1,c1,rfl,_⟩:=h;rfl,fun h m=>by obtain ⟨a1,c1,h,k1⟩:=h;exact ⟨a1,c1,h,k1.mv m⟩⟩
theorem p8.out {F:Nat→Prop} {w:World} {cs:List Value} {x:p8} (h:Rp.rep F w cs x):∃ (a:OA) (b:Nat),cs=[Vi x.j,Vi x.a,.slice a x.c.length b]∧kN F w a b x.c:=h
theorem p8.inn {F:Nat→Prop} {w:World} {cs:List Value} {x:p8} (h:∃ (a:OA) (b:Nat),cs=[Vi x.j,Vi x.a,.slice a x.c.length b]∧kN F w a b x.c):Rp.rep F w cs x:=h
structure kR where
 a:(List p8)
instance:Rp kR:=⟨1,24,fun F w cs x=>∃ (a1:OA) (c1:Nat),cs=[.slice a1 x.a.length c1]∧kN F w a1 c1 x.a,fun h=>by obtain ⟨a1,c1,rfl,_⟩:=h;rfl,fun h=>by obtain ⟨a1,c1,rfl,_⟩:=h;rfl,fun h m=>by obtain ⟨a1,c1,h,k1⟩:=h;exact ⟨a1,c1,h,k1.mv m⟩⟩
theorem kR.out {F:Nat→Prop} {w:World} {cs:List Value} {x:kR} (h:Rp.rep F w cs x):∃ (a:OA) (b:Nat),cs=[.slice a x.a.length b]∧kN F w a b x.a:=h
theorem kR.inn {F:Nat→Prop} {w:World} {cs:List Value} {x:kR} (h:∃ (a:OA) (b:Nat),cs=[.slice a x.a.length b]∧kN F w a b x.a):Rp.rep F w cs x:=h
structure rG where
 d:Int
 b:Bool
 c:Int
 a:(List Int)
instance:Rp rG:=⟨4,48,fun F w cs x=>∃ (a1:OA) (c1:Nat),cs=[Vi x.d,.bool x.b,Vi x.c,.slice a1 x.a.length c1]∧kN F w a1 c1 x.a,fun h=>by obtain ⟨a1,c1,rfl,_⟩:=h;rfl,fun h=>by obtain ⟨a1,c1,rfl,_⟩:=h;rfl,fun h m=>by obtain ⟨a1,c1,h,k1⟩:=h;exact ⟨a1,c1,h,k1.mv m⟩⟩
theorem rG.out {F:Nat→Prop} {w:World} {cs:List Value} {x:rG} (h:Rp.rep F w cs x):∃ (a:OA) (b:Nat),cs=[Vi x.d,.bool x.b,Vi x.c,.slice a x.a.length b]∧kN F w a b x.a:=h
theorem rG.inn {F:Nat→Prop} {w:World} {cs:List Value} {x:rG} (h:∃ (a:OA) (b:Nat),cs=[Vi x.d,.bool x.b,Vi x.c,.slice a x.a.length b]∧kN F w a b x.a):Rp.rep F w cs x:=h
theorem NY {ρ:Operand→Value} {w:World} {d:Option Nat} {ty:TypeId} {pos:String} {af:Array Edge} {a9:Option (Nat × Bool)} {t:Int} {u:Int} {v:Int} {x:Int} {z:Int} {A:Int} {B:Int} {C:Int} {D:Int} {E:Int} {a:Int} {b:Int} {c:Int} {f:Int} {h:Int} {i:Int} {L:Operand} {M:Operand} {N:Operand} {P:Operand} {Q:Operand} {R:Operand} {S:Operand} {U:Operand} {W:Operand} {X:Operand} {j:Operand} {k:Operand} {l:Operand} {m:Operand} {o:Operand} {p:Operand} (Y:ρ L=Vi t) (h1:ρ M=Vi u) (h2:ρ N=Vi v) (h3:ρ P=Vi x) (h4:ρ Q=Vi z) (h5:ρ R=Vi A) (h6:ρ S=Vi B) (h7:ρ U=Vi C) (h8:ρ W=Vi D) (h9:ρ X=Vi E) (F:ρ j=Vi a) (G:ρ k=Vi b) (H:ρ l=Vi c) (I:ρ m=Vi f) (J:ρ o=Vi h) (K:ρ p=Vi i) :
  (execOp ρ ⟨d,.buildSlice 22 16 #[(0,L),(1,M),(2,N),(3,P),(4,Q),(5,R),(6,S),(7,U),(8,W),(9,X),(10,j),(11,k),(12,l),(13,m),(14,o),(15,p)],ty,pos,af,a9⟩).run Try.prog w=.ok (.value (.slice (some ⟨w.heap.size,0,none⟩) 16 16)) (w.alloc (.cells #[Vi t,Vi u,Vi v,Vi x,Vi z,Vi A,Vi B,Vi C,Vi D,Vi E,Vi a,Vi b,Vi c,Vi f,Vi h,Vi i] 3)):=by
 have e:(Instr.buildSlice 22 16 #[(0,Vi t),(1,Vi u),(2,Vi v),(3,Vi x),(4,Vi z),(5,Vi A),(6,Vi B),(7,Vi C),(8,Vi D),(9,Vi E),(10,Vi a),(11,Vi b),(12,Vi c),(13,Vi f),(14,Vi h),(15,Vi i)]).run Try.prog w=.ok (.slice (some ⟨w.heap.size,0,none⟩) 16 16) (w.alloc (.cells #[Vi t,Vi u,Vi v,Vi x,Vi z,Vi A,Vi B,Vi C,Vi D,Vi E,Vi a,Vi b,Vi c,Vi f,Vi h,Vi i] 3)):=by kernel_rfl
 simp [execOp,Y,h1,h2,h3,h4,h5,h6,h7,h8,h9,F,G,H,I,J,K,e]
theorem DJ {ρ:Operand→Value} {w:World} {d:Option Nat} {ty:TypeId} {pos:String} {af:Array Edge} {W:Option (Nat × Bool)} {h:ByteArray} {i:ByteArray} {j:ByteArray} {k:ByteArray} {l:ByteArray} {m:ByteArray} {o:ByteArray} {p:ByteArray} {t:ByteArray} {u:ByteArray} {a:ByteArray} {b:ByteArray} {z:Operand} {A:Operand} {B:Operand} {C:Operand} {D:Operand} {E:Operand} {F:Operand} {G:Operand} {H:Operand} {I:Operand} {c:Operand} {f:Operand} (J:ρ z=Vt h) (K:ρ A=Vt i) (L:ρ B=Vt j) (M:ρ C=Vt k) (N:ρ D=Vt l) (P:ρ E=Vt m) (Q:ρ F=Vt o) (R:ρ G=Vt p) (S:ρ H=Vt t) (U:ρ I=Vt u) (v:ρ c=Vt a) (x:ρ f=Vt b) :
  (execOp ρ ⟨d,.buildSlice 70 12 #[(0,z),(1,A),(2,B),(3,C),(4,D),(5,E),(6,F),(7,G),(8,H),(9,I),(10,c),(11,f)],ty,pos,af,W⟩).run Try.prog w=.ok (.value (.slice (some ⟨w.heap.size,0,none⟩) 12 12)) (w.alloc (.cells #[Vt h,Vt i,Vt j,Vt k,Vt l,Vt m,Vt o,Vt p,Vt t,Vt u,Vt a,Vt b] 9)):=by
 have e:(Instr.buildSlice 70 12 #[(0,Vt h),(1,Vt i),(2,Vt j),(3,Vt k),(4,Vt l),(5,Vt m),(6,Vt o),(7,Vt p),(8,Vt t),(9,Vt u),(10,Vt a),(11,Vt b)]).run Try.prog w=.ok (.slice (some ⟨w.heap.size,0,none⟩) 12 12) (w.alloc (.cells #[Vt h,Vt i,Vt j,Vt k,Vt l,Vt m,Vt o,Vt p,Vt t,Vt u,Vt a,Vt b] 9)):=by kernel_rfl
 simp [execOp,J,K,L,M,N,P,Q,R,S,U,v,x,e]
theorem Qu {ρ:Operand→Value} {w:World} {d:Option Nat} {ty:TypeId} {pos:String} {af:Array Edge} {m:Option (Nat × Bool)} {a:ByteArray} {b:ByteArray} {c:ByteArray} {f:Operand} {h:Operand} {i:Operand} (j:ρ f=Vt a) (k:ρ h=Vt b) (l:ρ i=Vt c) :
  (execOp ρ ⟨d,.buildSlice 70 3 #[(0,f),(1,h),(2,i)],ty,pos,af,m⟩).run Try.prog w=.ok (.value (.slice (some ⟨w.heap.size,0,none⟩) 3 3)) (w.alloc (.cells #[Vt a,Vt b,Vt c] 9)):=by
 have e:(Instr.buildSlice 70 3 #[(0,Vt a),(1,Vt b),(2,Vt c)]).run Try.prog w=.ok (.slice (some ⟨w.heap.size,0,none⟩) 3 3) (w.alloc (.cells #[Vt a,Vt b,Vt c] 9)):=by kernel_rfl
 simp [execOp,j,k,l,e]
theorem MF {ρ:Operand→Value} {w:World} {d:Option Nat} {ty:TypeId} {pos:String} {af:Array Edge} {aq:Option (Nat × Bool)} {F:Int} {G:Int} {H:Int} {I:Int} {J:Int} {K:Int} {L:Int} {M:Int} {N:Int} {P:Int} {a:Int} {b:Int} {c:Int} {f:Int} {h:Int} {i:Int} {j:Int} {k:Int} {l:Int} {m:Int} {o:Int} {o0:Operand} {o1:Operand} {o2:Operand} {o3:Operand} {o4:Operand} {o5:Operand} {o6:Operand} {o7:Operand} {o8:Operand} {o9:Operand} {p:Operand} {t:Operand} {u:Operand} {v:Operand} {x:Operand} {z:Operand} {A:Operand} {B:Operand} {C:Operand} {D:Operand} {E:Operand} (h0:ρ o0=.int .u8 F) (h1:ρ o1=.int .u8 G) (h2:ρ o2=.int .u8 H) (h3:ρ o3=.int .u8 I) (h4:ρ o4=.int .u8 J) (h5:ρ o5=.int .u8 K) (h6:ρ o6=.int .u8 L) (h7:ρ o7=.int .u8 M) (h8:ρ o8=.int .u8 N) (h9:ρ o9=.int .u8 P) (Q:ρ p=.int .u8 a) (R:ρ t=.int .u8 b) (S:ρ u=.int .u8 c) (U:ρ v=.int .u8 f) (W:ρ x=.int .u8 h) (X:ρ z=.int .u8 i) (Y:ρ A=.int .u8 j) (a0:ρ B=.int .u8 k) (a1:ρ C=.int .u8 l) (a2:ρ D=.int .u8 m) (a3:ρ E=.int .u8 o) :
  (execOp ρ ⟨d,.buildSlice 187 21 #[(0,o0),(1,o1),(2,o2),(3,o3),(4,o4),(5,o5),(6,o6),(7,o7),(8,o8),(9,o9),(10,p),(11,t),(12,u),(13,v),(14,x),(15,z),(16,A),(17,B),(18,C),(19,D),(20,E)],ty,pos,af,aq⟩).run Try.prog w=.ok (.value (.slice (some ⟨w.heap.size,0,none⟩) 21 21)) (w.alloc (.cells #[.int .u8 F,.int .u8 G,.int .u8 H,.int .u8 I,.int .u8 J,.int .u8 K,.int .u8 L,.int .u8 M,.int .u8 N,.int .u8 P,.int .u8 a,.int .u8 b,.int .u8 c,.int .u8 f,.int .u8 h,.int .u8 i,.int .u8 j,.int .u8 k,.int .u8 l,.int .u8 m,.int .u8 o] 5)):=by
 have e:(Instr.buildSlice 187 21 #[(0,.int .u8 F),(1,.int .u8 G),(2,.int .u8 H),(3,.int .u8 I),(4,.int .u8 J),(5,.int .u8 K),(6,.int .u8 L),(7,.int .u8 M),(8,.int .u8 N),(9,.int .u8 P),(10,.int .u8 a),(11,.int .u8 b),(12,.int .u8 c),(13,.int .u8 f),(14,.int .u8 h),(15,.int .u8 i),(16,.int .u8 j),(17,.int .u8 k),(18,.int .u8 l),(19,.int .u8 m),(20,.int .u8 o)]).run Try.prog w=.ok (.slice (some ⟨w.heap.size,0,none⟩) 21 21) (w.alloc (.cells #[.int .u8 F,.int .u8 G,.int .u8 H,.int .u8 I,.int .u8 J,.int .u8 K,.int .u8 L,.int .u8 M,.int .u8 N,.int .u8 P,.int .u8 a,.int .u8 b,.int .u8 c,.int .u8 f,.int .u8 h,.int .u8 i,.int .u8 j,.int .u8 k,.int .u8 l,.int .u8 m,.int .u8 o] 5)):=by kernel_rfl
 simp [execOp,h0,h1,h2,h3,h4,h5,h6,h7,h8,h9,Q,R,S,U,W,X,Y,a0,a1,a2,a3,e]
theorem DU {ρ:Operand→Value} {w:World} {d:Option Nat} {ty:TypeId} {pos:String} {af:Array Edge} {j:Option (Nat × Bool)} {a:Int} {b:ByteArray} {c:Operand} {f:Operand} (h:ρ c=Vi a) (i:ρ f=Vt b):Yl Try.prog ρ (.build 138 #[(0,c),(3,f)]) d ty pos af j w (.agg #[Vi a,Vi 0,Vi 0,Vt b,Vt be,sn]):=by
 have e:(Instr.build 138 #[(0,Vi a),(3,Vt b)]).run Try.prog w=.ok (.agg #[Vi a,Vi 0,Vi 0,Vt b,Vt be,sn]) w:=by kernel_rfl
 simp [Yl,execOp,h,i,e]
theorem HZ {ρ:Operand→Value} {w:World} {d:Option Nat} {ty:TypeId} {pos:String} {af:Array Edge} {j:Option (Nat × Bool)} {a:Int} {b:Int} {c:Operand} {f:Operand} (h:ρ c=Vi a) (i:ρ f=Vi b):Yl Try.prog ρ (.build 138 #[(0,c),(1,f)]) d ty pos af j w (.agg #[Vi a,Vi b,Vi 0,Vt be,Vt be,sn]):=by
 have e:(Instr.build 138 #[(0,Vi a),(1,Vi b)]).run Try.prog w=.ok (.agg #[Vi a,Vi b,Vi 0,Vt be,Vt be,sn]) w:=by kernel_rfl
 simp [Yl,execOp,h,i,e]
theorem Ah {ρ:Operand→Value} {w:World} {d:Option Nat} {ty:TypeId} {pos:String} {af:Array Edge} {f:Option (Nat × Bool)} {a:Int} {b:Operand} (c:ρ b=Vi a) :
  (execOp ρ ⟨d,.buildSlice 22 1 #[(0,b)],ty,pos,af,f⟩).run Try.prog w=.ok (.value (.slice (some ⟨w.heap.size,0,none⟩) 1 1)) (w.alloc (.cells #[Vi a] 3)):=by
 have e:(Instr.buildSlice 22 1 #[(0,Vi a)]).run Try.prog w=.ok (.slice (some ⟨w.heap.size,0,none⟩) 1 1) (w.alloc (.cells #[Vi a] 3)):=by kernel_rfl
 simp [execOp,c,e]
theorem Jm {ρ:Operand→Value} {w:World} {d:Option Nat} {ty:TypeId} {pos:String} {af:Array Edge} {a:Option (Nat × Bool)}:Yl Try.prog ρ (.build 143 #[]) d ty pos af a w (.agg #[Vi 0,Vi 0,Vt be,Vi 0]):=by
 have e:(Instr.build 143 #[]).run Try.prog w=.ok (.agg #[Vi 0,Vi 0,Vt be,Vi 0]) w:=by kernel_rfl
 simp [Yl,execOp,e]
theorem Bz {ρ:Operand→Value} {w:World} {d:Option Nat} {ty:TypeId} {pos:String} {af:Array Edge} {m:Option (Nat × Bool)} {a:Int} {b:Int} {c:ByteArray} {f:Operand} {h:Operand} {i:Operand} (j:ρ f=Vi a) (k:ρ h=Vi b) (l:ρ i=Vt c):Yl Try.prog ρ (.build 143 #[(0,f),(1,h),(2,i)]) d ty pos af m w (.agg #[Vi a,Vi b,Vt c,Vi 0]):=by
 have e:(Instr.build 143 #[(0,Vi a),(1,Vi b),(2,Vt c)]).run Try.prog w=.ok (.agg #[Vi a,Vi b,Vt c,Vi 0]) w:=by kernel_rfl
 simp [Yl,execOp,j,k,l,e]
theorem Kz {ρ:Operand→Value} {w:World} {d:Option Nat} {ty:TypeId} {pos:String} {af:Array Edge} {m:Option (Nat × Bool)} {a:Int} {b:Int} {c:Int} {f:Operand} {h:Operand} {i:Operand} (j:ρ f=Vi a) (k:ρ h=Vi b) (l:ρ i=Vi c):Yl Try.prog ρ (.build 143 #[(0,f),(1,h),(3,i)]) d ty pos af m w (.agg #[Vi a,Vi b,Vt be,Vi c]):=by
 have e:(Instr.build 143 #[(0,Vi a),(1,Vi b),(3,Vi c)]).run Try.prog w=.ok (.agg #[Vi a,Vi b,Vt be,Vi c]) w:=by kernel_rfl
 simp [Yl,execOp,j,k,l,e]
theorem Kh {ρ:Operand→Value} {w:World} {d:Option Nat} {ty:TypeId} {pos:String} {af:Array Edge} {c:Option (Nat × Bool)} {x00_:Int} {x01_:Int} {x02_:ByteArray} {x03_:Int} {a:Operand} (b:ρ a=.agg #[Vi x00_,Vi x01_,Vt x02_,Vi x03_]) :
  (execOp ρ ⟨d,.buildSlice 97 1 #[(0,a)],ty,pos,af,c⟩).run Try.prog w=.ok (.value (.slice (some ⟨w.heap.size,0,none⟩) 1 1)) (w.alloc (.cells #[Vi x00_,Vi x01_,Vt x02_,Vi x03_] 143)):=by
 have e:(Instr.buildSlice 97 1 #[(0,.agg #[Vi x00_,Vi x01_,Vt x02_,Vi x03_])]).run Try.prog w=.ok (.slice (some ⟨w.heap.size,0,none⟩) 1 1) (w.alloc (.cells #[Vi x00_,Vi x01_,Vt x02_,Vi x03_] 143)):=by kernel_rfl
 simp [execOp,b,e]
theorem Ob {ρ:Operand→Value} {w:World} {d:Option Nat} {ty:TypeId} {pos:String} {af:Array Edge} {j:Option (Nat × Bool)} {a:Int} {b:Int} {c:Operand} {f:Operand} (h:ρ c=Vi a) (i:ρ f=Vi b):Yl Try.prog ρ (.build 143 #[(0,c),(1,f)]) d ty pos af j w (.agg #[Vi a,Vi b,Vt be,Vi 0]):=by
 have e:(Instr.build 143 #[(0,Vi a),(1,Vi b)]).run Try.prog w=.ok (.agg #[Vi a,Vi b,Vt be,Vi 0]) w:=by kernel_rfl
 simp [Yl,execOp,h,i,e]
theorem OB {ρ:Operand→Value} {w:World} {d:Option Nat} {ty:TypeId} {pos:String} {af:Array Edge} {f:Option (Nat × Bool)} {a:Int} {b:Operand} (c:ρ b=.int .u8 a) :
  (execOp ρ ⟨d,.buildSlice 187 1 #[(0,b)],ty,pos,af,f⟩).run Try.prog w=.ok (.value (.slice (some ⟨w.heap.size,0,none⟩) 1 1)) (w.alloc (.cells #[.int .u8 a] 5)):=by
 have e:(Instr.buildSlice 187 1 #[(0,.int .u8 a)]).run Try.prog w=.ok (.slice (some ⟨w.heap.size,0,none⟩) 1 1) (w.alloc (.cells #[.int .u8 a] 5)):=by kernel_rfl
 simp [execOp,c,e]
theorem zK {ρ:Operand→Value} {w:World} {d:Option Nat} {ty:TypeId} {pos:String} {af:Array Edge} {f:Option (Nat × Bool)} {a:ByteArray} {b:Operand} (c:ρ b=Vt a) :
  (execOp ρ ⟨d,.buildSlice 70 1 #[(0,b)],ty,pos,af,f⟩).run Try.prog w=.ok (.value (.slice (some ⟨w.heap.size,0,none⟩) 1 1)) (w.alloc (.cells #[Vt a] 9)):=by
 have e:(Instr.buildSlice 70 1 #[(0,Vt a)]).run Try.prog w=.ok (.slice (some ⟨w.heap.size,0,none⟩) 1 1) (w.alloc (.cells #[Vt a] 9)):=by kernel_rfl
 simp [execOp,c,e]
theorem OC {ρ:Operand→Value} {w:World} {d:Option Nat} {ty:TypeId} {pos:String} {af:Array Edge} {W:Option (Nat × Bool)} {h:Int} {i:Int} {j:Int} {k:Int} {l:Int} {m:Int} {o:Int} {p:Int} {t:Int} {u:Int} {a:Int} {b:Int} {z:Operand} {A:Operand} {B:Operand} {C:Operand} {D:Operand} {E:Operand} {F:Operand} {G:Operand} {H:Operand} {I:Operand} {c:Operand} {f:Operand} (J:ρ z=Vi h) (K:ρ A=Vi i) (L:ρ B=Vi j) (M:ρ C=Vi k) (N:ρ D=Vi l) (P:ρ E=Vi m) (Q:ρ F=Vi o) (R:ρ G=Vi p) (S:ρ H=Vi t) (U:ρ I=Vi u) (v:ρ c=Vi a) (x:ρ f=Vi b) :
  (execOp ρ ⟨d,.buildSlice 22 12 #[(0,z),(1,A),(2,B),(3,C),(4,D),(5,E),(6,F),(7,G),(8,H),(9,I),(10,c),(11,f)],ty,pos,af,W⟩).run Try.prog w=.ok (.value (.slice (some ⟨w.heap.size,0,none⟩) 12 12)) (w.alloc (.cells #[Vi h,Vi i,Vi j,Vi k,Vi l,Vi m,Vi o,Vi p,Vi t,Vi u,Vi a,Vi b] 3)):=by
 have e:(Instr.buildSlice 22 12 #[(0,Vi h),(1,Vi i),(2,Vi j),(3,Vi k),(4,Vi l),(5,Vi m),(6,Vi o),(7,Vi p),(8,Vi t),(9,Vi u),(10,Vi a),(11,Vi b)]).run Try.prog w=.ok (.slice (some ⟨w.heap.size,0,none⟩) 12 12) (w.alloc (.cells #[Vi h,Vi i,Vi j,Vi k,Vi l,Vi m,Vi o,Vi p,Vi t,Vi u,Vi a,Vi b] 3)):=by kernel_rfl
 simp [execOp,J,K,L,M,N,P,Q,R,S,U,v,x,e]
theorem Qv {ρ:Operand→Value} {w:World} {d:Option Nat} {ty:TypeId} {pos:String} {af:Array Edge} {E:Option (Nat × Bool)} {a:ByteArray} {b:ByteArray} {c:ByteArray} {f:ByteArray} {h:ByteArray} {i:ByteArray} {j:ByteArray} {k:Operand} {l:Operand} {m:Operand} {o:Operand} {p:Operand} {t:Operand} {u:Operand} (v:ρ k=Vt a) (x:ρ l=Vt b) (z:ρ m=Vt c) (A:ρ o=Vt f) (B:ρ p=Vt h) (C:ρ t=Vt i) (D:ρ u=Vt j) :
  (execOp ρ ⟨d,.buildSlice 70 7 #[(0,k),(1,l),(2,m),(3,o),(4,p),(5,t),(6,u)],ty,pos,af,E⟩).run Try.prog w=.ok (.value (.slice (some ⟨w.heap.size,0,none⟩) 7 7)) (w.alloc (.cells #[Vt a,Vt b,Vt c,Vt f,Vt h,Vt i,Vt j] 9)):=by
 have e:(Instr.buildSlice 70 7 #[(0,Vt a),(1,Vt b),(2,Vt c),(3,Vt f),(4,Vt h),(5,Vt i),(6,Vt j)]).run Try.prog w=.ok (.slice (some ⟨w.heap.size,0,none⟩) 7 7) (w.alloc (.cells #[Vt a,Vt b,Vt c,Vt f,Vt h,Vt i,Vt j] 9)):=by kernel_rfl
 simp [execOp,v,x,z,A,B,C,D,e]
theorem vS {ρ:Operand→Value} {w:World} {d:Option Nat} {ty:TypeId} {pos:String} {af:Array Edge} {o:Option (Nat × Bool)} {x00_:Int} {x01_:Int} {x02_:Int} {x03_:ByteArray} {x04_:ByteArray} {a:Option Addr} {b c:Nat} {x10_:Int} {x11_:Int} {x12_:Int} {x13_:ByteArray} {x14_:ByteArray} {f:Option Addr} {h i:Nat} {j:Operand} {k:Operand} (l:ρ j=.agg #[Vi x00_,Vi x01_,Vi x02_,Vt x03_,Vt x04_,.slice a b c]) (m:ρ k=.agg #[Vi x10_,Vi x11_,Vi x12_,Vt x13_,Vt x14_,.slice f h i]) :
  (execOp ρ ⟨d,.buildSlice 109 2 #[(0,j),(1,k)],ty,pos,af,o⟩).run Try.prog w=.ok (.value (.slice (some ⟨w.heap.size,0,none⟩) 2 2)) (w.alloc (.cells #[Vi x00_,Vi x01_,Vi x02_,Vt x03_,Vt x04_,.slice a b c,Vi x10_,Vi x11_,Vi x12_,Vt x13_,Vt x14_,.slice f h i] 138)):=by
 have e:(Instr.buildSlice 109 2 #[(0,.agg #[Vi x00_,Vi x01_,Vi x02_,Vt x03_,Vt x04_,.slice a b c]),(1,.agg #[Vi x10_,Vi x11_,Vi x12_,Vt x13_,Vt x14_,.slice f h i])]).run Try.prog w=.ok (.slice (some ⟨w.heap.size,0,none⟩) 2 2) (w.alloc (.cells #[Vi x00_,Vi x01_,Vi x02_,Vt x03_,Vt x04_,.slice a b c,Vi x10_,Vi x11_,Vi x12_,Vt x13_,Vt x14_,.slice f h i] 138)):=by kernel_rfl
 simp [execOp,l,m,e]
theorem tC {ρ:Operand→Value} {w:World} {d:Option Nat} {ty:TypeId} {pos:String} {af:Array Edge} {i:Option (Nat × Bool)} {a:Int} {x5A:Option Addr} {x5n x5c:Nat} {b:Operand} {c:Operand} (f:ρ b=Vi a) (h:ρ c=.slice x5A x5n x5c):Yl Try.prog ρ (.build 138 #[(0,b),(5,c)]) d ty pos af i w (.agg #[Vi a,Vi 0,Vi 0,Vt be,Vt be,.slice x5A x5n x5c]):=by
 have e:(Instr.build 138 #[(0,Vi a),(5,.slice x5A x5n x5c)]).run Try.prog w=.ok (.agg #[Vi a,Vi 0,Vi 0,Vt be,Vt be,.slice x5A x5n x5c]) w:=by kernel_rfl
 simp [Yl,execOp,f,h,e]
theorem MI {ρ:Operand→Value} {w:World} {d:Option Nat} {ty:TypeId} {pos:String} {af:Array Edge} {a:Option (Nat × Bool)}:Yl Try.prog ρ (.build 138 #[]) d ty pos af a w (.agg #[Vi 0,Vi 0,Vi 0,Vt be,Vt be,sn]):=by
 have e:(Instr.build 138 #[]).run Try.prog w=.ok (.agg #[Vi 0,Vi 0,Vi 0,Vt be,Vt be,sn]) w:=by kernel_rfl
 simp [Yl,execOp,e]
theorem vC {ρ:Operand→Value} {w:World} {d:Option Nat} {ty:TypeId} {pos:String} {af:Array Edge} {j:Option (Nat × Bool)} {a:ByteArray} {b:ByteArray} {c:Operand} {f:Operand} (h:ρ c=Vt a) (i:ρ f=Vt b) :
  (execOp ρ ⟨d,.buildSlice 70 2 #[(0,c),(1,f)],ty,pos,af,j⟩).run Try.prog w=.ok (.value (.slice (some ⟨w.heap.size,0,none⟩) 2 2)) (w.alloc (.cells #[Vt a,Vt b] 9)):=by
 have e:(Instr.buildSlice 70 2 #[(0,Vt a),(1,Vt b)]).run Try.prog w=.ok (.slice (some ⟨w.heap.size,0,none⟩) 2 2) (w.alloc (.cells #[Vt a,Vt b] 9)):=by kernel_rfl
 simp [execOp,h,i,e]
theorem kS {ρ:Operand→Value} {w:World} {d:Option Nat} {ty:TypeId} {pos:String} {af:Array Edge} {i:Option (Nat × Bool)} {x00_:Int} {x01_:Int} {x02_:Int} {x03_:ByteArray} {x04_:ByteArray} {a:Option Addr} {b c:Nat} {f:Operand} (h:ρ f=.agg #[Vi x00_,Vi x01_,Vi x02_,Vt x03_,Vt x04_,.slice a b c]) :
  (execOp ρ ⟨d,.buildSlice 109 1 #[(0,f)],ty,pos,af,i⟩).run Try.prog w=.ok (.value (.slice (some ⟨w.heap.size,0,none⟩) 1 1)) (w.alloc (.cells #[Vi x00_,Vi x01_,Vi x02_,Vt x03_,Vt x04_,.slice a b c] 138)):=by
 have e:(Instr.buildSlice 109 1 #[(0,.agg #[Vi x00_,Vi x01_,Vi x02_,Vt x03_,Vt x04_,.slice a b c])]).run Try.prog w=.ok (.slice (some ⟨w.heap.size,0,none⟩) 1 1) (w.alloc (.cells #[Vi x00_,Vi x01_,Vi x02_,Vt x03_,Vt x04_,.slice a b c] 138)):=by kernel_rfl
 simp [execOp,h,e]
theorem uG {ρ:Operand→Value} {w:World} {d:Option Nat} {ty:TypeId} {pos:String} {af:Array Edge} {m:Option (Nat × Bool)} {a:Int} {b:ByteArray} {c:ByteArray} {f:Operand} {h:Operand} {i:Operand} (j:ρ f=Vi a) (k:ρ h=Vt b) (l:ρ i=Vt c):Yl Try.prog ρ (.build 138 #[(0,f),(3,h),(4,i)]) d ty pos af m w (.agg #[Vi a,Vi 0,Vi 0,Vt b,Vt c,sn]):=by
 have e:(Instr.build 138 #[(0,Vi a),(3,Vt b),(4,Vt c)]).run Try.prog w=.ok (.agg #[Vi a,Vi 0,Vi 0,Vt b,Vt c,sn]) w:=by kernel_rfl
 simp [Yl,execOp,j,k,l,e]
theorem Bu {ρ:Operand→Value} {w:World} {d:Option Nat} {ty:TypeId} {pos:String} {af:Array Edge} {l:Option (Nat × Bool)} {a:Int} {b:ByteArray} {x5A:Option Addr} {x5n x5c:Nat} {c:Operand} {f:Operand} {h:Operand} (i:ρ c=Vi a) (j:ρ f=Vt b) (k:ρ h=.slice x5A x5n x5c):Yl Try.prog ρ (.build 138 #[(0,c),(3,f),(5,h)]) d ty pos af l w (.agg #[Vi a,Vi 0,Vi 0,Vt b,Vt be,.slice x5A x5n x5c]):=by
 have e:(Instr.build 138 #[(0,Vi a),(3,Vt b),(5,.slice x5A x5n x5c)]).run Try.prog w=.ok (.agg #[Vi a,Vi 0,Vi 0,Vt b,Vt be,.slice x5A x5n x5c]) w:=by kernel_rfl
 simp [Yl,execOp,i,j,k,e]
theorem rF {ρ:Operand→Value} {w:World} {d:Option Nat} {ty:TypeId} {pos:String} {af:Array Edge} {v:Option (Nat × Bool)} {x00_:Int} {x01_:Int} {x02_:Int} {x03_:ByteArray} {x04_:ByteArray} {x05_:Int} {x06_:Int} {m:Option Addr} {o p:Nat} {x08_:ByteArray} {x09_:Int} {a:Option Addr} {b c:Nat} {f:Option Addr} {h i:Nat} {j:Option Addr} {k l:Nat} {t:Operand} (u:ρ t=.agg #[Vi x00_,Vi x01_,Vi x02_,Vt x03_,Vt x04_,Vi x05_,Vi x06_,.slice m o p,Vt x08_,Vi x09_,.slice a b c,.slice f h i,.slice j k l]) :
  (execOp ρ ⟨d,.buildSlice 80 1 #[(0,t)],ty,pos,af,v⟩).run Try.prog w=.ok (.value (.slice (some ⟨w.heap.size,0,none⟩) 1 1)) (w.alloc (.cells #[Vi x00_,Vi x01_,Vi x02_,Vt x03_,Vt x04_,Vi x05_,Vi x06_,.slice m o p,Vt x08_,Vi x09_,.slice a b c,.slice f h i,.slice j k l] 111)):=by
 have e:(Instr.buildSlice 80 1 #[(0,.agg #[Vi x00_,Vi x01_,Vi x02_,Vt x03_,Vt x04_,Vi x05_,Vi x06_,.slice m o p,Vt x08_,Vi x09_,.slice a b c,.slice f h i,.slice j k l])]).run Try.prog w=.ok (.slice (some ⟨w.heap.size,0,none⟩) 1 1) (w.alloc (.cells #[Vi x00_,Vi x01_,Vi x02_,Vt x03_,Vt x04_,Vi x05_,Vi x06_,.slice m o p,Vt x08_,Vi x09_,.slice a b c,.slice f h i,.slice j k l] 111)):=by kernel_rfl
 simp [execOp,u,e]
theorem Ro {ρ:Operand→Value} {w:World} {d:Option Nat} {ty:TypeId} {pos:String} {af:Array Edge} {f:Option (Nat × Bool)} {a:Int} {b:Operand} (c:ρ b=Vi a):Yl Try.prog ρ (.build 111 #[(1,b)]) d ty pos af f w (.agg #[Vi 0,Vi a,Vi 0,Vt be,Vt be,Vi 0,Vi 0,sn,Vt be,Vi 0,sn,sn,sn]):=by
 have e:(Instr.build 111 #[(1,Vi a)]).run Try.prog w=.ok (.agg #[Vi 0,Vi a,Vi 0,Vt be,Vt be,Vi 0,Vi 0,sn,Vt be,Vi 0,sn,sn,sn]) w:=by kernel_rfl
 simp [Yl,execOp,c,e]
theorem Rf {ρ:Operand→Value} {w:World} {d:Option Nat} {ty:TypeId} {pos:String} {af:Array Edge} {f:Option (Nat × Bool)} {a:ByteArray} {b:Operand} (c:ρ b=Vt a):Yl Try.prog ρ (.build 127 #[(0,b)]) d ty pos af f w (.agg #[Vt a,sn]):=by
 have e:(Instr.build 127 #[(0,Vt a)]).run Try.prog w=.ok (.agg #[Vt a,sn]) w:=by kernel_rfl
 simp [Yl,execOp,c,e]
theorem KX {ρ:Operand→Value} {w:World} {d:Option Nat} {ty:TypeId} {pos:String} {af:Array Edge} {i:Option (Nat × Bool)} {x00_:ByteArray} {a:Option Addr} {b c:Nat} {f:Operand} (h:ρ f=.agg #[Vt x00_,.slice a b c]) :
  (execOp ρ ⟨d,.buildSlice 23 1 #[(0,f)],ty,pos,af,i⟩).run Try.prog w=.ok (.value (.slice (some ⟨w.heap.size,0,none⟩) 1 1)) (w.alloc (.cells #[Vt x00_,.slice a b c] 127)):=by
 have e:(Instr.buildSlice 23 1 #[(0,.agg #[Vt x00_,.slice a b c])]).run Try.prog w=.ok (.slice (some ⟨w.heap.size,0,none⟩) 1 1) (w.alloc (.cells #[Vt x00_,.slice a b c] 127)):=by kernel_rfl
 simp [execOp,h,e]
theorem VF {ρ:Operand→Value} {w:World} {d:Option Nat} {ty:TypeId} {pos:String} {af:Array Edge} {f:Option (Nat × Bool)} {a:Int} {b:Operand} (c:ρ b=Vi a):Yl Try.prog ρ (.build 82 #[(1,b)]) d ty pos af f w (.agg #[Vt be,Vi a,sn,sn]):=by
 have e:(Instr.build 82 #[(1,Vi a)]).run Try.prog w=.ok (.agg #[Vt be,Vi a,sn,sn]) w:=by kernel_rfl
 simp [Yl,execOp,c,e]
theorem OG {ρ:Operand→Value} {w:World} {d:Option Nat} {ty:TypeId} {pos:String} {af:Array Edge} {j:Option (Nat × Bool)} {a:Int} {b:Int} {c:Operand} {f:Operand} (h:ρ c=Vi a) (i:ρ f=Vi b):Yl Try.prog ρ (.build 111 #[(0,c),(1,f)]) d ty pos af j w (.agg #[Vi a,Vi b,Vi 0,Vt be,Vt be,Vi 0,Vi 0,sn,Vt be,Vi 0,sn,sn,sn]):=by
 have e:(Instr.build 111 #[(0,Vi a),(1,Vi b)]).run Try.prog w=.ok (.agg #[Vi a,Vi b,Vi 0,Vt be,Vt be,Vi 0,Vi 0,sn,Vt be,Vi 0,sn,sn,sn]) w:=by kernel_rfl
 simp [Yl,execOp,h,i,e]
theorem Ki {ρ:Operand→Value} {w:World} {d:Option Nat} {ty:TypeId} {pos:String} {af:Array Edge} {l:Option (Nat × Bool)} {x00_:ByteArray} {x01_:Int} {a:Option Addr} {b c:Nat} {f:Option Addr} {h i:Nat} {j:Operand} (k:ρ j=.agg #[Vt x00_,Vi x01_,.slice a b c,.slice f h i]) :
  (execOp ρ ⟨d,.buildSlice 24 1 #[(0,j)],ty,pos,af,l⟩).run Try.prog w=.ok (.value (.slice (some ⟨w.heap.size,0,none⟩) 1 1)) (w.alloc (.cells #[Vt x00_,Vi x01_,.slice a b c,.slice f h i] 82)):=by
 have e:(Instr.buildSlice 24 1 #[(0,.agg #[Vt x00_,Vi x01_,.slice a b c,.slice f h i])]).run Try.prog w=.ok (.slice (some ⟨w.heap.size,0,none⟩) 1 1) (w.alloc (.cells #[Vt x00_,Vi x01_,.slice a b c,.slice f h i] 82)):=by kernel_rfl
 simp [execOp,k,e]
theorem TG {ρ:Operand→Value} {w:World} {d:Option Nat} {ty:TypeId} {pos:String} {af:Array Edge} {a:Option (Nat × Bool)}:Yl Try.prog ρ (.build 26 #[]) d ty pos af a w (.agg #[sn,sn]):=by
 have e:(Instr.build 26 #[]).run Try.prog w=.ok (.agg #[sn,sn]) w:=by kernel_rfl
 simp [Yl,execOp,e]
theorem Sn {ρ:Operand→Value} {w:World} {d:Option Nat} {ty:TypeId} {pos:String} {af:Array Edge} {c:Option (Nat × Bool)} {x0A:Option Addr} {x0n x0c:Nat} {a:Operand} (b:ρ a=.slice x0A x0n x0c):Yl Try.prog ρ (.build 102 #[(0,a)]) d ty pos af c w (.agg #[.slice x0A x0n x0c,Vi 0,Vi 0,Vi 0]):=by
 have e:(Instr.build 102 #[(0,.slice x0A x0n x0c)]).run Try.prog w=.ok (.agg #[.slice x0A x0n x0c,Vi 0,Vi 0,Vi 0]) w:=by kernel_rfl
 simp [Yl,execOp,b,e]
theorem qH {ρ:Operand→Value} {w:World} {d:Option Nat} {ty:TypeId} {pos:String} {af:Array Edge} {t:Option (Nat × Bool)} {a:ByteArray} {b:ByteArray} {c:ByteArray} {f:ByteArray} {h:Operand} {i:Operand} {j:Operand} {k:Operand} (l:ρ h=Vt a) (m:ρ i=Vt b) (o:ρ j=Vt c) (p:ρ k=Vt f) :
  (execOp ρ ⟨d,.buildSlice 70 4 #[(0,h),(1,i),(2,j),(3,k)],ty,pos,af,t⟩).run Try.prog w=.ok (.value (.slice (some ⟨w.heap.size,0,none⟩) 4 4)) (w.alloc (.cells #[Vt a,Vt b,Vt c,Vt f] 9)):=by
 have e:(Instr.buildSlice 70 4 #[(0,Vt a),(1,Vt b),(2,Vt c),(3,Vt f)]).run Try.prog w=.ok (.slice (some ⟨w.heap.size,0,none⟩) 4 4) (w.alloc (.cells #[Vt a,Vt b,Vt c,Vt f] 9)):=by kernel_rfl
 simp [execOp,l,m,o,p,e]
theorem H6 {ρ:Operand→Value} {w:World} {d:Option Nat} {ty:TypeId} {pos:String} {af:Array Edge} {j:Option (Nat × Bool)} {a:Int} {b:ByteArray} {c:Operand} {f:Operand} (h:ρ c=Vi a) (i:ρ f=Vt b):Yl Try.prog ρ (.build 111 #[(0,c),(3,f)]) d ty pos af j w (.agg #[Vi a,Vi 0,Vi 0,Vt b,Vt be,Vi 0,Vi 0,sn,Vt be,Vi 0,sn,sn,sn]):=by
 have e:(Instr.build 111 #[(0,Vi a),(3,Vt b)]).run Try.prog w=.ok (.agg #[Vi a,Vi 0,Vi 0,Vt b,Vt be,Vi 0,Vi 0,sn,Vt be,Vi 0,sn,sn,sn]) w:=by kernel_rfl
 simp [Yl,execOp,h,i,e]
theorem CU {ρ:Operand→Value} {w:World} {d:Option Nat} {ty:TypeId} {pos:String} {af:Array Edge} {f:Option (Nat × Bool)} {a:Int} {b:Operand} (c:ρ b=Vi a):Yl Try.prog ρ (.build 111 #[(0,b)]) d ty pos af f w (.agg #[Vi a,Vi 0,Vi 0,Vt be,Vt be,Vi 0,Vi 0,sn,Vt be,Vi 0,sn,sn,sn]):=by
 have e:(Instr.build 111 #[(0,Vi a)]).run Try.prog w=.ok (.agg #[Vi a,Vi 0,Vi 0,Vt be,Vt be,Vi 0,Vi 0,sn,Vt be,Vi 0,sn,sn,sn]) w:=by kernel_rfl
 simp [Yl,execOp,c,e]
theorem qb {ρ:Operand→Value} {w:World} {d:Option Nat} {ty:TypeId} {pos:String} {af:Array Edge} {i:Option (Nat × Bool)} {b:Int} {x10A:Option Addr} {x10n x10c:Nat} {f:Operand} {a:Operand} (h:ρ f=Vi b) (c:ρ a=.slice x10A x10n x10c):Yl Try.prog ρ (.build 111 #[(0,f),(10,a)]) d ty pos af i w (.agg #[Vi b,Vi 0,Vi 0,Vt be,Vt be,Vi 0,Vi 0,sn,Vt be,Vi 0,.slice x10A x10n x10c,sn,sn]):=by
 have e:(Instr.build 111 #[(0,Vi b),(10,.slice x10A x10n x10c)]).run Try.prog w=.ok (.agg #[Vi b,Vi 0,Vi 0,Vt be,Vt be,Vi 0,Vi 0,sn,Vt be,Vi 0,.slice x10A x10n x10c,sn,sn]) w:=by kernel_rfl
 simp [Yl,execOp,h,c,e]
theorem mq {ρ:Operand→Value} {w:World} {d:Option Nat} {ty:TypeId} {pos:String} {af:Array Edge} {a:Option (Nat × Bool)}    :
  (execOp ρ ⟨d,.buildSlice 70 0 #[],ty,pos,af,a⟩).run Try.prog w=.ok (.value (.slice (some ⟨w.heap.size,0,none⟩) 0 0)) (w.alloc (.cells #[] 9)):=by
 have e:(Instr.buildSlice 70 0 #[]).run Try.prog w=.ok (.slice (some ⟨w.heap.size,0,none⟩) 0 0) (w.alloc (.cells #[] 9)):=by kernel_rfl
 simp [execOp,e]
theorem JA {ρ:Operand→Value} {w:World} {d:Option Nat} {ty:TypeId} {pos:String} {af:Array Edge} {k:Option (Nat × Bool)} {b:Int} {x7A:Option Addr} {x7n x7c:Nat} {x10A:Option Addr} {x10n x10c:Nat} {f:Operand} {h:Operand} {a:Operand} (i:ρ f=Vi b) (j:ρ h=.slice x7A x7n x7c) (c:ρ a=.slice x10A x10n x10c):Yl Try.prog ρ (.build 111 #[(0,f),(7,h),(10,a)]) d ty pos af k w (.agg #[Vi b,Vi 0,Vi 0,Vt be,Vt be,Vi 0,Vi 0,.slice x7A x7n x7c,Vt be,Vi 0,.slice x10A x10n x10c,sn,sn]):=by
 have e:(Instr.build 111 #[(0,Vi b),(7,.slice x7A x7n x7c),(10,.slice x10A x10n x10c)]).run Try.prog w=.ok (.agg #[Vi b,Vi 0,Vi 0,Vt be,Vt be,Vi 0,Vi 0,.slice x7A x7n x7c,Vt be,Vi 0,.slice x10A x10n x10c,sn,sn]) w:=by kernel_rfl
 simp [Yl,execOp,i,j,c,e]
theorem PZ {ρ:Operand→Value} {w:World} {d:Option Nat} {ty:TypeId} {pos:String} {af:Array Edge} {L:Option (Nat × Bool)} {x00_:Int} {x01_:Int} {x02_:Int} {x03_:ByteArray} {x04_:ByteArray} {x05_:Int} {x06_:Int} {B:Option Addr} {C D:Nat} {x08_:ByteArray} {x09_:Int} {a:Option Addr} {b c:Nat} {f:Option Addr} {h i:Nat} {j:Option Addr} {k l:Nat} {x10_:Int} {x11_:Int} {x12_:Int} {x13_:ByteArray} {x14_:ByteArray} {x15_:Int} {x16_:Int} {E:Option Addr} {F G:Nat} {x18_:ByteArray} {x19_:Int} {m:Option Addr} {o p:Nat} {t:Option Addr} {u v:Nat} {x:Option Addr} {z A:Nat} {H:Operand} {I:Operand} (J:ρ H=.agg #[Vi x00_,Vi x01_,Vi x02_,Vt x03_,Vt x04_,Vi x05_,Vi x06_,.slice B C D,Vt x08_,Vi x09_,.slice a b c,.slice f h i,.slice j k l]) (K:ρ I=.agg #[Vi x10_,Vi x11_,Vi x12_,Vt x13_,Vt x14_,Vi x15_,Vi x16_,.slice E F G,Vt x18_,Vi x19_,.slice m o p,.slice t u v,.slice x z A]) :
  (execOp ρ ⟨d,.buildSlice 80 2 #[(0,H),(1,I)],ty,pos,af,L⟩).run Try.prog w=.ok (.value (.slice (some ⟨w.heap.size,0,none⟩) 2 2)) (w.alloc (.cells #[Vi x00_,Vi x01_,Vi x02_,Vt x03_,Vt x04_,Vi x05_,Vi x06_,.slice B C D,Vt x08_,Vi x09_,.slice a b c,.slice f h i,.slice j k l,Vi x10_,Vi x11_,Vi x12_,Vt x13_,Vt x14_,Vi x15_,Vi x16_,.slice E F G,Vt x18_,Vi x19_,.slice m o p,.slice t u v,.slice x z A] 111)):=by
 have e:(Instr.buildSlice 80 2 #[(0,.agg #[Vi x00_,Vi x01_,Vi x02_,Vt x03_,Vt x04_,Vi x05_,Vi x06_,.slice B C D,Vt x08_,Vi x09_,.slice a b c,.slice f h i,.slice j k l]),(1,.agg #[Vi x10_,Vi x11_,Vi x12_,Vt x13_,Vt x14_,Vi x15_,Vi x16_,.slice E F G,Vt x18_,Vi x19_,.slice m o p,.slice t u v,.slice x z A])]).run Try.prog w=.ok (.slice (some ⟨w.heap.size,0,none⟩) 2 2) (w.alloc (.cells #[Vi x00_,Vi x01_,Vi x02_,Vt x03_,Vt x04_,Vi x05_,Vi x06_,.slice B C D,Vt x08_,Vi x09_,.slice a b c,.slice f h i,.slice j k l,Vi x10_,Vi x11_,Vi x12_,Vt x13_,Vt x14_,Vi x15_,Vi x16_,.slice E F G,Vt x18_,Vi x19_,.slice m o p,.slice t u v,.slice x z A] 111)):=by kernel_rfl
 simp [execOp,J,K,e]
theorem GZ {ρ:Operand→Value} {w:World} {d:Option Nat} {ty:TypeId} {pos:String} {af:Array Edge} {k:Option (Nat × Bool)} {c:Int} {x10A:Option Addr} {x10n x10c:Nat} {x11A:Option Addr} {x11n x11c:Nat} {i:Operand} {a:Operand} {b:Operand} (j:ρ i=Vi c) (f:ρ a=.slice x10A x10n x10c) (h:ρ b=.slice x11A x11n x11c):Yl Try.prog ρ (.build 111 #[(0,i),(10,a),(11,b)]) d ty pos af k w (.agg #[Vi c,Vi 0,Vi 0,Vt be,Vt be,Vi 0,Vi 0,sn,Vt be,Vi 0,.slice x10A x10n x10c,.slice x11A x11n x11c,sn]):=by
 have e:(Instr.build 111 #[(0,Vi c),(10,.slice x10A x10n x10c),(11,.slice x11A x11n x11c)]).run Try.prog w=.ok (.agg #[Vi c,Vi 0,Vi 0,Vt be,Vt be,Vi 0,Vi 0,sn,Vt be,Vi 0,.slice x10A x10n x10c,.slice x11A x11n x11c,sn]) w:=by kernel_rfl
 simp [Yl,execOp,j,f,h,e]
theorem Si {ρ:Operand→Value} {w:World} {d:Option Nat} {ty:TypeId} {pos:String} {af:Array Edge} {c:Option (Nat × Bool)} {x0A:Option Addr} {x0n x0c:Nat} {a:Operand} (b:ρ a=.slice x0A x0n x0c):Yl Try.prog ρ (.build 132 #[(0,a)]) d ty pos af c w (.agg #[.slice x0A x0n x0c,Vi 0]):=by
 have e:(Instr.build 132 #[(0,.slice x0A x0n x0c)]).run Try.prog w=.ok (.agg #[.slice x0A x0n x0c,Vi 0]) w:=by kernel_rfl
 simp [Yl,execOp,b,e]
theorem Oy {ρ:Operand→Value} {w:World} {d:Option Nat} {ty:TypeId} {pos:String} {af:Array Edge} {i:Option (Nat × Bool)} {a:ByteArray} {x1A:Option Addr} {x1n x1c:Nat} {b:Operand} {c:Operand} (f:ρ b=Vt a) (h:ρ c=.slice x1A x1n x1c):Yl Try.prog ρ (.build 127 #[(0,b),(1,c)]) d ty pos af i w (.agg #[Vt a,.slice x1A x1n x1c]):=by
 have e:(Instr.build 127 #[(0,Vt a),(1,.slice x1A x1n x1c)]).run Try.prog w=.ok (.agg #[Vt a,.slice x1A x1n x1c]) w:=by kernel_rfl
 simp [Yl,execOp,f,h,e]
theorem Uu {ρ:Operand→Value} {w:World} {d:Option Nat} {ty:TypeId} {pos:String} {af:Array Edge} {c:Option (Nat × Bool)} {x0A:Option Addr} {x0n x0c:Nat} {a:Operand} (b:ρ a=.slice x0A x0n x0c):Yl Try.prog ρ (.build 26 #[(0,a)]) d ty pos af c w (.agg #[.slice x0A x0n x0c,sn]):=by
 have e:(Instr.build 26 #[(0,.slice x0A x0n x0c)]).run Try.prog w=.ok (.agg #[.slice x0A x0n x0c,sn]) w:=by kernel_rfl
 simp [Yl,execOp,b,e]
theorem PX {ρ:Operand→Value} {w:World} {d:Option Nat} {ty:TypeId} {pos:String} {af:Array Edge} {t:Option (Nat × Bool)} {a:Int} {b:Int} {c:Int} {f:Int} {h:Operand} {i:Operand} {j:Operand} {k:Operand} (l:ρ h=Vi a) (m:ρ i=Vi b) (o:ρ j=Vi c) (p:ρ k=Vi f) :
  (execOp ρ ⟨d,.buildSlice 22 4 #[(0,h),(1,i),(2,j),(3,k)],ty,pos,af,t⟩).run Try.prog w=.ok (.value (.slice (some ⟨w.heap.size,0,none⟩) 4 4)) (w.alloc (.cells #[Vi a,Vi b,Vi c,Vi f] 3)):=by
 have e:(Instr.buildSlice 22 4 #[(0,Vi a),(1,Vi b),(2,Vi c),(3,Vi f)]).run Try.prog w=.ok (.slice (some ⟨w.heap.size,0,none⟩) 4 4) (w.alloc (.cells #[Vi a,Vi b,Vi c,Vi f] 3)):=by kernel_rfl
 simp [execOp,l,m,o,p,e]
theorem Er {ρ:Operand→Value} {w:World} {d:Option Nat} {ty:TypeId} {pos:String} {af:Array Edge} {v:Option (Nat × Bool)} {a:Option Addr} {b:Int} {c:Int} {x3A:Option Addr} {x3n x3c:Nat} {f:Int} {h:Operand} {i:Operand} {j:Operand} {k:Operand} {l:Operand} (m:ρ h=.pointer a) (o:ρ i=Vi b) (p:ρ j=Vi c) (t:ρ k=.slice x3A x3n x3c) (u:ρ l=Vi f):Yl Try.prog ρ (.build 135 #[(0,h),(1,i),(2,j),(3,k),(8,l)]) d ty pos af v w (.agg #[.pointer a,Vi b,Vi c,.slice x3A x3n x3c,sn,sn,sn,Vi 0,Vi f]):=by
 have e:(Instr.build 135 #[(0,.pointer a),(1,Vi b),(2,Vi c),(3,.slice x3A x3n x3c),(8,Vi f)]).run Try.prog w=.ok (.agg #[.pointer a,Vi b,Vi c,.slice x3A x3n x3c,sn,sn,sn,Vi 0,Vi f]) w:=by kernel_rfl
 simp [Yl,execOp,m,o,p,t,u,e]
theorem sW {ρ:Operand→Value} {w:World} {d:Option Nat} {ty:TypeId} {pos:String} {af:Array Edge} {i:Option (Nat × Bool)} {a:ByteArray} {x2A:Option Addr} {x2n x2c:Nat} {b:Operand} {c:Operand} (f:ρ b=Vt a) (h:ρ c=.slice x2A x2n x2c):Yl Try.prog ρ (.build 82 #[(0,b),(2,c)]) d ty pos af i w (.agg #[Vt a,Vi 0,.slice x2A x2n x2c,sn]):=by
 have e:(Instr.build 82 #[(0,Vt a),(2,.slice x2A x2n x2c)]).run Try.prog w=.ok (.agg #[Vt a,Vi 0,.slice x2A x2n x2c,sn]) w:=by kernel_rfl
 simp [Yl,execOp,f,h,e]
theorem P7 {ρ:Operand→Value} {w:World} {d:Option Nat} {ty:TypeId} {pos:String} {af:Array Edge} {c:Option (Nat × Bool)} {x00_:ByteArray} {x01_:Int} {x02_:Int} {x03_:Int} {x04_:Bool} {x05_:Int} {x06_:Int} {a:Operand} (b:ρ a=.agg #[Vt x00_,Vi x01_,Vi x02_,Vi x03_,.bool x04_,Vi x05_,Vi x06_]) :
  (execOp ρ ⟨d,.buildSlice 60 1 #[(0,a)],ty,pos,af,c⟩).run Try.prog w=.ok (.value (.slice (some ⟨w.heap.size,0,none⟩) 1 1)) (w.alloc (.cells #[Vt x00_,Vi x01_,Vi x02_,Vi x03_,.bool x04_,Vi x05_,Vi x06_] 59)):=by
 have e:(Instr.buildSlice 60 1 #[(0,.agg #[Vt x00_,Vi x01_,Vi x02_,Vi x03_,.bool x04_,Vi x05_,Vi x06_])]).run Try.prog w=.ok (.slice (some ⟨w.heap.size,0,none⟩) 1 1) (w.alloc (.cells #[Vt x00_,Vi x01_,Vi x02_,Vi x03_,.bool x04_,Vi x05_,Vi x06_] 59)):=by kernel_rfl
 simp [execOp,b,e]
theorem FR {ρ:Operand→Value} {w:World} {d:Option Nat} {ty:TypeId} {pos:String} {af:Array Edge} {a:Option (Nat × Bool)}    :
  (execOp ρ ⟨d,.buildSlice 22 0 #[],ty,pos,af,a⟩).run Try.prog w=.ok (.value (.slice (some ⟨w.heap.size,0,none⟩) 0 0)) (w.alloc (.cells #[] 3)):=by
 have e:(Instr.buildSlice 22 0 #[]).run Try.prog w=.ok (.slice (some ⟨w.heap.size,0,none⟩) 0 0) (w.alloc (.cells #[] 3)):=by kernel_rfl
 simp [execOp,e]
theorem MJ {ρ:Operand→Value} {w:World} {d:Option Nat} {ty:TypeId} {pos:String} {af:Array Edge} {m:Option (Nat × Bool)} {a:Int} {b:Int} {c:Int} {f:Operand} {h:Operand} {i:Operand} (j:ρ f=Vi a) (k:ρ h=Vi b) (l:ρ i=Vi c):Yl Try.prog ρ (.build 65 #[(0,f),(1,h),(2,i)]) d ty pos af m w (.agg #[Vi a,Vi b,Vi c]):=by
 have e:(Instr.build 65 #[(0,Vi a),(1,Vi b),(2,Vi c)]).run Try.prog w=.ok (.agg #[Vi a,Vi b,Vi c]) w:=by kernel_rfl
 simp [Yl,execOp,j,k,l,e]
theorem QE {ρ:Operand→Value} {w:World} {d:Option Nat} {ty:TypeId} {pos:String} {af:Array Edge} {c:Option (Nat × Bool)} {x00_:Int} {x01_:Int} {x02_:Int} {a:Operand} (b:ρ a=.agg #[Vi x00_,Vi x01_,Vi x02_]) :
  (execOp ρ ⟨d,.buildSlice 28 1 #[(0,a)],ty,pos,af,c⟩).run Try.prog w=.ok (.value (.slice (some ⟨w.heap.size,0,none⟩) 1 1)) (w.alloc (.cells #[Vi x00_,Vi x01_,Vi x02_] 65)):=by
 have e:(Instr.buildSlice 28 1 #[(0,.agg #[Vi x00_,Vi x01_,Vi x02_])]).run Try.prog w=.ok (.slice (some ⟨w.heap.size,0,none⟩) 1 1) (w.alloc (.cells #[Vi x00_,Vi x01_,Vi x02_] 65)):=by kernel_rfl
 simp [execOp,b,e]
theorem Bg {ρ:Operand→Value} {w:World} {d:Option Nat} {ty:TypeId} {pos:String} {af:Array Edge} {x:Option (Nat × Bool)} {a:ByteArray} {b:Int} {c:Int} {f:Int} {h:Int} {i:Operand} {j:Operand} {k:Operand} {l:Operand} {m:Operand} (o:ρ i=Vt a) (p:ρ j=Vi b) (t:ρ k=Vi c) (u:ρ l=Vi f) (v:ρ m=Vi h):Yl Try.prog ρ (.build 59 #[(0,i),(1,j),(2,k),(3,l),(5,m)]) d ty pos af x w (.agg #[Vt a,Vi b,Vi c,Vi f,.bool false,Vi h,Vi 0]):=by
 have e:(Instr.build 59 #[(0,Vt a),(1,Vi b),(2,Vi c),(3,Vi f),(5,Vi h)]).run Try.prog w=.ok (.agg #[Vt a,Vi b,Vi c,Vi f,.bool false,Vi h,Vi 0]) w:=by kernel_rfl
 simp [Yl,execOp,o,p,t,u,v,e]
theorem DZ {ρ:Operand→Value} {w:World} {d:Option Nat} {ty:TypeId} {pos:String} {af:Array Edge} {B:Option (Nat × Bool)} {a:ByteArray} {b:Int} {c:Int} {f:Int} {h:Bool} {i:Int} {j:Operand} {k:Operand} {l:Operand} {m:Operand} {o:Operand} {p:Operand} (t:ρ j=Vt a) (u:ρ k=Vi b) (v:ρ l=Vi c) (x:ρ m=Vi f) (z:ρ o=.bool h) (A:ρ p=Vi i):Yl Try.prog ρ (.build 59 #[(0,j),(1,k),(2,l),(3,m),(4,o),(5,p)]) d ty pos af B w (.agg #[Vt a,Vi b,Vi c,Vi f,.bool h,Vi i,Vi 0]):=by
 have e:(Instr.build 59 #[(0,Vt a),(1,Vi b),(2,Vi c),(3,Vi f),(4,.bool h),(5,Vi i)]).run Try.prog w=.ok (.agg #[Vt a,Vi b,Vi c,Vi f,.bool h,Vi i,Vi 0]) w:=by kernel_rfl
 simp [Yl,execOp,t,u,v,x,z,A,e]
theorem Qt {ρ:Operand→Value} {w:World} {d:Option Nat} {ty:TypeId} {pos:String} {af:Array Edge} {a:Option (Nat × Bool)}    :
  (execOp ρ ⟨d,.buildSlice 24 0 #[],ty,pos,af,a⟩).run Try.prog w=.ok (.value (.slice (some ⟨w.heap.size,0,none⟩) 0 0)) (w.alloc (.cells #[] 82)):=by
 have e:(Instr.buildSlice 24 0 #[]).run Try.prog w=.ok (.slice (some ⟨w.heap.size,0,none⟩) 0 0) (w.alloc (.cells #[] 82)):=by kernel_rfl
 simp [execOp,e]
theorem P8 {ρ:Operand→Value} {w:World} {d:Option Nat} {ty:TypeId} {pos:String} {af:Array Edge} {h:Option (Nat × Bool)} {x0A:Option Addr} {x0n x0c:Nat} {x1A:Option Addr} {x1n x1c:Nat} {a:Operand} {b:Operand} (c:ρ a=.slice x0A x0n x0c) (f:ρ b=.slice x1A x1n x1c):Yl Try.prog ρ (.build 26 #[(0,a),(1,b)]) d ty pos af h w (.agg #[.slice x0A x0n x0c,.slice x1A x1n x1c]):=by
 have e:(Instr.build 26 #[(0,.slice x0A x0n x0c),(1,.slice x1A x1n x1c)]).run Try.prog w=.ok (.agg #[.slice x0A x0n x0c,.slice x1A x1n x1c]) w:=by kernel_rfl
 simp [Yl,execOp,c,f,e]
theorem Uj {ρ:Operand→Value} {w:World} {d:Option Nat} {ty:TypeId} {pos:String} {af:Array Edge} {l:Option (Nat × Bool)} {a:Option Addr} {b c:Nat} {f:Option Addr} {h i:Nat} {j:Operand} (k:ρ j=.agg #[.slice a b c,.slice f h i]):Yl Try.prog ρ (.build 30 #[(0,j)]) d ty pos af l w (.agg #[.slice a b c,.slice f h i,sn,sn]):=by
 have e:(Instr.build 30 #[(0,.agg #[.slice a b c,.slice f h i])]).run Try.prog w=.ok (.agg #[.slice a b c,.slice f h i,sn,sn]) w:=by kernel_rfl
 simp [Yl,execOp,k,e]
theorem RZ {ρ:Operand→Value} {w:World} {d:Option Nat} {ty:TypeId} {pos:String} {af:Array Edge} {v:Option (Nat × Bool)} {a:Option Addr} {b c:Nat} {f:Option Addr} {h i:Nat} {j:Option Addr} {k l:Nat} {m:Option Addr} {o p:Nat} {t:Operand} (u:ρ t=.agg #[.slice a b c,.slice f h i,.slice j k l,.slice m o p]):Yl Try.prog ρ (.build 115 #[(0,t)]) d ty pos af v w (.agg #[.slice a b c,.slice f h i,.slice j k l,.slice m o p,Vi 0,sn,Vi 0,Vi 0]):=by
 have e:(Instr.build 115 #[(0,.agg #[.slice a b c,.slice f h i,.slice j k l,.slice m o p])]).run Try.prog w=.ok (.agg #[.slice a b c,.slice f h i,.slice j k l,.slice m o p,Vi 0,sn,Vi 0,Vi 0]) w:=by kernel_rfl
 simp [Yl,execOp,u,e]
theorem Qm {ρ:Operand→Value} {w:World} {d:Option Nat} {ty:TypeId} {pos:String} {af:Array Edge} {c:Option (Nat × Bool)} {x0A:Option Addr} {x0n x0c:Nat} {a:Operand} (b:ρ a=.slice x0A x0n x0c) :
  (execOp ρ ⟨d,.buildSlice 27 1 #[(0,a)],ty,pos,af,c⟩).run Try.prog w=.ok (.value (.slice (some ⟨w.heap.size,0,none⟩) 1 1)) (w.alloc (.cells #[.slice x0A x0n x0c] 60)):=by
 have e:(Instr.buildSlice 27 1 #[(0,.slice x0A x0n x0c)]).run Try.prog w=.ok (.slice (some ⟨w.heap.size,0,none⟩) 1 1) (w.alloc (.cells #[.slice x0A x0n x0c] 60)):=by kernel_rfl
 simp [execOp,b,e]
theorem SV {ρ:Operand→Value} {w:World} {d:Option Nat} {ty:TypeId} {pos:String} {af:Array Edge} {a:Option (Nat × Bool)}:Yl Try.prog ρ (.build 30 #[]) d ty pos af a w (.agg #[sn,sn,sn,sn]):=by
 have e:(Instr.build 30 #[]).run Try.prog w=.ok (.agg #[sn,sn,sn,sn]) w:=by kernel_rfl
 simp [Yl,execOp,e]
theorem nO:TI Try.prog 3 (Vi 0) 1 8:=oN (by kernel_rfl)
theorem OM:TI Try.prog 4 (.bool false) 1 1:=oN (by kernel_rfl)
theorem ti5:TI Try.prog 5 (.int .u8 0) 1 1:=oN (by kernel_rfl)
theorem oQ:TI Try.prog 9 (Vt be) 1 16:=oN (by kernel_rfl)
theorem AZ:TI Try.prog 22 (sn) 1 24:=oN (by kernel_rfl)
theorem WL:TI Try.prog 23 (sn) 1 24:=oN (by kernel_rfl)
theorem Ve:TI Try.prog 24 (sn) 1 24:=oN (by kernel_rfl)
theorem tX:TI Try.prog 26 (.agg #[sn,sn]) 2 48:=oN (by kernel_rfl)
theorem X3:TI Try.prog 27 (sn) 1 24:=oN (by kernel_rfl)
theorem Yo:TI Try.prog 28 (sn) 1 24:=oN (by kernel_rfl)
theorem xD:TI Try.prog 30 (.agg #[sn,sn,sn,sn]) 4 96:=oN (by kernel_rfl)
theorem Mi:TI Try.prog 37 (Vi 0) 1 8:=oN (by kernel_rfl)
theorem BL:TI Try.prog 39 (.agg #[Vi 0,.bool false,Vi 0,sn]) 4 48:=oN (by kernel_rfl)
theorem UR:TI Try.prog 48 (sn) 1 24:=oN (by kernel_rfl)
theorem EZ:TI Try.prog 50 (.agg #[sn]) 1 24:=oN (by kernel_rfl)
theorem Yi:TI Try.prog 51 (sn) 1 24:=oN (by kernel_rfl)
theorem zT:TI Try.prog 53 (.agg #[Vi 0,Vi 0,sn]) 3 40:=oN (by kernel_rfl)
theorem GY:TI Try.prog 57 (.agg #[Vi 0,sn,sn]) 3 56:=oN (by kernel_rfl)
theorem z8:TI Try.prog 59 (.agg #[Vt be,Vi 0,Vi 0,Vi 0,.bool false,Vi 0,Vi 0]) 7 64:=oN (by kernel_rfl)
theorem Es:TI Try.prog 60 (sn) 1 24:=oN (by kernel_rfl)
theorem Sv:TI Try.prog 65 (.agg #[Vi 0,Vi 0,Vi 0]) 3 24:=oN (by kernel_rfl)
theorem oH:TI Try.prog 70 (sn) 1 24:=oN (by kernel_rfl)
theorem zX:TI Try.prog 80 (sn) 1 24:=oN (by kernel_rfl)
theorem nY:TI Try.prog 82 (.agg #[Vt be,Vi 0,sn,sn]) 4 72:=oN (by kernel_rfl)
theorem Zf:TI Try.prog 97 (sn) 1 24:=oN (by kernel_rfl)
theorem uw:TI Try.prog 109 (sn) 1 24:=oN (by kernel_rfl)
theorem jQ:TI Try.prog 111 (.agg #[Vi 0,Vi 0,Vi 0,Vt be,Vt be,Vi 0,Vi 0,sn,Vt be,Vi 0,sn,sn,sn]) 13 192:=oN (by kernel_rfl)
theorem wT:TI Try.prog 127 (.agg #[Vt be,sn]) 2 40:=oN (by kernel_rfl)
theorem WH:TI Try.prog 130 (.pointer none) 1 8:=oN (by kernel_rfl)
theorem jU:TI Try.prog 138 (.agg #[Vi 0,Vi 0,Vi 0,Vt be,Vt be,sn]) 6 80:=oN (by kernel_rfl)
theorem pQ:TI Try.prog 143 (.agg #[Vi 0,Vi 0,Vt be,Vi 0]) 4 40:=oN (by kernel_rfl)
theorem Ww:jH Try.prog 13:=⟨_,Try.func13,by kernel_rfl,by kernel_rfl⟩
theorem TK:jH Try.prog 14:=⟨_,Try.func14,by kernel_rfl,by kernel_rfl⟩
theorem TB:jH Try.prog 15:=⟨_,Try.func15,by kernel_rfl,by kernel_rfl⟩
theorem TV:jH Try.prog 16:=⟨_,Try.func16,by kernel_rfl,by kernel_rfl⟩
theorem LJ:jH Try.prog 17:=⟨_,Try.func17,by kernel_rfl,by kernel_rfl⟩
theorem Pv:jH Try.prog 18:=⟨_,Try.func18,by kernel_rfl,by kernel_rfl⟩
theorem X4:jH Try.prog 21:=⟨_,Try.func21,by kernel_rfl,by kernel_rfl⟩
theorem Yu:jH Try.prog 24:=⟨_,Try.func24,by kernel_rfl,by kernel_rfl⟩
theorem Xr:jH Try.prog 26:=⟨_,Try.func26,by kernel_rfl,by kernel_rfl⟩
theorem Xz:jH Try.prog 27:=⟨_,Try.func27,by kernel_rfl,by kernel_rfl⟩
theorem Yt:jH Try.prog 30:=⟨_,Try.func30,by kernel_rfl,by kernel_rfl⟩
theorem XI:jH Try.prog 31:=⟨_,Try.func31,by kernel_rfl,by kernel_rfl⟩
theorem TA:jH Try.prog 32:=⟨_,Try.func32,by kernel_rfl,by kernel_rfl⟩
theorem Tw:jH Try.prog 36:=⟨_,Try.func36,by kernel_rfl,by kernel_rfl⟩
theorem Wx:jH Try.prog 37:=⟨_,Try.func37,by kernel_rfl,by kernel_rfl⟩
theorem Yd:jH Try.prog 42:=⟨_,Try.func42,by kernel_rfl,by kernel_rfl⟩
theorem WW:jH Try.prog 43:=⟨_,Try.func43,by kernel_rfl,by kernel_rfl⟩
theorem WR:jH Try.prog 44:=⟨_,Try.func44,by kernel_rfl,by kernel_rfl⟩
theorem WX:jH Try.prog 45:=⟨_,Try.func45,by kernel_rfl,by kernel_rfl⟩
theorem Wt:jH Try.prog 48:=⟨_,Try.func48,by kernel_rfl,by kernel_rfl⟩
theorem Tv:jH Try.prog 49:=⟨_,Try.func49,by kernel_rfl,by kernel_rfl⟩
theorem Tn:jH Try.prog 55:=⟨_,Try.func55,by kernel_rfl,by kernel_rfl⟩
theorem Im:jH Try.prog 56:=⟨_,Try.func56,by kernel_rfl,by kernel_rfl⟩
theorem nW:jH Try.prog 57:=⟨_,Try.func57,by kernel_rfl,by kernel_rfl⟩
theorem Ti:jH Try.prog 58:=⟨_,Try.func58,by kernel_rfl,by kernel_rfl⟩
theorem D9:jH Try.prog 59:=⟨_,Try.func59,by kernel_rfl,by kernel_rfl⟩
theorem Ta:jH Try.prog 60:=⟨_,Try.func60,by kernel_rfl,by kernel_rfl⟩
theorem XU:jH Try.prog 61:=⟨_,Try.func61,by kernel_rfl,by kernel_rfl⟩
theorem vv:jH Try.prog 62:=⟨_,Try.func62,by kernel_rfl,by kernel_rfl⟩
theorem Cc:jH Try.prog 63:=⟨_,Try.func63,by kernel_rfl,by kernel_rfl⟩
theorem vV:jH Try.prog 64:=⟨_,Try.func64,by kernel_rfl,by kernel_rfl⟩
theorem Tc:jH Try.prog 65:=⟨_,Try.func65,by kernel_rfl,by kernel_rfl⟩
theorem Ib:jH Try.prog 66:=⟨_,Try.func66,by kernel_rfl,by kernel_rfl⟩
theorem Dk:jH Try.prog 67:=⟨_,Try.func67,by kernel_rfl,by kernel_rfl⟩
theorem CP:jH Try.prog 68:=⟨_,Try.func68,by kernel_rfl,by kernel_rfl⟩
theorem yZ:jH Try.prog 72:=⟨_,Try.func72,by kernel_rfl,by kernel_rfl⟩
theorem Qc:jH Try.prog 73:=⟨_,Try.func73,by kernel_rfl,by kernel_rfl⟩
theorem NM:jH Try.prog 74:=⟨_,Try.func74,by kernel_rfl,by kernel_rfl⟩
theorem D8:jH Try.prog 78:=⟨_,Try.func78,by kernel_rfl,by kernel_rfl⟩
theorem Io:jH Try.prog 79:=⟨_,Try.func79,by kernel_rfl,by kernel_rfl⟩
theorem Ia:jH Try.prog 80:=⟨_,Try.func80,by kernel_rfl,by kernel_rfl⟩
theorem XK:jH Try.prog 81:=⟨_,Try.func81,by kernel_rfl,by kernel_rfl⟩
theorem XG:jH Try.prog 82:=⟨_,Try.func82,by kernel_rfl,by kernel_rfl⟩
theorem Ag:jH Try.prog 83:=⟨_,Try.func83,by kernel_rfl,by kernel_rfl⟩
theorem HY:jH Try.prog 84:=⟨_,Try.func84,by kernel_rfl,by kernel_rfl⟩
theorem XZ:jH Try.prog 85:=⟨_,Try.func85,by kernel_rfl,by kernel_rfl⟩
theorem QB:jH Try.prog 86:=⟨_,Try.func86,by kernel_rfl,by kernel_rfl⟩
theorem TS:jH Try.prog 87:=⟨_,Try.func87,by kernel_rfl,by kernel_rfl⟩
theorem Yf:jH Try.prog 88:=⟨_,Try.func88,by kernel_rfl,by kernel_rfl⟩
theorem Qs:jH Try.prog 89:=⟨_,Try.func89,by kernel_rfl,by kernel_rfl⟩
theorem QN:jH Try.prog 90:=⟨_,Try.func90,by kernel_rfl,by kernel_rfl⟩
theorem XC:jH Try.prog 91:=⟨_,Try.func91,by kernel_rfl,by kernel_rfl⟩
theorem XO:jH Try.prog 92:=⟨_,Try.func92,by kernel_rfl,by kernel_rfl⟩
theorem W9:jH Try.prog 93:=⟨_,Try.func93,by kernel_rfl,by kernel_rfl⟩
theorem WY:jH Try.prog 94:=⟨_,Try.func94,by kernel_rfl,by kernel_rfl⟩
theorem TF:jH Try.prog 98:=⟨_,Try.func98,by kernel_rfl,by kernel_rfl⟩
theorem WB:jH Try.prog 99:=⟨_,Try.func99,by kernel_rfl,by kernel_rfl⟩
theorem Uc:jH Try.prog 106:=⟨_,Try.func106,by kernel_rfl,by kernel_rfl⟩
theorem P9:jH Try.prog 107:=⟨_,Try.func107,by kernel_rfl,by kernel_rfl⟩
theorem Cu:jH Try.prog 108:=⟨_,Try.func108,by kernel_rfl,by kernel_rfl⟩
theorem Ue:jH Try.prog 109:=⟨_,Try.func109,by kernel_rfl,by kernel_rfl⟩
theorem PN:jH Try.prog 110:=⟨_,Try.func110,by kernel_rfl,by kernel_rfl⟩
theorem Vz:jH Try.prog 111:=⟨_,Try.func111,by kernel_rfl,by kernel_rfl⟩
theorem Aq:jH Try.prog 112:=⟨_,Try.func112,by kernel_rfl,by kernel_rfl⟩
theorem Fb:jH Try.prog 113:=⟨_,Try.func113,by kernel_rfl,by kernel_rfl⟩
theorem Um:jH Try.prog 114:=⟨_,Try.func114,by kernel_rfl,by kernel_rfl⟩
theorem UA:jH Try.prog 116:=⟨_,Try.func116,by kernel_rfl,by kernel_rfl⟩
theorem MW:jH Try.prog 117:=⟨_,Try.func117,by kernel_rfl,by kernel_rfl⟩
theorem Vb:jH Try.prog 118:=⟨_,Try.func118,by kernel_rfl,by kernel_rfl⟩
theorem Px:jH Try.prog 124:=⟨_,Try.func124,by kernel_rfl,by kernel_rfl⟩
theorem UH:jH Try.prog 125:=⟨_,Try.func125,by kernel_rfl,by kernel_rfl⟩
theorem QO:jH Try.prog 126:=⟨_,Try.func126,by kernel_rfl,by kernel_rfl⟩
theorem Vf:jH Try.prog 127:=⟨_,Try.func127,by kernel_rfl,by kernel_rfl⟩
theorem QU:jH Try.prog 128:=⟨_,Try.func128,by kernel_rfl,by kernel_rfl⟩
theorem VA:jH Try.prog 132:=⟨_,Try.func132,by kernel_rfl,by kernel_rfl⟩
theorem VB:jH Try.prog 134:=⟨_,Try.func134,by kernel_rfl,by kernel_rfl⟩
theorem VL:jH Try.prog 136:=⟨_,Try.func136,by kernel_rfl,by kernel_rfl⟩
end
end Go.Proofs.Ytfglbdkfnphjgaa
