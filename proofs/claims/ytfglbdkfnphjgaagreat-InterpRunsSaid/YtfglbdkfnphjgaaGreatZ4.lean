/- Types of the program, and facts about them. -/
import Derived.Test.YtfglbdkfnphjgaaGreatRows
import Derived.Test.YtfglbdkfnphjgaaGreatZ3
set_option linter.unusedVariables false
set_option maxHeartbeats 12800000
set_option linter.unusedSimpArgs false
set_option maxRecDepth 4000
namespace Go.Proofs.YtfglbdkfnphjgaaGreat
open Go.RowKit Go.Fw Go.Proofs.Tryz
theorem r.{u}{α:Sort u}{a:α}:a=a:=rfl
abbrev OA:=Option Addr
noncomputable section
structure jP where
 l:(List Int)
 a:Int
instance:Rp jP:=⟨2,32,fun F w cs x=>∃ (a1:OA)(c1:Nat),cs=[.slice a1 x.l.length c1,Vi x.a]/\kX F w a1 c1 x.l,fun h=>by obtain ⟨a1,c1,rfl,_⟩:=h;rfl,fun h=>by obtain ⟨a1,c1,rfl,_⟩:=h;rfl,fun h m=>by obtain ⟨a1,c1,h,k1⟩:=h;exact ⟨a1,c1,h,k1.mv m⟩⟩
theorem jP.out {F:Nat->Prop}{w:World}{cs:List Value}{x:jP}(h:Rp.rep F w cs x):∃ (a:OA)(b:Nat),cs=[.slice a x.l.length b,Vi x.a]/\kX F w a b x.l:=h
theorem jP.inn {F:Nat->Prop}{w:World}{cs:List Value}{x:jP}(h:∃ (a:OA) (b:Nat),cs=[.slice a x.l.length b,Vi x.a]/\kX F w a b x.l):Rp.rep F w cs x:=h
structure jA where
 e:Int
 d:Int
 g:Int
 b:ByteArray
 c:ByteArray
 a:(List jA)
inductive jA.R (F:Nat→Prop)(w:World):List Value→jA→Prop
 | mk (x:jA) (a1:OA) (c1:Nat) (C1:Nat->List Value) (h1:x.a.length<=c1/\c1<=maxLen) (k1:0 < x.a.length->a1=some ⟨nE a1,ow a1,none⟩/\F (nE a1)/\nE a1 < w.heap.size) (e1:∀ i y,x.a[i]?=some y->Cells w (nE a1) (ow a1+i * 6) (C1 i)) (r1:∀ i y,x.a[i]?=some y->jA.R F w (C1 i) y):jA.R F w [Vi x.e,Vi x.d,Vi x.g,Vt x.b,Vt x.c,.slice a1 x.a.length c1] x
instance:Rp jA where
 sz:=6
 bs:=80
 rep:=jA.R
 len h:=by cases h;rfl
 one h:=by cases h;rfl
 mv {F G w w' cs x} h m:=by
  induction h with
  | mk x a1 c1 C1 h1 k1 e1 r1 ih1=>exact .mk x a1 c1 C1 h1 (fun h0=>⟨(k1 h0).1,(m.1 _ (k1 h0).2.1 (k1 h0).2.2).1,Nat.lt_of_lt_of_le (k1 h0).2.2 m.2⟩) (fun i y hy=>(e1 i y hy).same (m.1 _ (k1 (by have:=jU hy;omega)).2.1 (k1 (by have:=jU hy;omega)).2.2).2) ih1
theorem jA.out {F:Nat->Prop}{w:World}{cs:List Value}{x:jA}(h:Rp.rep F w cs x):∃ (a:OA)(b:Nat),cs=[Vi x.e,Vi x.d,Vi x.g,Vt x.b,Vt x.c,.slice a x.a.length b]/\kX F w a b x.a:=by
 cases h with
 | mk _ a b f e c j k=>exact ⟨a,b,rfl,⟨e.1,e.2,fun d=>⟨(c d).1,(c d).2.1,(c d).2.2,fun i l hy=>⟨f i,j i l hy,k i l hy⟩⟩⟩⟩
theorem jA.inn {F:Nat->Prop}{w:World}{cs:List Value}{x:jA}(h:∃ (b:OA) (c:Nat),cs=[Vi x.e,Vi x.d,Vi x.g,Vt x.b,Vt x.c,.slice b x.a.length c]/\kX F w b c x.a):Rp.rep F w cs x:=by obtain ⟨b,c,rfl,a⟩:=h;obtain ⟨e,f,i⟩:=a.fn;exact .mk x b c e ⟨a.1,a.2.1⟩ (fun d=>⟨(a.2.2 d).1,(a.2.2 d).2.1,(a.2.2 d).2.2.1⟩) f i
structure kE where
 c:Int
 f:Int
 a:ByteArray
 d:Int
instance:Rp kE:=⟨4,40,fun _ _ cs x=>cs=[Vi x.c,Vi x.f,Vt x.a,Vi x.d],fun h=>by rw [h];rfl,fun h=>by rw [h];rfl,fun h _=>h⟩
structure gP where
 l:(List kE)
 a:Int
 c:Int
 e:Int
instance:Rp gP:=⟨4,48,fun F w cs x=>∃ (a1:OA)(c1:Nat),cs=[.slice a1 x.l.length c1,Vi x.a,Vi x.c,Vi x.e]/\kX F w a1 c1 x.l,fun h=>by obtain ⟨a1,c1,rfl,_⟩:=h;rfl,fun h=>by obtain ⟨a1,c1,rfl,_⟩:=h;rfl,fun h m=>by obtain ⟨a1,c1,h,k1⟩:=h;exact ⟨a1,c1,h,k1.mv m⟩⟩
theorem gP.out {F:Nat->Prop}{w:World}{cs:List Value}{x:gP}(h:Rp.rep F w cs x):∃ (a:OA)(b:Nat),cs=[.slice a x.l.length b,Vi x.a,Vi x.c,Vi x.e]/\kX F w a b x.l:=h
theorem gP.inn {F:Nat->Prop}{w:World}{cs:List Value}{x:gP}(h:∃ (a:OA) (b:Nat),cs=[.slice a x.l.length b,Vi x.a,Vi x.c,Vi x.e]/\kX F w a b x.l):Rp.rep F w cs x:=h
structure jI where
 c:Int
 f:Int
 n:Int
 b:ByteArray
 k:ByteArray
 m:Int
 g:Int
 d:(List jA)
 j:ByteArray
 i:Int
 a:(List jA)
 e:(List jI)
 h:(List jI)
inductive jI.R (F:Nat→Prop)(w:World):List Value→jI→Prop
 | mk (x:jI) (a1:OA) (c1:Nat) (a2:OA) (c2:Nat) (a3:OA) (c3:Nat) (a4:OA) (c4:Nat) (k1:kX F w a1 c1 x.d) (k2:kX F w a2 c2 x.a) (C3:Nat->List Value) (h3:x.e.length<=c3/\c3<=maxLen) (k3:0 < x.e.length->a3=some ⟨nE a3,ow a3,none⟩/\F (nE a3)/\nE a3 < w.heap.size) (e3:∀ i y,x.e[i]?=some y->Cells w (nE a3) (ow a3+i * 13) (C3 i)) (r3:∀ i y,x.e[i]?=some y->jI.R F w (C3 i) y) (C4:Nat->List Value) (h4:x.h.length<=c4/\c4<=maxLen) (k4:0 < x.h.length->a4=some ⟨nE a4,ow a4,none⟩/\F (nE a4)/\nE a4 < w.heap.size) (e4:∀ i y,x.h[i]?=some y->Cells w (nE a4) (ow a4+i * 13) (C4 i)) (r4:∀ i y,x.h[i]?=some y->jI.R F w (C4 i) y):jI.R F w [Vi x.c,Vi x.f,Vi x.n,Vt x.b,Vt x.k,Vi x.m,Vi x.g,.slice a1 x.d.length c1,Vt x.j,Vi x.i,.slice a2 x.a.length c2,.slice a3 x.e.length c3,.slice a4 x.h.length c4] x
instance:Rp jI where
 sz:=13
 bs:=192
 rep:=jI.R
 len h:=by cases h;rfl
 one h:=by cases h;rfl
 mv {F G w w' cs x} h m:=by
  induction h with
  | mk x a1 c1 a2 c2 a3 c3 a4 c4 k1 k2 C3 h3 k3 e3 r3 C4 h4 k4 e4 r4 ih3 ih4=>exact .mk x a1 c1 a2 c2 a3 c3 a4 c4 (k1.mv m) (k2.mv m) C3 h3 (fun h0=>⟨(k3 h0).1,(m.1 _ (k3 h0).2.1 (k3 h0).2.2).1,Nat.lt_of_lt_of_le (k3 h0).2.2 m.2⟩) (fun i y hy=>(e3 i y hy).same (m.1 _ (k3 (by have:=jU hy;omega)).2.1 (k3 (by have:=jU hy;omega)).2.2).2) ih3 C4 h4 (fun h0=>⟨(k4 h0).1,(m.1 _ (k4 h0).2.1 (k4 h0).2.2).1,Nat.lt_of_lt_of_le (k4 h0).2.2 m.2⟩) (fun i y hy=>(e4 i y hy).same (m.1 _ (k4 (by have:=jU hy;omega)).2.1 (k4 (by have:=jU hy;omega)).2.2).2) ih4
theorem jI.out {F:Nat->Prop}{w:World}{cs:List Value}{x:jI}(h:Rp.rep F w cs x):∃ (b:OA)(c:Nat)(d:OA)(e:Nat)(f:OA)(j:Nat)(k:OA)(l:Nat),cs=[Vi x.c,Vi x.f,Vi x.n,Vt x.b,Vt x.k,Vi x.m,Vi x.g,.slice b x.d.length c,Vt x.j,Vi x.i,.slice d x.a.length e,.slice f x.e.length j,.slice k x.h.length l]/\kX F w b c x.d/\kX F w d e x.a/\kX F w f j x.e/\kX F w k l x.h:=by
 cases h with
 | mk _ b c d e f j k l u v z p m A B C t o D E=>exact ⟨b,c,d,e,f,j,k,l,rfl,u,v,⟨p.1,p.2,fun a=>⟨(m a).1,(m a).2.1,(m a).2.2,fun i G hy=>⟨z i,A i G hy,B i G hy⟩⟩⟩,⟨t.1,t.2,fun a=>⟨(o a).1,(o a).2.1,(o a).2.2,fun i G hy=>⟨C i,D i G hy,E i G hy⟩⟩⟩⟩
theorem jI.inn {F:Nat->Prop}{w:World}{cs:List Value}{x:jI}(h:∃ (d:OA) (e:Nat) (f:OA) (i:Nat) (j:OA) (k:Nat) (l:OA) (m:Nat),cs=[Vi x.c,Vi x.f,Vi x.n,Vt x.b,Vt x.k,Vi x.m,Vi x.g,.slice d x.d.length e,Vt x.j,Vi x.i,.slice f x.a.length i,.slice j x.e.length k,.slice l x.h.length m]/\kX F w d e x.d/\kX F w f i x.a/\kX F w j k x.e/\kX F w l m x.h):Rp.rep F w cs x:=by obtain ⟨d,e,f,i,j,k,l,m,rfl,o,p,b,c⟩:=h;obtain ⟨t,u,v⟩:=b.fn;obtain ⟨z,A,B⟩:=c.fn;exact .mk x d e f i j k l m o p t ⟨b.1,b.2.1⟩ (fun a=>⟨(b.2.2 a).1,(b.2.2 a).2.1,(b.2.2 a).2.2.1⟩) u v z ⟨c.1,c.2.1⟩ (fun a=>⟨(c.2.2 a).1,(c.2.2 a).2.1,(c.2.2 a).2.2.1⟩) A B
structure kI where
 b:ByteArray
 a:(List ByteArray)
instance:Rp kI:=⟨2,40,fun F w cs x=>∃ (a1:OA)(c1:Nat),cs=[Vt x.b,.slice a1 x.a.length c1]/\kX F w a1 c1 x.a,fun h=>by obtain ⟨a1,c1,rfl,_⟩:=h;rfl,fun h=>by obtain ⟨a1,c1,rfl,_⟩:=h;rfl,fun h m=>by obtain ⟨a1,c1,h,k1⟩:=h;exact ⟨a1,c1,h,k1.mv m⟩⟩
theorem kI.out {F:Nat->Prop}{w:World}{cs:List Value}{x:kI}(h:Rp.rep F w cs x):∃ (a:OA)(b:Nat),cs=[Vt x.b,.slice a x.a.length b]/\kX F w a b x.a:=h
theorem kI.inn {F:Nat->Prop}{w:World}{cs:List Value}{x:kI}(h:∃ (a:OA) (b:Nat),cs=[Vt x.b,.slice a x.a.length b]/\kX F w a b x.a):Rp.rep F w cs x:=h
structure kW where
 b:ByteArray
 f:Int
 a:(List ByteArray)
 e:(List jI)
instance:Rp kW:=⟨4,72,fun F w cs x=>∃ (a1:OA)(c1:Nat)(a2:OA)(c2:Nat),cs=[Vt x.b,Vi x.f,.slice a1 x.a.length c1,.slice a2 x.e.length c2]/\kX F w a1 c1 x.a/\kX F w a2 c2 x.e,fun h=>by obtain ⟨a1,c1,a2,c2,rfl,_⟩:=h;rfl,fun h=>by obtain ⟨a1,c1,a2,c2,rfl,_⟩:=h;rfl,fun h m=>by obtain ⟨a1,c1,a2,c2,h,k1,k2⟩:=h;exact ⟨a1,c1,a2,c2,h,k1.mv m,k2.mv m⟩⟩
theorem kW.out {F:Nat->Prop}{w:World}{cs:List Value}{x:kW}(h:Rp.rep F w cs x):∃ (a:OA)(b:Nat)(c:OA)(d:Nat),cs=[Vt x.b,Vi x.f,.slice a x.a.length b,.slice c x.e.length d]/\kX F w a b x.a/\kX F w c d x.e:=h
theorem kW.inn {F:Nat->Prop}{w:World}{cs:List Value}{x:kW}(h:∃ (a:OA) (b:Nat) (c:OA) (d:Nat),cs=[Vt x.b,Vi x.f,.slice a x.a.length b,.slice c x.e.length d]/\kX F w a b x.a/\kX F w c d x.e):Rp.rep F w cs x:=h
structure jS where
 a:(List kI)
 b:(List kW)
instance:Rp jS:=⟨2,48,fun F w cs x=>∃ (a1:OA)(c1:Nat)(a2:OA)(c2:Nat),cs=[.slice a1 x.a.length c1,.slice a2 x.b.length c2]/\kX F w a1 c1 x.a/\kX F w a2 c2 x.b,fun h=>by obtain ⟨a1,c1,a2,c2,rfl,_⟩:=h;rfl,fun h=>by obtain ⟨a1,c1,a2,c2,rfl,_⟩:=h;rfl,fun h m=>by obtain ⟨a1,c1,a2,c2,h,k1,k2⟩:=h;exact ⟨a1,c1,a2,c2,h,k1.mv m,k2.mv m⟩⟩
theorem jS.out {F:Nat->Prop}{w:World}{cs:List Value}{x:jS}(h:Rp.rep F w cs x):∃ (a:OA)(b:Nat)(c:OA)(d:Nat),cs=[.slice a x.a.length b,.slice c x.b.length d]/\kX F w a b x.a/\kX F w c d x.b:=h
theorem jS.inn {F:Nat->Prop}{w:World}{cs:List Value}{x:jS}(h:∃ (a:OA) (b:Nat) (c:OA) (d:Nat),cs=[.slice a x.a.length b,.slice c x.b.length d]/\kX F w a b x.a/\kX F w c d x.b):Rp.rep F w cs x:=h
structure lU where
 f:Int
 e:Int
 b:(List Int)
 a:(List ByteArray)
 d:(List ByteArray)
 c:(List ByteArray)
 g:Int
 h:Int
structure jy where
 b:ByteArray
 c:Int
 d:Int
 a:Int
 f:Bool
 e:Int
 g:Int
instance:Rp jy:=⟨7,64,fun _ _ cs x=>cs=[Vt x.b,Vi x.c,Vi x.d,Vi x.a,.bool x.f,Vi x.e,Vi x.g],fun h=>by rw [h];rfl,fun h=>by rw [h];rfl,fun h _=>h⟩
structure jZ where
 j:Int
 c:Int
 f:Int
instance:Rp jZ:=⟨3,24,fun _ _ cs x=>cs=[Vi x.j,Vi x.c,Vi x.f],fun h=>by rw [h];rfl,fun h=>by rw [h];rfl,fun h _=>h⟩
structure jL where
 a:jS
 c:(List (List jy))
 b:(List jZ)
instance:Rp jL:=⟨4,96,fun F w cs x=>∃ (a1:OA)(c1:Nat)(a2:OA)(c2:Nat)(a3:OA)(c3:Nat)(a4:OA)(c4:Nat),cs=[.slice a1 x.a.a.length c1,.slice a2 x.a.b.length c2,.slice a3 x.c.length c3,.slice a4 x.b.length c4]/\kX F w a1 c1 x.a.a/\kX F w a2 c2 x.a.b/\kX F w a3 c3 x.c/\kX F w a4 c4 x.b,fun h=>by obtain ⟨a1,c1,a2,c2,a3,c3,a4,c4,rfl,_⟩:=h;rfl,fun h=>by obtain ⟨a1,c1,a2,c2,a3,c3,a4,c4,rfl,_⟩:=h;rfl,fun h m=>by obtain ⟨a1,c1,a2,c2,a3,c3,a4,c4,h,k1,k2,k3,k4⟩:=h;exact ⟨a1,c1,a2,c2,a3,c3,a4,c4,h,k1.mv m,k2.mv m,k3.mv m,k4.mv m⟩⟩
theorem jL.out {F:Nat->Prop}{w:World}{cs:List Value}{x:jL}(h:Rp.rep F w cs x):∃ (a:OA)(b:Nat)(c:OA)(d:Nat)(e:OA)(f:Nat)(i:OA)(j:Nat),cs=[.slice a x.a.a.length b,.slice c x.a.b.length d,.slice e x.c.length f,.slice i x.b.length j]/\kX F w a b x.a.a/\kX F w c d x.a.b/\kX F w e f x.c/\kX F w i j x.b:=h
theorem jL.inn {F:Nat->Prop}{w:World}{cs:List Value}{x:jL}(h:∃ (a:OA) (b:Nat) (c:OA) (d:Nat) (e:OA) (f:Nat) (i:OA) (j:Nat),cs=[.slice a x.a.a.length b,.slice c x.a.b.length d,.slice e x.c.length f,.slice i x.b.length j]/\kX F w a b x.a.a/\kX F w c d x.a.b/\kX F w e f x.c/\kX F w i j x.b):Rp.rep F w cs x:=h
structure fV where
 a:jL
 f:Int
 b:(List Int)
 c:Int
 e:Int
instance:Rp fV:=⟨8,144,fun F w cs x=>∃ (a1:OA)(c1:Nat)(a2:OA)(c2:Nat)(a3:OA)(c3:Nat)(a4:OA)(c4:Nat)(a5:OA)(c5:Nat),cs=[.slice a1 x.a.a.a.length c1,.slice a2 x.a.a.b.length c2,.slice a3 x.a.c.length c3,.slice a4 x.a.b.length c4,Vi x.f,.slice a5 x.b.length c5,Vi x.c,Vi x.e]/\kX F w a1 c1 x.a.a.a/\kX F w a2 c2 x.a.a.b/\kX F w a3 c3 x.a.c/\kX F w a4 c4 x.a.b/\kX F w a5 c5 x.b,fun h=>by obtain ⟨a1,c1,a2,c2,a3,c3,a4,c4,a5,c5,rfl,_⟩:=h;rfl,fun h=>by obtain ⟨a1,c1,a2,c2,a3,c3,a4,c4,a5,c5,rfl,_⟩:=h;rfl,fun h m=>by obtain ⟨a1,c1,a2,c2,a3,c3,a4,c4,a5,c5,h,k1,k2,k3,k4,k5⟩:=h;exact ⟨a1,c1,a2,c2,a3,c3,a4,c4,a5,c5,h,k1.mv m,k2.mv m,k3.mv m,k4.mv m,k5.mv m⟩⟩
theorem fV.out {F:Nat->Prop}{w:World}{cs:List Value}{x:fV}(h:Rp.rep F w cs x):∃ (a:OA)(b:Nat)(c:OA)(d:Nat)(i:OA)(j:Nat)(k:OA)(l:Nat)(m:OA)(o:Nat),cs=[.slice a x.a.a.a.length b,.slice c x.a.a.b.length d,.slice i x.a.c.length j,.slice k x.a.b.length l,Vi x.f,.slice m x.b.length o,Vi x.c,Vi x.e]/\kX F w a b x.a.a.a/\kX F w c d x.a.a.b/\kX F w i j x.a.c/\kX F w k l x.a.b/\kX F w m o x.b:=h
theorem fV.inn {F:Nat->Prop}{w:World}{cs:List Value}{x:fV}(h:∃ (a:OA) (b:Nat) (c:OA) (d:Nat) (i:OA) (j:Nat) (k:OA) (l:Nat) (m:OA) (o:Nat),cs=[.slice a x.a.a.a.length b,.slice c x.a.a.b.length d,.slice i x.a.c.length j,.slice k x.a.b.length l,Vi x.f,.slice m x.b.length o,Vi x.c,Vi x.e]/\kX F w a b x.a.a.a/\kX F w c d x.a.a.b/\kX F w i j x.a.c/\kX F w k l x.a.b/\kX F w m o x.b):Rp.rep F w cs x:=h
structure qO where
 g:Int
 b:(List Bool)
 a:(List Int)
instance:Rp qO:=⟨3,56,fun F w cs x=>∃ (a1:OA)(c1:Nat)(a2:OA)(c2:Nat),cs=[Vi x.g,.slice a1 x.b.length c1,.slice a2 x.a.length c2]/\kX F w a1 c1 x.b/\kX F w a2 c2 x.a,fun h=>by obtain ⟨a1,c1,a2,c2,rfl,_⟩:=h;rfl,fun h=>by obtain ⟨a1,c1,a2,c2,rfl,_⟩:=h;rfl,fun h m=>by obtain ⟨a1,c1,a2,c2,h,k1,k2⟩:=h;exact ⟨a1,c1,a2,c2,h,k1.mv m,k2.mv m⟩⟩
theorem qO.out {F:Nat->Prop}{w:World}{cs:List Value}{x:qO}(h:Rp.rep F w cs x):∃ (a:OA)(b:Nat)(c:OA)(d:Nat),cs=[Vi x.g,.slice a x.b.length b,.slice c x.a.length d]/\kX F w a b x.b/\kX F w c d x.a:=h
theorem qO.inn {F:Nat->Prop}{w:World}{cs:List Value}{x:qO}(h:∃ (a:OA) (b:Nat) (c:OA) (d:Nat),cs=[Vi x.g,.slice a x.b.length b,.slice c x.a.length d]/\kX F w a b x.b/\kX F w c d x.a):Rp.rep F w cs x:=h
structure nK where
 j:Int
 a:Int
 c:(List qO)
instance:Rp nK:=⟨3,40,fun F w cs x=>∃ (a1:OA)(c1:Nat),cs=[Vi x.j,Vi x.a,.slice a1 x.c.length c1]/\kX F w a1 c1 x.c,fun h=>by obtain ⟨a1,c1,rfl,_⟩:=h;rfl,fun h=>by obtain ⟨a1,c1,rfl,_⟩:=h;rfl,fun h m=>by obtain ⟨a1,c1,h,k1⟩:=h;exact ⟨a1,c1,h,k1.mv m⟩⟩
theorem nK.out {F:Nat->Prop}{w:World}{cs:List Value}{x:nK}(h:Rp.rep F w cs x):∃ (a:OA)(b:Nat),cs=[Vi x.j,Vi x.a,.slice a x.c.length b]/\kX F w a b x.c:=h
theorem nK.inn {F:Nat->Prop}{w:World}{cs:List Value}{x:nK}(h:∃ (a:OA) (b:Nat),cs=[Vi x.j,Vi x.a,.slice a x.c.length b]/\kX F w a b x.c):Rp.rep F w cs x:=h
structure kC where
 a:(List nK)
instance:Rp kC:=⟨1,24,fun F w cs x=>∃ (a1:OA)(c1:Nat),cs=[.slice a1 x.a.length c1]/\kX F w a1 c1 x.a,fun h=>by obtain ⟨a1,c1,rfl,_⟩:=h;rfl,fun h=>by obtain ⟨a1,c1,rfl,_⟩:=h;rfl,fun h m=>by obtain ⟨a1,c1,h,k1⟩:=h;exact ⟨a1,c1,h,k1.mv m⟩⟩
theorem kC.out {F:Nat->Prop}{w:World}{cs:List Value}{x:kC}(h:Rp.rep F w cs x):∃ (a:OA)(b:Nat),cs=[.slice a x.a.length b]/\kX F w a b x.a:=h
theorem kC.inn {F:Nat->Prop}{w:World}{cs:List Value}{x:kC}(h:∃ (a:OA) (b:Nat),cs=[.slice a x.a.length b]/\kX F w a b x.a):Rp.rep F w cs x:=h
structure mU where
 d:Int
 b:Bool
 c:Int
 a:(List Int)
instance:Rp mU:=⟨4,48,fun F w cs x=>∃ (a1:OA)(c1:Nat),cs=[Vi x.d,.bool x.b,Vi x.c,.slice a1 x.a.length c1]/\kX F w a1 c1 x.a,fun h=>by obtain ⟨a1,c1,rfl,_⟩:=h;rfl,fun h=>by obtain ⟨a1,c1,rfl,_⟩:=h;rfl,fun h m=>by obtain ⟨a1,c1,h,k1⟩:=h;exact ⟨a1,c1,h,k1.mv m⟩⟩
theorem mU.out {F:Nat->Prop}{w:World}{cs:List Value}{x:mU}(h:Rp.rep F w cs x):∃ (a:OA)(b:Nat),cs=[Vi x.d,.bool x.b,Vi x.c,.slice a x.a.length b]/\kX F w a b x.a:=h
theorem mU.inn {F:Nat->Prop}{w:World}{cs:List Value}{x:mU}(h:∃ (a:OA) (b:Nat),cs=[Vi x.d,.bool x.b,Vi x.c,.slice a x.a.length b]/\kX F w a b x.a):Rp.rep F w cs x:=h
section
variable {ρ:Operand->Value}{w:World}{d:Option Nat}{ty:TypeId}{pos:String}{af:Array Edge}{g:Option (Nat × Bool)}
theorem Sk {a b c e f h i j k l m n o p q r s t u v x y z A B C D E F G H I}(J:ρ s=Vi a)(K:ρ t=Vi b)(L:ρ u=Vi c)(M:ρ v=Vi e)(N:ρ x=Vi f)(O:ρ y=Vi h)(P:ρ z=Vi i)(Q:ρ A=Vi j)(R:ρ B=Vi k)(S:ρ C=Vi l)(T:ρ D=Vi m)(U:ρ E=Vi n)(V:ρ F=Vi o)(W:ρ G=Vi p)(X:ρ H=Vi q)(Y:ρ I=Vi r):(execOp ρ ⟨d,.buildSlice 22 16 #[(0,s),(1,t),(2,u),(3,v),(4,x),(5,y),(6,z),(7,A),(8,B),(9,C),(10,D),(11,E),(12,F),(13,G),(14,H),(15,I)],ty,pos,af,g⟩).run prog w=.ok (.value (.slice (some ⟨w.heap.size,0,none⟩) 16 16)) (w.alloc (.cells #[Vi a,Vi b,Vi c,Vi e,Vi f,Vi h,Vi i,Vi j,Vi k,Vi l,Vi m,Vi n,Vi o,Vi p,Vi q,Vi r] 3)):=by simp [execOp,J,K,L,M,N,O,P,Q,R,S,T,U,V,W,X,Y];kernel_rfl
theorem Gy {a b c e f h i j k l m n o p q r s t u v x y z A}(B:ρ o=Vt a)(C:ρ p=Vt b)(D:ρ q=Vt c)(E:ρ r=Vt e)(F:ρ s=Vt f)(G:ρ t=Vt h)(H:ρ u=Vt i)(I:ρ v=Vt j)(J:ρ x=Vt k)(K:ρ y=Vt l)(L:ρ z=Vt m)(M:ρ A=Vt n):(execOp ρ ⟨d,.buildSlice 36 12 #[(0,o),(1,p),(2,q),(3,r),(4,s),(5,t),(6,u),(7,v),(8,x),(9,y),(10,z),(11,A)],ty,pos,af,g⟩).run prog w=.ok (.value (.slice (some ⟨w.heap.size,0,none⟩) 12 12)) (w.alloc (.cells #[Vt a,Vt b,Vt c,Vt e,Vt f,Vt h,Vt i,Vt j,Vt k,Vt l,Vt m,Vt n] 9)):=by simp [execOp,B,C,D,E,F,G,H,I,J,K,L,M];kernel_rfl
theorem Vm {a b c e f h}(i:ρ e=Vt a)(j:ρ f=Vt b)(k:ρ h=Vt c):(execOp ρ ⟨d,.buildSlice 36 3 #[(0,e),(1,f),(2,h)],ty,pos,af,g⟩).run prog w=.ok (.value (.slice (some ⟨w.heap.size,0,none⟩) 3 3)) (w.alloc (.cells #[Vt a,Vt b,Vt c] 9)):=by simp [execOp,i,j,k];kernel_rfl
theorem PL {a b c e f h i j k l m n o p q r s t u v x y z A B C D E F G H I J K L M N O P Q R S}(T:ρ y=.int .u8 a)(U:ρ z=.int .u8 b)(V:ρ A=.int .u8 c)(W:ρ B=.int .u8 e)(X:ρ C=.int .u8 f)(Y:ρ D=.int .u8 h)(Z:ρ E=.int .u8 i)(Aa:ρ F=.int .u8 j)(Ab:ρ G=.int .u8 k)(Ac:ρ H=.int .u8 l)(Ad:ρ I=.int .u8 m)(Ae:ρ J=.int .u8 n)(Af:ρ K=.int .u8 o)(Ag:ρ L=.int .u8 p)(Ah:ρ M=.int .u8 q)(Ai:ρ N=.int .u8 r)(Aj:ρ O=.int .u8 s)(Ak:ρ P=.int .u8 t)(Al:ρ Q=.int .u8 u)(Am:ρ R=.int .u8 v)(An:ρ S=.int .u8 x):(execOp ρ ⟨d,.buildSlice 164 21 #[(0,y),(1,z),(2,A),(3,B),(4,C),(5,D),(6,E),(7,F),(8,G),(9,H),(10,I),(11,J),(12,K),(13,L),(14,M),(15,N),(16,O),(17,P),(18,Q),(19,R),(20,S)],ty,pos,af,g⟩).run prog w=.ok (.value (.slice (some ⟨w.heap.size,0,none⟩) 21 21)) (w.alloc (.cells #[.int .u8 a,.int .u8 b,.int .u8 c,.int .u8 e,.int .u8 f,.int .u8 h,.int .u8 i,.int .u8 j,.int .u8 k,.int .u8 l,.int .u8 m,.int .u8 n,.int .u8 o,.int .u8 p,.int .u8 q,.int .u8 r,.int .u8 s,.int .u8 t,.int .u8 u,.int .u8 v,.int .u8 x] 5)):=by simp [execOp,T,U,V,W,X,Y,Z,Aa,Ab,Ac,Ad,Ae,Af,Ag,Ah,Ai,Aj,Ak,Al,Am,An];kernel_rfl
theorem GK {a b c e}(f:ρ c=Vi a)(h:ρ e=Vt b):Yl prog ρ (.build 135 #[(0,c),(3,e)]) d ty pos af g w (.agg #[Vi a,Vi 0,Vi 0,Vt b,Vt be,sn]):=by simp [Yl,execOp,f,h];kernel_rfl
theorem KX {a b c e}(f:ρ c=Vi a)(h:ρ e=Vi b):Yl prog ρ (.build 135 #[(0,c),(1,e)]) d ty pos af g w (.agg #[Vi a,Vi b,Vi 0,Vt be,Vt be,sn]):=by simp [Yl,execOp,f,h];kernel_rfl
theorem yR {a b}(c:ρ b=Vi a):(execOp ρ ⟨d,.buildSlice 22 1 #[(0,b)],ty,pos,af,g⟩).run prog w=.ok (.value (.slice (some ⟨w.heap.size,0,none⟩) 1 1)) (w.alloc (.cells #[Vi a] 3)):=by simp [execOp,c];kernel_rfl
theorem Md :Yl prog ρ (.build 109 #[]) d ty pos af g w (.agg #[Vi 0,Vi 0,Vt be,Vi 0]):=by simp [Yl,execOp];kernel_rfl
theorem D6 {a b c e f h}(i:ρ e=Vi a)(j:ρ f=Vi b)(k:ρ h=Vt c):Yl prog ρ (.build 109 #[(0,e),(1,f),(2,h)]) d ty pos af g w (.agg #[Vi a,Vi b,Vt c,Vi 0]):=by simp [Yl,execOp,i,j,k];kernel_rfl
theorem Ol {a b c e f h}(i:ρ e=Vi a)(j:ρ f=Vi b)(k:ρ h=Vi c):Yl prog ρ (.build 109 #[(0,e),(1,f),(3,h)]) d ty pos af g w (.agg #[Vi a,Vi b,Vt be,Vi c]):=by simp [Yl,execOp,i,j,k];kernel_rfl
theorem Nr {a b c e f}(h:ρ f=.agg #[Vi a,Vi b,Vt c,Vi e]):(execOp ρ ⟨d,.buildSlice 79 1 #[(0,f)],ty,pos,af,g⟩).run prog w=.ok (.value (.slice (some ⟨w.heap.size,0,none⟩) 1 1)) (w.alloc (.cells #[Vi a,Vi b,Vt c,Vi e] 109)):=by simp [execOp,h];kernel_rfl
theorem SK {a b c e}(f:ρ c=Vi a)(h:ρ e=Vi b):Yl prog ρ (.build 109 #[(0,c),(1,e)]) d ty pos af g w (.agg #[Vi a,Vi b,Vt be,Vi 0]):=by simp [Yl,execOp,f,h];kernel_rfl
theorem SB {a b}(c:ρ b=.int .u8 a):(execOp ρ ⟨d,.buildSlice 164 1 #[(0,b)],ty,pos,af,g⟩).run prog w=.ok (.value (.slice (some ⟨w.heap.size,0,none⟩) 1 1)) (w.alloc (.cells #[.int .u8 a] 5)):=by simp [execOp,c];kernel_rfl
theorem BL {a b}(c:ρ b=Vt a):(execOp ρ ⟨d,.buildSlice 36 1 #[(0,b)],ty,pos,af,g⟩).run prog w=.ok (.value (.slice (some ⟨w.heap.size,0,none⟩) 1 1)) (w.alloc (.cells #[Vt a] 9)):=by simp [execOp,c];kernel_rfl
theorem Sw {a b c e f h i j k l m n o p q r s t u v x y z A}(B:ρ o=Vi a)(C:ρ p=Vi b)(D:ρ q=Vi c)(E:ρ r=Vi e)(F:ρ s=Vi f)(G:ρ t=Vi h)(H:ρ u=Vi i)(I:ρ v=Vi j)(J:ρ x=Vi k)(K:ρ y=Vi l)(L:ρ z=Vi m)(M:ρ A=Vi n):(execOp ρ ⟨d,.buildSlice 22 12 #[(0,o),(1,p),(2,q),(3,r),(4,s),(5,t),(6,u),(7,v),(8,x),(9,y),(10,z),(11,A)],ty,pos,af,g⟩).run prog w=.ok (.value (.slice (some ⟨w.heap.size,0,none⟩) 12 12)) (w.alloc (.cells #[Vi a,Vi b,Vi c,Vi e,Vi f,Vi h,Vi i,Vi j,Vi k,Vi l,Vi m,Vi n] 3)):=by simp [execOp,B,C,D,E,F,G,H,I,J,K,L,M];kernel_rfl
theorem U8 {a b c e f h i j k l m n o p}(q:ρ j=Vt a)(r:ρ k=Vt b)(s:ρ l=Vt c)(t:ρ m=Vt e)(u:ρ n=Vt f)(v:ρ o=Vt h)(x:ρ p=Vt i):(execOp ρ ⟨d,.buildSlice 36 7 #[(0,j),(1,k),(2,l),(3,m),(4,n),(5,o),(6,p)],ty,pos,af,g⟩).run prog w=.ok (.value (.slice (some ⟨w.heap.size,0,none⟩) 7 7)) (w.alloc (.cells #[Vt a,Vt b,Vt c,Vt e,Vt f,Vt h,Vt i] 9)):=by simp [execOp,q,r,s,t,u,v,x];kernel_rfl
theorem xU {a b c e f h i j k l m n o p q r s t}(u:ρ s=.agg #[Vi a,Vi b,Vi c,Vt e,Vt f,.slice h i j])(v:ρ t=.agg #[Vi k,Vi l,Vi m,Vt n,Vt o,.slice p q r]):(execOp ρ ⟨d,.buildSlice 120 2 #[(0,s),(1,t)],ty,pos,af,g⟩).run prog w=.ok (.value (.slice (some ⟨w.heap.size,0,none⟩) 2 2)) (w.alloc (.cells #[Vi a,Vi b,Vi c,Vt e,Vt f,.slice h i j,Vi k,Vi l,Vi m,Vt n,Vt o,.slice p q r] 135)):=by simp [execOp,u,v];kernel_rfl
theorem vk {a b c e f h}(i:ρ f=Vi a)(j:ρ h=.slice b c e):Yl prog ρ (.build 135 #[(0,f),(5,h)]) d ty pos af g w (.agg #[Vi a,Vi 0,Vi 0,Vt be,Vt be,.slice b c e]):=by simp [Yl,execOp,i,j];kernel_rfl
theorem Qv :Yl prog ρ (.build 135 #[]) d ty pos af g w (.agg #[Vi 0,Vi 0,Vi 0,Vt be,Vt be,sn]):=by simp [Yl,execOp];kernel_rfl
theorem wW {a b c e}(f:ρ c=Vt a)(h:ρ e=Vt b):(execOp ρ ⟨d,.buildSlice 36 2 #[(0,c),(1,e)],ty,pos,af,g⟩).run prog w=.ok (.value (.slice (some ⟨w.heap.size,0,none⟩) 2 2)) (w.alloc (.cells #[Vt a,Vt b] 9)):=by simp [execOp,f,h];kernel_rfl
theorem lq {a b c e f h i j k}(l:ρ k=.agg #[Vi a,Vi b,Vi c,Vt e,Vt f,.slice h i j]):(execOp ρ ⟨d,.buildSlice 120 1 #[(0,k)],ty,pos,af,g⟩).run prog w=.ok (.value (.slice (some ⟨w.heap.size,0,none⟩) 1 1)) (w.alloc (.cells #[Vi a,Vi b,Vi c,Vt e,Vt f,.slice h i j] 135)):=by simp [execOp,l];kernel_rfl
theorem vO {a b c e f h}(i:ρ e=Vi a)(j:ρ f=Vt b)(k:ρ h=Vt c):Yl prog ρ (.build 135 #[(0,e),(3,f),(4,h)]) d ty pos af g w (.agg #[Vi a,Vi 0,Vi 0,Vt b,Vt c,sn]):=by simp [Yl,execOp,i,j,k];kernel_rfl
theorem D9 {a b c e f h i j}(k:ρ h=Vi a)(l:ρ i=Vt b)(m:ρ j=.slice c e f):Yl prog ρ (.build 135 #[(0,h),(3,i),(5,j)]) d ty pos af g w (.agg #[Vi a,Vi 0,Vi 0,Vt b,Vt be,.slice c e f]):=by simp [Yl,execOp,k,l,m];kernel_rfl
theorem sH {a b c e f h i j k l m n o p q r s t u v x y}(z:ρ y=.agg #[Vi a,Vi b,Vi c,Vt e,Vt f,Vi h,Vi i,.slice j k l,Vt m,Vi n,.slice o p q,.slice r s t,.slice u v x]):(execOp ρ ⟨d,.buildSlice 37 1 #[(0,y)],ty,pos,af,g⟩).run prog w=.ok (.value (.slice (some ⟨w.heap.size,0,none⟩) 1 1)) (w.alloc (.cells #[Vi a,Vi b,Vi c,Vt e,Vt f,Vi h,Vi i,.slice j k l,Vt m,Vi n,.slice o p q,.slice r s t,.slice u v x] 122)):=by simp [execOp,z];kernel_rfl
theorem V8 {a b}(c:ρ b=Vi a):Yl prog ρ (.build 122 #[(1,b)]) d ty pos af g w (.agg #[Vi 0,Vi a,Vi 0,Vt be,Vt be,Vi 0,Vi 0,sn,Vt be,Vi 0,sn,sn,sn]):=by simp [Yl,execOp,c];kernel_rfl
theorem VW {a b}(c:ρ b=Vt a):Yl prog ρ (.build 115 #[(0,b)]) d ty pos af g w (.agg #[Vt a,sn]):=by simp [Yl,execOp,c];kernel_rfl
theorem NT {a b c e f}(h:ρ f=.agg #[Vt a,.slice b c e]):(execOp ρ ⟨d,.buildSlice 23 1 #[(0,f)],ty,pos,af,g⟩).run prog w=.ok (.value (.slice (some ⟨w.heap.size,0,none⟩) 1 1)) (w.alloc (.cells #[Vt a,.slice b c e] 115)):=by simp [execOp,h];kernel_rfl
theorem ZR {a b}(c:ρ b=Vi a):Yl prog ρ (.build 39 #[(1,b)]) d ty pos af g w (.agg #[Vt be,Vi a,sn,sn]):=by simp [Yl,execOp,c];kernel_rfl
theorem Td {a b c e}(f:ρ c=Vi a)(h:ρ e=Vi b):Yl prog ρ (.build 122 #[(0,c),(1,e)]) d ty pos af g w (.agg #[Vi a,Vi b,Vi 0,Vt be,Vt be,Vi 0,Vi 0,sn,Vt be,Vi 0,sn,sn,sn]):=by simp [Yl,execOp,f,h];kernel_rfl
theorem Ox {a b c e f h i j k}(l:ρ k=.agg #[Vt a,Vi b,.slice c e f,.slice h i j]):(execOp ρ ⟨d,.buildSlice 24 1 #[(0,k)],ty,pos,af,g⟩).run prog w=.ok (.value (.slice (some ⟨w.heap.size,0,none⟩) 1 1)) (w.alloc (.cells #[Vt a,Vi b,.slice c e f,.slice h i j] 39)):=by simp [execOp,l];kernel_rfl
theorem Xy :Yl prog ρ (.build 26 #[]) d ty pos af g w (.agg #[sn,sn]):=by simp [Yl,execOp];kernel_rfl
theorem Za {a b c e}(f:ρ e=.slice a b c):Yl prog ρ (.build 84 #[(0,e)]) d ty pos af g w (.agg #[.slice a b c,Vi 0,Vi 0,Vi 0]):=by simp [Yl,execOp,f];kernel_rfl
theorem rT {a b c e f h i j}(k:ρ f=Vt a)(l:ρ h=Vt b)(m:ρ i=Vt c)(n:ρ j=Vt e):(execOp ρ ⟨d,.buildSlice 36 4 #[(0,f),(1,h),(2,i),(3,j)],ty,pos,af,g⟩).run prog w=.ok (.value (.slice (some ⟨w.heap.size,0,none⟩) 4 4)) (w.alloc (.cells #[Vt a,Vt b,Vt c,Vt e] 9)):=by simp [execOp,k,l,m,n];kernel_rfl
theorem LB {a b c e}(f:ρ c=Vi a)(h:ρ e=Vt b):Yl prog ρ (.build 122 #[(0,c),(3,e)]) d ty pos af g w (.agg #[Vi a,Vi 0,Vi 0,Vt b,Vt be,Vi 0,Vi 0,sn,Vt be,Vi 0,sn,sn,sn]):=by simp [Yl,execOp,f,h];kernel_rfl
theorem Fp {a b}(c:ρ b=Vi a):Yl prog ρ (.build 122 #[(0,b)]) d ty pos af g w (.agg #[Vi a,Vi 0,Vi 0,Vt be,Vt be,Vi 0,Vi 0,sn,Vt be,Vi 0,sn,sn,sn]):=by simp [Yl,execOp,c];kernel_rfl
theorem qV {a b c e f h}(i:ρ f=Vi a)(j:ρ h=.slice b c e):Yl prog ρ (.build 122 #[(0,f),(10,h)]) d ty pos af g w (.agg #[Vi a,Vi 0,Vi 0,Vt be,Vt be,Vi 0,Vi 0,sn,Vt be,Vi 0,.slice b c e,sn,sn]):=by simp [Yl,execOp,i,j];kernel_rfl
theorem mR :(execOp ρ ⟨d,.buildSlice 36 0 #[],ty,pos,af,g⟩).run prog w=.ok (.value (.slice (some ⟨w.heap.size,0,none⟩) 0 0)) (w.alloc (.cells #[] 9)):=by simp [execOp];kernel_rfl
theorem LY {a b c e f h i j k l}(m:ρ j=Vi a)(n:ρ k=.slice b c e)(o:ρ l=.slice f h i):Yl prog ρ (.build 122 #[(0,j),(7,k),(10,l)]) d ty pos af g w (.agg #[Vi a,Vi 0,Vi 0,Vt be,Vt be,Vi 0,Vi 0,.slice b c e,Vt be,Vi 0,.slice f h i,sn,sn]):=by simp [Yl,execOp,m,n,o];kernel_rfl
theorem UG {a b c e f h i j k l m n o p q r s t u v x y z A B C D E F G H I J K L M N O P Q R S T U}(V:ρ T=.agg #[Vi a,Vi b,Vi c,Vt e,Vt f,Vi h,Vi i,.slice j k l,Vt m,Vi n,.slice o p q,.slice r s t,.slice u v x])(W:ρ U=.agg #[Vi y,Vi z,Vi A,Vt B,Vt C,Vi D,Vi E,.slice F G H,Vt I,Vi J,.slice K L M,.slice N O P,.slice Q R S]):(execOp ρ ⟨d,.buildSlice 37 2 #[(0,T),(1,U)],ty,pos,af,g⟩).run prog w=.ok (.value (.slice (some ⟨w.heap.size,0,none⟩) 2 2)) (w.alloc (.cells #[Vi a,Vi b,Vi c,Vt e,Vt f,Vi h,Vi i,.slice j k l,Vt m,Vi n,.slice o p q,.slice r s t,.slice u v x,Vi y,Vi z,Vi A,Vt B,Vt C,Vi D,Vi E,.slice F G H,Vt I,Vi J,.slice K L M,.slice N O P,.slice Q R S] 122)):=by simp [execOp,V,W];kernel_rfl
theorem JY {a b c e f h i j k l}(m:ρ j=Vi a)(n:ρ k=.slice b c e)(o:ρ l=.slice f h i):Yl prog ρ (.build 122 #[(0,j),(10,k),(11,l)]) d ty pos af g w (.agg #[Vi a,Vi 0,Vi 0,Vt be,Vt be,Vi 0,Vi 0,sn,Vt be,Vi 0,.slice b c e,.slice f h i,sn]):=by simp [Yl,execOp,m,n,o];kernel_rfl
theorem Wt {a b c e}(f:ρ e=.slice a b c):Yl prog ρ (.build 129 #[(0,e)]) d ty pos af g w (.agg #[.slice a b c,Vi 0]):=by simp [Yl,execOp,f];kernel_rfl
theorem SQ {a b c e f h}(i:ρ f=Vt a)(j:ρ h=.slice b c e):Yl prog ρ (.build 115 #[(0,f),(1,h)]) d ty pos af g w (.agg #[Vt a,.slice b c e]):=by simp [Yl,execOp,i,j];kernel_rfl
theorem Yk {a b c e}(f:ρ e=.slice a b c):Yl prog ρ (.build 26 #[(0,e)]) d ty pos af g w (.agg #[.slice a b c,sn]):=by simp [Yl,execOp,f];kernel_rfl
theorem Ux {a b c e f h i j}(k:ρ f=Vi a)(l:ρ h=Vi b)(m:ρ i=Vi c)(n:ρ j=Vi e):(execOp ρ ⟨d,.buildSlice 22 4 #[(0,f),(1,h),(2,i),(3,j)],ty,pos,af,g⟩).run prog w=.ok (.value (.slice (some ⟨w.heap.size,0,none⟩) 4 4)) (w.alloc (.cells #[Vi a,Vi b,Vi c,Vi e] 3)):=by simp [execOp,k,l,m,n];kernel_rfl
theorem Ig {a b c e f h i j k l m n}(o:ρ j=.pointer a)(p:ρ k=Vi b)(q:ρ l=Vi c)(r:ρ m=.slice e f h)(s:ρ n=Vi i):Yl prog ρ (.build 132 #[(0,j),(1,k),(2,l),(3,m),(8,n)]) d ty pos af g w (.agg #[.pointer a,Vi b,Vi c,.slice e f h,sn,sn,sn,Vi 0,Vi i]):=by simp [Yl,execOp,o,p,q,r,s];kernel_rfl
theorem uY {a b c e f h}(i:ρ f=Vt a)(j:ρ h=.slice b c e):Yl prog ρ (.build 39 #[(0,f),(2,h)]) d ty pos af g w (.agg #[Vt a,Vi 0,.slice b c e,sn]):=by simp [Yl,execOp,i,j];kernel_rfl
theorem Uz {a b c e f h i j}(k:ρ j=.agg #[Vt a,Vi b,Vi c,Vi e,.bool f,Vi h,Vi i]):(execOp ρ ⟨d,.buildSlice 96 1 #[(0,j)],ty,pos,af,g⟩).run prog w=.ok (.value (.slice (some ⟨w.heap.size,0,none⟩) 1 1)) (w.alloc (.cells #[Vt a,Vi b,Vi c,Vi e,.bool f,Vi h,Vi i] 98)):=by simp [execOp,k];kernel_rfl
theorem FZ :(execOp ρ ⟨d,.buildSlice 22 0 #[],ty,pos,af,g⟩).run prog w=.ok (.value (.slice (some ⟨w.heap.size,0,none⟩) 0 0)) (w.alloc (.cells #[] 3)):=by simp [execOp];kernel_rfl
theorem OH {a b c e f h}(i:ρ e=Vi a)(j:ρ f=Vi b)(k:ρ h=Vi c):Yl prog ρ (.build 171 #[(0,e),(1,f),(2,h)]) d ty pos af g w (.agg #[Vi a,Vi b,Vi c]):=by simp [Yl,execOp,i,j,k];kernel_rfl
theorem Tv {a b c e}(f:ρ e=.agg #[Vi a,Vi b,Vi c]):(execOp ρ ⟨d,.buildSlice 28 1 #[(0,e)],ty,pos,af,g⟩).run prog w=.ok (.value (.slice (some ⟨w.heap.size,0,none⟩) 1 1)) (w.alloc (.cells #[Vi a,Vi b,Vi c] 171)):=by simp [execOp,f];kernel_rfl
theorem DC {a b c e f h i j k l}(m:ρ h=Vt a)(n:ρ i=Vi b)(o:ρ j=Vi c)(p:ρ k=Vi e)(q:ρ l=Vi f):Yl prog ρ (.build 98 #[(0,h),(1,i),(2,j),(3,k),(5,l)]) d ty pos af g w (.agg #[Vt a,Vi b,Vi c,Vi e,.bool false,Vi f,Vi 0]):=by simp [Yl,execOp,m,n,o,p,q];kernel_rfl
theorem GU {a b c e f h i j k l m n}(o:ρ i=Vt a)(p:ρ j=Vi b)(q:ρ k=Vi c)(r:ρ l=Vi e)(s:ρ m=.bool f)(t:ρ n=Vi h):Yl prog ρ (.build 98 #[(0,i),(1,j),(2,k),(3,l),(4,m),(5,n)]) d ty pos af g w (.agg #[Vt a,Vi b,Vi c,Vi e,.bool f,Vi h,Vi 0]):=by simp [Yl,execOp,o,p,q,r,s,t];kernel_rfl
theorem Vk :(execOp ρ ⟨d,.buildSlice 24 0 #[],ty,pos,af,g⟩).run prog w=.ok (.value (.slice (some ⟨w.heap.size,0,none⟩) 0 0)) (w.alloc (.cells #[] 39)):=by simp [execOp];kernel_rfl
theorem Uu {a b c e f h i j}(k:ρ i=.slice a b c)(l:ρ j=.slice e f h):Yl prog ρ (.build 26 #[(0,i),(1,j)]) d ty pos af g w (.agg #[.slice a b c,.slice e f h]):=by simp [Yl,execOp,k,l];kernel_rfl
theorem Y0 {a b c e f h i}(j:ρ i=.agg #[.slice a b c,.slice e f h]):Yl prog ρ (.build 30 #[(0,i)]) d ty pos af g w (.agg #[.slice a b c,.slice e f h,sn,sn]):=by simp [Yl,execOp,j];kernel_rfl
theorem Yu {a b c e f h i j k l m n o}(p:ρ o=.agg #[.slice a b c,.slice e f h,.slice i j k,.slice l m n]):Yl prog ρ (.build 90 #[(0,o)]) d ty pos af g w (.agg #[.slice a b c,.slice e f h,.slice i j k,.slice l m n,Vi 0,sn,Vi 0,Vi 0]):=by simp [Yl,execOp,p];kernel_rfl
theorem U7 {a b c e}(f:ρ e=.slice a b c):(execOp ρ ⟨d,.buildSlice 27 1 #[(0,e)],ty,pos,af,g⟩).run prog w=.ok (.value (.slice (some ⟨w.heap.size,0,none⟩) 1 1)) (w.alloc (.cells #[.slice a b c] 96)):=by simp [execOp,f];kernel_rfl
theorem XA :Yl prog ρ (.build 30 #[]) d ty pos af g w (.agg #[sn,sn,sn,sn]):=by simp [Yl,execOp];kernel_rfl
end
theorem ny:TI prog 3 (Vi 0) 1 8:=oW (by kernel_rfl)
theorem Pz:TI prog 4 (.bool false) 1 1:=oW (by kernel_rfl)
theorem ti5:TI prog 5 (.int .u8 0) 1 1:=oW (by kernel_rfl)
theorem qp:TI prog 9 (Vt be) 1 16:=oW (by kernel_rfl)
theorem xg:TI prog 22 sn 1 24:=oW (by kernel_rfl)
theorem abB:TI prog 23 sn 1 24:=oW (by kernel_rfl)
theorem Z5:TI prog 24 sn 1 24:=oW (by kernel_rfl)
theorem vG:TI prog 26 (.agg #[sn,sn]) 2 48:=oW (by kernel_rfl)
theorem abm:TI prog 27 sn 1 24:=oW (by kernel_rfl)
theorem aa9:TI prog 28 sn 1 24:=oW (by kernel_rfl)
theorem xL:TI prog 30 (.agg #[sn,sn,sn,sn]) 4 96:=oW (by kernel_rfl)
theorem MB:TI prog 41 (Vi 0) 1 8:=oW (by kernel_rfl)
theorem uX:TI prog 43 (.agg #[Vi 0,.bool false,Vi 0,sn]) 4 48:=oW (by kernel_rfl)
theorem Yn:TI prog 57 sn 1 24:=oW (by kernel_rfl)
theorem E5:TI prog 59 (.agg #[sn]) 1 24:=oW (by kernel_rfl)
theorem YA:TI prog 60 sn 1 24:=oW (by kernel_rfl)
theorem CP:TI prog 62 (.agg #[Vi 0,Vi 0,sn]) 3 40:=oW (by kernel_rfl)
theorem aaL:TI prog 63 sn 1 24:=oW (by kernel_rfl)
theorem HZ:TI prog 65 (.agg #[Vi 0,sn,sn]) 3 56:=oW (by kernel_rfl)
theorem za:TI prog 98 (.agg #[Vt be,Vi 0,Vi 0,Vi 0,.bool false,Vi 0,Vi 0]) 7 64:=oW (by kernel_rfl)
theorem Gq:TI prog 96 sn 1 24:=oW (by kernel_rfl)
theorem aby:TI prog 171 (.agg #[Vi 0,Vi 0,Vi 0]) 3 24:=oW (by kernel_rfl)
theorem pK:TI prog 36 sn 1 24:=oW (by kernel_rfl)
theorem Cw:TI prog 37 sn 1 24:=oW (by kernel_rfl)
theorem oU:TI prog 39 (.agg #[Vt be,Vi 0,sn,sn]) 4 72:=oW (by kernel_rfl)
theorem adQ:TI prog 79 sn 1 24:=oW (by kernel_rfl)
theorem wK:TI prog 120 sn 1 24:=oW (by kernel_rfl)
theorem jQ:TI prog 122 (.agg #[Vi 0,Vi 0,Vi 0,Vt be,Vt be,Vi 0,Vi 0,sn,Vt be,Vi 0,sn,sn,sn]) 13 192:=oW (by kernel_rfl)
theorem yL:TI prog 115 (.agg #[Vt be,sn]) 2 40:=oW (by kernel_rfl)
theorem abD:TI prog 127 (.pointer none) 1 8:=oW (by kernel_rfl)
theorem jW:TI prog 135 (.agg #[Vi 0,Vi 0,Vi 0,Vt be,Vt be,sn]) 6 80:=oW (by kernel_rfl)
theorem qM:TI prog 109 (.agg #[Vi 0,Vi 0,Vt be,Vi 0]) 4 40:=oW (by kernel_rfl)
theorem uq {n:Nat} {f:Func} (h:prog.funcs[n]?=some f) (a:(f.name=="runtime.NumGoroutine")=false:=by kernel_rfl) (b:f.body.isNone=false:=by kernel_rfl):jH prog n:=⟨_,h,a,b⟩
theorem adN:jH prog 5:=uq func5
theorem aaE:jH prog 6:=uq func6
theorem adZ:jH prog 8:=uq func8
theorem DL:jH prog 7:=uq func7
theorem RY:jH prog 9:=uq func9
theorem Rc:jH prog 10:=uq func10
theorem abF:jH prog 12:=uq func12
theorem ab2:jH prog 13:=uq func13
theorem Xt:jH prog 23:=uq func23
theorem YG:jH prog 113:=uq func113
theorem abS:jH prog 15:=uq func15
theorem abI:jH prog 16:=uq func16
theorem Z6:jH prog 108:=uq func108
theorem ZP:jH prog 110:=uq func110
theorem XW:jH prog 14:=uq func14
theorem XG:jH prog 17:=uq func17
theorem acA:jH prog 18:=uq func18
theorem acv:jH prog 22:=uq func22
theorem aco:jH prog 26:=uq func26
theorem acp:jH prog 27:=uq func27
theorem aaQ:jH prog 24:=uq func24
theorem acg:jH prog 25:=uq func25
theorem abR:jH prog 28:=uq func28
theorem X0:jH prog 29:=uq func29
theorem ab1:jH prog 32:=uq func32
theorem XK:jH prog 42:=uq func42
theorem KM:jH prog 43:=uq func43
theorem oZ:jH prog 44:=uq func44
theorem Yh:jH prog 45:=uq func45
theorem HY:jH prog 46:=uq func46
theorem X5:jH prog 33:=uq func33
theorem acO:jH prog 34:=uq func34
theorem xu:jH prog 35:=uq func35
theorem EF:jH prog 36:=uq func36
theorem xW:jH prog 37:=uq func37
theorem XZ:jH prog 38:=uq func38
theorem KL:jH prog 39:=uq func39
theorem FI:jH prog 40:=uq func40
theorem FE:jH prog 41:=uq func41
theorem AZ:jH prog 47:=uq func47
theorem TJ:jH prog 48:=uq func48
theorem QI:jH prog 49:=uq func49
theorem G8:jH prog 58:=uq func58
theorem KU:jH prog 59:=uq func59
theorem LC:jH prog 60:=uq func60
theorem acP:jH prog 61:=uq func61
theorem abh:jH prog 62:=uq func62
theorem CO:jH prog 63:=uq func63
theorem Lm:jH prog 64:=uq func64
theorem abA:jH prog 65:=uq func65
theorem VE:jH prog 66:=uq func66
theorem Xp:jH prog 67:=uq func67
theorem abr:jH prog 68:=uq func68
theorem TN:jH prog 52:=uq func52
theorem Um:jH prog 53:=uq func53
theorem abT:jH prog 54:=uq func54
theorem acG:jH prog 55:=uq func55
theorem acJ:jH prog 56:=uq func56
theorem aaU:jH prog 57:=uq func57
theorem Xr:jH prog 69:=uq func69
theorem abP:jH prog 70:=uq func70
theorem acy:jH prog 85:=uq func85
theorem X8:jH prog 86:=uq func86
theorem JC:jH prog 87:=uq func87
theorem abj:jH prog 88:=uq func88
theorem XF:jH prog 89:=uq func89
theorem abz:jH prog 81:=uq func81
theorem Fx:jH prog 82:=uq func82
theorem Ny:jH prog 83:=uq func83
theorem abQ:jH prog 84:=uq func84
theorem acz:jH prog 90:=uq func90
theorem Vd:jH prog 91:=uq func91
theorem acf:jH prog 92:=uq func92
theorem Ue:jH prog 102:=uq func102
theorem ZH:jH prog 103:=uq func103
theorem VG:jH prog 104:=uq func104
theorem ZN:jH prog 105:=uq func105
theorem TM:jH prog 106:=uq func106
theorem Z8:jH prog 107:=uq func107
theorem Zm:jH prog 111:=uq func111
theorem ZT:jH prog 115:=uq func115
end
noncomputable section
abbrev Z {α:Type}(a:Option Addr)(l:List α)(c:Nat):Value:=.slice a l.length c
abbrev V (n:Int):Value:=Vi n
abbrev T (n:ByteArray):Value:=Vt n
abbrev sz (α:Type)[Rp α]:Nat:=Rp.sz α
abbrev O (e:Nat)(a:Option Addr)(c:Nat)(t:TypeId)(α:Type)[Rp α](q:List (List Value)):It:=.own e a c t (Rp.sz α) q
theorem ca {α:Type}{a:α}{l m:List α}:a :: l ++ m=a :: (l ++ m):=rfl
theorem na {α:Type}{l:List α}:[] ++ l=l:=rfl
theorem cb {a b:Bool}(h:a=b):Value.bool a=.bool b:=congrArg Value.bool h
theorem uO {p:Prop}[i:Decidable p](h:¬p):decide p=false:=oz h
theorem um {p:Prop}[i:Decidable p](h:p):decide p=true:=qF h
theorem mZ {f:Fr}{l:List (Nat × Value)}(h:Has f l):∃ g,f=JX g l:=mJ _ _ h
theorem wS {a:Bool}(h:¬a=true):Value.bool a=.bool false:=cb (nt h)
theorem s:type_of% @kr:=@kr
theorem q:type_of% @Im:=@Im
theorem g:type_of% @AX:=@AX
theorem n:type_of% @LH:=@LH
theorem y:type_of% @trivial:=@trivial
theorem mp:type_of% @oF:=@oF
theorem mi:type_of% @Qw:=@Qw
theorem xn:type_of% @Yv:=@Yv
theorem xi:type_of% @Kv:=@Kv
theorem wk:type_of% @Hz:=@Hz
theorem sc:type_of% @pW:=@pW
theorem ec:type_of% @l6:=@l6
theorem iv:type_of% @jB:=@jB
theorem tb:type_of% @WL:=@WL
theorem nT:type_of% @kJ:=@kJ
theorem oc:type_of% @Uw:=@Uw
theorem oo:type_of% @acH:=@acH
theorem os:type_of% @ace:=@ace
theorem pX:type_of% @kX.nil:=@kX.nil
abbrev BA:=ByteArray
abbrev Gv:=jy
abbrev Gi:=jZ
abbrev Ge:=jA
abbrev Gs:=jI
abbrev Gr:=kI
abbrev Gn:=kW
abbrev Gm:=lU
abbrev Gt:=fV
theorem Ir:type_of% @underlying3:=@underlying3
theorem u4_:type_of% @underlying4:=@underlying4
theorem u5_:type_of% @underlying5:=@underlying5
theorem vL:type_of% @underlying9:=@underlying9
theorem ru:type_of% @underlying22:=@underlying22
theorem JM:type_of% @underlying23:=@underlying23
theorem Dw:type_of% @underlying24:=@underlying24
theorem DR:type_of% @underlying26:=@underlying26
theorem F7:type_of% @underlying27:=@underlying27
theorem O6:type_of% @underlying28:=@underlying28
theorem Du:type_of% @underlying30:=@underlying30
theorem GY:type_of% @underlying40:=@underlying40
theorem JK:type_of% @underlying43:=@underlying43
theorem D7:type_of% @underlying57:=@underlying57
theorem Z7:type_of% @underlying59:=@underlying59
theorem FD:type_of% @underlying60:=@underlying60
theorem PX:type_of% @underlying62:=@underlying62
theorem P8:type_of% @underlying63:=@underlying63
theorem Yp:type_of% @underlying65:=@underlying65
theorem IW:type_of% @underlying98:=@underlying98
theorem CJ:type_of% @underlying96:=@underlying96
theorem kZ:type_of% @underlying36:=@underlying36
theorem Cm:type_of% @underlying37:=@underlying37
theorem El:type_of% @underlying39:=@underlying39
theorem Eo:type_of% @underlying79:=@underlying79
theorem uE:type_of% @underlying120:=@underlying120
theorem lu:type_of% @underlying122:=@underlying122
theorem Lg:type_of% @underlying115:=@underlying115
theorem mq:type_of% @underlying135:=@underlying135
theorem Ce:type_of% @underlying109:=@underlying109
theorem QK:type_of% @underlying164:=@underlying164
def FA (t i k:Nat):Prop:=∀ {ρ:Operand->Value}{d:Option Nat}{ty:TypeId}{pos:String}{af:Array Edge}{g:Option (Nat × Bool)}{w:World}{x:Operand}{b o:Nat},ρ x=.pointer (some ⟨b,o,none⟩)->Yl prog ρ (.fieldAddr t x i) d ty pos af g w (.pointer (some ⟨b,o+k,none⟩))
def FB (t:Nat):Prop:=∀ {ρ:Operand->Value}{d:Option Nat}{ty:TypeId}{pos:String}{af:Array Edge}{g:Option (Nat × Bool)}{w:World}{x:Operand}{b o:Nat},ρ x=.pointer (some ⟨b,o,none⟩)->Yl prog ρ (.fieldAddr t x 0) d ty pos af g w (.pointer (some ⟨b,o,none⟩))
def LA (n:Nat):Prop:=∀ {ρ:Operand->Value}{d:Option Nat}{ty:TypeId}{pos:String}{af:Array Edge}{g:Option (Nat × Bool)}{w:World}{x:Operand}{b o:Nat}{t:TypeId}{cs:Array Value}{v:Value},ρ x=.pointer (some ⟨b,o,none⟩)->nS w b t cs->cs[o]?=some v->Yl prog ρ (.load n x) d ty pos af g w v
theorem fa {t:Nat}(i k:Nat){fs:Array Field}{f:Field}{z:Value}{s by_:Nat}(ht:prog.underlying t=some (.struct fs))(hf:fs[i]?=some f)(hk:f.offset=k)(hi:TI prog f.type z s by_)(hs:s≠0:=by decide):FA t i k:=UK ht hf hk hi hs
theorem fb {t:Nat}{fs:Array Field}{f:Field}{z:Value}{s by_:Nat}(ht:prog.underlying t=some (.struct fs))(hf:fs[0]?=some f)(hk:f.offset=0)(hi:TI prog f.type z s by_)(hs:s≠0:=by decide):FB t:=abV ht hf hk hi hs
theorem la {n:Nat}{D:TypeDesc}(hu:prog.underlying n=some D)(hD:Km D=false):LA n:=fun h hb hi=>jV hu hD h (hb.cell hi)
section
variable {ρ:Operand->Value}{d:Option Nat}{ty:TypeId}{pos:String}{af:Array Edge}{g:Option (Nat × Bool)}{w:World}{x:Operand}{b o:Nat}
theorem FU:FB 26:=fb DR rfl rfl abB
theorem Bt:FA 26 1 1:=fa 1 1 DR rfl rfl Z5
theorem Ga:FB 30:=fb Du rfl rfl vG
theorem Ck:FA 30 1 2:=fa 1 2 Du rfl rfl abm
theorem Hy:FA 30 2 3:=fa 2 3 Du rfl rfl aa9
theorem Pg:FB 43:=fb JK rfl rfl MB
theorem Rl:FA 43 1 1:=fa 1 1 JK rfl rfl Pz
theorem Oc:FA 43 2 2:=fa 2 2 JK rfl rfl ny
theorem Vl:FA 43 3 3:=fa 3 3 JK rfl rfl xg
theorem XV:FB 62:=fb PX rfl rfl ny
theorem Yd:FA 62 1 1:=fa 1 1 PX rfl rfl ny
theorem XL:FB 65:=fb Yp rfl rfl ny
theorem XD:FA 65 1 1:=fa 1 1 Yp rfl rfl aaL
theorem Va:FA 65 2 2:=fa 2 2 Yp rfl rfl xg
theorem Et:FB 59:=fb Z7 rfl rfl Yn
theorem DJ:FA 62 2 2:=fa 2 2 PX rfl rfl YA
theorem Yi:FB 98:=fb IW rfl rfl qp
theorem UN:FA 98 1 1:=fa 1 1 IW rfl rfl ny
theorem Yf:FA 98 2 2:=fa 2 2 IW rfl rfl ny
theorem U3:FA 98 3 3:=fa 3 3 IW rfl rfl ny
theorem XH:FA 98 5 5:=fa 5 5 IW rfl rfl ny
theorem Oz:FA 98 6 6:=fa 6 6 IW rfl rfl ny
theorem Oq:FB 39:=fb El rfl rfl qp
theorem RO:FA 39 1 1:=fa 1 1 El rfl rfl ny
theorem Hf:FA 39 2 2:=fa 2 2 El rfl rfl pK
theorem FP:FA 39 3 3:=fa 3 3 El rfl rfl Cw
theorem Dq:FB 84:=fb underlying84 rfl rfl adQ
theorem oI:FA 84 1 1:=fa 1 1 underlying84 rfl rfl ny
theorem X3:FA 84 2 2:=fa 2 2 underlying84 rfl rfl ny
theorem wM:FA 84 3 3:=fa 3 3 underlying84 rfl rfl MB
theorem zy:FB 122:=fb lu rfl rfl ny
theorem Co:FA 122 1 1:=fa 1 1 lu rfl rfl ny
theorem Qf:FA 122 2 2:=fa 2 2 lu rfl rfl ny
theorem Br:FA 122 3 3:=fa 3 3 lu rfl rfl qp
theorem IL:FA 122 4 4:=fa 4 4 lu rfl rfl qp
theorem DK:FA 122 5 5:=fa 5 5 lu rfl rfl ny
theorem Jh:FA 122 6 6:=fa 6 6 lu rfl rfl ny
theorem zI:FA 122 7 7:=fa 7 7 lu rfl rfl wK
theorem EX:FA 122 8 8:=fa 8 8 lu rfl rfl qp
theorem IY:FA 122 9 9:=fa 9 9 lu rfl rfl ny
theorem sQ:FA 122 10 10:=fa 10 10 lu rfl rfl wK
theorem yQ:FA 122 11 11:=fa 11 11 lu rfl rfl Cw
theorem zk:FA 122 12 12:=fa 12 12 lu rfl rfl Cw
theorem uz:FB 90:=fb underlying90 rfl rfl xL
theorem EA:FA 90 1 4:=fa 1 4 underlying90 rfl rfl ny
theorem Ez:FA 90 2 5:=fa 2 5 underlying90 rfl rfl xg
theorem Yc:FA 90 3 6:=fa 3 6 underlying90 rfl rfl ny
theorem Dt:FA 90 4 7:=fa 4 7 underlying90 rfl rfl MB
theorem Mj:FB 115:=fb Lg rfl rfl qp
theorem Ee:FA 115 1 1:=fa 1 1 Lg rfl rfl pK
theorem Qq:FB 129:=fb underlying129 rfl rfl xg
theorem II:FA 129 1 1:=fa 1 1 underlying129 rfl rfl ny
theorem qm:FB 132:=fb underlying132 rfl rfl abD
theorem ZJ:FA 132 1 1:=fa 1 1 underlying132 rfl rfl ny
theorem PV:FA 132 2 2:=fa 2 2 underlying132 rfl rfl ny
theorem ZY:FA 132 3 3:=fa 3 3 underlying132 rfl rfl xg
theorem nG:FA 132 4 4:=fa 4 4 underlying132 rfl rfl pK
theorem qX:FA 132 5 5:=fa 5 5 underlying132 rfl rfl pK
theorem rY:FA 132 6 6:=fa 6 6 underlying132 rfl rfl pK
theorem G5:FA 132 7 7:=fa 7 7 underlying132 rfl rfl ny
theorem Qk:FA 132 8 8:=fa 8 8 underlying132 rfl rfl ny
theorem Cr:FB 135:=fb mq rfl rfl ny
theorem L9:FA 135 1 1:=fa 1 1 mq rfl rfl ny
theorem Tx:FA 135 2 2:=fa 2 2 mq rfl rfl ny
theorem LK:FA 135 3 3:=fa 3 3 mq rfl rfl qp
theorem Ve:FA 135 4 4:=fa 4 4 mq rfl rfl qp
theorem Di:FA 135 5 5:=fa 5 5 mq rfl rfl wK
theorem QD:FB 109:=fb Ce rfl rfl ny
theorem MZ:FA 109 1 1:=fa 1 1 Ce rfl rfl ny
theorem MR:FA 109 2 2:=fa 2 2 Ce rfl rfl qp
theorem Vs:FA 109 3 3:=fa 3 3 Ce rfl rfl ny
theorem l3:LA 3:=la Ir rfl
theorem l4:LA 4:=la u4_ rfl
theorem l9:LA 9:=la vL rfl
theorem Qa:LA 22:=la ru rfl
theorem Yg:LA 23:=la JM rfl
theorem Rb:LA 24:=la Dw rfl
theorem Si:LA 27:=la F7 rfl
theorem ZM:LA 28:=la O6 rfl
theorem DY:LA 41:=la underlying41 rfl
theorem l57:LA 57:=la D7 rfl
theorem WM:LA 60:=la FD rfl
theorem Ca:LA 36:=la kZ rfl
theorem SN:LA 37:=la Cm rfl
theorem Tg:LA 79:=la Eo rfl
theorem BZ:LA 120:=la uE rfl
theorem zn:LA 127:=la underlying127 rfl
end
section
variable {P:Program}{N:Fz}{ops:Array Oper}{f:Fr}{w w0:World}{n:Nat}{K:KK}{Lb:Array Bool}{T:List Nat}{Y G:Nat->Prop}{L:List It}{D:List Da}{S1 S:World->Prop}
theorem pF (i : Nat){oi : Oper}{v : Value}(hi : ops[i]? = some oi)(hy : ∀ {w : World}, (execOp (ev f) oi).run P w = .ok (.value v) w)(hs : S1 w)
 (k:tK P N ops S1 (fun _=>True) T K n (Lb.setIfInBounds i true) (nU f oi.dst v) w) (hw:uV ops f oi.guard=true:=by exact rfl) (hc:may ops T Lb i=true:=by kernel_rfl):tK P N ops S1 (fun _=>True) T K (n + 1) Lb f w:=tP i hi (fun _=>hy) (sF hs) k hw hc
theorem pL (i : Nat){oi : Oper}{v : Value}(hi : ops[i]? = some oi)(hy : ∀ {w : World}, (execOp (ev f) oi).run P w = .ok (.value v) w)(hs : S1 w)(hu : S w)
 (k:tK P N ops S1 S T K n (Lb.setIfInBounds i true) (nU f oi.dst v) w) (hw:uV ops f oi.guard=true:=by exact rfl) (hc:may ops T Lb i=true:=by kernel_rfl):tK P N ops S1 S T K (n + 1) Lb f w:=tP i hi (fun _=>hy) (kJ hs hu) k hw hc
theorem uF (i : Nat){oi : Oper}{v : Value}(hi : ops[i]? = some oi)(hy : ∀ {w : World}, S1 w → (execOp (ev f) oi).run P w = .ok (.value v) w)(hs : S1 w)
 (k:tK P N ops S1 (fun _=>True) T K n (Lb.setIfInBounds i true) (nU f oi.dst v) w) (hw:uV ops f oi.guard=true:=by exact rfl) (hc:may ops T Lb i=true:=by kernel_rfl):tK P N ops S1 (fun _=>True) T K (n + 1) Lb f w:=tU i hi (fun _=>hy) (sF hs) k hw hc
theorem hO (i:Nat)(h:CS P N ops S1 S T K n Lb f w i)(hr:Region.ready .any ops Lb=[i]:=by kernel_rfl):tK P N ops S1 S T K (n + 1) Lb f w:=abW i hr h
theorem hD (h:K.n f w)(hr:Region.ready .any ops Lb=[]:=by kernel_rfl):tK P N ops S1 S T K n Lb f w:=ZL hr h
theorem sy (t:Nat)(h1:S1 w)(h:(T.contains t && Lb.getD t false)=true:=by kernel_rfl):GN S1 T S Lb w:=Ui t h1 h
theorem cf {g : FuncId}{fn : Func}{c : Code}{args : Array Value}{R : Value → World → Prop}(hf : P.funcs[g]? = some fn)(hb : fn.body = some c)
 (h:WP P (fn.ntmps,[]) c ⟨Reads P fn R,fun _ _ _=>False,Reads P fn R,fun _ _ _=>False⟩ (zD args) w) (hs:Nat.ble args.size fn.ntmps=true:=by exact rfl) (hok:Fj (fn.ntmps,[]) c=true:=by kernel_rfl):Calls P g args w (pU R):=VF hf hb (Nat.le_of_ble_eq_true hs) hok h
end
end
end Go.Proofs.YtfglbdkfnphjgaaGreat
namespace Go.Fw
theorem Bx.ad {w0 w:World}{Y G:Nat->Prop}{L:List It}{D:List Da}(h:Bx w0 w Y G L D)(l m:List Nat)(hn:nodup l=true:=by exact rfl):Bx w0 w Y G (pick L l) (pick D m):=(h.arr l hn).dp m
theorem Bx.le {w0 w:World}{Y G:Nat->Prop}{L:List It}{D:List Da}{e:Nat}(h:Bx w0 w Y G L D)(k:e<=w0.heap.size):e<=w.heap.size:=q9 k h.rM.size
theorem mG {α β γ:Type}{o:Option (α × β)}{f:α->β->Option γ}{X:γ}(h:(o.bind fun x=>iA x f)=some X):∃ a b,o=some (a,b)/\f a b=some X:=by obtain ⟨⟨a,b⟩,h1,h2⟩:=bs h;exact ⟨a,b,h1,h2⟩
theorem xA {α β γ δ:Type}{o:Option (α × β × γ)}{f:α->β->γ->Option δ}{X:δ}(h:(o.bind fun x=>iA x fun a y=>iA y (f a))=some X):∃ a b c,o=some (a,b,c)/\f a b c=some X:=by obtain ⟨⟨a,b,c⟩,h1,h2⟩:=bs h;exact ⟨a,b,c,h1,h2⟩
theorem aaA {α β γ δ ε:Type}{o:Option (α × β × γ × δ)}{f:α->β->γ->δ->Option ε}{X:ε}(h:(o.bind fun x=>iA x fun a y=>iA y fun b z=>iA z (f a b))=some X):∃ a b c d,o=some (a,b,c,d)/\f a b c d=some X:=by obtain ⟨⟨a,b,c,d⟩,h1,h2⟩:=bs h;exact ⟨a,b,c,d,h1,h2⟩
theorem Ec {α β γ δ:Type}{a:α}{b:β}{c:γ}{f:α->β->γ->δ}{X:δ}(h:iA (a,b,c) (fun x y=>iA y (f x))=X):f a b c=X:=h
theorem mY {α β γ ε δ:Type}{a:α}{b:β}{c:γ}{d:ε}{f:α->β->γ->ε->δ}{X:δ}(h:iA (a,b,c,d) (fun x y=>iA y fun u v=>iA v (f x u))=X):f a b c d=X:=h
section
variable {P:Program}{N:Fz}{ops:Array Oper}{K:KK}{rest:List Oper}{f:Fr}{w w0:World}{d:Option Nat}{op:Op}{ty:TypeId}{pos:String}{af:Array Edge}{Z G:Nat->Prop}{L:List It}{D:List Da}
theorem su (h:Bx w0 w Z G L D){t:TypeId}{cs:Array Value}(e:(execOp (ev f) ⟨d,op,ty,pos,af,none⟩).run P w=.ok (.value (.pointer (some ⟨w.heap.size,0,none⟩))) (w.alloc (.cells cs t)))(k:∀ w' b,Bx w0 w' Z G (.box b t cs :: L) D->pV P N ops K rest (nU f d (.pointer (some ⟨b,0,none⟩))) w'):pV P N ops K (⟨d,op,ty,pos,af,none⟩ :: rest) f w:=nW (nD h e) (by rintro _ w' ⟨b,rfl,h⟩;exact k w' b h)
end
def spl:List Value→Nat→List Value→List Value
 | [],_,_=>[]
 | a :: l,0,[]=>a :: l
 | _ :: l,0,v :: m=>v :: spl l 0 m
 | a :: l,n+1,m=>a :: spl l n m
theorem PN:∀ (l:List Value)(o:Nat)(m:List Value),o+m.length≤l.length→spl l o m=l.take o ++ m ++ l.drop (o+m.length)
 | [],o,m,h=>by have h1:m=[]:=List.length_eq_zero_iff.1 (by simp only [uR] at h;omega);subst h1;simp [spl]
 | a :: l,0,[],_=>by simp [spl]
 | a :: l,0,v :: m,h=>by have:=PN l 0 m (by simp only [tT] at h;omega);simp only [spl,this];simp
 | a :: l,n+1,m,h=>by have:=PN l n m (by simp only [tT] at h;omega);rw [spl,this,show n+1+m.length=(n+m.length)+1 by omega];simp
section
variable {P:Program}{ρ:Operand->Value}{w w' w0:World}{d:Option Nat}{ty:TypeId}{pos:String}{af:Array Edge}{g:Option (Nat × Bool)}{Z G:Nat->Prop}{L L' L1 Lc:List It}{D D' D1:List Da}
theorem oM (hL:Bx w0 w Z G L D)(i:Nat){t te:TypeId}{x y:Operand}{z:Value}{s by_ b:Nat}{old:Array Value}(vs:List Value)(hi:L[i]?=some (.box b te old))(ht:TI P t z s by_)(hx:ρ x=.pointer (some ⟨b,0,none⟩))(hy:(ρ y).cells=vs.toArray)(e:L.set i (.box b te vs.toArray)=L':=by (try dsimp only [List.set]);all_goals exact rfl)(hs:s=vs.length:=by exact rfl)(h1:vs.all (fun v=>v.oneCell')=true:=by exact rfl)(hl:Nat.beq vs.length old.size=true:=by exact rfl) :TV P ρ ⟨d,.store t x y,ty,pos,af,g⟩ w fun w'=>Bx w0 w' Z G L' D:=by have h:=Nat.eq_of_beq_eq_true hl;subst e;refine WL hL i vs hi ht hs hx hy h1 (Nat.ble_eq_true_of_le (by rw [Bh,h];exact oH _)) ?_;rw [Bh,List.take_zero,Gg,List.drop_eq_nil_of_le (by rw [h];simp),vJ]
theorem t_n (hL:Bx w0 w Z G L D)(i:Nat){t te:TypeId}{x y:Operand}{z:Value}{s by_ b o:Nat}{old cs':List Value}(vs:List Value)(hi:L[i]?=some (.box b te old.toArray))(ht:TI P t z s by_)(hx:ρ x=.pointer (some ⟨b,o,none⟩))(hy:(ρ y).cells=vs.toArray)(hc:spl old o vs=cs':=by (try dsimp only [spl]);all_goals exact rfl)(e:L.set i (.box b te cs'.toArray)=L':=by (try dsimp only [List.set]);all_goals exact rfl)(hs:s=vs.length:=by exact rfl)(h1:vs.all (fun v=>v.oneCell')=true:=by exact rfl)(hl:Nat.ble (o+vs.length) old.length=true:=by exact rfl) :TV P ρ ⟨d,.store t x y,ty,pos,af,g⟩ w fun w'=>Bx w0 w' Z G L' D:=by have h:=Nat.le_of_ble_eq_true hl;subst e hc;refine WL hL i vs hi ht hs hx hy h1 (Nat.ble_eq_true_of_le (by simpa using h)) ?_;rw [PN _ _ _ h]
theorem Bx.cn (h:Bx w0 w Z G L D)(i r:List Nat)(k:Bx w w' (Ei w0 Z (pick L i ++ pick L r)) (lH Lc) L1 D1)(hL:L1 ++ pick L r=L':=by (try dsimp only [pick,nth,List.cons_append,List.nil_append]);all_goals exact rfl)(hD:D1 ++ D=D':=by (try dsimp only [List.cons_append,List.nil_append]);all_goals exact rfl)(e:pick L i=Lc:=by exact rfl)(hn:nodup (i ++ r)=true:=by exact rfl):Bx w0 w' Z G L' D':=by subst hL hD;exact h.cl i r hn k e
theorem Bx.fz (h:Bx w0 w Z G L D)(i j:Nat){α:Type}[Rp α]{e:TypeId}{A:Option Addr}{c:Nat}{cs:List (List Value)}{l:List α}(hi:L[i]?=some (.own w0.heap.size A c e (Rp.sz α) cs))(hj:D[j]?=some (.els cs l))(hL:L.eraseIdx i=L':=by (try dsimp only [List.eraseIdx]);all_goals exact rfl)(hD:D.eraseIdx j=D':=by (try dsimp only [List.eraseIdx]);all_goals exact rfl) :
  Bx w0 w Z G L' (.l A c l :: D'):=by
 subst hL hD;exact h.Ob i j hi hj
theorem Bx.rb (h:Bx w0 w Z G L D)(i:Nat){base:Nat}{A:Option Addr}{c sz:Nat}{e:TypeId}{cs:List (List Value)}(base':Nat)(hi:L[i]?=some (.own base A c e sz cs))(hb:base'<=base)(hL:L.set i (.own base' A c e sz cs)=L':=by (try dsimp only [List.set]);all_goals exact rfl):Bx w0 w Z G L' D:=by subst hL;exact h.reb i base' hi hb
theorem acE {t:TypeId}{x:Operand}{T:TypeDesc}{z:Value}{s by_:Nat}{α:Type}[Rp α]{F:Nat→Prop}{a:Option Addr}{c:Nat}{l:List α}{k:Nat}{y:α}(cs:List Value)(hu:P.underlying t=some T)(hi:TI P t z s by_)
 (hx:ρ x=.pointer (some ⟨nE a,ow a+k * Rp.sz α,none⟩)) (h:kX F w a c l) (hy:l[k]?=some y) (hD:Km T=true:=by exact rfl) (hs:s=cs.length:=by exact rfl) (hr:∀ ds,Rp.rep F w ds y->ds=cs:=by exact fun _ h=>h):Yl P ρ (.load t x) d ty pos af g w (.agg cs.toArray):=nA cs hu hD hi hs hx (uo h hy hr)
theorem l7 {t te:TypeId}{x:Operand}{T:TypeDesc}{z:Value}{s by_ b:Nat}{old:Array Value}(cs:List Value)(hu:P.underlying t=some T)(hi:TI P t z s by_)
 (hx:ρ x=.pointer (some ⟨b,0,none⟩)) (h:nS w b te old) (hD:Km T=true:=by exact rfl) (hs:s=cs.length:=by exact rfl) (hr:(old.toList.drop 0).take cs.length=cs:=by exact rfl):Yl P ρ (.load t x) d ty pos af g w (.agg cs.toArray):=nA cs hu hD hi hs hx (Cells.part h.cells (o2:=0) hr)
end
theorem KA {P:Program}{N:Fz}{n R:Fr->World->Prop}{X:Nat->Fr->World->Prop}{V:Fr->List PanicEntry->World->Prop}{f:Fr}{w w0 w1:World}{Z G:Nat->Prop}{L:List It}{D:List Da}(a:Bx w0 w1 Z G L D){x:Code}(J:(World->Prop)->Fr->World->Prop)(h:∀ J':Fr->World->Prop,(∀ f w,J (Bx w0 · Z G L D) f w->J' f w)->WP P N x ⟨J',X,R,V⟩ f w)(k:∀ f w,J (Bx w0 · Z G L D) f w->n f w):WP P N x ⟨n,X,R,V⟩ f w:=qR (J (Bx w0 · Z G L D)) h k
end Go.Fw
