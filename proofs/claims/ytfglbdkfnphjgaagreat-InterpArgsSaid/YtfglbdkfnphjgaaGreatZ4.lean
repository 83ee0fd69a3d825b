/- Types of the program, and facts about them. -/
import Derived.Test.YtfglbdkfnphjgaaGreatRows
import Derived.Test.YtfglbdkfnphjgaaGreatZ3
set_option linter.unusedVariables false
set_option maxHeartbeats 12800000
set_option linter.unusedSimpArgs false
set_option maxRecDepth 4000
namespace Go.Proofs.YtfglbdkfnphjgaaGreat
open Go.RowKit Go.Fw Go.Proofs.Tryz
theorem r.{u} {α:Sort u} {a:α}:a=a:=rfl
abbrev OA:=Option Addr
noncomputable section
structure jO where
 l:(List Int)
 a:Int
instance:Rp jO:=⟨2,32,fun F w cs x=>∃ (a1:OA) (c1:Nat),cs=[.slice a1 x.l.length c1,Vi x.a]/\kU F w a1 c1 x.l,fun h=>by obtain ⟨a1,c1,rfl,_⟩:=h;rfl,fun h=>by obtain ⟨a1,c1,rfl,_⟩:=h;rfl,fun h m=>by obtain ⟨a1,c1,h,k1⟩:=h;exact ⟨a1,c1,h,k1.mv m⟩⟩
theorem jO.out {F:Nat->Prop} {w:World} {cs:List Value} {x:jO} (h:Rp.rep F w cs x):∃ (a:OA) (b:Nat),cs=[.slice a x.l.length b,Vi x.a]/\kU F w a b x.l:=h
theorem jO.inn {F:Nat->Prop} {w:World} {cs:List Value} {x:jO} (h:∃ (a:OA) (b:Nat),cs=[.slice a x.l.length b,Vi x.a]/\kU F w a b x.l):Rp.rep F w cs x:=h
structure jA where
 e:Int
 d:Int
 g:Int
 b:ByteArray
 c:ByteArray
 a:(List jA)
inductive jA.R (F:Nat→Prop) (w:World):List Value→jA→Prop
 | mk (x:jA) (a1:OA) (c1:Nat) (C1:Nat->List Value) (h1:x.a.length<=c1/\c1<=maxLen) (k1:0 < x.a.length->a1=some ⟨mX a1,nU a1,none⟩/\F (mX a1)/\mX a1 < w.heap.size) (e1:∀ i y,x.a[i]?=some y->Cells w (mX a1) (nU a1+i * 6) (C1 i)) (r1:∀ i y,x.a[i]?=some y->jA.R F w (C1 i) y):jA.R F w [Vi x.e,Vi x.d,Vi x.g,Vt x.b,Vt x.c,.slice a1 x.a.length c1] x
instance:Rp jA where
 sz:=6
 bs:=80
 rep:=jA.R
 len h:=by cases h;rfl
 one h:=by cases h;rfl
 mv {F G w w' cs x} h m:=by
  induction h with
  | mk x a1 c1 C1 h1 k1 e1 r1 ih1=>exact .mk x a1 c1 C1 h1 (fun h0=>⟨(k1 h0).1,(m.1 _ (k1 h0).2.1 (k1 h0).2.2).1,Nat.lt_of_lt_of_le (k1 h0).2.2 m.2⟩) (fun i y hy=>(e1 i y hy).same (m.1 _ (k1 (by have:=jW hy;omega)).2.1 (k1 (by have:=jW hy;omega)).2.2).2) ih1
theorem jA.out {F:Nat->Prop} {w:World} {cs:List Value} {x:jA} (h:Rp.rep F w cs x):∃ (a:OA) (b:Nat),cs=[Vi x.e,Vi x.d,Vi x.g,Vt x.b,Vt x.c,.slice a x.a.length b]/\kU F w a b x.a:=by
 cases h with
 | mk _ a b f e c j k=>exact ⟨a,b,rfl,⟨e.1,e.2,fun d=>⟨(c d).1,(c d).2.1,(c d).2.2,fun i l hy=>⟨f i,j i l hy,k i l hy⟩⟩⟩⟩
theorem jA.inn {F:Nat->Prop} {w:World} {cs:List Value} {x:jA} (h:∃ (b:OA) (c:Nat),cs=[Vi x.e,Vi x.d,Vi x.g,Vt x.b,Vt x.c,.slice b x.a.length c]/\kU F w b c x.a):Rp.rep F w cs x:=by obtain ⟨b,c,rfl,a⟩:=h;obtain ⟨e,f,i⟩:=a.fn;exact .mk x b c e ⟨a.1,a.2.1⟩ (fun d=>⟨(a.2.2 d).1,(a.2.2 d).2.1,(a.2.2 d).2.2.1⟩) f i
structure kT where
 c:Int
 f:Int
 a:ByteArray
 d:Int
instance:Rp kT:=⟨4,40,fun _ _ cs x=>cs=[Vi x.c,Vi x.f,Vt x.a,Vi x.d],fun h=>by rw [h];rfl,fun h=>by rw [h];rfl,fun h _=>h⟩
structure gP where
 l:(List kT)
 a:Int
 c:Int
 e:Int
instance:Rp gP:=⟨4,48,fun F w cs x=>∃ (a1:OA) (c1:Nat),cs=[.slice a1 x.l.length c1,Vi x.a,Vi x.c,Vi x.e]/\kU F w a1 c1 x.l,fun h=>by obtain ⟨a1,c1,rfl,_⟩:=h;rfl,fun h=>by obtain ⟨a1,c1,rfl,_⟩:=h;rfl,fun h m=>by obtain ⟨a1,c1,h,k1⟩:=h;exact ⟨a1,c1,h,k1.mv m⟩⟩
theorem gP.out {F:Nat->Prop} {w:World} {cs:List Value} {x:gP} (h:Rp.rep F w cs x):∃ (a:OA) (b:Nat),cs=[.slice a x.l.length b,Vi x.a,Vi x.c,Vi x.e]/\kU F w a b x.l:=h
theorem gP.inn {F:Nat->Prop} {w:World} {cs:List Value} {x:gP} (h:∃ (a:OA) (b:Nat),cs=[.slice a x.l.length b,Vi x.a,Vi x.c,Vi x.e]/\kU F w a b x.l):Rp.rep F w cs x:=h
structure jI where
 c:Int
 f:Int
 n:Int
 b:ByteArray
 k:ByteArray
 m:Int
 g:Int
 d:(List jA)
 j:ByteArray
 i:Int
 a:(List jA)
 e:(List jI)
 h:(List jI)
inductive jI.R (F:Nat→Prop) (w:World):List Value→jI→Prop
 | mk (x:jI) (a1:OA) (c1:Nat) (a2:OA) (c2:Nat) (a3:OA) (c3:Nat) (a4:OA) (c4:Nat) (k1:kU F w a1 c1 x.d) (k2:kU F w a2 c2 x.a) (C3:Nat->List Value) (h3:x.e.length<=c3/\c3<=maxLen) (k3:0 < x.e.length->a3=some ⟨mX a3,nU a3,none⟩/\F (mX a3)/\mX a3 < w.heap.size) (e3:∀ i y,x.e[i]?=some y->Cells w (mX a3) (nU a3+i * 13) (C3 i)) (r3:∀ i y,x.e[i]?=some y->jI.R F w (C3 i) y) (C4:Nat->List Value) (h4:x.h.length<=c4/\c4<=maxLen) (k4:0 < x.h.length->a4=some ⟨mX a4,nU a4,none⟩/\F (mX a4)/\mX a4 < w.heap.size) (e4:∀ i y,x.h[i]?=some y->Cells w (mX a4) (nU a4+i * 13) (C4 i)) (r4:∀ i y,x.h[i]?=some y->jI.R F w (C4 i) y):jI.R F w [Vi x.c,Vi x.f,Vi x.n,Vt x.b,Vt x.k,Vi x.m,Vi x.g,.slice a1 x.d.length c1,Vt x.j,Vi x.i,.slice a2 x.a.length c2,.slice a3 x.e.length c3,.slice a4 x.h.length c4] x
instance:Rp jI where
 sz:=13
 bs:=192
 rep:=jI.R
 len h:=by cases h;rfl
 one h:=by cases h;rfl
 mv {F G w w' cs x} h m:=by
  induction h with
  | mk x a1 c1 a2 c2 a3 c3 a4 c4 k1 k2 C3 h3 k3 e3 r3 C4 h4 k4 e4 r4 ih3 ih4=>exact .mk x a1 c1 a2 c2 a3 c3 a4 c4 (k1.mv m) (k2.mv m) C3 h3 (fun h0=>⟨(k3 h0).1,(m.1 _ (k3 h0).2.1 (k3 h0).2.2).1,Nat.lt_of_lt_of_le (k3 h0).2.2 m.2⟩) (fun i y hy=>(e3 i y hy).same (m.1 _ (k3 (by have:=jW hy;omega)).2.1 (k3 (by have:=jW hy;omega)).2.2).2) ih3 C4 h4 (fun h0=>⟨(k4 h0).1,(m.1 _ (k4 h0).2.1 (k4 h0).2.2).1,Nat.lt_of_lt_of_le (k4 h0).2.2 m.2⟩) (fun i y hy=>(e4 i y hy).same (m.1 _ (k4 (by have:=jW hy;omega)).2.1 (k4 (by have:=jW hy;omega)).2.2).2) ih4
theorem jI.out {F:Nat->Prop} {w:World} {cs:List Value} {x:jI} (h:Rp.rep F w cs x):∃ (b:OA) (c:Nat) (d:OA) (e:Nat) (f:OA) (j:Nat) (k:OA) (l:Nat),cs=[Vi x.c,Vi x.f,Vi x.n,Vt x.b,Vt x.k,Vi x.m,Vi x.g,.slice b x.d.length c,Vt x.j,Vi x.i,.slice d x.a.length e,.slice f x.e.length j,.slice k x.h.length l]/\kU F w b c x.d/\kU F w d e x.a/\kU F w f j x.e/\kU F w k l x.h:=by
 cases h with
 | mk _ b c d e f j k l u v z p m A B C t o D E=>exact ⟨b,c,d,e,f,j,k,l,rfl,u,v,⟨p.1,p.2,fun a=>⟨(m a).1,(m a).2.1,(m a).2.2,fun i G hy=>⟨z i,A i G hy,B i G hy⟩⟩⟩,⟨t.1,t.2,fun a=>⟨(o a).1,(o a).2.1,(o a).2.2,fun i G hy=>⟨C i,D i G hy,E i G hy⟩⟩⟩⟩
theorem jI.inn {F:Nat->Prop} {w:World} {cs:List Value} {x:jI} (h:∃ (d:OA) (e:Nat) (f:OA) (i:Nat) (j:OA) (k:Nat) (l:OA) (m:Nat),cs=[Vi x.c,Vi x.f,Vi x.n,Vt x.b,Vt x.k,Vi x.m,Vi x.g,.slice d x.d.length e,Vt x.j,Vi x.i,.slice f x.a.length i,.slice j x.e.length k,.slice l x.h.length m]/\kU F w d e x.d/\kU F w f i x.a/\kU F w j k x.e/\kU F w l m x.h):Rp.rep F w cs x:=by obtain ⟨d,e,f,i,j,k,l,m,rfl,o,p,b,c⟩:=h;obtain ⟨t,u,v⟩:=b.fn;obtain ⟨z,A,B⟩:=c.fn;exact .mk x d e f i j k l m o p t ⟨b.1,b.2.1⟩ (fun a=>⟨(b.2.2 a).1,(b.2.2 a).2.1,(b.2.2 a).2.2.1⟩) u v z ⟨c.1,c.2.1⟩ (fun a=>⟨(c.2.2 a).1,(c.2.2 a).2.1,(c.2.2 a).2.2.1⟩) A B
structure kE where
 b:ByteArray
 a:(List ByteArray)
instance:Rp kE:=⟨2,40,fun F w cs x=>∃ (a1:OA) (c1:Nat),cs=[Vt x.b,.slice a1 x.a.length c1]/\kU F w a1 c1 x.a,fun h=>by obtain ⟨a1,c1,rfl,_⟩:=h;rfl,fun h=>by obtain ⟨a1,c1,rfl,_⟩:=h;rfl,fun h m=>by obtain ⟨a1,c1,h,k1⟩:=h;exact ⟨a1,c1,h,k1.mv m⟩⟩
theorem kE.out {F:Nat->Prop} {w:World} {cs:List Value} {x:kE} (h:Rp.rep F w cs x):∃ (a:OA) (b:Nat),cs=[Vt x.b,.slice a x.a.length b]/\kU F w a b x.a:=h
theorem kE.inn {F:Nat->Prop} {w:World} {cs:List Value} {x:kE} (h:∃ (a:OA) (b:Nat),cs=[Vt x.b,.slice a x.a.length b]/\kU F w a b x.a):Rp.rep F w cs x:=h
structure kY where
 b:ByteArray
 f:Int
 a:(List ByteArray)
 e:(List jI)
instance:Rp kY:=⟨4,72,fun F w cs x=>∃ (a1:OA) (c1:Nat) (a2:OA) (c2:Nat),cs=[Vt x.b,Vi x.f,.slice a1 x.a.length c1,.slice a2 x.e.length c2]/\kU F w a1 c1 x.a/\kU F w a2 c2 x.e,fun h=>by obtain ⟨a1,c1,a2,c2,rfl,_⟩:=h;rfl,fun h=>by obtain ⟨a1,c1,a2,c2,rfl,_⟩:=h;rfl,fun h m=>by obtain ⟨a1,c1,a2,c2,h,k1,k2⟩:=h;exact ⟨a1,c1,a2,c2,h,k1.mv m,k2.mv m⟩⟩
theorem kY.out {F:Nat->Prop} {w:World} {cs:List Value} {x:kY} (h:Rp.rep F w cs x):∃ (a:OA) (b:Nat) (c:OA) (d:Nat),cs=[Vt x.b,Vi x.f,.slice a x.a.length b,.slice c x.e.length d]/\kU F w a b x.a/\kU F w c d x.e:=h
theorem kY.inn {F:Nat->Prop} {w:World} {cs:List Value} {x:kY} (h:∃ (a:OA) (b:Nat) (c:OA) (d:Nat),cs=[Vt x.b,Vi x.f,.slice a x.a.length b,.slice c x.e.length d]/\kU F w a b x.a/\kU F w c d x.e):Rp.rep F w cs x:=h
structure jU where
 a:(List kE)
 b:(List kY)
instance:Rp jU:=⟨2,48,fun F w cs x=>∃ (a1:OA) (c1:Nat) (a2:OA) (c2:Nat),cs=[.slice a1 x.a.length c1,.slice a2 x.b.length c2]/\kU F w a1 c1 x.a/\kU F w a2 c2 x.b,fun h=>by obtain ⟨a1,c1,a2,c2,rfl,_⟩:=h;rfl,fun h=>by obtain ⟨a1,c1,a2,c2,rfl,_⟩:=h;rfl,fun h m=>by obtain ⟨a1,c1,a2,c2,h,k1,k2⟩:=h;exact ⟨a1,c1,a2,c2,h,k1.mv m,k2.mv m⟩⟩
theorem jU.out {F:Nat->Prop} {w:World} {cs:List Value} {x:jU} (h:Rp.rep F w cs x):∃ (a:OA) (b:Nat) (c:OA) (d:Nat),cs=[.slice a x.a.length b,.slice c x.b.length d]/\kU F w a b x.a/\kU F w c d x.b:=h
theorem jU.inn {F:Nat->Prop} {w:World} {cs:List Value} {x:jU} (h:∃ (a:OA) (b:Nat) (c:OA) (d:Nat),cs=[.slice a x.a.length b,.slice c x.b.length d]/\kU F w a b x.a/\kU F w c d x.b):Rp.rep F w cs x:=h
structure lJ where
 f:Int
 e:Int
 d:(List Int)
 a:(List ByteArray)
 c:(List ByteArray)
 b:(List ByteArray)
 g:Int
 h:Int
structure jy where
 b:ByteArray
 c:Int
 d:Int
 a:Int
 f:Bool
 e:Int
 g:Int
instance:Rp jy:=⟨7,64,fun _ _ cs x=>cs=[Vt x.b,Vi x.c,Vi x.d,Vi x.a,.bool x.f,Vi x.e,Vi x.g],fun h=>by rw [h];rfl,fun h=>by rw [h];rfl,fun h _=>h⟩
structure jV where
 j:Int
 c:Int
 f:Int
instance:Rp jV:=⟨3,24,fun _ _ cs x=>cs=[Vi x.j,Vi x.c,Vi x.f],fun h=>by rw [h];rfl,fun h=>by rw [h];rfl,fun h _=>h⟩
structure jL where
 a:jU
 c:(List (List jy))
 b:(List jV)
instance:Rp jL:=⟨4,96,fun F w cs x=>∃ (a1:OA) (c1:Nat) (a2:OA) (c2:Nat) (a3:OA) (c3:Nat) (a4:OA) (c4:Nat),cs=[.slice a1 x.a.a.length c1,.slice a2 x.a.b.length c2,.slice a3 x.c.length c3,.slice a4 x.b.length c4]/\kU F w a1 c1 x.a.a/\kU F w a2 c2 x.a.b/\kU F w a3 c3 x.c/\kU F w a4 c4 x.b,fun h=>by obtain ⟨a1,c1,a2,c2,a3,c3,a4,c4,rfl,_⟩:=h;rfl,fun h=>by obtain ⟨a1,c1,a2,c2,a3,c3,a4,c4,rfl,_⟩:=h;rfl,fun h m=>by obtain ⟨a1,c1,a2,c2,a3,c3,a4,c4,h,k1,k2,k3,k4⟩:=h;exact ⟨a1,c1,a2,c2,a3,c3,a4,c4,h,k1.mv m,k2.mv m,k3.mv m,k4.mv m⟩⟩
theorem jL.out {F:Nat->Prop} {w:World} {cs:List Value} {x:jL} (h:Rp.rep F w cs x):∃ (a:OA) (b:Nat) (c:OA) (d:Nat) (e:OA) (f:Nat) (i:OA) (j:Nat),cs=[.slice a x.a.a.length b,.slice c x.a.b.length d,.slice e x.c.length f,.slice i x.b.length j]/\kU F w a b x.a.a/\kU F w c d x.a.b/\kU F w e f x.c/\kU F w i j x.b:=h
theorem jL.inn {F:Nat->Prop} {w:World} {cs:List Value} {x:jL} (h:∃ (a:OA) (b:Nat) (c:OA) (d:Nat) (e:OA) (f:Nat) (i:OA) (j:Nat),cs=[.slice a x.a.a.length b,.slice c x.a.b.length d,.slice e x.c.length f,.slice i x.b.length j]/\kU F w a b x.a.a/\kU F w c d x.a.b/\kU F w e f x.c/\kU F w i j x.b):Rp.rep F w cs x:=h
structure fV where
 a:jL
 f:Int
 b:(List Int)
 c:Int
 e:Int
instance:Rp fV:=⟨8,144,fun F w cs x=>∃ (a1:OA) (c1:Nat) (a2:OA) (c2:Nat) (a3:OA) (c3:Nat) (a4:OA) (c4:Nat) (a5:OA) (c5:Nat),cs=[.slice a1 x.a.a.a.length c1,.slice a2 x.a.a.b.length c2,.slice a3 x.a.c.length c3,.slice a4 x.a.b.length c4,Vi x.f,.slice a5 x.b.length c5,Vi x.c,Vi x.e]/\kU F w a1 c1 x.a.a.a/\kU F w a2 c2 x.a.a.b/\kU F w a3 c3 x.a.c/\kU F w a4 c4 x.a.b/\kU F w a5 c5 x.b,fun h=>by obtain ⟨a1,c1,a2,c2,a3,c3,a4,c4,a5,c5,rfl,_⟩:=h;rfl,fun h=>by obtain ⟨a1,c1,a2,c2,a3,c3,a4,c4,a5,c5,rfl,_⟩:=h;rfl,fun h m=>by obtain ⟨a1,c1,a2,c2,a3,c3,a4,c4,a5,c5,h,k1,k2,k3,k4,k5⟩:=h;exact ⟨a1,c1,a2,c2,a3,c3,a4,c4,a5,c5,h,k1.mv m,k2.mv m,k3.mv m,k4.mv m,k5.mv m⟩⟩
theorem fV.out {F:Nat->Prop} {w:World} {cs:List Value} {x:fV} (h:Rp.rep F w cs x):∃ (a:OA) (b:Nat) (c:OA) (d:Nat) (i:OA) (j:Nat) (k:OA) (l:Nat) (m:OA) (o:Nat),cs=[.slice a x.a.a.a.length b,.slice c x.a.a.b.length d,.slice i x.a.c.length j,.slice k x.a.b.length l,Vi x.f,.slice m x.b.length o,Vi x.c,Vi x.e]/\kU F w a b x.a.a.a/\kU F w c d x.a.a.b/\kU F w i j x.a.c/\kU F w k l x.a.b/\kU F w m o x.b:=h
theorem fV.inn {F:Nat->Prop} {w:World} {cs:List Value} {x:fV} (h:∃ (a:OA) (b:Nat) (c:OA) (d:Nat) (i:OA) (j:Nat) (k:OA) (l:Nat) (m:OA) (o:Nat),cs=[.slice a x.a.a.a.length b,.slice c x.a.a.b.length d,.slice i x.a.c.length j,.slice k x.a.b.length l,Vi x.f,.slice m x.b.length o,Vi x.c,Vi x.e]/\kU F w a b x.a.a.a/\kU F w c d x.a.a.b/\kU F w i j x.a.c/\kU F w k l x.a.b/\kU F w m o x.b):Rp.rep F w cs x:=h
structure qc where
 g:Int
 b:(List Bool)
 a:(List Int)
instance:Rp qc:=⟨3,56,fun F w cs x=>∃ (a1:OA) (c1:Nat) (a2:OA) (c2:Nat),cs=[Vi x.g,.slice a1 x.b.length c1,.slice a2 x.a.length c2]/\kU F w a1 c1 x.b/\kU F w a2 c2 x.a,fun h=>by obtain ⟨a1,c1,a2,c2,rfl,_⟩:=h;rfl,fun h=>by obtain ⟨a1,c1,a2,c2,rfl,_⟩:=h;rfl,fun h m=>by obtain ⟨a1,c1,a2,c2,h,k1,k2⟩:=h;exact ⟨a1,c1,a2,c2,h,k1.mv m,k2.mv m⟩⟩
theorem qc.out {F:Nat->Prop} {w:World} {cs:List Value} {x:qc} (h:Rp.rep F w cs x):∃ (a:OA) (b:Nat) (c:OA) (d:Nat),cs=[Vi x.g,.slice a x.b.length b,.slice c x.a.length d]/\kU F w a b x.b/\kU F w c d x.a:=h
theorem qc.inn {F:Nat->Prop} {w:World} {cs:List Value} {x:qc} (h:∃ (a:OA) (b:Nat) (c:OA) (d:Nat),cs=[Vi x.g,.slice a x.b.length b,.slice c x.a.length d]/\kU F w a b x.b/\kU F w c d x.a):Rp.rep F w cs x:=h
structure ny where
 j:Int
 a:Int
 c:(List qc)
instance:Rp ny:=⟨3,40,fun F w cs x=>∃ (a1:OA) (c1:Nat),cs=[Vi x.j,Vi x.a,.slice a1 x.c.length c1]/\kU F w a1 c1 x.c,fun h=>by obtain ⟨a1,c1,rfl,_⟩:=h;rfl,fun h=>by obtain ⟨a1,c1,rfl,_⟩:=h;rfl,fun h m=>by obtain ⟨a1,c1,h,k1⟩:=h;exact ⟨a1,c1,h,k1.mv m⟩⟩
theorem ny.out {F:Nat->Prop} {w:World} {cs:List Value} {x:ny} (h:Rp.rep F w cs x):∃ (a:OA) (b:Nat),cs=[Vi x.j,Vi x.a,.slice a x.c.length b]/\kU F w a b x.c:=h
theorem ny.inn {F:Nat->Prop} {w:World} {cs:List Value} {x:ny} (h:∃ (a:OA) (b:Nat),cs=[Vi x.j,Vi x.a,.slice a x.c.length b]/\kU F w a b x.c):Rp.rep F w cs x:=h
structure ko where
 a:(List ny)
instance:Rp ko:=⟨1,24,fun F w cs x=>∃ (a1:OA) (c1:Nat),cs=[.slice a1 x.a.length c1]/\kU F w a1 c1 x.a,fun h=>by obtain ⟨a1,c1,rfl,_⟩:=h;rfl,fun h=>by obtain ⟨a1,c1,rfl,_⟩:=h;rfl,fun h m=>by obtain ⟨a1,c1,h,k1⟩:=h;exact ⟨a1,c1,h,k1.mv m⟩⟩
theorem ko.out {F:Nat->Prop} {w:World} {cs:List Value} {x:ko} (h:Rp.rep F w cs x):∃ (a:OA) (b:Nat),cs=[.slice a x.a.length b]/\kU F w a b x.a:=h
theorem ko.inn {F:Nat->Prop} {w:World} {cs:List Value} {x:ko} (h:∃ (a:OA) (b:Nat),cs=[.slice a x.a.length b]/\kU F w a b x.a):Rp.rep F w cs x:=h
structure mO where
 d:Int
 b:Bool
 c:Int
 a:(List Int)
instance:Rp mO:=⟨4,48,fun F w cs x=>∃ (a1:OA) (c1:Nat),cs=[Vi x.d,.bool x.b,Vi x.c,.slice a1 x.a.length c1]/\kU F w a1 c1 x.a,fun h=>by obtain ⟨a1,c1,rfl,_⟩:=h;rfl,fun h=>by obtain ⟨a1,c1,rfl,_⟩:=h;rfl,fun h m=>by obtain ⟨a1,c1,h,k1⟩:=h;exact ⟨a1,c1,h,k1.mv m⟩⟩
theorem mO.out {F:Nat->Prop} {w:World} {cs:List Value} {x:mO} (h:Rp.rep F w cs x):∃ (a:OA) (b:Nat),cs=[Vi x.d,.bool x.b,Vi x.c,.slice a x.a.length b]/\kU F w a b x.a:=h
theorem mO.inn {F:Nat->Prop} {w:World} {cs:List Value} {x:mO} (h:∃ (a:OA) (b:Nat),cs=[Vi x.d,.bool x.b,Vi x.c,.slice a x.a.length b]/\kU F w a b x.a):Rp.rep F w cs x:=h
section
variable {ρ:Operand->Value} {w:World} {d:Option Nat} {ty:TypeId} {pos:String} {af:Array Edge} {g:Option (Nat × Bool)}
theorem Qj {a b c e f h i j k l m n o p q r s t u v x y z A B C D E F G H I} (J:ρ s=Vi a) (K:ρ t=Vi b) (L:ρ u=Vi c) (M:ρ v=Vi e) (N:ρ x=Vi f) (O:ρ y=Vi h) (P:ρ z=Vi i) (Q:ρ A=Vi j) (R:ρ B=Vi k) (S:ρ C=Vi l) (T:ρ D=Vi m) (U:ρ E=Vi n) (V:ρ F=Vi o) (W:ρ G=Vi p) (X:ρ H=Vi q) (Y:ρ I=Vi r):(execOp ρ ⟨d,.buildSlice 22 16 #[(0,s),(1,t),(2,u),(3,v),(4,x),(5,y),(6,z),(7,A),(8,B),(9,C),(10,D),(11,E),(12,F),(13,G),(14,H),(15,I)],ty,pos,af,g⟩).run prog w=.ok (.value (.slice (some ⟨w.heap.size,0,none⟩) 16 16)) (w.alloc (.cells #[Vi a,Vi b,Vi c,Vi e,Vi f,Vi h,Vi i,Vi j,Vi k,Vi l,Vi m,Vi n,Vi o,Vi p,Vi q,Vi r] 3)):=by simp [execOp,J,K,L,M,N,O,P,Q,R,S,T,U,V,W,X,Y];kernel_rfl
theorem Fe {a b c e f h i j k l m n o p q r s t u v x y z A} (B:ρ o=Vt a) (C:ρ p=Vt b) (D:ρ q=Vt c) (E:ρ r=Vt e) (F:ρ s=Vt f) (G:ρ t=Vt h) (H:ρ u=Vt i) (I:ρ v=Vt j) (J:ρ x=Vt k) (K:ρ y=Vt l) (L:ρ z=Vt m) (M:ρ A=Vt n):(execOp ρ ⟨d,.buildSlice 36 12 #[(0,o),(1,p),(2,q),(3,r),(4,s),(5,t),(6,u),(7,v),(8,x),(9,y),(10,z),(11,A)],ty,pos,af,g⟩).run prog w=.ok (.value (.slice (some ⟨w.heap.size,0,none⟩) 12 12)) (w.alloc (.cells #[Vt a,Vt b,Vt c,Vt e,Vt f,Vt h,Vt i,Vt j,Vt k,Vt l,Vt m,Vt n] 9)):=by simp [execOp,B,C,D,E,F,G,H,I,J,K,L,M];kernel_rfl
theorem TM {a b c e f h} (i:ρ e=Vt a) (j:ρ f=Vt b) (k:ρ h=Vt c):(execOp ρ ⟨d,.buildSlice 36 3 #[(0,e),(1,f),(2,h)],ty,pos,af,g⟩).run prog w=.ok (.value (.slice (some ⟨w.heap.size,0,none⟩) 3 3)) (w.alloc (.cells #[Vt a,Vt b,Vt c] 9)):=by simp [execOp,i,j,k];kernel_rfl
theorem OU {a b c e f h i j k l m n o p q r s t u v x y z A B C D E F G H I J K L M N O P Q R S} (T:ρ y=.int .u8 a) (U:ρ z=.int .u8 b) (V:ρ A=.int .u8 c) (W:ρ B=.int .u8 e) (X:ρ C=.int .u8 f) (Y:ρ D=.int .u8 h) (Z:ρ E=.int .u8 i) (Aa:ρ F=.int .u8 j) (Ab:ρ G=.int .u8 k) (Ac:ρ H=.int .u8 l) (Ad:ρ I=.int .u8 m) (Ae:ρ J=.int .u8 n) (Af:ρ K=.int .u8 o) (Ag:ρ L=.int .u8 p) (Ah:ρ M=.int .u8 q) (Ai:ρ N=.int .u8 r) (Aj:ρ O=.int .u8 s) (Ak:ρ P=.int .u8 t) (Al:ρ Q=.int .u8 u) (Am:ρ R=.int .u8 v) (An:ρ S=.int .u8 x):(execOp ρ ⟨d,.buildSlice 164 21 #[(0,y),(1,z),(2,A),(3,B),(4,C),(5,D),(6,E),(7,F),(8,G),(9,H),(10,I),(11,J),(12,K),(13,L),(14,M),(15,N),(16,O),(17,P),(18,Q),(19,R),(20,S)],ty,pos,af,g⟩).run prog w=.ok (.value (.slice (some ⟨w.heap.size,0,none⟩) 21 21)) (w.alloc (.cells #[.int .u8 a,.int .u8 b,.int .u8 c,.int .u8 e,.int .u8 f,.int .u8 h,.int .u8 i,.int .u8 j,.int .u8 k,.int .u8 l,.int .u8 m,.int .u8 n,.int .u8 o,.int .u8 p,.int .u8 q,.int .u8 r,.int .u8 s,.int .u8 t,.int .u8 u,.int .u8 v,.int .u8 x] 5)):=by simp [execOp,T,U,V,W,X,Y,Z,Aa,Ab,Ac,Ad,Ae,Af,Ag,Ah,Ai,Aj,Ak,Al,Am,An];kernel_rfl
theorem Fu {a b c e} (f:ρ c=Vi a) (h:ρ e=Vt b):Yl prog ρ (.build 135 #[(0,c),(3,e)]) d ty pos af g w (.agg #[Vi a,Vi 0,Vi 0,Vt b,Vt be,sn]):=by simp [Yl,execOp,f,h];kernel_rfl
theorem JJ {a b c e} (f:ρ c=Vi a) (h:ρ e=Vi b):Yl prog ρ (.build 135 #[(0,c),(1,e)]) d ty pos af g w (.agg #[Vi a,Vi b,Vi 0,Vt be,Vt be,sn]):=by simp [Yl,execOp,f,h];kernel_rfl
theorem zo {a b} (c:ρ b=Vi a):(execOp ρ ⟨d,.buildSlice 22 1 #[(0,b)],ty,pos,af,g⟩).run prog w=.ok (.value (.slice (some ⟨w.heap.size,0,none⟩) 1 1)) (w.alloc (.cells #[Vi a] 3)):=by simp [execOp,c];kernel_rfl
theorem KP :Yl prog ρ (.build 109 #[]) d ty pos af g w (.agg #[Vi 0,Vi 0,Vt be,Vi 0]):=by simp [Yl,execOp];kernel_rfl
theorem CJ {a b c e f h} (i:ρ e=Vi a) (j:ρ f=Vi b) (k:ρ h=Vt c):Yl prog ρ (.build 109 #[(0,e),(1,f),(2,h)]) d ty pos af g w (.agg #[Vi a,Vi b,Vt c,Vi 0]):=by simp [Yl,execOp,i,j,k];kernel_rfl
theorem Nn {a b c e f h} (i:ρ e=Vi a) (j:ρ f=Vi b) (k:ρ h=Vi c):Yl prog ρ (.build 109 #[(0,e),(1,f),(3,h)]) d ty pos af g w (.agg #[Vi a,Vi b,Vt be,Vi c]):=by simp [Yl,execOp,i,j,k];kernel_rfl
theorem MB {a b c e f} (h:ρ f=.agg #[Vi a,Vi b,Vt c,Vi e]):(execOp ρ ⟨d,.buildSlice 79 1 #[(0,f)],ty,pos,af,g⟩).run prog w=.ok (.value (.slice (some ⟨w.heap.size,0,none⟩) 1 1)) (w.alloc (.cells #[Vi a,Vi b,Vt c,Vi e] 109)):=by simp [execOp,h];kernel_rfl
theorem Qn {a b c e} (f:ρ c=Vi a) (h:ρ e=Vi b):Yl prog ρ (.build 109 #[(0,c),(1,e)]) d ty pos af g w (.agg #[Vi a,Vi b,Vt be,Vi 0]):=by simp [Yl,execOp,f,h];kernel_rfl
theorem QL {a b} (c:ρ b=.int .u8 a):(execOp ρ ⟨d,.buildSlice 164 1 #[(0,b)],ty,pos,af,g⟩).run prog w=.ok (.value (.slice (some ⟨w.heap.size,0,none⟩) 1 1)) (w.alloc (.cells #[.int .u8 a] 5)):=by simp [execOp,c];kernel_rfl
theorem Aw {a b} (c:ρ b=Vt a):(execOp ρ ⟨d,.buildSlice 36 1 #[(0,b)],ty,pos,af,g⟩).run prog w=.ok (.value (.slice (some ⟨w.heap.size,0,none⟩) 1 1)) (w.alloc (.cells #[Vt a] 9)):=by simp [execOp,c];kernel_rfl
theorem QI {a b c e f h i j k l m n o p q r s t u v x y z A} (B:ρ o=Vi a) (C:ρ p=Vi b) (D:ρ q=Vi c) (E:ρ r=Vi e) (F:ρ s=Vi f) (G:ρ t=Vi h) (H:ρ u=Vi i) (I:ρ v=Vi j) (J:ρ x=Vi k) (K:ρ y=Vi l) (L:ρ z=Vi m) (M:ρ A=Vi n):(execOp ρ ⟨d,.buildSlice 22 12 #[(0,o),(1,p),(2,q),(3,r),(4,s),(5,t),(6,u),(7,v),(8,x),(9,y),(10,z),(11,A)],ty,pos,af,g⟩).run prog w=.ok (.value (.slice (some ⟨w.heap.size,0,none⟩) 12 12)) (w.alloc (.cells #[Vi a,Vi b,Vi c,Vi e,Vi f,Vi h,Vi i,Vi j,Vi k,Vi l,Vi m,Vi n] 3)):=by simp [execOp,B,C,D,E,F,G,H,I,J,K,L,M];kernel_rfl
theorem Ta {a b c e f h i j k l m n o p} (q:ρ j=Vt a) (r:ρ k=Vt b) (s:ρ l=Vt c) (t:ρ m=Vt e) (u:ρ n=Vt f) (v:ρ o=Vt h) (x:ρ p=Vt i):(execOp ρ ⟨d,.buildSlice 36 7 #[(0,j),(1,k),(2,l),(3,m),(4,n),(5,o),(6,p)],ty,pos,af,g⟩).run prog w=.ok (.value (.slice (some ⟨w.heap.size,0,none⟩) 7 7)) (w.alloc (.cells #[Vt a,Vt b,Vt c,Vt e,Vt f,Vt h,Vt i] 9)):=by simp [execOp,q,r,s,t,u,v,x];kernel_rfl
theorem wT {a b c e f h i j k l m n o p q r s t} (u:ρ s=.agg #[Vi a,Vi b,Vi c,Vt e,Vt f,.slice h i j]) (v:ρ t=.agg #[Vi k,Vi l,Vi m,Vt n,Vt o,.slice p q r]):(execOp ρ ⟨d,.buildSlice 120 2 #[(0,s),(1,t)],ty,pos,af,g⟩).run prog w=.ok (.value (.slice (some ⟨w.heap.size,0,none⟩) 2 2)) (w.alloc (.cells #[Vi a,Vi b,Vi c,Vt e,Vt f,.slice h i j,Vi k,Vi l,Vi m,Vt n,Vt o,.slice p q r] 135)):=by simp [execOp,u,v];kernel_rfl
theorem uo {a b c e f h} (i:ρ f=Vi a) (j:ρ h=.slice b c e):Yl prog ρ (.build 135 #[(0,f),(5,h)]) d ty pos af g w (.agg #[Vi a,Vi 0,Vi 0,Vt be,Vt be,.slice b c e]):=by simp [Yl,execOp,i,j];kernel_rfl
theorem OJ :Yl prog ρ (.build 135 #[]) d ty pos af g w (.agg #[Vi 0,Vi 0,Vi 0,Vt be,Vt be,sn]):=by simp [Yl,execOp];kernel_rfl
theorem vT {a b c e} (f:ρ c=Vt a) (h:ρ e=Vt b):(execOp ρ ⟨d,.buildSlice 36 2 #[(0,c),(1,e)],ty,pos,af,g⟩).run prog w=.ok (.value (.slice (some ⟨w.heap.size,0,none⟩) 2 2)) (w.alloc (.cells #[Vt a,Vt b] 9)):=by simp [execOp,f,h];kernel_rfl
theorem kZ {a b c e f h i j k} (l:ρ k=.agg #[Vi a,Vi b,Vi c,Vt e,Vt f,.slice h i j]):(execOp ρ ⟨d,.buildSlice 120 1 #[(0,k)],ty,pos,af,g⟩).run prog w=.ok (.value (.slice (some ⟨w.heap.size,0,none⟩) 1 1)) (w.alloc (.cells #[Vi a,Vi b,Vi c,Vt e,Vt f,.slice h i j] 135)):=by simp [execOp,l];kernel_rfl
theorem uZ {a b c e f h} (i:ρ e=Vi a) (j:ρ f=Vt b) (k:ρ h=Vt c):Yl prog ρ (.build 135 #[(0,e),(3,f),(4,h)]) d ty pos af g w (.agg #[Vi a,Vi 0,Vi 0,Vt b,Vt c,sn]):=by simp [Yl,execOp,i,j,k];kernel_rfl
theorem Cv {a b c e f h i j} (k:ρ h=Vi a) (l:ρ i=Vt b) (m:ρ j=.slice c e f):Yl prog ρ (.build 135 #[(0,h),(3,i),(5,j)]) d ty pos af g w (.agg #[Vi a,Vi 0,Vi 0,Vt b,Vt be,.slice c e f]):=by simp [Yl,execOp,k,l,m];kernel_rfl
theorem rW {a b c e f h i j k l m n o p q r s t u v x y} (z:ρ y=.agg #[Vi a,Vi b,Vi c,Vt e,Vt f,Vi h,Vi i,.slice j k l,Vt m,Vi n,.slice o p q,.slice r s t,.slice u v x]):(execOp ρ ⟨d,.buildSlice 37 1 #[(0,y)],ty,pos,af,g⟩).run prog w=.ok (.value (.slice (some ⟨w.heap.size,0,none⟩) 1 1)) (w.alloc (.cells #[Vi a,Vi b,Vi c,Vt e,Vt f,Vi h,Vi i,.slice j k l,Vt m,Vi n,.slice o p q,.slice r s t,.slice u v x] 122)):=by simp [execOp,z];kernel_rfl
theorem Us {a b} (c:ρ b=Vi a):Yl prog ρ (.build 122 #[(1,b)]) d ty pos af g w (.agg #[Vi 0,Vi a,Vi 0,Vt be,Vt be,Vi 0,Vi 0,sn,Vt be,Vi 0,sn,sn,sn]):=by simp [Yl,execOp,c];kernel_rfl
theorem U9 {a b} (c:ρ b=Vt a):Yl prog ρ (.build 115 #[(0,b)]) d ty pos af g w (.agg #[Vt a,sn]):=by simp [Yl,execOp,c];kernel_rfl
theorem MZ {a b c e f} (h:ρ f=.agg #[Vt a,.slice b c e]):(execOp ρ ⟨d,.buildSlice 23 1 #[(0,f)],ty,pos,af,g⟩).run prog w=.ok (.value (.slice (some ⟨w.heap.size,0,none⟩) 1 1)) (w.alloc (.cells #[Vt a,.slice b c e] 115)):=by simp [execOp,h];kernel_rfl
theorem WY {a b} (c:ρ b=Vi a):Yl prog ρ (.build 39 #[(1,b)]) d ty pos af g w (.agg #[Vt be,Vi a,sn,sn]):=by simp [Yl,execOp,c];kernel_rfl
theorem QA {a b c e} (f:ρ c=Vi a) (h:ρ e=Vi b):Yl prog ρ (.build 122 #[(0,c),(1,e)]) d ty pos af g w (.agg #[Vi a,Vi b,Vi 0,Vt be,Vt be,Vi 0,Vi 0,sn,Vt be,Vi 0,sn,sn,sn]):=by simp [Yl,execOp,f,h];kernel_rfl
theorem L6 {a b c e f h i j k} (l:ρ k=.agg #[Vt a,Vi b,.slice c e f,.slice h i j]):(execOp ρ ⟨d,.buildSlice 24 1 #[(0,k)],ty,pos,af,g⟩).run prog w=.ok (.value (.slice (some ⟨w.heap.size,0,none⟩) 1 1)) (w.alloc (.cells #[Vt a,Vi b,.slice c e f,.slice h i j] 39)):=by simp [execOp,l];kernel_rfl
theorem VN :Yl prog ρ (.build 26 #[]) d ty pos af g w (.agg #[sn,sn]):=by simp [Yl,execOp];kernel_rfl
theorem WT {a b c e} (f:ρ e=.slice a b c):Yl prog ρ (.build 84 #[(0,e)]) d ty pos af g w (.agg #[.slice a b c,Vi 0,Vi 0,Vi 0]):=by simp [Yl,execOp,f];kernel_rfl
theorem q9 {a b c e f h i j} (k:ρ f=Vt a) (l:ρ h=Vt b) (m:ρ i=Vt c) (n:ρ j=Vt e):(execOp ρ ⟨d,.buildSlice 36 4 #[(0,f),(1,h),(2,i),(3,j)],ty,pos,af,g⟩).run prog w=.ok (.value (.slice (some ⟨w.heap.size,0,none⟩) 4 4)) (w.alloc (.cells #[Vt a,Vt b,Vt c,Vt e] 9)):=by simp [execOp,k,l,m,n];kernel_rfl
theorem JX {a b c e} (f:ρ c=Vi a) (h:ρ e=Vt b):Yl prog ρ (.build 122 #[(0,c),(3,e)]) d ty pos af g w (.agg #[Vi a,Vi 0,Vi 0,Vt b,Vt be,Vi 0,Vi 0,sn,Vt be,Vi 0,sn,sn,sn]):=by simp [Yl,execOp,f,h];kernel_rfl
theorem Ef {a b} (c:ρ b=Vi a):Yl prog ρ (.build 122 #[(0,b)]) d ty pos af g w (.agg #[Vi a,Vi 0,Vi 0,Vt be,Vt be,Vi 0,Vi 0,sn,Vt be,Vi 0,sn,sn,sn]):=by simp [Yl,execOp,c];kernel_rfl
theorem qA {a b c e f h} (i:ρ f=Vi a) (j:ρ h=.slice b c e):Yl prog ρ (.build 122 #[(0,f),(10,h)]) d ty pos af g w (.agg #[Vi a,Vi 0,Vi 0,Vt be,Vt be,Vi 0,Vi 0,sn,Vt be,Vi 0,.slice b c e,sn,sn]):=by simp [Yl,execOp,i,j];kernel_rfl
theorem mI :(execOp ρ ⟨d,.buildSlice 36 0 #[],ty,pos,af,g⟩).run prog w=.ok (.value (.slice (some ⟨w.heap.size,0,none⟩) 0 0)) (w.alloc (.cells #[] 9)):=by simp [execOp];kernel_rfl
theorem KW {a b c e f h i j k l} (m:ρ j=Vi a) (n:ρ k=.slice b c e) (o:ρ l=.slice f h i):Yl prog ρ (.build 122 #[(0,j),(7,k),(10,l)]) d ty pos af g w (.agg #[Vi a,Vi 0,Vi 0,Vt be,Vt be,Vi 0,Vi 0,.slice b c e,Vt be,Vi 0,.slice f h i,sn,sn]):=by simp [Yl,execOp,m,n,o];kernel_rfl
theorem Q0 {a b c e f h i j k l m n o p q r s t u v x y z A B C D E F G H I J K L M N O P Q R S T U} (V:ρ T=.agg #[Vi a,Vi b,Vi c,Vt e,Vt f,Vi h,Vi i,.slice j k l,Vt m,Vi n,.slice o p q,.slice r s t,.slice u v x]) (W:ρ U=.agg #[Vi y,Vi z,Vi A,Vt B,Vt C,Vi D,Vi E,.slice F G H,Vt I,Vi J,.slice K L M,.slice N O P,.slice Q R S]):(execOp ρ ⟨d,.buildSlice 37 2 #[(0,T),(1,U)],ty,pos,af,g⟩).run prog w=.ok (.value (.slice (some ⟨w.heap.size,0,none⟩) 2 2)) (w.alloc (.cells #[Vi a,Vi b,Vi c,Vt e,Vt f,Vi h,Vi i,.slice j k l,Vt m,Vi n,.slice o p q,.slice r s t,.slice u v x,Vi y,Vi z,Vi A,Vt B,Vt C,Vi D,Vi E,.slice F G H,Vt I,Vi J,.slice K L M,.slice N O P,.slice Q R S] 122)):=by simp [execOp,V,W];kernel_rfl
theorem II {a b c e f h i j k l} (m:ρ j=Vi a) (n:ρ k=.slice b c e) (o:ρ l=.slice f h i):Yl prog ρ (.build 122 #[(0,j),(10,k),(11,l)]) d ty pos af g w (.agg #[Vi a,Vi 0,Vi 0,Vt be,Vt be,Vi 0,Vi 0,sn,Vt be,Vi 0,.slice b c e,.slice f h i,sn]):=by simp [Yl,execOp,m,n,o];kernel_rfl
theorem Vu {a b c e} (f:ρ e=.slice a b c):Yl prog ρ (.build 129 #[(0,e)]) d ty pos af g w (.agg #[.slice a b c,Vi 0]):=by simp [Yl,execOp,f];kernel_rfl
theorem QS {a b c e f h} (i:ρ f=Vt a) (j:ρ h=.slice b c e):Yl prog ρ (.build 115 #[(0,f),(1,h)]) d ty pos af g w (.agg #[Vt a,.slice b c e]):=by simp [Yl,execOp,i,j];kernel_rfl
theorem Xk {a b c e} (f:ρ e=.slice a b c):Yl prog ρ (.build 26 #[(0,e)]) d ty pos af g w (.agg #[.slice a b c,sn]):=by simp [Yl,execOp,f];kernel_rfl
theorem TN {a b c e f h i j} (k:ρ f=Vi a) (l:ρ h=Vi b) (m:ρ i=Vi c) (n:ρ j=Vi e):(execOp ρ ⟨d,.buildSlice 22 4 #[(0,f),(1,h),(2,i),(3,j)],ty,pos,af,g⟩).run prog w=.ok (.value (.slice (some ⟨w.heap.size,0,none⟩) 4 4)) (w.alloc (.cells #[Vi a,Vi b,Vi c,Vi e] 3)):=by simp [execOp,k,l,m,n];kernel_rfl
theorem F5 {a b c e f h i j k l m n} (o:ρ j=.pointer a) (p:ρ k=Vi b) (q:ρ l=Vi c) (r:ρ m=.slice e f h) (s:ρ n=Vi i):Yl prog ρ (.build 132 #[(0,j),(1,k),(2,l),(3,m),(8,n)]) d ty pos af g w (.agg #[.pointer a,Vi b,Vi c,.slice e f h,sn,sn,sn,Vi 0,Vi i]):=by simp [Yl,execOp,o,p,q,r,s];kernel_rfl
theorem tZ {a b c e f h} (i:ρ f=Vt a) (j:ρ h=.slice b c e):Yl prog ρ (.build 39 #[(0,f),(2,h)]) d ty pos af g w (.agg #[Vt a,Vi 0,.slice b c e,sn]):=by simp [Yl,execOp,i,j];kernel_rfl
theorem Rj {a b c e f h i j} (k:ρ j=.agg #[Vt a,Vi b,Vi c,Vi e,.bool f,Vi h,Vi i]):(execOp ρ ⟨d,.buildSlice 96 1 #[(0,j)],ty,pos,af,g⟩).run prog w=.ok (.value (.slice (some ⟨w.heap.size,0,none⟩) 1 1)) (w.alloc (.cells #[Vt a,Vi b,Vi c,Vi e,.bool f,Vi h,Vi i] 98)):=by simp [execOp,k];kernel_rfl
theorem Ej :(execOp ρ ⟨d,.buildSlice 22 0 #[],ty,pos,af,g⟩).run prog w=.ok (.value (.slice (some ⟨w.heap.size,0,none⟩) 0 0)) (w.alloc (.cells #[] 3)):=by simp [execOp];kernel_rfl
theorem M8 {a b c e f h} (i:ρ e=Vi a) (j:ρ f=Vi b) (k:ρ h=Vi c):Yl prog ρ (.build 171 #[(0,e),(1,f),(2,h)]) d ty pos af g w (.agg #[Vi a,Vi b,Vi c]):=by simp [Yl,execOp,i,j,k];kernel_rfl
theorem Si {a b c e} (f:ρ e=.agg #[Vi a,Vi b,Vi c]):(execOp ρ ⟨d,.buildSlice 28 1 #[(0,e)],ty,pos,af,g⟩).run prog w=.ok (.value (.slice (some ⟨w.heap.size,0,none⟩) 1 1)) (w.alloc (.cells #[Vi a,Vi b,Vi c] 171)):=by simp [execOp,f];kernel_rfl
theorem Cw {a b c e f h i j k l} (m:ρ h=Vt a) (n:ρ i=Vi b) (o:ρ j=Vi c) (p:ρ k=Vi e) (q:ρ l=Vi f):Yl prog ρ (.build 98 #[(0,h),(1,i),(2,j),(3,k),(5,l)]) d ty pos af g w (.agg #[Vt a,Vi b,Vi c,Vi e,.bool false,Vi f,Vi 0]):=by simp [Yl,execOp,m,n,o,p,q];kernel_rfl
theorem Fb {a b c e f h i j k l m n} (o:ρ i=Vt a) (p:ρ j=Vi b) (q:ρ k=Vi c) (r:ρ l=Vi e) (s:ρ m=.bool f) (t:ρ n=Vi h):Yl prog ρ (.build 98 #[(0,i),(1,j),(2,k),(3,l),(4,m),(5,n)]) d ty pos af g w (.agg #[Vt a,Vi b,Vi c,Vi e,.bool f,Vi h,Vi 0]):=by simp [Yl,execOp,o,p,q,r,s,t];kernel_rfl
theorem SQ :(execOp ρ ⟨d,.buildSlice 24 0 #[],ty,pos,af,g⟩).run prog w=.ok (.value (.slice (some ⟨w.heap.size,0,none⟩) 0 0)) (w.alloc (.cells #[] 39)):=by simp [execOp];kernel_rfl
theorem Ti {a b c e f h i j} (k:ρ i=.slice a b c) (l:ρ j=.slice e f h):Yl prog ρ (.build 26 #[(0,i),(1,j)]) d ty pos af g w (.agg #[.slice a b c,.slice e f h]):=by simp [Yl,execOp,k,l];kernel_rfl
theorem Yp {a b c e f h i} (j:ρ i=.agg #[.slice a b c,.slice e f h]):Yl prog ρ (.build 30 #[(0,i)]) d ty pos af g w (.agg #[.slice a b c,.slice e f h,sn,sn]):=by simp [Yl,execOp,j];kernel_rfl
theorem Yh {a b c e f h i j k l m n o} (p:ρ o=.agg #[.slice a b c,.slice e f h,.slice i j k,.slice l m n]):Yl prog ρ (.build 90 #[(0,o)]) d ty pos af g w (.agg #[.slice a b c,.slice e f h,.slice i j k,.slice l m n,Vi 0,sn,Vi 0,Vi 0]):=by simp [Yl,execOp,p];kernel_rfl
theorem Ru {a b c e} (f:ρ e=.slice a b c):(execOp ρ ⟨d,.buildSlice 27 1 #[(0,e)],ty,pos,af,g⟩).run prog w=.ok (.value (.slice (some ⟨w.heap.size,0,none⟩) 1 1)) (w.alloc (.cells #[.slice a b c] 96)):=by simp [execOp,f];kernel_rfl
theorem Wj :Yl prog ρ (.build 30 #[]) d ty pos af g w (.agg #[sn,sn,sn,sn]):=by simp [Yl,execOp];kernel_rfl
end
theorem mV:TI prog 3 (Vi 0) 1 8:=oq (by kernel_rfl)
theorem N7:TI prog 4 (.bool false) 1 1:=oq (by kernel_rfl)
theorem ti5:TI prog 5 (.int .u8 0) 1 1:=oq (by kernel_rfl)
theorem pO:TI prog 9 (Vt be) 1 16:=oq (by kernel_rfl)
theorem vW:TI prog 22 sn 1 24:=oq (by kernel_rfl)
theorem YP:TI prog 23 sn 1 24:=oq (by kernel_rfl)
theorem X3:TI prog 24 sn 1 24:=oq (by kernel_rfl)
theorem uI:TI prog 26 (.agg #[sn,sn]) 2 48:=oq (by kernel_rfl)
theorem Yz:TI prog 27 sn 1 24:=oq (by kernel_rfl)
theorem aad:TI prog 28 sn 1 24:=oq (by kernel_rfl)
theorem wK:TI prog 30 (.agg #[sn,sn,sn,sn]) 4 96:=oq (by kernel_rfl)
theorem Kw:TI prog 41 (Vi 0) 1 8:=oq (by kernel_rfl)
theorem AR:TI prog 43 (.agg #[Vi 0,.bool false,Vi 0,sn]) 4 48:=oq (by kernel_rfl)
theorem Yg:TI prog 57 sn 1 24:=oq (by kernel_rfl)
theorem DN:TI prog 59 (.agg #[sn]) 1 24:=oq (by kernel_rfl)
theorem XK:TI prog 60 sn 1 24:=oq (by kernel_rfl)
theorem Br:TI prog 62 (.agg #[Vi 0,Vi 0,sn]) 3 40:=oq (by kernel_rfl)
theorem ZC:TI prog 63 sn 1 24:=oq (by kernel_rfl)
theorem FZ:TI prog 65 (.agg #[Vi 0,sn,sn]) 3 56:=oq (by kernel_rfl)
theorem xR:TI prog 98 (.agg #[Vt be,Vi 0,Vi 0,Vi 0,.bool false,Vi 0,Vi 0]) 7 64:=oq (by kernel_rfl)
theorem EJ:TI prog 96 sn 1 24:=oq (by kernel_rfl)
theorem Zp:TI prog 171 (.agg #[Vi 0,Vi 0,Vi 0]) 3 24:=oq (by kernel_rfl)
theorem oM:TI prog 36 sn 1 24:=oq (by kernel_rfl)
theorem Bo:TI prog 37 sn 1 24:=oq (by kernel_rfl)
theorem ow:TI prog 39 (.agg #[Vt be,Vi 0,sn,sn]) 4 72:=oq (by kernel_rfl)
theorem acB:TI prog 79 sn 1 24:=oq (by kernel_rfl)
theorem vM:TI prog 120 sn 1 24:=oq (by kernel_rfl)
theorem jQ:TI prog 122 (.agg #[Vi 0,Vi 0,Vi 0,Vt be,Vt be,Vi 0,Vi 0,sn,Vt be,Vi 0,sn,sn,sn]) 13 192:=oq (by kernel_rfl)
theorem xZ:TI prog 115 (.agg #[Vt be,sn]) 2 40:=oq (by kernel_rfl)
theorem ZY:TI prog 127 (.pointer none) 1 8:=oq (by kernel_rfl)
theorem jR:TI prog 135 (.agg #[Vi 0,Vi 0,Vi 0,Vt be,Vt be,sn]) 6 80:=oq (by kernel_rfl)
theorem qd:TI prog 109 (.agg #[Vi 0,Vi 0,Vt be,Vi 0]) 4 40:=oq (by kernel_rfl)
theorem tN {n:Nat} {f:Func} (h:prog.funcs[n]?=some f) (a:(f.name=="runtime.NumGoroutine")=false:=by kernel_rfl) (b:f.body.isNone=false:=by kernel_rfl):jH prog n:=⟨_,h,a,b⟩
theorem abN:jH prog 5:=tN func5
theorem aa9:jH prog 6:=tN func6
theorem abU:jH prog 7:=tN func7
theorem abk:jH prog 9:=tN func9
theorem ZI:jH prog 12:=tN func12
theorem abj:jH prog 13:=tN func13
theorem Wx:jH prog 23:=tN func23
theorem Xq:jH prog 113:=tN func113
theorem aa7:jH prog 15:=tN func15
theorem aaE:jH prog 16:=tN func16
theorem XC:jH prog 108:=tN func108
theorem XT:jH prog 110:=tN func110
theorem VY:jH prog 14:=tN func14
theorem V9:jH prog 17:=tN func17
theorem aaU:jH prog 18:=tN func18
theorem abf:jH prog 22:=tN func22
theorem aaj:jH prog 26:=tN func26
theorem Zr:jH prog 27:=tN func27
theorem ZQ:jH prog 24:=tN func24
theorem Ze:jH prog 25:=tN func25
theorem ZO:jH prog 28:=tN func28
theorem VQ:jH prog 29:=tN func29
theorem aa1:jH prog 32:=tN func32
theorem Wm:jH prog 42:=tN func42
theorem JR:jH prog 43:=tN func43
theorem oD:jH prog 44:=tN func44
theorem VB:jH prog 45:=tN func45
theorem FI:jH prog 46:=tN func46
theorem Wo:jH prog 33:=tN func33
theorem aa5:jH prog 34:=tN func34
theorem vR:jH prog 35:=tN func35
theorem Dy:jH prog 36:=tN func36
theorem wS:jH prog 37:=tN func37
theorem VI:jH prog 38:=tN func38
theorem Jt:jH prog 39:=tN func39
theorem Et:jH prog 40:=tN func40
theorem Ez:jH prog 41:=tN func41
theorem zN:jH prog 47:=tN func47
theorem TS:jH prog 48:=tN func48
theorem Qd:jH prog 49:=tN func49
theorem FL:jH prog 58:=tN func58
theorem JA:jH prog 59:=tN func59
theorem JQ:jH prog 60:=tN func60
theorem Zz:jH prog 61:=tN func61
theorem Zk:jH prog 62:=tN func62
theorem Bu:jH prog 63:=tN func63
theorem JD:jH prog 64:=tN func64
theorem Yy:jH prog 65:=tN func65
theorem SY:jH prog 66:=tN func66
theorem Wq:jH prog 67:=tN func67
theorem ZR:jH prog 68:=tN func68
theorem RA:jH prog 52:=tN func52
theorem RY:jH prog 53:=tN func53
theorem YT:jH prog 54:=tN func54
theorem aaq:jH prog 55:=tN func55
theorem ZW:jH prog 56:=tN func56
theorem YF:jH prog 57:=tN func57
theorem VU:jH prog 69:=tN func69
theorem YW:jH prog 70:=tN func70
theorem YH:jH prog 85:=tN func85
theorem VA:jH prog 86:=tN func86
theorem Gx:jH prog 87:=tN func87
theorem aam:jH prog 88:=tN func88
theorem Wl:jH prog 89:=tN func89
theorem aaN:jH prog 81:=tN func81
theorem EK:jH prog 82:=tN func82
theorem Ng:jH prog 83:=tN func83
theorem aah:jH prog 84:=tN func84
theorem abg:jH prog 90:=tN func90
theorem Rq:jH prog 91:=tN func91
theorem aaV:jH prog 92:=tN func92
theorem TD:jH prog 102:=tN func102
theorem WM:jH prog 103:=tN func103
theorem TJ:jH prog 104:=tN func104
theorem XW:jH prog 105:=tN func105
theorem Tm:jH prog 106:=tN func106
theorem WZ:jH prog 107:=tN func107
theorem Yi:jH prog 111:=tN func111
theorem Yt:jH prog 115:=tN func115
end
noncomputable section
abbrev Z {α:Type} (a:Option Addr) (l:List α) (c:Nat):Value:=.slice a l.length c
abbrev V (n:Int):Value:=Vi n
abbrev T (n:ByteArray):Value:=Vt n
abbrev sz (α:Type) [Rp α]:Nat:=Rp.sz α
abbrev O (e:Nat) (a:Option Addr) (c:Nat) (t:TypeId) (α:Type) [Rp α] (q:List (List Value)):It:=.own e a c t (Rp.sz α) q
theorem ca {α:Type} {a:α} {l m:List α}:a :: l ++ m=a :: (l ++ m):=rfl
theorem na {α:Type} {l:List α}:[] ++ l=l:=rfl
theorem cb {a b:Bool} (h:a=b):Value.bool a=.bool b:=congrArg Value.bool h
theorem tF {p:Prop} [i:Decidable p] (h:¬p):decide p=false:=decide_eq_false h
theorem sQ {p:Prop} [i:Decidable p] (h:p):decide p=true:=decide_eq_true h
theorem mY {f:Fr} {l:List (Nat × Value)} (h:Has f l):∃ g,f=Jq g l:=mE _ _ h
theorem vY {a:Bool} (h:¬a=true):Value.bool a=.bool false:=cb (nt h)
theorem s:type_of% @jZ:=@jZ
theorem q:type_of% @Gg:=@Gg
theorem g:type_of% @zM:=@zM
theorem n:type_of% @Li:=@Li
theorem y:type_of% @trivial:=@trivial
theorem mp:type_of% @nW:=@nW
theorem mi:type_of% @O3:=@O3
theorem xn:type_of% @XY:=@XY
theorem xi:type_of% @IU:=@IU
theorem wk:type_of% @FN:=@FN
theorem sc:type_of% @oO:=@oO
theorem ec:type_of% @lW:=@lW
theorem iv:type_of% @jC:=@jC
theorem tb:type_of% @Vf:=@Vf
theorem nI:type_of% @kG:=@kG
theorem oc:type_of% @Rb:=@Rb
theorem oo:type_of% @Z9:=@Z9
theorem os:type_of% @Zb:=@Zb
theorem oZ:type_of% @kU.nil:=@kU.nil
abbrev BA:=ByteArray
abbrev Gv:=jy
abbrev Gi:=jV
abbrev Ge:=jA
abbrev Gs:=jI
abbrev Gr:=kE
abbrev Gn:=kY
abbrev Gm:=lJ
abbrev Gt:=fV
theorem GV:type_of% @underlying3:=@underlying3
theorem ZF:type_of% @underlying4:=@underlying4
theorem u5_:type_of% @underlying5:=@underlying5
theorem uM:type_of% @underlying9:=@underlying9
theorem qH:type_of% @underlying22:=@underlying22
theorem Iu:type_of% @underlying23:=@underlying23
theorem Df:type_of% @underlying24:=@underlying24
theorem CF:type_of% @underlying26:=@underlying26
theorem Es:type_of% @underlying27:=@underlying27
theorem NK:type_of% @underlying28:=@underlying28
theorem Ch:type_of% @underlying30:=@underlying30
theorem Fv:type_of% @underlying40:=@underlying40
theorem Ii:type_of% @underlying43:=@underlying43
theorem Co:type_of% @underlying57:=@underlying57
theorem Xi:type_of% @underlying59:=@underlying59
theorem ED:type_of% @underlying60:=@underlying60
theorem OB:type_of% @underlying62:=@underlying62
theorem OC:type_of% @underlying63:=@underlying63
theorem Xm:type_of% @underlying65:=@underlying65
theorem H6:type_of% @underlying98:=@underlying98
theorem Bw:type_of% @underlying96:=@underlying96
theorem kX:type_of% @underlying36:=@underlying36
theorem Bf:type_of% @underlying37:=@underlying37
theorem Dg:type_of% @underlying39:=@underlying39
theorem Dj:type_of% @underlying79:=@underlying79
theorem tu:type_of% @underlying120:=@underlying120
theorem lg:type_of% @underlying122:=@underlying122
theorem Jv:type_of% @underlying115:=@underlying115
theorem l6:type_of% @underlying135:=@underlying135
theorem Ba:type_of% @underlying109:=@underlying109
theorem PY:type_of% @underlying164:=@underlying164
def FA (t i k:Nat):Prop:=∀ {ρ:Operand->Value} {d:Option Nat} {ty:TypeId} {pos:String} {af:Array Edge} {g:Option (Nat × Bool)} {w:World} {x:Operand} {b o:Nat},ρ x=.pointer (some ⟨b,o,none⟩)->Yl prog ρ (.fieldAddr t x i) d ty pos af g w (.pointer (some ⟨b,o+k,none⟩))
def FB (t:Nat):Prop:=∀ {ρ:Operand->Value} {d:Option Nat} {ty:TypeId} {pos:String} {af:Array Edge} {g:Option (Nat × Bool)} {w:World} {x:Operand} {b o:Nat},ρ x=.pointer (some ⟨b,o,none⟩)->Yl prog ρ (.fieldAddr t x 0) d ty pos af g w (.pointer (some ⟨b,o,none⟩))
def LA (n:Nat):Prop:=∀ {ρ:Operand->Value} {d:Option Nat} {ty:TypeId} {pos:String} {af:Array Edge} {g:Option (Nat × Bool)} {w:World} {x:Operand} {b o:Nat} {t:TypeId} {cs:Array Value} {v:Value},ρ x=.pointer (some ⟨b,o,none⟩)->nH w b t cs->cs[o]?=some v->Yl prog ρ (.load n x) d ty pos af g w v
theorem fa {t:Nat} (i k:Nat) {fs:Array Field} {f:Field} {z:Value} {s by_:Nat} (ht:prog.underlying t=some (.struct fs)) (hf:fs[i]?=some f) (hk:f.offset=k) (hi:TI prog f.type z s by_) (hs:s≠0:=by decide):FA t i k:=TW ht hf hk hi hs
theorem fb {t:Nat} {fs:Array Field} {f:Field} {z:Value} {s by_:Nat} (ht:prog.underlying t=some (.struct fs)) (hf:fs[0]?=some f) (hk:f.offset=0) (hi:TI prog f.type z s by_) (hs:s≠0:=by decide):FB t:=aa8 ht hf hk hi hs
theorem la {n:Nat} {D:TypeDesc} (hu:prog.underlying n=some D) (hD:IQ D=false):LA n:=fun h hb hi=>jS hu hD h (hb.cell hi)
section
variable {ρ:Operand->Value} {d:Option Nat} {ty:TypeId} {pos:String} {af:Array Edge} {g:Option (Nat × Bool)} {w:World} {x:Operand} {b o:Nat}
theorem Ey:FB 26:=fb CF rfl rfl YP
theorem BD:FA 26 1 1:=fa 1 1 CF rfl rfl X3
theorem GI:FB 30:=fb Ch rfl rfl uI
theorem Bb:FA 30 1 2:=fa 1 2 Ch rfl rfl Yz
theorem FR:FA 30 2 3:=fa 2 3 Ch rfl rfl aad
theorem NQ:FB 43:=fb Ii rfl rfl Kw
theorem Pw:FA 43 1 1:=fa 1 1 Ii rfl rfl N7
theorem MI:FA 43 2 2:=fa 2 2 Ii rfl rfl mV
theorem Ud:FA 43 3 3:=fa 3 3 Ii rfl rfl vW
theorem Wt:FB 62:=fb OB rfl rfl mV
theorem Wh:FA 62 1 1:=fa 1 1 OB rfl rfl mV
theorem VP:FB 65:=fb Xm rfl rfl mV
theorem VG:FA 65 1 1:=fa 1 1 Xm rfl rfl ZC
theorem SS:FA 65 2 2:=fa 2 2 Xm rfl rfl vW
theorem Dx:FB 59:=fb Xi rfl rfl Yg
theorem Cm:FA 62 2 2:=fa 2 2 OB rfl rfl XK
theorem Wi:FB 98:=fb H6 rfl rfl pO
theorem TT:FA 98 1 1:=fa 1 1 H6 rfl rfl mV
theorem VF:FA 98 2 2:=fa 2 2 H6 rfl rfl mV
theorem TK:FA 98 3 3:=fa 3 3 H6 rfl rfl mV
theorem VJ:FA 98 5 5:=fa 5 5 H6 rfl rfl mV
theorem Nf:FA 98 6 6:=fa 6 6 H6 rfl rfl mV
theorem ML:FB 39:=fb Dg rfl rfl pO
theorem Po:FA 39 1 1:=fa 1 1 Dg rfl rfl mV
theorem GQ:FA 39 2 2:=fa 2 2 Dg rfl rfl oM
theorem Ec:FA 39 3 3:=fa 3 3 Dg rfl rfl Bo
theorem Cb:FB 84:=fb underlying84 rfl rfl acB
theorem nX:FA 84 1 1:=fa 1 1 underlying84 rfl rfl mV
theorem VL:FA 84 2 2:=fa 2 2 underlying84 rfl rfl mV
theorem vN:FA 84 3 3:=fa 3 3 underlying84 rfl rfl Kw
theorem yF:FB 122:=fb lg rfl rfl mV
theorem Bn:FA 122 1 1:=fa 1 1 lg rfl rfl mV
theorem Ot:FA 122 2 2:=fa 2 2 lg rfl rfl mV
theorem AB:FA 122 3 3:=fa 3 3 lg rfl rfl pO
theorem Hy:FA 122 4 4:=fa 4 4 lg rfl rfl pO
theorem CK:FA 122 5 5:=fa 5 5 lg rfl rfl mV
theorem Il:FA 122 6 6:=fa 6 6 lg rfl rfl mV
theorem yE:FA 122 7 7:=fa 7 7 lg rfl rfl vM
theorem DU:FA 122 8 8:=fa 8 8 lg rfl rfl pO
theorem Gq:FA 122 9 9:=fa 9 9 lg rfl rfl mV
theorem rM:FA 122 10 10:=fa 10 10 lg rfl rfl vM
theorem xw:FA 122 11 11:=fa 11 11 lg rfl rfl Bo
theorem xY:FA 122 12 12:=fa 12 12 lg rfl rfl Bo
theorem tq:FB 90:=fb underlying90 rfl rfl wK
theorem Dr:FA 90 1 4:=fa 1 4 underlying90 rfl rfl mV
theorem Dq:FA 90 2 5:=fa 2 5 underlying90 rfl rfl vW
theorem VR:FA 90 3 6:=fa 3 6 underlying90 rfl rfl mV
theorem Ca:FA 90 4 7:=fa 4 7 underlying90 rfl rfl Kw
theorem Ky:FB 115:=fb Jv rfl rfl pO
theorem CP:FA 115 1 1:=fa 1 1 Jv rfl rfl oM
theorem O4:FB 129:=fb underlying129 rfl rfl vW
theorem Iy:FA 129 1 1:=fa 1 1 underlying129 rfl rfl mV
theorem pI:FB 132:=fb underlying132 rfl rfl ZY
theorem WL:FA 132 1 1:=fa 1 1 underlying132 rfl rfl mV
theorem Od:FA 132 2 2:=fa 2 2 underlying132 rfl rfl mV
theorem XL:FA 132 3 3:=fa 3 3 underlying132 rfl rfl vW
theorem nu:FA 132 4 4:=fa 4 4 underlying132 rfl rfl oM
theorem qy:FA 132 5 5:=fa 5 5 underlying132 rfl rfl oM
theorem rD:FA 132 6 6:=fa 6 6 underlying132 rfl rfl oM
theorem EX:FA 132 7 7:=fa 7 7 underlying132 rfl rfl mV
theorem OD:FA 132 8 8:=fa 8 8 underlying132 rfl rfl mV
theorem Bj:FB 135:=fb l6 rfl rfl mV
theorem Ke:FA 135 1 1:=fa 1 1 l6 rfl rfl mV
theorem TF:FA 135 2 2:=fa 2 2 l6 rfl rfl mV
theorem LJ:FA 135 3 3:=fa 3 3 l6 rfl rfl pO
theorem RB:FA 135 4 4:=fa 4 4 l6 rfl rfl pO
theorem BM:FA 135 5 5:=fa 5 5 l6 rfl rfl vM
theorem OX:FB 109:=fb Ba rfl rfl mV
theorem LV:FA 109 1 1:=fa 1 1 Ba rfl rfl mV
theorem Ki:FA 109 2 2:=fa 2 2 Ba rfl rfl pO
theorem Rz:FA 109 3 3:=fa 3 3 Ba rfl rfl mV
theorem l3:LA 3:=la GV rfl
theorem l4:LA 4:=la ZF rfl
theorem l9:LA 9:=la uM rfl
theorem OM:LA 22:=la qH rfl
theorem Wz:LA 23:=la Iu rfl
theorem QX:LA 24:=la Df rfl
theorem Qu:LA 27:=la Es rfl
theorem XM:LA 28:=la NK rfl
theorem CV:LA 41:=la underlying41 rfl
theorem l57:LA 57:=la Co rfl
theorem Vs:LA 60:=la ED rfl
theorem AP:LA 36:=la kX rfl
theorem QU:LA 37:=la Bf rfl
theorem QW:LA 79:=la Dj rfl
theorem AU:LA 120:=la tu rfl
theorem yA:LA 127:=la underlying127 rfl
end
section
variable {P:Program} {N:Fz} {ops:Array Oper} {f:Fr} {w w0:World} {n:Nat} {K:KK} {Lb:Array Bool} {T:List Nat} {Y G:Nat->Prop} {L:List It} {D:List Da} {S1 S:World->Prop}
theorem pF (i : Nat) {oi : Oper} {v : Value} (hi : ops[i]? = some oi) (hy : ∀ {w : World}, (execOp (ev f) oi).run P w = .ok (.value v) w) (hs : S1 w)
 (k:sH P N ops S1 (fun _=>True) T K n (Lb.setIfInBounds i true) (nK f oi.dst v) w) (hw:tX ops f oi.guard=true:=by exact rfl) (hc:may ops T Lb i=true:=by kernel_rfl):sH P N ops S1 (fun _=>True) T K (n + 1) Lb f w:=tP i hi (fun _=>hy) (sF hs) k hw hc
theorem pL (i : Nat) {oi : Oper} {v : Value} (hi : ops[i]? = some oi) (hy : ∀ {w : World}, (execOp (ev f) oi).run P w = .ok (.value v) w) (hs : S1 w) (hu : S w)
 (k:sH P N ops S1 S T K n (Lb.setIfInBounds i true) (nK f oi.dst v) w) (hw:tX ops f oi.guard=true:=by exact rfl) (hc:may ops T Lb i=true:=by kernel_rfl):sH P N ops S1 S T K (n + 1) Lb f w:=tP i hi (fun _=>hy) (kG hs hu) k hw hc
theorem uF (i : Nat) {oi : Oper} {v : Value} (hi : ops[i]? = some oi) (hy : ∀ {w : World}, S1 w → (execOp (ev f) oi).run P w = .ok (.value v) w) (hs : S1 w)
 (k:sH P N ops S1 (fun _=>True) T K n (Lb.setIfInBounds i true) (nK f oi.dst v) w) (hw:tX ops f oi.guard=true:=by exact rfl) (hc:may ops T Lb i=true:=by kernel_rfl):sH P N ops S1 (fun _=>True) T K (n + 1) Lb f w:=tU i hi (fun _=>hy) (sF hs) k hw hc
theorem hO (i:Nat) (h:BU P N ops S1 S T K n Lb f w i) (hr:Region.ready .any ops Lb=[i]:=by kernel_rfl):sH P N ops S1 S T K (n + 1) Lb f w:=Z4 i hr h
theorem hD (h:K.n f w) (hr:Region.ready .any ops Lb=[]:=by kernel_rfl):sH P N ops S1 S T K n Lb f w:=Xl hr h
theorem sy (t:Nat) (h1:S1 w) (h:(T.contains t && Lb.getD t false)=true:=by kernel_rfl):E8 S1 T S Lb w:=TA t h1 h
theorem cf {g : FuncId} {fn : Func} {c : Code} {args : Array Value} {R : Value → World → Prop} (hf : P.funcs[g]? = some fn) (hb : fn.body = some c)
 (h:WP P (fn.ntmps,[]) c ⟨Reads P fn R,fun _ _ _=>False,Reads P fn R,fun _ _ _=>False⟩ (yP args) w) (hs:Nat.ble args.size fn.ntmps=true:=by exact rfl) (hok:D7 (fn.ntmps,[]) c=true:=by kernel_rfl):Calls P g args w (pz R):=R4 hf hb (Nat.le_of_ble_eq_true hs) hok h
end
end
end Go.Proofs.YtfglbdkfnphjgaaGreat
namespace Go.Fw
theorem Bx.ad {w0 w:World} {Y G:Nat->Prop} {L:List It} {D:List Da} (h:Bx w0 w Y G L D) (l m:List Nat) (hn:nodup l=true:=by exact rfl):Bx w0 w Y G (pick L l) (pick D m):=(h.arr l hn).dp m
theorem Bx.le {w0 w:World} {Y G:Nat->Prop} {L:List It} {D:List Da} {e:Nat} (h:Bx w0 w Y G L D) (k:e<=w0.heap.size):e<=w.heap.size:=Nat.le_trans k h.qW.size
theorem mh {α β γ:Type} {o:Option (α × β)} {f:α->β->Option γ} {X:γ} (h:(o.bind fun x=>iA x f)=some X):∃ a b,o=some (a,b)/\f a b=some X:=by obtain ⟨⟨a,b⟩,h1,h2⟩:=bs h;exact ⟨a,b,h1,h2⟩
theorem vV {α β γ δ:Type} {o:Option (α × β × γ)} {f:α->β->γ->Option δ} {X:δ} (h:(o.bind fun x=>iA x fun a y=>iA y (f a))=some X):∃ a b c,o=some (a,b,c)/\f a b c=some X:=by obtain ⟨⟨a,b,c⟩,h1,h2⟩:=bs h;exact ⟨a,b,c,h1,h2⟩
theorem YB {α β γ δ ε:Type} {o:Option (α × β × γ × δ)} {f:α->β->γ->δ->Option ε} {X:ε} (h:(o.bind fun x=>iA x fun a y=>iA y fun b z=>iA z (f a b))=some X):∃ a b c d,o=some (a,b,c,d)/\f a b c d=some X:=by obtain ⟨⟨a,b,c,d⟩,h1,h2⟩:=bs h;exact ⟨a,b,c,d,h1,h2⟩
theorem CU {α β γ δ:Type} {a:α} {b:β} {c:γ} {f:α->β->γ->δ} {X:δ} (h:iA (a,b,c) (fun x y=>iA y (f x))=X):f a b c=X:=h
theorem mQ {α β γ ε δ:Type} {a:α} {b:β} {c:γ} {d:ε} {f:α->β->γ->ε->δ} {X:δ} (h:iA (a,b,c,d) (fun x y=>iA y fun u v=>iA v (f x u))=X):f a b c d=X:=h
section
variable {P:Program} {N:Fz} {ops:Array Oper} {K:KK} {rest:List Oper} {f:Fr} {w w0:World} {d:Option Nat} {op:Op} {ty:TypeId} {pos:String} {af:Array Edge} {Z G:Nat->Prop} {L:List It} {D:List Da}
theorem rE (h:Bx w0 w Z G L D) {t:TypeId} {cs:Array Value} (e:(execOp (ev f) ⟨d,op,ty,pos,af,none⟩).run P w=.ok (.value (.pointer (some ⟨w.heap.size,0,none⟩))) (w.alloc (.cells cs t))) (k:∀ w' b,Bx w0 w' Z G (.box b t cs :: L) D->oV P N ops K rest (nK f d (.pointer (some ⟨b,0,none⟩))) w'):oV P N ops K (⟨d,op,ty,pos,af,none⟩ :: rest) f w:=nM (nV h e) (by rintro _ w' ⟨b,rfl,h⟩;exact k w' b h)
end
def spl:List Value→Nat→List Value→List Value
 | [],_,_=>[]
 | a :: l,0,[]=>a :: l
 | _ :: l,0,v :: m=>v :: spl l 0 m
 | a :: l,n+1,m=>a :: spl l n m
theorem Oe:∀ (l:List Value) (o:Nat) (m:List Value),o+m.length≤l.length→spl l o m=l.take o ++ m ++ l.drop (o+m.length)
 | [],o,m,h=>by have h1:m=[]:=List.length_eq_zero_iff.1 (by simp only [List.length_nil] at h;omega);subst h1;simp [spl]
 | a :: l,0,[],_=>by simp [spl]
 | a :: l,0,v :: m,h=>by have:=Oe l 0 m (by simp only [List.length_cons] at h;omega);simp only [spl,this];simp
 | a :: l,n+1,m,h=>by have:=Oe l n m (by simp only [List.length_cons] at h;omega);rw [spl,this,show n+1+m.length=(n+m.length)+1 by omega];simp
section
variable {P:Program} {ρ:Operand->Value} {w w' w0:World} {d:Option Nat} {ty:TypeId} {pos:String} {af:Array Edge} {g:Option (Nat × Bool)} {Z G:Nat->Prop} {L L' L1 Lc:List It} {D D' D1:List Da}
theorem nZ (hL:Bx w0 w Z G L D) (i:Nat) {t te:TypeId} {x y:Operand} {z:Value} {s by_ b:Nat} {old:Array Value} (vs:List Value) (hi:L[i]?=some (.box b te old)) (ht:TI P t z s by_) (hx:ρ x=.pointer (some ⟨b,0,none⟩)) (hy:(ρ y).cells=vs.toArray) (e:L.set i (.box b te vs.toArray)=L':=by (try dsimp only [List.set]);all_goals exact rfl) (hs:s=vs.length:=by exact rfl) (h1:vs.all (fun v=>v.oneCell')=true:=by exact rfl) (hl:Nat.beq vs.length old.size=true:=by exact rfl) :Rh P ρ ⟨d,.store t x y,ty,pos,af,g⟩ w fun w'=>Bx w0 w' Z G L' D:=by have h:=Nat.eq_of_beq_eq_true hl;subst e;refine Vf hL i vs hi ht hs hx hy h1 (Nat.ble_eq_true_of_le (by rw [Nat.zero_add,h];exact Nat.le_refl _)) ?_;rw [Nat.zero_add,List.take_zero,List.nil_append,List.drop_eq_nil_of_le (by rw [h];simp),List.append_nil]
theorem t_n (hL:Bx w0 w Z G L D) (i:Nat) {t te:TypeId} {x y:Operand} {z:Value} {s by_ b o:Nat} {old cs':List Value} (vs:List Value) (hi:L[i]?=some (.box b te old.toArray)) (ht:TI P t z s by_) (hx:ρ x=.pointer (some ⟨b,o,none⟩)) (hy:(ρ y).cells=vs.toArray) (hc:spl old o vs=cs':=by (try dsimp only [spl]);all_goals exact rfl) (e:L.set i (.box b te cs'.toArray)=L':=by (try dsimp only [List.set]);all_goals exact rfl) (hs:s=vs.length:=by exact rfl) (h1:vs.all (fun v=>v.oneCell')=true:=by exact rfl) (hl:Nat.ble (o+vs.length) old.length=true:=by exact rfl) :Rh P ρ ⟨d,.store t x y,ty,pos,af,g⟩ w fun w'=>Bx w0 w' Z G L' D:=by have h:=Nat.le_of_ble_eq_true hl;subst e hc;refine Vf hL i vs hi ht hs hx hy h1 (Nat.ble_eq_true_of_le (by simpa using h)) ?_;rw [Oe _ _ _ h]
theorem Bx.cn (h:Bx w0 w Z G L D) (i r:List Nat) (k:Bx w w' (CY w0 Z (pick L i ++ pick L r)) (lD Lc) L1 D1) (hL:L1 ++ pick L r=L':=by (try dsimp only [pick,nth,List.cons_append,List.nil_append]);all_goals exact rfl) (hD:D1 ++ D=D':=by (try dsimp only [List.cons_append,List.nil_append]);all_goals exact rfl) (e:pick L i=Lc:=by exact rfl) (hn:nodup (i ++ r)=true:=by exact rfl):Bx w0 w' Z G L' D':=by subst hL hD;exact h.cl i r hn k e
theorem Bx.fz (h:Bx w0 w Z G L D) (i j:Nat) {α:Type} [Rp α] {e:TypeId} {A:Option Addr} {c:Nat} {cs:List (List Value)} {l:List α} (hi:L[i]?=some (.own w0.heap.size A c e (Rp.sz α) cs)) (hj:D[j]?=some (.els cs l)) (hL:L.eraseIdx i=L':=by (try dsimp only [List.eraseIdx]);all_goals exact rfl) (hD:D.eraseIdx j=D':=by (try dsimp only [List.eraseIdx]);all_goals exact rfl) :
  Bx w0 w Z G L' (.l A c l :: D'):=by
 subst hL hD;exact h.QY i j hi hj
theorem Bx.rb (h:Bx w0 w Z G L D) (i:Nat) {base:Nat} {A:Option Addr} {c sz:Nat} {e:TypeId} {cs:List (List Value)} (base':Nat) (hi:L[i]?=some (.own base A c e sz cs)) (hb:base'<=base) (hL:L.set i (.own base' A c e sz cs)=L':=by (try dsimp only [List.set]);all_goals exact rfl):Bx w0 w Z G L' D:=by subst hL;exact h.reb i base' hi hb
theorem YX {t:TypeId} {x:Operand} {T:TypeDesc} {z:Value} {s by_:Nat} {α:Type} [Rp α] {F:Nat→Prop} {a:Option Addr} {c:Nat} {l:List α} {k:Nat} {y:α} (cs:List Value) (hu:P.underlying t=some T) (hi:TI P t z s by_)
 (hx:ρ x=.pointer (some ⟨mX a,nU a+k * Rp.sz α,none⟩)) (h:kU F w a c l) (hy:l[k]?=some y) (hD:IQ T=true:=by exact rfl) (hs:s=cs.length:=by exact rfl) (hr:∀ ds,Rp.rep F w ds y->ds=cs:=by exact fun _ h=>h):Yl P ρ (.load t x) d ty pos af g w (.agg cs.toArray):=mU cs hu hD hi hs hx (tC h hy hr)
theorem lY {t te:TypeId} {x:Operand} {T:TypeDesc} {z:Value} {s by_ b:Nat} {old:Array Value} (cs:List Value) (hu:P.underlying t=some T) (hi:TI P t z s by_)
 (hx:ρ x=.pointer (some ⟨b,0,none⟩)) (h:nH w b te old) (hD:IQ T=true:=by exact rfl) (hs:s=cs.length:=by exact rfl) (hr:(old.toList.drop 0).take cs.length=cs:=by exact rfl):Yl P ρ (.load t x) d ty pos af g w (.agg cs.toArray):=mU cs hu hD hi hs hx (Cells.part h.cells (o2:=0) hr)
end
theorem IE {P:Program} {N:Fz} {n R:Fr->World->Prop} {X:Nat->Fr->World->Prop} {V:Fr->List PanicEntry->World->Prop} {f:Fr} {w w0 w1:World} {Z G:Nat->Prop} {L:List It} {D:List Da} (a:Bx w0 w1 Z G L D) {x:Code} (J:(World->Prop)->Fr->World->Prop) (h:∀ J':Fr->World->Prop,(∀ f w,J (Bx w0 · Z G L D) f w->J' f w)->WP P N x ⟨J',X,R,V⟩ f w) (k:∀ f w,J (Bx w0 · Z G L D) f w->n f w):WP P N x ⟨n,X,R,V⟩ f w:=qF (J (Bx w0 · Z G L D)) h k
end Go.Fw
