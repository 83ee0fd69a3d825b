/- Lemmas. -/
import Derived.Test.YtdkneekpdecjbaaGreatRows
import Derived.Test.YtdkneekpdecjbaaGreatZ2
import Derived.Recover
set_option linter.all false
set_option maxHeartbeats 12800000
set_option maxRecDepth 4000
namespace Go.Proofs.YtdkneekpdecjbaaGreat
open Go.RowKit Go.Fw Go.Proofs.Tryz
theorem r.{u}{α:Sort u}{a:α}:a=a:=rfl
abbrev OA:=Option Addr
abbrev LV:=List (List Value)
noncomputable section
structure jP where
 l:(List Int)
 a:Int
abbrev jP.rp (F:Nat->Prop)(w:World)(cs:List Value)(x:jP):Prop:=∃ (a1:OA)(c1:Nat),cs=[.slice a1 x.l.length c1,Vi x.a]/\l5 F w a1 c1 x.l
instance:Rp jP:=⟨2,32,jP.rp,fun h=>by obtain ⟨a1,c1,rfl,_⟩:=h;rfl,fun h=>by obtain ⟨a1,c1,rfl,_⟩:=h;rfl,fun h m=>by obtain ⟨a1,c1,h,k1⟩:=h;exact ⟨a1,c1,h,k1.mv m⟩⟩
theorem jP.out {F:Nat->Prop}{w:World}{cs:List Value}{x:jP}(h:Rp.rep F w cs x):jP.rp F w cs x:=h
theorem jP.inn {F:Nat->Prop}{w:World}{cs:List Value}{x:jP}(h:jP.rp F w cs x):Rp.rep F w cs x:=h
structure jD where
 e:Int
 d:Int
 f:Int
 c:ByteArray
 b:ByteArray
 a:(List jD)
inductive jD.R (F:Nat→Prop)(w:World):List Value→jD→Prop
 | mk (x:jD) (a1:OA) (c1:Nat) (C1:Nat->List Value) (h1:x.a.length<=c1/\c1<=maxLen) (k1:0 < x.a.length->a1=some ⟨oH a1,qo a1,none⟩/\F (oH a1)/\oH a1 < w.heap.size) (e1:∀ i y,x.a[i]?=some y->Cells w (oH a1) (qo a1+i * 6) (C1 i)) (r1:∀ i y,x.a[i]?=some y->jD.R F w (C1 i) y):jD.R F w [Vi x.e,Vi x.d,Vi x.f,Vt x.c,Vt x.b,.slice a1 x.a.length c1] x
instance:Rp jD where
 sz:=6
 bs:=80
 rep:=jD.R
 len h:=by cases h;rfl
 one h:=by cases h;rfl
 mv {F G w w' cs x} h m:=by
  induction h with
  | mk x a1 c1 C1 h1 k1 e1 r1 ih1=>exact .mk x a1 c1 C1 h1 (fun h0=>⟨(k1 h0).1,(m.1 _ (k1 h0).2.1 (k1 h0).2.2).1,Nat.lt_of_lt_of_le (k1 h0).2.2 m.2⟩) (fun i y hy=>(e1 i y hy).same (m.1 _ (k1 (by have:=ku hy;omega)).2.1 (k1 (by have:=ku hy;omega)).2.2).2) ih1
theorem jD.out {F:Nat->Prop}{w:World}{cs:List Value}{x:jD}(h:Rp.rep F w cs x):∃ (a:OA)(b:Nat),cs=[Vi x.e,Vi x.d,Vi x.f,Vt x.c,Vt x.b,.slice a x.a.length b]/\l5 F w a b x.a:=by
 cases h with
 | mk _ a b f e c j k=>exact ⟨a,b,rfl,⟨e.1,e.2,fun d=>⟨(c d).1,(c d).2.1,(c d).2.2,fun i l hy=>⟨f i,j i l hy,k i l hy⟩⟩⟩⟩
theorem jD.inn {F:Nat->Prop}{w:World}{cs:List Value}{x:jD}(h:∃ (b:OA) (c:Nat),cs=[Vi x.e,Vi x.d,Vi x.f,Vt x.c,Vt x.b,.slice b x.a.length c]/\l5 F w b c x.a):Rp.rep F w cs x:=by obtain ⟨b,c,rfl,a⟩:=h;obtain ⟨e,f,i⟩:=a.fn;exact .mk x b c e ⟨a.1,a.2.1⟩ (fun d=>⟨(a.2.2 d).1,(a.2.2 d).2.1,(a.2.2 d).2.2.1⟩) f i
structure kN where
 b:Int
 g:Int
 a:ByteArray
 d:Int
instance:Rp kN:=⟨4,40,fun _ _ cs x=>cs=[Vi x.b,Vi x.g,Vt x.a,Vi x.d],fun h=>by rw [h];rfl,fun h=>by rw [h];rfl,fun h _=>h⟩
structure jy where
 l:(List kN)
 a:Int
 c:Int
 e:Int
abbrev jy.rp (F:Nat->Prop)(w:World)(cs:List Value)(x:jy):Prop:=∃ (a1:OA)(c1:Nat),cs=[.slice a1 x.l.length c1,Vi x.a,Vi x.c,Vi x.e]/\l5 F w a1 c1 x.l
instance:Rp jy:=⟨4,48,jy.rp,fun h=>by obtain ⟨a1,c1,rfl,_⟩:=h;rfl,fun h=>by obtain ⟨a1,c1,rfl,_⟩:=h;rfl,fun h m=>by obtain ⟨a1,c1,h,k1⟩:=h;exact ⟨a1,c1,h,k1.mv m⟩⟩
theorem jy.out {F:Nat->Prop}{w:World}{cs:List Value}{x:jy}(h:Rp.rep F w cs x):jy.rp F w cs x:=h
theorem jy.inn {F:Nat->Prop}{w:World}{cs:List Value}{x:jy}(h:jy.rp F w cs x):Rp.rep F w cs x:=h
structure jC where
 b:Int
 g:Int
 n:Int
 c:ByteArray
 j:ByteArray
 m:Int
 f:Int
 e:(List jD)
 k:ByteArray
 h:Int
 a:(List jD)
 d:(List jC)
 i:(List jC)
inductive jC.R (F:Nat→Prop)(w:World):List Value→jC→Prop
 | mk (x:jC) (a1:OA) (c1:Nat) (a2:OA) (c2:Nat) (a3:OA) (c3:Nat) (a4:OA) (c4:Nat) (k1:l5 F w a1 c1 x.e) (k2:l5 F w a2 c2 x.a) (C3:Nat->List Value) (h3:x.d.length<=c3/\c3<=maxLen) (k3:0 < x.d.length->a3=some ⟨oH a3,qo a3,none⟩/\F (oH a3)/\oH a3 < w.heap.size) (e3:∀ i y,x.d[i]?=some y->Cells w (oH a3) (qo a3+i * 13) (C3 i)) (r3:∀ i y,x.d[i]?=some y->jC.R F w (C3 i) y) (C4:Nat->List Value) (h4:x.i.length<=c4/\c4<=maxLen) (k4:0 < x.i.length->a4=some ⟨oH a4,qo a4,none⟩/\F (oH a4)/\oH a4 < w.heap.size) (e4:∀ i y,x.i[i]?=some y->Cells w (oH a4) (qo a4+i * 13) (C4 i)) (r4:∀ i y,x.i[i]?=some y->jC.R F w (C4 i) y):jC.R F w [Vi x.b,Vi x.g,Vi x.n,Vt x.c,Vt x.j,Vi x.m,Vi x.f,.slice a1 x.e.length c1,Vt x.k,Vi x.h,.slice a2 x.a.length c2,.slice a3 x.d.length c3,.slice a4 x.i.length c4] x
instance:Rp jC where
 sz:=13
 bs:=192
 rep:=jC.R
 len h:=by cases h;rfl
 one h:=by cases h;rfl
 mv {F G w w' cs x} h m:=by
  induction h with
  | mk x a1 c1 a2 c2 a3 c3 a4 c4 k1 k2 C3 h3 k3 e3 r3 C4 h4 k4 e4 r4 ih3 ih4=>exact .mk x a1 c1 a2 c2 a3 c3 a4 c4 (k1.mv m) (k2.mv m) C3 h3 (fun h0=>⟨(k3 h0).1,(m.1 _ (k3 h0).2.1 (k3 h0).2.2).1,Nat.lt_of_lt_of_le (k3 h0).2.2 m.2⟩) (fun i y hy=>(e3 i y hy).same (m.1 _ (k3 (by have:=ku hy;omega)).2.1 (k3 (by have:=ku hy;omega)).2.2).2) ih3 C4 h4 (fun h0=>⟨(k4 h0).1,(m.1 _ (k4 h0).2.1 (k4 h0).2.2).1,Nat.lt_of_lt_of_le (k4 h0).2.2 m.2⟩) (fun i y hy=>(e4 i y hy).same (m.1 _ (k4 (by have:=ku hy;omega)).2.1 (k4 (by have:=ku hy;omega)).2.2).2) ih4
theorem jC.out {F:Nat->Prop}{w:World}{cs:List Value}{x:jC}(h:Rp.rep F w cs x):∃ (b:OA)(c:Nat)(d:OA)(e:Nat)(f:OA)(j:Nat)(k:OA)(l:Nat),cs=[Vi x.b,Vi x.g,Vi x.n,Vt x.c,Vt x.j,Vi x.m,Vi x.f,.slice b x.e.length c,Vt x.k,Vi x.h,.slice d x.a.length e,.slice f x.d.length j,.slice k x.i.length l]/\l5 F w b c x.e/\l5 F w d e x.a/\l5 F w f j x.d/\l5 F w k l x.i:=by
 cases h with
 | mk _ b c d e f j k l u v z p m A B C t o D E=>exact ⟨b,c,d,e,f,j,k,l,rfl,u,v,⟨p.1,p.2,fun a=>⟨(m a).1,(m a).2.1,(m a).2.2,fun i G hy=>⟨z i,A i G hy,B i G hy⟩⟩⟩,⟨t.1,t.2,fun a=>⟨(o a).1,(o a).2.1,(o a).2.2,fun i G hy=>⟨C i,D i G hy,E i G hy⟩⟩⟩⟩
theorem jC.inn {F:Nat->Prop}{w:World}{cs:List Value}{x:jC}(h:∃ (d:OA) (e:Nat) (f:OA) (i:Nat) (j:OA) (k:Nat) (l:OA) (m:Nat),cs=[Vi x.b,Vi x.g,Vi x.n,Vt x.c,Vt x.j,Vi x.m,Vi x.f,.slice d x.e.length e,Vt x.k,Vi x.h,.slice f x.a.length i,.slice j x.d.length k,.slice l x.i.length m]/\l5 F w d e x.e/\l5 F w f i x.a/\l5 F w j k x.d/\l5 F w l m x.i):Rp.rep F w cs x:=by obtain ⟨d,e,f,i,j,k,l,m,rfl,o,p,b,c⟩:=h;obtain ⟨t,u,v⟩:=b.fn;obtain ⟨z,A,B⟩:=c.fn;exact .mk x d e f i j k l m o p t ⟨b.1,b.2.1⟩ (fun a=>⟨(b.2.2 a).1,(b.2.2 a).2.1,(b.2.2 a).2.2.1⟩) u v z ⟨c.1,c.2.1⟩ (fun a=>⟨(c.2.2 a).1,(c.2.2 a).2.1,(c.2.2 a).2.2.1⟩) A B
structure jX where
 c:ByteArray
 a:(List ByteArray)
abbrev jX.rp (F:Nat->Prop)(w:World)(cs:List Value)(x:jX):Prop:=∃ (a1:OA)(c1:Nat),cs=[Vt x.c,.slice a1 x.a.length c1]/\l5 F w a1 c1 x.a
instance:Rp jX:=⟨2,40,jX.rp,fun h=>by obtain ⟨a1,c1,rfl,_⟩:=h;rfl,fun h=>by obtain ⟨a1,c1,rfl,_⟩:=h;rfl,fun h m=>by obtain ⟨a1,c1,h,k1⟩:=h;exact ⟨a1,c1,h,k1.mv m⟩⟩
theorem jX.out {F:Nat->Prop}{w:World}{cs:List Value}{x:jX}(h:Rp.rep F w cs x):jX.rp F w cs x:=h
theorem jX.inn {F:Nat->Prop}{w:World}{cs:List Value}{x:jX}(h:jX.rp F w cs x):Rp.rep F w cs x:=h
structure kC where
 c:ByteArray
 g:Int
 a:(List ByteArray)
 d:(List jC)
abbrev kC.rp (F:Nat->Prop)(w:World)(cs:List Value)(x:kC):Prop:=∃ (a1:OA)(c1:Nat)(a2:OA)(c2:Nat),cs=[Vt x.c,Vi x.g,.slice a1 x.a.length c1,.slice a2 x.d.length c2]/\l5 F w a1 c1 x.a/\l5 F w a2 c2 x.d
instance:Rp kC:=⟨4,72,kC.rp,fun h=>by obtain ⟨a1,c1,a2,c2,rfl,_⟩:=h;rfl,fun h=>by obtain ⟨a1,c1,a2,c2,rfl,_⟩:=h;rfl,fun h m=>by obtain ⟨a1,c1,a2,c2,h,k1,k2⟩:=h;exact ⟨a1,c1,a2,c2,h,k1.mv m,k2.mv m⟩⟩
theorem kC.out {F:Nat->Prop}{w:World}{cs:List Value}{x:kC}(h:Rp.rep F w cs x):kC.rp F w cs x:=h
theorem kC.inn {F:Nat->Prop}{w:World}{cs:List Value}{x:kC}(h:kC.rp F w cs x):Rp.rep F w cs x:=h
structure jV where
 a:(List jX)
 b:(List kC)
abbrev jV.rp (F:Nat->Prop)(w:World)(cs:List Value)(x:jV):Prop:=∃ (a1:OA)(c1:Nat)(a2:OA)(c2:Nat),cs=[.slice a1 x.a.length c1,.slice a2 x.b.length c2]/\l5 F w a1 c1 x.a/\l5 F w a2 c2 x.b
instance:Rp jV:=⟨2,48,jV.rp,fun h=>by obtain ⟨a1,c1,a2,c2,rfl,_⟩:=h;rfl,fun h=>by obtain ⟨a1,c1,a2,c2,rfl,_⟩:=h;rfl,fun h m=>by obtain ⟨a1,c1,a2,c2,h,k1,k2⟩:=h;exact ⟨a1,c1,a2,c2,h,k1.mv m,k2.mv m⟩⟩
theorem jV.out {F:Nat->Prop}{w:World}{cs:List Value}{x:jV}(h:Rp.rep F w cs x):jV.rp F w cs x:=h
theorem jV.inn {F:Nat->Prop}{w:World}{cs:List Value}{x:jV}(h:jV.rp F w cs x):Rp.rep F w cs x:=h
structure lX where
 f:Int
 e:Int
 b:(List Int)
 a:(List ByteArray)
 d:(List ByteArray)
 c:(List ByteArray)
 g:Int
 h:Int
structure iA where
 c:ByteArray
 b:Int
 f:Int
 a:Int
 g:Bool
 e:Int
 d:Int
instance:Rp iA:=⟨7,64,fun _ _ cs x=>cs=[Vt x.c,Vi x.b,Vi x.f,Vi x.a,.bool x.g,Vi x.e,Vi x.d],fun h=>by rw [h];rfl,fun h=>by rw [h];rfl,fun h _=>h⟩
structure jR where
 k:Int
 b:Int
 g:Int
instance:Rp jR:=⟨3,24,fun _ _ cs x=>cs=[Vi x.k,Vi x.b,Vi x.g],fun h=>by rw [h];rfl,fun h=>by rw [h];rfl,fun h _=>h⟩
structure jW where
 a:jV
 c:(List (List iA))
 b:(List jR)
abbrev jW.rp (F:Nat->Prop)(w:World)(cs:List Value)(x:jW):Prop:=∃ (a1:OA)(c1:Nat)(a2:OA)(c2:Nat)(a3:OA)(c3:Nat)(a4:OA)(c4:Nat),cs=[.slice a1 x.a.a.length c1,.slice a2 x.a.b.length c2,.slice a3 x.c.length c3,.slice a4 x.b.length c4]/\l5 F w a1 c1 x.a.a/\l5 F w a2 c2 x.a.b/\l5 F w a3 c3 x.c/\l5 F w a4 c4 x.b
instance:Rp jW:=⟨4,96,jW.rp,fun h=>by obtain ⟨a1,c1,a2,c2,a3,c3,a4,c4,rfl,_⟩:=h;rfl,fun h=>by obtain ⟨a1,c1,a2,c2,a3,c3,a4,c4,rfl,_⟩:=h;rfl,fun h m=>by obtain ⟨a1,c1,a2,c2,a3,c3,a4,c4,h,k1,k2,k3,k4⟩:=h;exact ⟨a1,c1,a2,c2,a3,c3,a4,c4,h,k1.mv m,k2.mv m,k3.mv m,k4.mv m⟩⟩
theorem jW.out {F:Nat->Prop}{w:World}{cs:List Value}{x:jW}(h:Rp.rep F w cs x):jW.rp F w cs x:=h
theorem jW.inn {F:Nat->Prop}{w:World}{cs:List Value}{x:jW}(h:jW.rp F w cs x):Rp.rep F w cs x:=h
structure fV where
 a:jW
 f:Int
 b:(List Int)
 c:Int
 e:Int
abbrev fV.rp (F:Nat->Prop)(w:World)(cs:List Value)(x:fV):Prop:=∃ (a1:OA)(c1:Nat)(a2:OA)(c2:Nat)(a3:OA)(c3:Nat)(a4:OA)(c4:Nat)(a5:OA)(c5:Nat),cs=[.slice a1 x.a.a.a.length c1,.slice a2 x.a.a.b.length c2,.slice a3 x.a.c.length c3,.slice a4 x.a.b.length c4,Vi x.f,.slice a5 x.b.length c5,Vi x.c,Vi x.e]/\l5 F w a1 c1 x.a.a.a/\l5 F w a2 c2 x.a.a.b/\l5 F w a3 c3 x.a.c/\l5 F w a4 c4 x.a.b/\l5 F w a5 c5 x.b
instance:Rp fV:=⟨8,144,fV.rp,fun h=>by obtain ⟨a1,c1,a2,c2,a3,c3,a4,c4,a5,c5,rfl,_⟩:=h;rfl,fun h=>by obtain ⟨a1,c1,a2,c2,a3,c3,a4,c4,a5,c5,rfl,_⟩:=h;rfl,fun h m=>by obtain ⟨a1,c1,a2,c2,a3,c3,a4,c4,a5,c5,h,k1,k2,k3,k4,k5⟩:=h;exact ⟨a1,c1,a2,c2,a3,c3,a4,c4,a5,c5,h,k1.mv m,k2.mv m,k3.mv m,k4.mv m,k5.mv m⟩⟩
theorem fV.out {F:Nat->Prop}{w:World}{cs:List Value}{x:fV}(h:Rp.rep F w cs x):fV.rp F w cs x:=h
theorem fV.inn {F:Nat->Prop}{w:World}{cs:List Value}{x:fV}(h:fV.rp F w cs x):Rp.rep F w cs x:=h
structure Zy where
 b:Int
 a:Int
 c:Int
instance:Rp Zy:=⟨3,24,fun _ _ cs x=>cs=[Vi x.b,Vi x.a,Vi x.c],fun h=>by rw [h];rfl,fun h=>by rw [h];rfl,fun h _=>h⟩
structure yB where
 b:Int
 e:Int
 A:Int
 B:Int
 N:Int
 c:Int
 f:Int
 d:Int
 a:Zy
instance:Rp yB:=⟨11,88,fun _ _ cs x=>cs=[Vi x.b,Vi x.e,Vi x.A,Vi x.B,Vi x.N,Vi x.c,Vi x.f,Vi x.d,Vi x.a.b,Vi x.a.a,Vi x.a.c],fun h=>by rw [h];rfl,fun h=>by rw [h];rfl,fun h _=>h⟩
structure nO where
 b:Int
 a:(List Int)
abbrev nO.rp (F:Nat->Prop)(w:World)(cs:List Value)(x:nO):Prop:=∃ (a1:OA)(c1:Nat),cs=[Vi x.b,.slice a1 x.a.length c1]/\l5 F w a1 c1 x.a
instance:Rp nO:=⟨2,32,nO.rp,fun h=>by obtain ⟨a1,c1,rfl,_⟩:=h;rfl,fun h=>by obtain ⟨a1,c1,rfl,_⟩:=h;rfl,fun h m=>by obtain ⟨a1,c1,h,k1⟩:=h;exact ⟨a1,c1,h,k1.mv m⟩⟩
theorem nO.out {F:Nat->Prop}{w:World}{cs:List Value}{x:nO}(h:Rp.rep F w cs x):nO.rp F w cs x:=h
theorem nO.inn {F:Nat->Prop}{w:World}{cs:List Value}{x:nO}(h:nO.rp F w cs x):Rp.rep F w cs x:=h
structure Cq where
 b:nO
 a:nO
abbrev Cq.rp (F:Nat->Prop)(w:World)(cs:List Value)(x:Cq):Prop:=∃ (a1:OA)(c1:Nat)(a2:OA)(c2:Nat),cs=[Vi x.b.b,.slice a1 x.b.a.length c1,Vi x.a.b,.slice a2 x.a.a.length c2]/\l5 F w a1 c1 x.b.a/\l5 F w a2 c2 x.a.a
instance:Rp Cq:=⟨4,64,Cq.rp,fun h=>by obtain ⟨a1,c1,a2,c2,rfl,_⟩:=h;rfl,fun h=>by obtain ⟨a1,c1,a2,c2,rfl,_⟩:=h;rfl,fun h m=>by obtain ⟨a1,c1,a2,c2,h,k1,k2⟩:=h;exact ⟨a1,c1,a2,c2,h,k1.mv m,k2.mv m⟩⟩
theorem Cq.out {F:Nat->Prop}{w:World}{cs:List Value}{x:Cq}(h:Rp.rep F w cs x):Cq.rp F w cs x:=h
theorem Cq.inn {F:Nat->Prop}{w:World}{cs:List Value}{x:Cq}(h:Cq.rp F w cs x):Rp.rep F w cs x:=h
structure uG where
 b:Int
 A:Int
 N:Int
 a:(List Int)
 d:Cq
abbrev uG.rp (F:Nat->Prop)(w:World)(cs:List Value)(x:uG):Prop:=∃ (a1:OA)(c1:Nat)(a2:OA)(c2:Nat)(a3:OA)(c3:Nat),cs=[Vi x.b,Vi x.A,Vi x.N,.slice a1 x.a.length c1,Vi x.d.b.b,.slice a2 x.d.b.a.length c2,Vi x.d.a.b,.slice a3 x.d.a.a.length c3]/\l5 F w a1 c1 x.a/\l5 F w a2 c2 x.d.b.a/\l5 F w a3 c3 x.d.a.a
instance:Rp uG:=⟨8,112,uG.rp,fun h=>by obtain ⟨a1,c1,a2,c2,a3,c3,rfl,_⟩:=h;rfl,fun h=>by obtain ⟨a1,c1,a2,c2,a3,c3,rfl,_⟩:=h;rfl,fun h m=>by obtain ⟨a1,c1,a2,c2,a3,c3,h,k1,k2,k3⟩:=h;exact ⟨a1,c1,a2,c2,a3,c3,h,k1.mv m,k2.mv m,k3.mv m⟩⟩
theorem uG.out {F:Nat->Prop}{w:World}{cs:List Value}{x:uG}(h:Rp.rep F w cs x):uG.rp F w cs x:=h
theorem uG.inn {F:Nat->Prop}{w:World}{cs:List Value}{x:uG}(h:uG.rp F w cs x):Rp.rep F w cs x:=h
structure lN where
 a:Int
 c:(List yB)
 b:uG
abbrev lN.rp (F:Nat->Prop)(w:World)(cs:List Value)(x:lN):Prop:=∃ (a1:OA)(c1:Nat)(a2:OA)(c2:Nat)(a3:OA)(c3:Nat)(a4:OA)(c4:Nat),cs=[Vi x.a,.slice a1 x.c.length c1,Vi x.b.b,Vi x.b.A,Vi x.b.N,.slice a2 x.b.a.length c2,Vi x.b.d.b.b,.slice a3 x.b.d.b.a.length c3,Vi x.b.d.a.b,.slice a4 x.b.d.a.a.length c4]/\l5 F w a1 c1 x.c/\l5 F w a2 c2 x.b.a/\l5 F w a3 c3 x.b.d.b.a/\l5 F w a4 c4 x.b.d.a.a
instance:Rp lN:=⟨10,144,lN.rp,fun h=>by obtain ⟨a1,c1,a2,c2,a3,c3,a4,c4,rfl,_⟩:=h;rfl,fun h=>by obtain ⟨a1,c1,a2,c2,a3,c3,a4,c4,rfl,_⟩:=h;rfl,fun h m=>by obtain ⟨a1,c1,a2,c2,a3,c3,a4,c4,h,k1,k2,k3,k4⟩:=h;exact ⟨a1,c1,a2,c2,a3,c3,a4,c4,h,k1.mv m,k2.mv m,k3.mv m,k4.mv m⟩⟩
theorem lN.out {F:Nat->Prop}{w:World}{cs:List Value}{x:lN}(h:Rp.rep F w cs x):lN.rp F w cs x:=h
theorem lN.inn {F:Nat->Prop}{w:World}{cs:List Value}{x:lN}(h:lN.rp F w cs x):Rp.rep F w cs x:=h
structure Bf where
 a:Int
 b:Int
 k:Int
instance:Rp Bf:=⟨3,24,fun _ _ cs x=>cs=[Vi x.a,Vi x.b,Vi x.k],fun h=>by rw [h];rfl,fun h=>by rw [h];rfl,fun h _=>h⟩
structure xQ where
 c:Int
 f:Int
 a:Int
instance:Rp xQ:=⟨3,24,fun _ _ cs x=>cs=[Vi x.c,Vi x.f,Vi x.a],fun h=>by rw [h];rfl,fun h=>by rw [h];rfl,fun h _=>h⟩
structure nI where
 a:Int
 b:(List lN)
 d:(List Bf)
 c:(List xQ)
abbrev nI.rp (F:Nat->Prop)(w:World)(cs:List Value)(x:nI):Prop:=∃ (a1:OA)(c1:Nat)(a2:OA)(c2:Nat)(a3:OA)(c3:Nat),cs=[Vi x.a,.slice a1 x.b.length c1,.slice a2 x.d.length c2,.slice a3 x.c.length c3]/\l5 F w a1 c1 x.b/\l5 F w a2 c2 x.d/\l5 F w a3 c3 x.c
instance:Rp nI:=⟨4,80,nI.rp,fun h=>by obtain ⟨a1,c1,a2,c2,a3,c3,rfl,_⟩:=h;rfl,fun h=>by obtain ⟨a1,c1,a2,c2,a3,c3,rfl,_⟩:=h;rfl,fun h m=>by obtain ⟨a1,c1,a2,c2,a3,c3,h,k1,k2,k3⟩:=h;exact ⟨a1,c1,a2,c2,a3,c3,h,k1.mv m,k2.mv m,k3.mv m⟩⟩
theorem nI.out {F:Nat->Prop}{w:World}{cs:List Value}{x:nI}(h:Rp.rep F w cs x):nI.rp F w cs x:=h
theorem nI.inn {F:Nat->Prop}{w:World}{cs:List Value}{x:nI}(h:nI.rp F w cs x):Rp.rep F w cs x:=h
structure sW where
 b:(List nI)
abbrev sW.rp (F:Nat->Prop)(w:World)(cs:List Value)(x:sW):Prop:=∃ (a1:OA)(c1:Nat),cs=[.slice a1 x.b.length c1]/\l5 F w a1 c1 x.b
instance:Rp sW:=⟨1,24,sW.rp,fun h=>by obtain ⟨a1,c1,rfl,_⟩:=h;rfl,fun h=>by obtain ⟨a1,c1,rfl,_⟩:=h;rfl,fun h m=>by obtain ⟨a1,c1,h,k1⟩:=h;exact ⟨a1,c1,h,k1.mv m⟩⟩
theorem sW.out {F:Nat->Prop}{w:World}{cs:List Value}{x:sW}(h:Rp.rep F w cs x):sW.rp F w cs x:=h
theorem sW.inn {F:Nat->Prop}{w:World}{cs:List Value}{x:sW}(h:sW.rp F w cs x):Rp.rep F w cs x:=h
section
variable {ρ:Operand->Value}{w:World}{d:Option Nat}{ty:TypeId}{pos:String}{af:Array Edge}{g:Option (Nat × Bool)}
theorem VA {a b c e f h i j k l m n o p q r s t u v x y z A B C D E F G H I}(J:ρ s=Vi a)(K:ρ t=Vi b)(L:ρ u=Vi c)(M:ρ v=Vi e)(N:ρ x=Vi f)(O:ρ y=Vi h)(P:ρ z=Vi i)(Q:ρ A=Vi j)(R:ρ B=Vi k)(S:ρ C=Vi l)(T:ρ D=Vi m)(U:ρ E=Vi n)(V:ρ F=Vi o)(W:ρ G=Vi p)(X:ρ H=Vi q)(Y:ρ I=Vi r):(execOp ρ ⟨d,.buildSlice 22 16 #[(0,s),(1,t),(2,u),(3,v),(4,x),(5,y),(6,z),(7,A),(8,B),(9,C),(10,D),(11,E),(12,F),(13,G),(14,H),(15,I)],ty,pos,af,g⟩).run prog w=.ok (.value (.slice (some ⟨w.heap.size,0,none⟩) 16 16)) (w.alloc (.cells #[Vi a,Vi b,Vi c,Vi e,Vi f,Vi h,Vi i,Vi j,Vi k,Vi l,Vi m,Vi n,Vi o,Vi p,Vi q,Vi r] 3)):=by simp [execOp,J,K,L,M,N,O,P,Q,R,S,T,U,V,W,X,Y];kernel_rfl
theorem JB {a b c e f h i j k l m n o p q r s t u v x y z A}(B:ρ o=Vt a)(C:ρ p=Vt b)(D:ρ q=Vt c)(E:ρ r=Vt e)(F:ρ s=Vt f)(G:ρ t=Vt h)(H:ρ u=Vt i)(I:ρ v=Vt j)(J:ρ x=Vt k)(K:ρ y=Vt l)(L:ρ z=Vt m)(M:ρ A=Vt n):(execOp ρ ⟨d,.buildSlice 58 12 #[(0,o),(1,p),(2,q),(3,r),(4,s),(5,t),(6,u),(7,v),(8,x),(9,y),(10,z),(11,A)],ty,pos,af,g⟩).run prog w=.ok (.value (.slice (some ⟨w.heap.size,0,none⟩) 12 12)) (w.alloc (.cells #[Vt a,Vt b,Vt c,Vt e,Vt f,Vt h,Vt i,Vt j,Vt k,Vt l,Vt m,Vt n] 9)):=by simp [execOp,B,C,D,E,F,G,H,I,J,K,L,M];kernel_rfl
theorem Xu {a b c e f h}(i:ρ e=Vt a)(j:ρ f=Vt b)(k:ρ h=Vt c):(execOp ρ ⟨d,.buildSlice 58 3 #[(0,e),(1,f),(2,h)],ty,pos,af,g⟩).run prog w=.ok (.value (.slice (some ⟨w.heap.size,0,none⟩) 3 3)) (w.alloc (.cells #[Vt a,Vt b,Vt c] 9)):=by simp [execOp,i,j,k];kernel_rfl
theorem TV {a b c e f h i j k l m n o p q r s t u v x y z A B C D E F G H I J K L M N O P Q R S}(T:ρ y=.int .u8 a)(U:ρ z=.int .u8 b)(V:ρ A=.int .u8 c)(W:ρ B=.int .u8 e)(X:ρ C=.int .u8 f)(Y:ρ D=.int .u8 h)(Z:ρ E=.int .u8 i)(Aa:ρ F=.int .u8 j)(Ab:ρ G=.int .u8 k)(Ac:ρ H=.int .u8 l)(Ad:ρ I=.int .u8 m)(Ae:ρ J=.int .u8 n)(Af:ρ K=.int .u8 o)(Ag:ρ L=.int .u8 p)(Ah:ρ M=.int .u8 q)(Ai:ρ N=.int .u8 r)(Aj:ρ O=.int .u8 s)(Ak:ρ P=.int .u8 t)(Al:ρ Q=.int .u8 u)(Am:ρ R=.int .u8 v)(An:ρ S=.int .u8 x):(execOp ρ ⟨d,.buildSlice 208 21 #[(0,y),(1,z),(2,A),(3,B),(4,C),(5,D),(6,E),(7,F),(8,G),(9,H),(10,I),(11,J),(12,K),(13,L),(14,M),(15,N),(16,O),(17,P),(18,Q),(19,R),(20,S)],ty,pos,af,g⟩).run prog w=.ok (.value (.slice (some ⟨w.heap.size,0,none⟩) 21 21)) (w.alloc (.cells #[.int .u8 a,.int .u8 b,.int .u8 c,.int .u8 e,.int .u8 f,.int .u8 h,.int .u8 i,.int .u8 j,.int .u8 k,.int .u8 l,.int .u8 m,.int .u8 n,.int .u8 o,.int .u8 p,.int .u8 q,.int .u8 r,.int .u8 s,.int .u8 t,.int .u8 u,.int .u8 v,.int .u8 x] 5)):=by simp [execOp,T,U,V,W,X,Y,Z,Aa,Ab,Ac,Ad,Ae,Af,Ag,Ah,Ai,Aj,Ak,Al,Am,An];kernel_rfl
theorem Jl {a b c e}(f:ρ c=Vi a)(h:ρ e=Vt b):Yl prog ρ (.build 166 #[(0,c),(3,e)]) d ty pos af g w (.agg #[Vi a,Vi 0,Vi 0,Vt b,Vt be,sn]):=by simp [Yl,execOp,f,h];kernel_rfl
theorem Oo {a b c e}(f:ρ c=Vi a)(h:ρ e=Vi b):Yl prog ρ (.build 166 #[(0,c),(1,e)]) d ty pos af g w (.agg #[Vi a,Vi b,Vi 0,Vt be,Vt be,sn]):=by simp [Yl,execOp,f,h];kernel_rfl
theorem Pe :Yl prog ρ (.build 137 #[]) d ty pos af g w (.agg #[Vi 0,Vi 0,Vt be,Vi 0]):=by simp [Yl,execOp];kernel_rfl
theorem FM {a b c e f h}(i:ρ e=Vi a)(j:ρ f=Vi b)(k:ρ h=Vt c):Yl prog ρ (.build 137 #[(0,e),(1,f),(2,h)]) d ty pos af g w (.agg #[Vi a,Vi b,Vt c,Vi 0]):=by simp [Yl,execOp,i,j,k];kernel_rfl
theorem QA {a b c e f h}(i:ρ e=Vi a)(j:ρ f=Vi b)(k:ρ h=Vi c):Yl prog ρ (.build 137 #[(0,e),(1,f),(3,h)]) d ty pos af g w (.agg #[Vi a,Vi b,Vt be,Vi c]):=by simp [Yl,execOp,i,j,k];kernel_rfl
theorem Sn {a b c e f}(h:ρ f=.agg #[Vi a,Vi b,Vt c,Vi e]):(execOp ρ ⟨d,.buildSlice 94 1 #[(0,f)],ty,pos,af,g⟩).run prog w=.ok (.value (.slice (some ⟨w.heap.size,0,none⟩) 1 1)) (w.alloc (.cells #[Vi a,Vi b,Vt c,Vi e] 137)):=by simp [execOp,h];kernel_rfl
theorem V9 {a b c e}(f:ρ c=Vi a)(h:ρ e=Vi b):Yl prog ρ (.build 137 #[(0,c),(1,e)]) d ty pos af g w (.agg #[Vi a,Vi b,Vt be,Vi 0]):=by simp [Yl,execOp,f,h];kernel_rfl
theorem Wh {a b}(c:ρ b=.int .u8 a):(execOp ρ ⟨d,.buildSlice 208 1 #[(0,b)],ty,pos,af,g⟩).run prog w=.ok (.value (.slice (some ⟨w.heap.size,0,none⟩) 1 1)) (w.alloc (.cells #[.int .u8 a] 5)):=by simp [execOp,c];kernel_rfl
theorem Co {a b}(c:ρ b=Vt a):(execOp ρ ⟨d,.buildSlice 58 1 #[(0,b)],ty,pos,af,g⟩).run prog w=.ok (.value (.slice (some ⟨w.heap.size,0,none⟩) 1 1)) (w.alloc (.cells #[Vt a] 9)):=by simp [execOp,c];kernel_rfl
theorem Vz {a b c e f h i j k l m n o p q r s t u v x y z A}(B:ρ o=Vi a)(C:ρ p=Vi b)(D:ρ q=Vi c)(E:ρ r=Vi e)(F:ρ s=Vi f)(G:ρ t=Vi h)(H:ρ u=Vi i)(I:ρ v=Vi j)(J:ρ x=Vi k)(K:ρ y=Vi l)(L:ρ z=Vi m)(M:ρ A=Vi n):(execOp ρ ⟨d,.buildSlice 22 12 #[(0,o),(1,p),(2,q),(3,r),(4,s),(5,t),(6,u),(7,v),(8,x),(9,y),(10,z),(11,A)],ty,pos,af,g⟩).run prog w=.ok (.value (.slice (some ⟨w.heap.size,0,none⟩) 12 12)) (w.alloc (.cells #[Vi a,Vi b,Vi c,Vi e,Vi f,Vi h,Vi i,Vi j,Vi k,Vi l,Vi m,Vi n] 3)):=by simp [execOp,B,C,D,E,F,G,H,I,J,K,L,M];kernel_rfl
theorem YV {a b c e f h i j k l m n o p}(q:ρ j=Vt a)(r:ρ k=Vt b)(s:ρ l=Vt c)(t:ρ m=Vt e)(u:ρ n=Vt f)(v:ρ o=Vt h)(x:ρ p=Vt i):(execOp ρ ⟨d,.buildSlice 58 7 #[(0,j),(1,k),(2,l),(3,m),(4,n),(5,o),(6,p)],ty,pos,af,g⟩).run prog w=.ok (.value (.slice (some ⟨w.heap.size,0,none⟩) 7 7)) (w.alloc (.cells #[Vt a,Vt b,Vt c,Vt e,Vt f,Vt h,Vt i] 9)):=by simp [execOp,q,r,s,t,u,v,x];kernel_rfl
theorem yH {a b c e f h i j k l m n o p q r s t}(u:ρ s=.agg #[Vi a,Vi b,Vi c,Vt e,Vt f,.slice h i j])(v:ρ t=.agg #[Vi k,Vi l,Vi m,Vt n,Vt o,.slice p q r]):(execOp ρ ⟨d,.buildSlice 113 2 #[(0,s),(1,t)],ty,pos,af,g⟩).run prog w=.ok (.value (.slice (some ⟨w.heap.size,0,none⟩) 2 2)) (w.alloc (.cells #[Vi a,Vi b,Vi c,Vt e,Vt f,.slice h i j,Vi k,Vi l,Vi m,Vt n,Vt o,.slice p q r] 166)):=by simp [execOp,u,v];kernel_rfl
theorem vL {a b c e f h}(i:ρ f=Vi a)(j:ρ h=.slice b c e):Yl prog ρ (.build 166 #[(0,f),(5,h)]) d ty pos af g w (.agg #[Vi a,Vi 0,Vi 0,Vt be,Vt be,.slice b c e]):=by simp [Yl,execOp,i,j];kernel_rfl
theorem TS :Yl prog ρ (.build 166 #[]) d ty pos af g w (.agg #[Vi 0,Vi 0,Vi 0,Vt be,Vt be,sn]):=by simp [Yl,execOp];kernel_rfl
theorem xD {a b c e}(f:ρ c=Vt a)(h:ρ e=Vt b):(execOp ρ ⟨d,.buildSlice 58 2 #[(0,c),(1,e)],ty,pos,af,g⟩).run prog w=.ok (.value (.slice (some ⟨w.heap.size,0,none⟩) 2 2)) (w.alloc (.cells #[Vt a,Vt b] 9)):=by simp [execOp,f,h];kernel_rfl
theorem kW {a b c e f h i j k}(l:ρ k=.agg #[Vi a,Vi b,Vi c,Vt e,Vt f,.slice h i j]):(execOp ρ ⟨d,.buildSlice 113 1 #[(0,k)],ty,pos,af,g⟩).run prog w=.ok (.value (.slice (some ⟨w.heap.size,0,none⟩) 1 1)) (w.alloc (.cells #[Vi a,Vi b,Vi c,Vt e,Vt f,.slice h i j] 166)):=by simp [execOp,l];kernel_rfl
theorem wD {a b c e f h}(i:ρ e=Vi a)(j:ρ f=Vt b)(k:ρ h=Vt c):Yl prog ρ (.build 166 #[(0,e),(3,f),(4,h)]) d ty pos af g w (.agg #[Vi a,Vi 0,Vi 0,Vt b,Vt c,sn]):=by simp [Yl,execOp,i,j,k];kernel_rfl
theorem Fq {a b c e f h i j}(k:ρ h=Vi a)(l:ρ i=Vt b)(m:ρ j=.slice c e f):Yl prog ρ (.build 166 #[(0,h),(3,i),(5,j)]) d ty pos af g w (.agg #[Vi a,Vi 0,Vi 0,Vt b,Vt be,.slice c e f]):=by simp [Yl,execOp,k,l,m];kernel_rfl
theorem tK {a b c e f h i j k l m n o p q r s t u v x y}(z:ρ y=.agg #[Vi a,Vi b,Vi c,Vt e,Vt f,Vi h,Vi i,.slice j k l,Vt m,Vi n,.slice o p q,.slice r s t,.slice u v x]):(execOp ρ ⟨d,.buildSlice 59 1 #[(0,y)],ty,pos,af,g⟩).run prog w=.ok (.value (.slice (some ⟨w.heap.size,0,none⟩) 1 1)) (w.alloc (.cells #[Vi a,Vi b,Vi c,Vt e,Vt f,Vi h,Vi i,.slice j k l,Vt m,Vi n,.slice o p q,.slice r s t,.slice u v x] 115)):=by simp [execOp,z];kernel_rfl
theorem aaK {a b}(c:ρ b=Vi a):Yl prog ρ (.build 115 #[(1,b)]) d ty pos af g w (.agg #[Vi 0,Vi a,Vi 0,Vt be,Vt be,Vi 0,Vi 0,sn,Vt be,Vi 0,sn,sn,sn]):=by simp [Yl,execOp,c];kernel_rfl
theorem aaj {a b}(c:ρ b=Vt a):Yl prog ρ (.build 143 #[(0,b)]) d ty pos af g w (.agg #[Vt a,sn]):=by simp [Yl,execOp,c];kernel_rfl
theorem SH {a b c e f}(h:ρ f=.agg #[Vt a,.slice b c e]):(execOp ρ ⟨d,.buildSlice 23 1 #[(0,f)],ty,pos,af,g⟩).run prog w=.ok (.value (.slice (some ⟨w.heap.size,0,none⟩) 1 1)) (w.alloc (.cells #[Vt a,.slice b c e] 143)):=by simp [execOp,h];kernel_rfl
theorem acK {a b}(c:ρ b=Vi a):Yl prog ρ (.build 61 #[(1,b)]) d ty pos af g w (.agg #[Vt be,Vi a,sn,sn]):=by simp [Yl,execOp,c];kernel_rfl
theorem VR {a b c e}(f:ρ c=Vi a)(h:ρ e=Vi b):Yl prog ρ (.build 115 #[(0,c),(1,e)]) d ty pos af g w (.agg #[Vi a,Vi b,Vi 0,Vt be,Vt be,Vi 0,Vi 0,sn,Vt be,Vi 0,sn,sn,sn]):=by simp [Yl,execOp,f,h];kernel_rfl
theorem R8 {a b c e f h i j k}(l:ρ k=.agg #[Vt a,Vi b,.slice c e f,.slice h i j]):(execOp ρ ⟨d,.buildSlice 24 1 #[(0,k)],ty,pos,af,g⟩).run prog w=.ok (.value (.slice (some ⟨w.heap.size,0,none⟩) 1 1)) (w.alloc (.cells #[Vt a,Vi b,.slice c e f,.slice h i j] 61)):=by simp [execOp,l];kernel_rfl
theorem abd :Yl prog ρ (.build 26 #[]) d ty pos af g w (.agg #[sn,sn]):=by simp [Yl,execOp];kernel_rfl
theorem adE {a b c e}(f:ρ e=.slice a b c):Yl prog ρ (.build 99 #[(0,e)]) d ty pos af g w (.agg #[.slice a b c,Vi 0,Vi 0,Vi 0]):=by simp [Yl,execOp,f];kernel_rfl
theorem sD {a b c e f h i j}(k:ρ f=Vt a)(l:ρ h=Vt b)(m:ρ i=Vt c)(n:ρ j=Vt e):(execOp ρ ⟨d,.buildSlice 58 4 #[(0,f),(1,h),(2,i),(3,j)],ty,pos,af,g⟩).run prog w=.ok (.value (.slice (some ⟨w.heap.size,0,none⟩) 4 4)) (w.alloc (.cells #[Vt a,Vt b,Vt c,Vt e] 9)):=by simp [execOp,k,l,m,n];kernel_rfl
theorem OE {a b c e}(f:ρ c=Vi a)(h:ρ e=Vt b):Yl prog ρ (.build 115 #[(0,c),(3,e)]) d ty pos af g w (.agg #[Vi a,Vi 0,Vi 0,Vt b,Vt be,Vi 0,Vi 0,sn,Vt be,Vi 0,sn,sn,sn]):=by simp [Yl,execOp,f,h];kernel_rfl
theorem Il {a b}(c:ρ b=Vi a):Yl prog ρ (.build 115 #[(0,b)]) d ty pos af g w (.agg #[Vi a,Vi 0,Vi 0,Vt be,Vt be,Vi 0,Vi 0,sn,Vt be,Vi 0,sn,sn,sn]):=by simp [Yl,execOp,c];kernel_rfl
theorem qW {a b c e f h}(i:ρ f=Vi a)(j:ρ h=.slice b c e):Yl prog ρ (.build 115 #[(0,f),(10,h)]) d ty pos af g w (.agg #[Vi a,Vi 0,Vi 0,Vt be,Vt be,Vi 0,Vi 0,sn,Vt be,Vi 0,.slice b c e,sn,sn]):=by simp [Yl,execOp,i,j];kernel_rfl
theorem mX :(execOp ρ ⟨d,.buildSlice 58 0 #[],ty,pos,af,g⟩).run prog w=.ok (.value (.slice (some ⟨w.heap.size,0,none⟩) 0 0)) (w.alloc (.cells #[] 9)):=by simp [execOp];kernel_rfl
theorem Qd {a b c e f h i j k l}(m:ρ j=Vi a)(n:ρ k=.slice b c e)(o:ρ l=.slice f h i):Yl prog ρ (.build 115 #[(0,j),(7,k),(10,l)]) d ty pos af g w (.agg #[Vi a,Vi 0,Vi 0,Vt be,Vt be,Vi 0,Vi 0,.slice b c e,Vt be,Vi 0,.slice f h i,sn,sn]):=by simp [Yl,execOp,m,n,o];kernel_rfl
theorem WK {a b c e f h i j k l m n o p q r s t u v x y z A B C D E F G H I J K L M N O P Q R S T U}(V:ρ T=.agg #[Vi a,Vi b,Vi c,Vt e,Vt f,Vi h,Vi i,.slice j k l,Vt m,Vi n,.slice o p q,.slice r s t,.slice u v x])(W:ρ U=.agg #[Vi y,Vi z,Vi A,Vt B,Vt C,Vi D,Vi E,.slice F G H,Vt I,Vi J,.slice K L M,.slice N O P,.slice Q R S]):(execOp ρ ⟨d,.buildSlice 59 2 #[(0,T),(1,U)],ty,pos,af,g⟩).run prog w=.ok (.value (.slice (some ⟨w.heap.size,0,none⟩) 2 2)) (w.alloc (.cells #[Vi a,Vi b,Vi c,Vt e,Vt f,Vi h,Vi i,.slice j k l,Vt m,Vi n,.slice o p q,.slice r s t,.slice u v x,Vi y,Vi z,Vi A,Vt B,Vt C,Vi D,Vi E,.slice F G H,Vt I,Vi J,.slice K L M,.slice N O P,.slice Q R S] 115)):=by simp [execOp,V,W];kernel_rfl
theorem Nr {a b c e f h i j k l}(m:ρ j=Vi a)(n:ρ k=.slice b c e)(o:ρ l=.slice f h i):Yl prog ρ (.build 115 #[(0,j),(10,k),(11,l)]) d ty pos af g w (.agg #[Vi a,Vi 0,Vi 0,Vt be,Vt be,Vi 0,Vi 0,sn,Vt be,Vi 0,.slice b c e,.slice f h i,sn]):=by simp [Yl,execOp,m,n,o];kernel_rfl
theorem aa4 {a b c e}(f:ρ e=.slice a b c):Yl prog ρ (.build 159 #[(0,e)]) d ty pos af g w (.agg #[.slice a b c,Vi 0]):=by simp [Yl,execOp,f];kernel_rfl
theorem VY {a b c e f h}(i:ρ f=Vt a)(j:ρ h=.slice b c e):Yl prog ρ (.build 143 #[(0,f),(1,h)]) d ty pos af g w (.agg #[Vt a,.slice b c e]):=by simp [Yl,execOp,i,j];kernel_rfl
theorem acp {a b c e}(f:ρ e=.slice a b c):Yl prog ρ (.build 26 #[(0,e)]) d ty pos af g w (.agg #[.slice a b c,sn]):=by simp [Yl,execOp,f];kernel_rfl
theorem Xl {a b c e f h i j}(k:ρ f=Vi a)(l:ρ h=Vi b)(m:ρ i=Vi c)(n:ρ j=Vi e):(execOp ρ ⟨d,.buildSlice 22 4 #[(0,f),(1,h),(2,i),(3,j)],ty,pos,af,g⟩).run prog w=.ok (.value (.slice (some ⟨w.heap.size,0,none⟩) 4 4)) (w.alloc (.cells #[Vi a,Vi b,Vi c,Vi e] 3)):=by simp [execOp,k,l,m,n];kernel_rfl
theorem Kw {a b c e f h i j k l m n}(o:ρ j=.pointer a)(p:ρ k=Vi b)(q:ρ l=Vi c)(r:ρ m=.slice e f h)(s:ρ n=Vi i):Yl prog ρ (.build 163 #[(0,j),(1,k),(2,l),(3,m),(8,n)]) d ty pos af g w (.agg #[.pointer a,Vi b,Vi c,.slice e f h,sn,sn,sn,Vi 0,Vi i]):=by simp [Yl,execOp,o,p,q,r,s];kernel_rfl
theorem uX {a b c e f h}(i:ρ f=Vt a)(j:ρ h=.slice b c e):Yl prog ρ (.build 61 #[(0,f),(2,h)]) d ty pos af g w (.agg #[Vt a,Vi 0,.slice b c e,sn]):=by simp [Yl,execOp,i,j];kernel_rfl
theorem DY {a b}(c:ρ b=Vi a):(execOp ρ ⟨d,.buildSlice 22 1 #[(0,b)],ty,pos,af,g⟩).run prog w=.ok (.value (.slice (some ⟨w.heap.size,0,none⟩) 1 1)) (w.alloc (.cells #[Vi a] 3)):=by simp [execOp,c];kernel_rfl
theorem X9 {a b c e f h i j}(k:ρ j=.agg #[Vt a,Vi b,Vi c,Vi e,.bool f,Vi h,Vi i]):(execOp ρ ⟨d,.buildSlice 53 1 #[(0,j)],ty,pos,af,g⟩).run prog w=.ok (.value (.slice (some ⟨w.heap.size,0,none⟩) 1 1)) (w.alloc (.cells #[Vt a,Vi b,Vi c,Vi e,.bool f,Vi h,Vi i] 55)):=by simp [execOp,k];kernel_rfl
theorem Ra :(execOp ρ ⟨d,.buildSlice 22 0 #[],ty,pos,af,g⟩).run prog w=.ok (.value (.slice (some ⟨w.heap.size,0,none⟩) 0 0)) (w.alloc (.cells #[] 3)):=by simp [execOp];kernel_rfl
theorem Uq {a b c e f h}(i:ρ e=Vi a)(j:ρ f=Vi b)(k:ρ h=Vi c):Yl prog ρ (.build 78 #[(0,e),(1,f),(2,h)]) d ty pos af g w (.agg #[Vi a,Vi b,Vi c]):=by simp [Yl,execOp,i,j,k];kernel_rfl
theorem WV {a b c e}(f:ρ e=.agg #[Vi a,Vi b,Vi c]):(execOp ρ ⟨d,.buildSlice 28 1 #[(0,e)],ty,pos,af,g⟩).run prog w=.ok (.value (.slice (some ⟨w.heap.size,0,none⟩) 1 1)) (w.alloc (.cells #[Vi a,Vi b,Vi c] 78)):=by simp [execOp,f];kernel_rfl
theorem FV {a b c e f h i j k l}(m:ρ h=Vt a)(n:ρ i=Vi b)(o:ρ j=Vi c)(p:ρ k=Vi e)(q:ρ l=Vi f):Yl prog ρ (.build 55 #[(0,h),(1,i),(2,j),(3,k),(5,l)]) d ty pos af g w (.agg #[Vt a,Vi b,Vi c,Vi e,.bool false,Vi f,Vi 0]):=by simp [Yl,execOp,m,n,o,p,q];kernel_rfl
theorem Jk {a b c e f h i j k l m n}(o:ρ i=Vt a)(p:ρ j=Vi b)(q:ρ k=Vi c)(r:ρ l=Vi e)(s:ρ m=.bool f)(t:ρ n=Vi h):Yl prog ρ (.build 55 #[(0,i),(1,j),(2,k),(3,l),(4,m),(5,n)]) d ty pos af g w (.agg #[Vt a,Vi b,Vi c,Vi e,.bool f,Vi h,Vi 0]):=by simp [Yl,execOp,o,p,q,r,s,t];kernel_rfl
theorem YB :(execOp ρ ⟨d,.buildSlice 24 0 #[],ty,pos,af,g⟩).run prog w=.ok (.value (.slice (some ⟨w.heap.size,0,none⟩) 0 0)) (w.alloc (.cells #[] 61)):=by simp [execOp];kernel_rfl
theorem YI {a b c e f h i j}(k:ρ i=.slice a b c)(l:ρ j=.slice e f h):Yl prog ρ (.build 26 #[(0,i),(1,j)]) d ty pos af g w (.agg #[.slice a b c,.slice e f h]):=by simp [Yl,execOp,k,l];kernel_rfl
theorem acs {a b c e f h i}(j:ρ i=.agg #[.slice a b c,.slice e f h]):Yl prog ρ (.build 30 #[(0,i)]) d ty pos af g w (.agg #[.slice a b c,.slice e f h,sn,sn]):=by simp [Yl,execOp,j];kernel_rfl
theorem aaI {a b c e f h i j k l m n o}(p:ρ o=.agg #[.slice a b c,.slice e f h,.slice i j k,.slice l m n]):Yl prog ρ (.build 103 #[(0,o)]) d ty pos af g w (.agg #[.slice a b c,.slice e f h,.slice i j k,.slice l m n,Vi 0,sn,Vi 0,Vi 0]):=by simp [Yl,execOp,p];kernel_rfl
theorem Xd {a b c e}(f:ρ e=.slice a b c):(execOp ρ ⟨d,.buildSlice 27 1 #[(0,e)],ty,pos,af,g⟩).run prog w=.ok (.value (.slice (some ⟨w.heap.size,0,none⟩) 1 1)) (w.alloc (.cells #[.slice a b c] 53)):=by simp [execOp,f];kernel_rfl
theorem abk :Yl prog ρ (.build 30 #[]) d ty pos af g w (.agg #[sn,sn,sn,sn]):=by simp [Yl,execOp];kernel_rfl
end
theorem p9:TI prog 3 (Vi 0) 1 8:=nY (by kernel_rfl)
theorem ti5:TI prog 5 (.int .u8 0) 1 1:=nY (by kernel_rfl)
theorem qx:TI prog 9 (Vt be) 1 16:=nY (by kernel_rfl)
theorem JF:TI prog 22 sn 1 24:=nY (by kernel_rfl)
theorem afZ:TI prog 23 sn 1 24:=nY (by kernel_rfl)
theorem adw:TI prog 24 sn 1 24:=nY (by kernel_rfl)
theorem vN:TI prog 26 (.agg #[sn,sn]) 2 48:=nY (by kernel_rfl)
theorem aeA:TI prog 27 sn 1 24:=nY (by kernel_rfl)
theorem afh:TI prog 28 sn 1 24:=nY (by kernel_rfl)
theorem zR:TI prog 30 (.agg #[sn,sn,sn,sn]) 4 96:=nY (by kernel_rfl)
theorem ae7:TI prog 34 sn 1 24:=nY (by kernel_rfl)
theorem NH:TI prog 36 (.agg #[sn]) 1 24:=nY (by kernel_rfl)
theorem Q5:TI prog 37 (Vi 0) 1 8:=nY (by kernel_rfl)
theorem aeD:TI prog 48 sn 1 24:=nY (by kernel_rfl)
theorem zK:TI prog 52 (.agg #[Vi 0,sn,sn,sn]) 4 80:=nY (by kernel_rfl)
theorem Gj:TI prog 53 sn 1 24:=nY (by kernel_rfl)
theorem vE:TI prog 55 (.agg #[Vt be,Vi 0,Vi 0,Vi 0,.bool false,Vi 0,Vi 0]) 7 64:=nY (by kernel_rfl)
theorem pU:TI prog 58 sn 1 24:=nY (by kernel_rfl)
theorem DT:TI prog 59 sn 1 24:=nY (by kernel_rfl)
theorem oU:TI prog 61 (.agg #[Vt be,Vi 0,sn,sn]) 4 72:=nY (by kernel_rfl)
theorem aeI:TI prog 62 sn 1 24:=nY (by kernel_rfl)
theorem CS:TI prog 69 (.agg #[Vi 0,sn,Vi 0,Vi 0,Vi 0,sn,Vi 0,sn,Vi 0,sn]) 10 144:=nY (by kernel_rfl)
theorem XK:TI prog 71 (.agg #[Vi 0,Vi 0,Vi 0]) 3 24:=nY (by kernel_rfl)
theorem KR:TI prog 73 (.agg #[Vi 0,Vi 0,Vi 0,Vi 0,Vi 0,Vi 0,Vi 0,Vi 0,Vi 0,Vi 0,Vi 0]) 11 88:=nY (by kernel_rfl)
theorem ag3:TI prog 78 (.agg #[Vi 0,Vi 0,Vi 0]) 3 24:=nY (by kernel_rfl)
theorem ahb:TI prog 94 sn 1 24:=nY (by kernel_rfl)
theorem xu:TI prog 113 sn 1 24:=nY (by kernel_rfl)
theorem jY:TI prog 115 (.agg #[Vi 0,Vi 0,Vi 0,Vt be,Vt be,Vi 0,Vi 0,sn,Vt be,Vi 0,sn,sn,sn]) 13 192:=nY (by kernel_rfl)
theorem qN:TI prog 137 (.agg #[Vi 0,Vi 0,Vt be,Vi 0]) 4 40:=nY (by kernel_rfl)
theorem zw:TI prog 143 (.agg #[Vt be,sn]) 2 40:=nY (by kernel_rfl)
theorem aeV:TI prog 157 (.pointer none) 1 8:=nY (by kernel_rfl)
theorem jZ:TI prog 166 (.agg #[Vi 0,Vi 0,Vi 0,Vt be,Vt be,sn]) 6 80:=nY (by kernel_rfl)
theorem vT {n:Nat} {f:Func} (h:prog.funcs[n]?=some f) (a:(f.name=="runtime.NumGoroutine")=false:=by kernel_rfl) (b:f.body.isNone=false:=by kernel_rfl):jH prog n:=⟨_,h,a,b⟩
theorem xE:jH prog 50:=vT func50
theorem Gz:jH prog 51:=vT func51
theorem yI:jH prog 52:=vT func52
theorem OJ:jH prog 54:=vT func54
theorem Ir:jH prog 55:=vT func55
theorem Iz:jH prog 56:=vT func56
theorem BP:jH prog 57:=vT func57
theorem Vo:jH prog 59:=vT func59
theorem OO:jH prog 64:=vT func64
theorem oW:jH prog 65:=vT func65
theorem Kc:jH prog 67:=vT func67
theorem JY:jH prog 90:=vT func90
theorem Og:jH prog 91:=vT func91
theorem Oq:jH prog 92:=vT func92
theorem Ea:jH prog 96:=vT func96
theorem Oj:jH prog 97:=vT func97
theorem EH:jH prog 130:=vT func130
theorem M7:jH prog 131:=vT func131
theorem Hy:jH prog 138:=vT func138
end
abbrev Jz:List ByteArray:=[(⟨#[114,101,99,111,114,100]⟩:ByteArray),(⟨#[102,117,110,99]⟩:ByteArray),(⟨#[118,97,114]⟩:ByteArray),(⟨#[105,110,116]⟩:ByteArray),(⟨#[105,102]⟩:ByteArray),(⟨#[101,108,115,101]⟩:ByteArray),(⟨#[119,104,105,108,101]⟩:ByteArray),(⟨#[114,101,116,117,114,110]⟩:ByteArray),(⟨#[116,104,114,111,119]⟩:ByteArray),(⟨#[116,114,121]⟩:ByteArray),(⟨#[99,97,116,99,104]⟩:ByteArray),(⟨#[112,114,105,110,116]⟩:ByteArray)]
abbrev Jh:List ByteArray:=[(⟨#[60,61]⟩:ByteArray),(⟨#[61,61]⟩:ByteArray),(⟨#[33,61]⟩:ByteArray)]
abbrev Hw:List ByteArray:=[(⟨#[43]⟩:ByteArray),(⟨#[45]⟩:ByteArray),(⟨#[42]⟩:ByteArray),(⟨#[47]⟩:ByteArray),(⟨#[37]⟩:ByteArray),(⟨#[38]⟩:ByteArray),(⟨#[124]⟩:ByteArray),(⟨#[94]⟩:ByteArray),(⟨#[60]⟩:ByteArray),(⟨#[60,61]⟩:ByteArray),(⟨#[61,61]⟩:ByteArray),(⟨#[33,61]⟩:ByteArray)]
abbrev Ju:List ByteArray:=[(⟨#[118,97,114]⟩:ByteArray),(⟨#[105,102]⟩:ByteArray),(⟨#[119,104,105,108,101]⟩:ByteArray),(⟨#[114,101,116,117,114,110]⟩:ByteArray),(⟨#[116,104,114,111,119]⟩:ByteArray),(⟨#[116,114,121]⟩:ByteArray),(⟨#[112,114,105,110,116]⟩:ByteArray)]
abbrev H6:List ByteArray:=[(⟨#[45]⟩:ByteArray),(⟨#[33]⟩:ByteArray)]
abbrev zL:List ByteArray:=[(⟨#[120]⟩:ByteArray),(⟨#[121]⟩:ByteArray)]
abbrev Vy:List ByteArray:=[(⟨#[102]⟩:ByteArray),(⟨#[103]⟩:ByteArray),(⟨#[104]⟩:ByteArray),(⟨#[107]⟩:ByteArray)]
abbrev MV:List ByteArray:=[(⟨#[97]⟩:ByteArray),(⟨#[98]⟩:ByteArray),(⟨#[99]⟩:ByteArray),(⟨#[100]⟩:ByteArray)]
noncomputable section
abbrev Z {α:Type}(a:OA)(l:List α)(c:Nat):Value:=.slice a l.length c
abbrev V (n:Int):Value:=Vi n
abbrev T (n:ByteArray):Value:=Vt n
abbrev sz (α:Type)[Rp α]:Nat:=Rp.sz α
abbrev O (e:Nat)(a:OA)(c:Nat)(t:TypeId)(α:Type)[Rp α](q:LV):It:=.own e a c t (Rp.sz α) q
theorem ca {α:Type}{a:α}{l m:List α}:a :: l ++ m=a :: (l ++ m):=rfl
theorem na {α:Type}{l:List α}:[] ++ l=l:=rfl
theorem cb {a b:Bool}(h:a=b):Value.bool a=.bool b:=congrArg Value.bool h
theorem wZ {p:Prop}[i:Decidable p](h:¬p):decide p=false:=sS h
theorem wu {p:Prop}[i:Decidable p](h:p):decide p=true:=sP h
theorem nS {f:Fr}{l:List (Nat × Value)}(h:Has f l):∃ g,f=NJ g l:=lg _ _ h
theorem yM {a:Bool}(h:¬a=true):Value.bool a=.bool false:=cb (nt h)
theorem s:type_of% @jJ:=@jJ
theorem q:type_of% @tV:=@tV
theorem g:type_of% @nU:=@nU
theorem n:type_of% @sN:=@sN
theorem y:type_of% @trivial:=@trivial
theorem mp:type_of% @Xa:=@Xa
theorem mi:type_of% @E9:=@E9
theorem xn:type_of% @Ye:=@Ye
theorem xi:type_of% @KY:=@KY
theorem wk:type_of% @CW:=@CW
theorem sc:type_of% @BN:=@BN
theorem ec:type_of% @jO:=@jO
theorem iv:type_of% @jI:=@jI
theorem tb:type_of% @QZ:=@QZ
theorem nT:type_of% @jL:=@jL
theorem oc:type_of% @X7:=@X7
theorem oo:type_of% @afC:=@afC
theorem os:type_of% @aeK:=@aeK
theorem pW:type_of% @l5.nil:=@l5.nil
abbrev BA:=ByteArray
abbrev Gv:=iA
abbrev Gi:=jR
abbrev Ge:=jD
abbrev Gs:=jC
abbrev Gr:=jX
abbrev Gn:=kC
abbrev Gm:=lX
abbrev o9:List BA:=[]
abbrev kM:List Ge:=[]
abbrev GK:List Gn:=[]
abbrev ME:List Gr:=[]
abbrev lI:List Gs:=[]
abbrev KI:List Int:=[]
theorem Qs:type_of% @underlying3:=@underlying3
theorem u5_:type_of% @underlying5:=@underlying5
theorem vU:type_of% @underlying9:=@underlying9
theorem DX:type_of% @underlying22:=@underlying22
theorem KO:type_of% @underlying23:=@underlying23
theorem Gl:type_of% @underlying24:=@underlying24
theorem E5:type_of% @underlying26:=@underlying26
theorem Kz:type_of% @underlying27:=@underlying27
theorem Rx:type_of% @underlying28:=@underlying28
theorem Kt:type_of% @underlying30:=@underlying30
theorem aaW:type_of% @underlying34:=@underlying34
theorem ag2:type_of% @underlying36:=@underlying36
theorem aaR:type_of% @underlying48:=@underlying48
theorem ahq:type_of% @underlying52:=@underlying52
theorem Gq:type_of% @underlying53:=@underlying53
theorem NV:type_of% @underlying55:=@underlying55
theorem lH:type_of% @underlying58:=@underlying58
theorem DI:type_of% @underlying59:=@underlying59
theorem Gg:type_of% @underlying61:=@underlying61
theorem aeM:type_of% @underlying62:=@underlying62
theorem agz:type_of% @underlying69:=@underlying69
theorem Jb:type_of% @underlying94:=@underlying94
theorem xg:type_of% @underlying113:=@underlying113
theorem lV:type_of% @underlying115:=@underlying115
theorem EL:type_of% @underlying137:=@underlying137
theorem NW:type_of% @underlying143:=@underlying143
theorem nu:type_of% @underlying166:=@underlying166
theorem U4:type_of% @underlying208:=@underlying208
def FA (t i k:Nat):Prop:=∀ {ρ:Operand->Value}{d:Option Nat}{ty:TypeId}{pos:String}{af:Array Edge}{g:Option (Nat × Bool)}{w:World}{x:Operand}{b o:Nat},ρ x=.pointer (some ⟨b,o,none⟩)->Yl prog ρ (.fieldAddr t x i) d ty pos af g w (.pointer (some ⟨b,o+k,none⟩))
def FB (t:Nat):Prop:=∀ {ρ:Operand->Value}{d:Option Nat}{ty:TypeId}{pos:String}{af:Array Edge}{g:Option (Nat × Bool)}{w:World}{x:Operand}{b o:Nat},ρ x=.pointer (some ⟨b,o,none⟩)->Yl prog ρ (.fieldAddr t x 0) d ty pos af g w (.pointer (some ⟨b,o,none⟩))
def LA (n:Nat):Prop:=∀ {ρ:Operand->Value}{d:Option Nat}{ty:TypeId}{pos:String}{af:Array Edge}{g:Option (Nat × Bool)}{w:World}{x:Operand}{b o:Nat}{t:TypeId}{cs:Array Value}{v:Value},ρ x=.pointer (some ⟨b,o,none⟩)->yA w b t cs->cs[o]?=some v->Yl prog ρ (.load n x) d ty pos af g w v
theorem fa {t:Nat}(i k:Nat){fs:Array Field}{f:Field}{z:Value}{s by_:Nat}(ht:prog.underlying t=some (.struct fs))(hf:fs[i]?=some f)(hk:f.offset=k)(hi:TI prog f.type z s by_)(hs:s≠0:=by decide):FA t i k:=adG ht hf hk hi hs
theorem fb {t:Nat}{fs:Array Field}{f:Field}{z:Value}{s by_:Nat}(ht:prog.underlying t=some (.struct fs))(hf:fs[0]?=some f)(hk:f.offset=0)(hi:TI prog f.type z s by_)(hs:s≠0:=by decide):FB t:=aft ht hf hk hi hs
theorem la {n:Nat}{D:TypeDesc}(hu:prog.underlying n=some D)(hD:MU D=false):LA n:=fun h hb hi=>kH hu hD h (hb.cell hi)
section
variable {ρ:Operand->Value}{d:Option Nat}{ty:TypeId}{pos:String}{af:Array Edge}{g:Option (Nat × Bool)}{w:World}{x:Operand}{b o:Nat}
theorem R6:FB 26:=fb E5 rfl rfl afZ
theorem JR:FA 26 1 1:=fa 1 1 E5 rfl rfl adw
theorem Rq:FB 30:=fb Kt rfl rfl vN
theorem I7:FA 30 1 2:=fa 1 2 Kt rfl rfl aeA
theorem Kq:FA 30 2 3:=fa 2 3 Kt rfl rfl afh
theorem Xr:FB 36:=fb ag2 rfl rfl ae7
theorem abz:FA 52 1 1:=fa 1 1 ahq rfl rfl aeD
theorem aec:FB 55:=fb NV rfl rfl qx
theorem Yh:FA 55 1 1:=fa 1 1 NV rfl rfl p9
theorem af4:FA 55 2 2:=fa 2 2 NV rfl rfl p9
theorem abq:FA 55 3 3:=fa 3 3 NV rfl rfl p9
theorem aef:FA 55 5 5:=fa 5 5 NV rfl rfl p9
theorem U8:FA 55 6 6:=fa 6 6 NV rfl rfl p9
theorem abE:FB 61:=fb Gg rfl rfl qx
theorem Vu:FA 61 1 1:=fa 1 1 Gg rfl rfl p9
theorem RZ:FA 61 2 2:=fa 2 2 Gg rfl rfl pU
theorem KZ:FA 61 3 3:=fa 3 3 Gg rfl rfl DT
theorem aew:FA 69 1 1:=fa 1 1 agz rfl rfl aeI
theorem afN:FB 99:=fb underlying99 rfl rfl ahb
theorem Bc:FA 99 1 1:=fa 1 1 underlying99 rfl rfl p9
theorem abD:FA 99 2 2:=fa 2 2 underlying99 rfl rfl p9
theorem xk:FA 99 3 3:=fa 3 3 underlying99 rfl rfl Q5
theorem uD:FB 103:=fb underlying103 rfl rfl zR
theorem Hz:FA 103 1 4:=fa 1 4 underlying103 rfl rfl p9
theorem DL:FA 103 2 5:=fa 2 5 underlying103 rfl rfl JF
theorem Yu:FA 103 3 6:=fa 3 6 underlying103 rfl rfl p9
theorem BL:FA 103 4 7:=fa 4 7 underlying103 rfl rfl Q5
theorem zX:FB 115:=fb lV rfl rfl p9
theorem Ep:FA 115 1 1:=fa 1 1 lV rfl rfl p9
theorem Xj:FA 115 2 2:=fa 2 2 lV rfl rfl p9
theorem Eu:FA 115 3 3:=fa 3 3 lV rfl rfl qx
theorem Pp:FA 115 4 4:=fa 4 4 lV rfl rfl qx
theorem Jt:FA 115 5 5:=fa 5 5 lV rfl rfl p9
theorem Un:FA 115 6 6:=fa 6 6 lV rfl rfl p9
theorem Fu:FA 115 7 7:=fa 7 7 lV rfl rfl xu
theorem UE:FA 115 8 8:=fa 8 8 lV rfl rfl qx
theorem Tx:FA 115 9 9:=fa 9 9 lV rfl rfl p9
theorem zB:FA 115 10 10:=fa 10 10 lV rfl rfl xu
theorem Dm:FA 115 11 11:=fa 11 11 lV rfl rfl DT
theorem Aq:FA 115 12 12:=fa 12 12 lV rfl rfl DT
theorem Yi:FB 137:=fb EL rfl rfl p9
theorem abY:FA 137 1 1:=fa 1 1 EL rfl rfl p9
theorem abL:FB 143:=fb NW rfl rfl qx
theorem Qf:FA 143 1 1:=fa 1 1 NW rfl rfl pU
theorem wB:FB 163:=fb underlying163 rfl rfl aeV
theorem acd:FA 163 1 1:=fa 1 1 underlying163 rfl rfl p9
theorem ad1:FA 163 2 2:=fa 2 2 underlying163 rfl rfl p9
theorem adh:FA 163 3 3:=fa 3 3 underlying163 rfl rfl JF
theorem o8:FA 163 4 4:=fa 4 4 underlying163 rfl rfl pU
theorem uT:FA 163 5 5:=fa 5 5 underlying163 rfl rfl pU
theorem uQ:FA 163 6 6:=fa 6 6 underlying163 rfl rfl pU
theorem Ji:FA 163 7 7:=fa 7 7 underlying163 rfl rfl p9
theorem acf:FA 163 8 8:=fa 8 8 underlying163 rfl rfl p9
theorem Fj:FB 166:=fb nu rfl rfl p9
theorem PK:FA 166 1 1:=fa 1 1 nu rfl rfl p9
theorem ado:FA 166 2 2:=fa 2 2 nu rfl rfl p9
theorem Us:FA 166 3 3:=fa 3 3 nu rfl rfl qx
theorem XH:FA 166 4 4:=fa 4 4 nu rfl rfl qx
theorem TA:FA 166 5 5:=fa 5 5 nu rfl rfl xu
theorem l3:LA 3:=la Qs rfl
theorem l9:LA 9:=la vU rfl
theorem l22:LA 22:=la DX rfl
theorem l23:LA 23:=la KO rfl
theorem l24:LA 24:=la Gl rfl
theorem l27:LA 27:=la Kz rfl
theorem l28:LA 28:=la Rx rfl
theorem l34:LA 34:=la aaW rfl
theorem Gy:LA 37:=la underlying37 rfl
theorem Na:LA 58:=la lH rfl
theorem l59:LA 59:=la DI rfl
theorem l94:LA 94:=la Jb rfl
theorem NM:LA 113:=la xg rfl
theorem E8:LA 157:=la underlying157 rfl
end
section
variable {P:Program}{N:Fz}{ops:Array Oper}{f:Fr}{w w0:World}{n:Nat}{K:KK}{Lb:Array Bool}{T:List Nat}{Y G:Nat->Prop}{L:List It}{D:List Da}{S1 S:World->Prop}
theorem pF (i : Nat){oi : Oper}{v : Value}(hi : ops[i]? = some oi)(hy : ∀ {w : World}, (execOp (ev f) oi).run P w = .ok (.value v) w)(hs : S1 w)
 (k:nV P N ops S1 (fun _=>True) T K n (Lb.setIfInBounds i true) (lD f oi.dst v) w) (hw:rZ ops f oi.guard=true:=by exact rfl) (hc:may ops T Lb i=true:=by kernel_rfl):nV P N ops S1 (fun _=>True) T K (n + 1) Lb f w:=tP i hi (fun _=>hy) (sF hs) k hw hc
theorem pL (i : Nat){oi : Oper}{v : Value}(hi : ops[i]? = some oi)(hy : ∀ {w : World}, (execOp (ev f) oi).run P w = .ok (.value v) w)(hs : S1 w)(hu : S w)
 (k:nV P N ops S1 S T K n (Lb.setIfInBounds i true) (lD f oi.dst v) w) (hw:rZ ops f oi.guard=true:=by exact rfl) (hc:may ops T Lb i=true:=by kernel_rfl):nV P N ops S1 S T K (n + 1) Lb f w:=tP i hi (fun _=>hy) (jL hs hu) k hw hc
theorem uF (i : Nat){oi : Oper}{v : Value}(hi : ops[i]? = some oi)(hy : ∀ {w : World}, S1 w → (execOp (ev f) oi).run P w = .ok (.value v) w)(hs : S1 w)
 (k:nV P N ops S1 (fun _=>True) T K n (Lb.setIfInBounds i true) (lD f oi.dst v) w) (hw:rZ ops f oi.guard=true:=by exact rfl) (hc:may ops T Lb i=true:=by kernel_rfl):nV P N ops S1 (fun _=>True) T K (n + 1) Lb f w:=tU i hi (fun _=>hy) (sF hs) k hw hc
theorem hO (i:Nat)(h:CG P N ops S1 S T K n Lb f w i)(hr:Region.ready .any ops Lb=[i]:=by kernel_rfl):nV P N ops S1 S T K (n + 1) Lb f w:=aem i hr h
theorem hD (h:K.n f w)(hr:Region.ready .any ops Lb=[]:=by kernel_rfl):nV P N ops S1 S T K n Lb f w:=Jq hr h
theorem sy (t:Nat)(h1:S1 w)(h:(T.contains t && Lb.getD t false)=true:=by kernel_rfl):Cn S1 T S Lb w:=Xy t h1 h
theorem cf {g : FuncId}{fn : Func}{c : Code}{args : Array Value}{R : Value → World → Prop}(hf : P.funcs[g]? = some fn)(hb : fn.body = some c)
 (h:WP P (fn.ntmps,[]) c ⟨Reads P fn R,fun _ _ _=>False,Reads P fn R,fun _ _ _=>False⟩ (Ct args) w) (hs:Nat.ble args.size fn.ntmps=true:=by exact rfl) (hok:Kr (fn.ntmps,[]) c=true:=by kernel_rfl):Calls P g args w (rV R):=QY hf hb (Nat.le_of_ble_eq_true hs) hok h
end
end
end Go.Proofs.YtdkneekpdecjbaaGreat
namespace Go.Fw
theorem Bx.ad {w0 w:World}{Y G:Nat->Prop}{L:List It}{D:List Da}(h:Bx w0 w Y G L D)(l m:List Nat)(hn:nodup l=true:=by exact rfl):Bx w0 w Y G (pick L l) (pick D m):=(h.arr l hn).dp m
theorem Bx.le {w0 w:World}{Y G:Nat->Prop}{L:List It}{D:List Da}{e:Nat}(h:Bx w0 w Y G L D)(k:e<=w0.heap.size):e<=w.heap.size:=sO k h.uo.size
theorem mH {α β γ:Type}{o:Option (α × β)}{f:α->β->Option γ}{X:γ}(h:(o.bind fun x=>jB x f)=some X):∃ a b,o=some (a,b)/\f a b=some X:=by obtain ⟨⟨a,b⟩,h1,h2⟩:=bs h;exact ⟨a,b,h1,h2⟩
theorem vO {α β γ δ:Type}{o:Option (α × β × γ)}{f:α->β->γ->Option δ}{X:δ}(h:(o.bind fun x=>jB x fun a y=>jB y (f a))=some X):∃ a b c,o=some (a,b,c)/\f a b c=some X:=by obtain ⟨⟨a,b,c⟩,h1,h2⟩:=bs h;exact ⟨a,b,c,h1,h2⟩
theorem af0 {α β γ δ ε:Type}{o:Option (α × β × γ × δ)}{f:α->β->γ->δ->Option ε}{X:ε}(h:(o.bind fun x=>jB x fun a y=>jB y fun b z=>jB z (f a b))=some X):∃ a b c d,o=some (a,b,c,d)/\f a b c d=some X:=by obtain ⟨⟨a,b,c,d⟩,h1,h2⟩:=bs h;exact ⟨a,b,c,d,h1,h2⟩
theorem EU {α β γ δ:Type}{a:α}{b:β}{c:γ}{f:α->β->γ->δ}{X:δ}(h:jB (a,b,c) (fun x y=>jB y (f x))=X):f a b c=X:=h
theorem nC {α β γ ε δ:Type}{a:α}{b:β}{c:γ}{d:ε}{f:α->β->γ->ε->δ}{X:δ}(h:jB (a,b,c,d) (fun x y=>jB y fun u v=>jB v (f x u))=X):f a b c d=X:=h
section
variable {P:Program}{N:Fz}{ops:Array Oper}{K:KK}{rest:List Oper}{f:Fr}{w w0:World}{d:Option Nat}{op:Op}{ty:TypeId}{pos:String}{af:Array Edge}{Z G:Nat->Prop}{L:List It}{D:List Da}
theorem qZ (h:Bx w0 w Z G L D){t:TypeId}{cs:Array Value}(e:(execOp (ev f) ⟨d,op,ty,pos,af,none⟩).run P w=.ok (.value (.pointer (some ⟨w.heap.size,0,none⟩))) (w.alloc (.cells cs t)))(k:∀ w' b,Bx w0 w' Z G (.box b t cs :: L) D->pq P N ops K rest (lD f d (.pointer (some ⟨b,0,none⟩))) w'):pq P N ops K (⟨d,op,ty,pos,af,none⟩ :: rest) f w:=o7 (ql h e) (by rintro _ w' ⟨b,rfl,h⟩;exact k w' b h)
end
def spl:List Value→Nat→List Value→List Value
 | [],_,_=>[]
 | a :: l,0,[]=>a :: l
 | _ :: l,0,v :: m=>v :: spl l 0 m
 | a :: l,n+1,m=>a :: spl l n m
theorem TD:∀ (l:List Value)(o:Nat)(m:List Value),o+m.length≤l.length→spl l o m=l.take o ++ m ++ l.drop (o+m.length)
 | [],o,m,h=>by have h1:m=[]:=List.length_eq_zero_iff.1 (by simp only [yG] at h;omega);subst h1;simp [spl]
 | a :: l,0,[],_=>by simp [spl]
 | a :: l,0,v :: m,h=>by have:=TD l 0 m (by simp only [uM] at h;omega);simp only [spl,this];simp
 | a :: l,n+1,m,h=>by have:=TD l n m (by simp only [uM] at h;omega);rw [spl,this,show n+1+m.length=(n+m.length)+1 by omega];simp
section
variable {P:Program}{ρ:Operand->Value}{w w' w0:World}{d:Option Nat}{ty:TypeId}{pos:String}{af:Array Edge}{g:Option (Nat × Bool)}{Z G:Nat->Prop}{L L' L1 Lc:List It}{D D' D1:List Da}
theorem mQ (hL:Bx w0 w Z G L D)(i:Nat){t te:TypeId}{x y:Operand}{z:Value}{s by_ b:Nat}{old:Array Value}(vs:List Value)(hi:L[i]?=some (.box b te old))(ht:TI P t z s by_)(hx:ρ x=.pointer (some ⟨b,0,none⟩))(hy:(ρ y).cells=vs.toArray)(e:L.set i (.box b te vs.toArray)=L':=by (try dsimp only [List.set]);all_goals exact rfl)(hs:s=vs.length:=by exact rfl)(h1:vs.all (fun v=>v.oneCell')=true:=by exact rfl)(hl:Nat.beq vs.length old.size=true:=by exact rfl) :Zh P ρ ⟨d,.store t x y,ty,pos,af,g⟩ w fun w'=>Bx w0 w' Z G L' D:=by have h:=Nat.eq_of_beq_eq_true hl;subst e;refine QZ hL i vs hi ht hs hx hy h1 (Nat.ble_eq_true_of_le (by rw [DV,h];exact nD _)) ?_;rw [DV,List.take_zero,BZ,List.drop_eq_nil_of_le (by rw [h];simp),EW]
theorem t_n (hL:Bx w0 w Z G L D)(i:Nat){t te:TypeId}{x y:Operand}{z:Value}{s by_ b o:Nat}{old cs':List Value}(vs:List Value)(hi:L[i]?=some (.box b te old.toArray))(ht:TI P t z s by_)(hx:ρ x=.pointer (some ⟨b,o,none⟩))(hy:(ρ y).cells=vs.toArray)(hc:spl old o vs=cs':=by (try dsimp only [spl]);all_goals exact rfl)(e:L.set i (.box b te cs'.toArray)=L':=by (try dsimp only [List.set]);all_goals exact rfl)(hs:s=vs.length:=by exact rfl)(h1:vs.all (fun v=>v.oneCell')=true:=by exact rfl)(hl:Nat.ble (o+vs.length) old.length=true:=by exact rfl) :Zh P ρ ⟨d,.store t x y,ty,pos,af,g⟩ w fun w'=>Bx w0 w' Z G L' D:=by have h:=Nat.le_of_ble_eq_true hl;subst e hc;refine QZ hL i vs hi ht hs hx hy h1 (Nat.ble_eq_true_of_le (by simpa using h)) ?_;rw [TD _ _ _ h]
theorem Bx.cn (h:Bx w0 w Z G L D)(i r:List Nat)(k:Bx w w' (IU w0 Z (pick L i ++ pick L r)) (mD Lc) L1 D1)(hL:L1 ++ pick L r=L':=by (try dsimp only [pick,nth,List.cons_append,List.nil_append]);all_goals exact rfl)(hD:D1 ++ D=D':=by (try dsimp only [List.cons_append,List.nil_append]);all_goals exact rfl)(e:pick L i=Lc:=by exact rfl)(hn:nodup (i ++ r)=true:=by exact rfl):Bx w0 w' Z G L' D':=by subst hL hD;exact h.cl i r hn k e
theorem Bx.fz (h:Bx w0 w Z G L D)(i j:Nat){α:Type}[Rp α]{e:TypeId}{A:Option Addr}{c:Nat}{cs:List (List Value)}{l:List α}(hi:L[i]?=some (.own w0.heap.size A c e (Rp.sz α) cs))(hj:D[j]?=some (.els cs l))(hL:L.eraseIdx i=L':=by (try dsimp only [List.eraseIdx]);all_goals exact rfl)(hD:D.eraseIdx j=D':=by (try dsimp only [List.eraseIdx]);all_goals exact rfl) :
  Bx w0 w Z G L' (.l A c l :: D'):=by
 subst hL hD;exact h.frz i j hi hj
theorem Bx.rb (h:Bx w0 w Z G L D)(i:Nat){base:Nat}{A:Option Addr}{c sz:Nat}{e:TypeId}{cs:List (List Value)}(base':Nat)(hi:L[i]?=some (.own base A c e sz cs))(hb:base'<=base)(hL:L.set i (.own base' A c e sz cs)=L':=by (try dsimp only [List.set]);all_goals exact rfl):Bx w0 w Z G L' D:=by subst hL;exact h.reb i base' hi hb
theorem RG {t:TypeId}{x:Operand}{T:TypeDesc}{z:Value}{s by_:Nat}{α:Type}[Rp α]{F:Nat→Prop}{a:Option Addr}{c:Nat}{l:List α}{k:Nat}{y:α}(cs:List Value)(hu:P.underlying t=some T)(hi:TI P t z s by_)
 (hx:ρ x=.pointer (some ⟨oH a,qo a+k * Rp.sz α,none⟩)) (h:l5 F w a c l) (hy:l[k]?=some y) (hD:MU T=true:=by exact rfl) (hs:s=cs.length:=by exact rfl) (hr:∀ ds,Rp.rep F w ds y->ds=cs:=by exact fun _ h=>h):Yl P ρ (.load t x) d ty pos af g w (.agg cs.toArray):=lK cs hu hD hi hs hx (uY h hy hr)
theorem kZ {t te:TypeId}{x:Operand}{T:TypeDesc}{z:Value}{s by_ b:Nat}{old:Array Value}(cs:List Value)(hu:P.underlying t=some T)(hi:TI P t z s by_)
 (hx:ρ x=.pointer (some ⟨b,0,none⟩)) (h:yA w b te old) (hD:MU T=true:=by exact rfl) (hs:s=cs.length:=by exact rfl) (hr:(old.toList.drop 0).take cs.length=cs:=by exact rfl):Yl P ρ (.load t x) d ty pos af g w (.agg cs.toArray):=lK cs hu hD hi hs hx (Cells.part h.cells (o2:=0) hr)
end
theorem Kn {P:Program}{N:Fz}{n R:Fr->World->Prop}{X:Nat->Fr->World->Prop}{V:Fr->List PanicEntry->World->Prop}{f:Fr}{w w0 w1:World}{Z G:Nat->Prop}{L:List It}{D:List Da}(a:Bx w0 w1 Z G L D){x:Code}(J:(World->Prop)->Fr->World->Prop)(h:∀ J':Fr->World->Prop,(∀ f w,J (Bx w0 · Z G L D) f w->J' f w)->WP P N x ⟨J',X,R,V⟩ f w)(k:∀ f w,J (Bx w0 · Z G L D) f w->n f w):WP P N x ⟨n,X,R,V⟩ f w:=qQ (J (Bx w0 · Z G L D)) h k
end Go.Fw
namespace Go.Fw
open Go.RowKit
def RP (R:Value→World→Prop)(V:List PanicEntry→World→Prop):Ending→World→Prop
 | .returned v,w=>R v w
 | .panicked c,w=>V c w
 | .outgrown,_=>False
def Pch (v:Value)(c:List PanicEntry):Prop:=∃ l:List PanicEntry,c=⟨v,false,false⟩ :: l/\∀ e ∈ l,e.goexit=false
theorem aee (v:Value):Pch v [⟨v,false,false⟩]:=⟨[],rfl,fun _ h=>by cases h⟩
section
variable {P:Program}{N:Fz}{ops:Array Oper}{K:KK}{rest:List Oper}{f:Fr}{w:World}{d:Option Nat}{op:Op}{ty:TypeId}{pos:String}{af:Array Edge}
theorem sCP {w':World}{g:FuncId}{args:Array Value}{R:Value->World->Prop}{V:List PanicEntry->World->Prop}(h:(execOp (ev f) ⟨d,op,ty,pos,af,none⟩).run P w=.ok (.enter g args) w')(hc:Calls P g args w' (RP R V))(kp:∀ c w'',V c w''->K.p f c w'')(k:∀ v w'',R v w''->pq P N ops K rest (lD f d v) w'') :pq P N ops K (⟨d,op,ty,pos,af,none⟩ :: rest) f w:=by
 unfold pq;intro hok a ha;have h1:=hok _ (Ca ..);refine wpList_plain rfl fun K' hK=>?_;unfold Oper.wp;rw [ha.BR,h];refine hc.mono fun e w'' he=>?_;cases e with
 | returned v=>
  have:=k v w'' he;unfold pq at this;exact hK _ _ (this (fun o ho=>hok o (yO _ ho)) _ (ha.put d (uz h1) v))
 | panicked c=>exact ⟨f,ha,kp c w'' he⟩
 | outgrown=>exact he.elim
theorem abG {w':World}{v:Value}(h:(execOp (ev f) ⟨d,op,ty,pos,af,none⟩).run P w=.halt (.panic v) w')(kp:K.p f [⟨v,false,false⟩] w') :pq P N ops K (⟨d,op,ty,pos,af,none⟩ :: rest) f w:=by unfold pq;intro hok a ha;refine wpList_plain rfl fun K' hK=>?_;unfold Oper.wp;rw [ha.BR,h];exact ⟨f,ha,kp⟩
theorem acu {x:Operand}{t:TypeId}{v:Value}(hx:ev f x=.iface t v)(kp:K.p f [⟨.iface t v,false,false⟩] w):pq P N ops K (⟨d,.panic x,ty,pos,af,none⟩ :: rest) f w:=
 abG (v:=.iface t v) (by simp [execOp,hx,Instr.panic,goPanic]) kp
end
section
variable {P:Program}{w:World}{ρ:Operand->Value}{d:Option Nat}{ty:TypeId}{pos:String}{af:Array Edge}{g:Option (Nat × Bool)}
def Rt (P:Program)(ρ:Operand->Value)(o:Oper)(w:World):Prop:=∃ w' v,(execOp ρ o).run P w=.halt (.panic (.iface P.rt.boundsError v)) w'/\(w'=w\/w'=w.drew)
theorem UH {t e:TypeId}{x y:Operand}{n c:Nat}{k:IntKind}{i:Int}(ht:P.underlying t=some (.slice e)){a:Option Addr}(hx:ρ x=.slice a n c)(hy:ρ y=.int k i)(hi:¬ (0<=i/\i < n)):Rt P ρ ⟨d,.indexAddr t x y,ty,pos,af,g⟩ w:=by
 have hb:∀ m:Int,∃ w' v,(boundsPanic (α:=Value) k i m .index).run P w=.halt (.panic (.iface P.rt.boundsError v)) w'/\(w'=w\/w'=w.drew):=fun m=>by
  unfold boundsPanic;by_cases h:(k != .u64 && decide (0<=i) && decide (i<=31))=true
  · refine ⟨w.drew,?_⟩;simp [h,runtimePanic,goPanic,Question.forced]
  · refine ⟨w,?_⟩;simp [h,runtimePanic,goPanic]
 have h2:(execOp ρ ⟨d,.indexAddr t x y,ty,pos,af,g⟩).run P w=((boundsPanic (α:=Value) k i (if a=none then 0 else n) .index).run P w).andThen fun v w=>.ok (.value v) w:=by
  cases a with
  | none=>simp [execOp,hx,hy,Instr.indexAt,run_underlying ht,asIntOf]
  | some a=>simp [execOp,hx,hy,Instr.indexAt,run_underlying ht,asIntOf,hi]
 obtain ⟨w',v,h3,h4⟩:=hb (if a=none then 0 else n);exact ⟨w',v,by rw [h2,h3];rfl,h4⟩
end
section
variable {P:Program}{N:Fz}{ops:Array Oper}{S1 S:World->Prop}{T:List Nat}{K:KK}{f:Fr}{w:World}{n:Nat}{L:Array Bool}
theorem agL {i:Nat}{oi:Oper}{w':World}{g:FuncId}{args:Array Value}{R:Value->World->Prop}{V:List PanicEntry->World->Prop}(hi:ops[i]?=some oi)(hw:rZ ops f oi.guard=true)(h:(execOp (ev f) oi).run P w=.ok (.enter g args) w')(hc:Calls P g args w' (RP R V))(kp:∀ c w'',V c w''->∀ f,K.p f c w'')(k:∀ v w'',R v w''->Cn S1 T S (L.setIfInBounds i true) w''/\nV P N ops S1 S T K n (L.setIfInBounds i true) (lD f oi.dst v) w''):CG P N ops S1 S T K n L f w i:=by
 unfold CG;intro hok hcl a ha;have hd:BF N oi=true:=hok oi (by have:=Array.mem_of_getElem? hi;simpa using this);unfold wpOp;simp only [hi];rw [lF (by rw [vK ha];exact hw)];left;unfold Oper.wp;rw [ha.BR,h];refine hc.mono fun e w'' he=>?_;cases e with
 | returned v=>
  have h2:=(k v w'' he).2;unfold nV at h2;exact ⟨(k v w'' he).1,h2 hok hcl _ (ha.put _ (uz hd) v)⟩
 | panicked c=>exact ⟨f,ha,kp c w'' he⟩
 | outgrown=>exact he.elim
theorem adv {i:Nat}{oi:Oper}{w':World}{v:Value}(hi:ops[i]?=some oi)(hw:rZ ops f oi.guard=true)(h:(execOp (ev f) oi).run P w=.halt (.panic v) w')(kp:∀ f,K.p f [⟨v,false,false⟩] w'):CG P N ops S1 S T K n L f w i:=by unfold CG;intro hok hcl a ha;unfold wpOp;simp only [hi];rw [lF (by rw [vK ha];exact hw)];left;unfold Oper.wp;rw [ha.BR,h];exact ⟨f,ha,kp⟩
end
section
variable {P:Program}{N:Fz}
theorem lq {g:FuncId}{fn:Func}{c:Code}{args:Array Value}{w:World}{R:Value->World->Prop}{V:List PanicEntry->World->Prop}(hf:P.funcs[g]?=some fn)(hb:fn.body=some c)(h:WP P (fn.ntmps,[]) c ⟨Reads P fn R,fun _ _ _=>False,Reads P fn R,fun _ c w=>V c w⟩ (Ct args) w)(hs:Nat.ble args.size fn.ntmps=true:=by exact rfl)(hok:Kr (fn.ntmps,[]) c=true:=by kernel_rfl):Calls P g args w (RP R V):=by
 have hs:=Nat.le_of_ble_eq_true hs;unfold WP at h;refine calls_of_wp hf hb (Code.wp_mono (fun e a w q=>?_) (h hok _ ⟨by simp;omega,fun t=>?_,rfl⟩))
 · cases e with
   | normal=>
     obtain ⟨f,h1,h2⟩:=q;unfold Reads at h2;obtain ⟨v,hv,hR⟩:=h2 a.tmps h1.get;exact ⟨h1.dfr,v,hv,hR⟩
   | ret=>
     obtain ⟨f,h1,h2⟩:=q;unfold Reads at h2;obtain ⟨v,hv,hR⟩:=h2 a.tmps h1.get;exact ⟨h1.dfr,v,hv,hR⟩
   | exit i=>obtain ⟨f,h1,h2⟩:=q;exact h2.elim
   | panic c=>obtain ⟨f,h1,h2⟩:=q;exact ⟨h1.dfr,h2⟩
   | _=>exact q.elim
 · unfold Ct;simp only [Array.getD_eq_getD_getElem?];rw [Array.getElem?_append];split
   · rfl
   · rename_i hlt;rw [Array.getElem?_replicate];split
     · rw [Array.getElem?_eq_none (by omega)];rfl
     · rw [Array.getElem?_eq_none (by omega)]
theorem Mc {args:Array Value}{n:Nat}(hs:args.size<=n):Nb (n,[]) (Ct args) { tmps:=args ++ Array.replicate (n - args.size) undef,defers:=[] }:=by
 refine ⟨by simp;omega,fun t=>?_,rfl⟩;unfold Ct;simp only [Array.getD_eq_getD_getElem?];rw [Array.getElem?_append];split
 · rfl
 · rename_i hlt;rw [Array.getElem?_replicate];split
   · rw [Array.getElem?_eq_none (by omega)];rfl
   · rw [Array.getElem?_eq_none (by omega)]
def Zu (P:Program)(N:Fz)(c:Code)(Q:Exit->Act->World->Prop)(f:Fr)(w:World):Prop:=Kr N c=true->∀ a,Nb N f a->c.wp P Q a w
theorem aes {c:Code}{Q:Post}{Q':Exit->Act->World->Prop}{f:Fr}{w:World}(h:WP P N c Q f w)(k:∀ e a w,lift N Q e a w->Q' e a w):Zu P N c Q' f w:=fun hok a ha=>by unfold WP at h;exact Code.wp_mono (fun e a w q=>k e a w q) (h hok a ha)
theorem ags {x y:Code}{Q:Exit→Act→World→Prop}{X:Nat→Fr→World→Prop}{R:Fr→World→Prop}{V:Fr→List PanicEntry→World→Prop}{f:Fr}{w:World}
  (h:WP P N x ⟨fun f w=>Zu P N y Q f w,X,R,V⟩ f w) (k:∀ e a w,lift N ⟨fun _ _=>False,X,R,V⟩ e a w->Q e a w):Zu P N (.seq x y) Q f w:=fun hok a ha=>by
 unfold WP at h;simp only [Kr,Ei] at hok;refine wp_seq (Code.wp_mono (fun e a w q=>?_) (h hok.1 a ha));cases e with
 | normal=>obtain ⟨f,h1,h2⟩:=q;exact h2 hok.2 a h1
 | _=>exact k _ a w q
theorem Dn {n:Nat}{d e:List Deferred}:∀ (c:Code),Kr (n,d) c=true→Kr (n,e) c=true
 | .region _ _ _,h=>h
 | .seq a b,h=>by simp only [Kr,Ei] at h ⊢;exact ⟨Dn a h.1,Dn b h.2⟩
 | .cond _ a b,h=>by simp only [Kr,Ei] at h ⊢;exact ⟨Dn a h.1,Dn b h.2⟩
 | .block _ c,h=>Dn c h
 | .loop c,h=>Dn c h
 | .scope c,h=>Dn c h
 | .skip,_=>rfl
 | .ret,_=>rfl
 | .exit _,_=>rfl
 | .rangeFunc _ _ _ _,_=>rfl
 | .label _,_=>rfl
 | .goto _,_=>rfl
 | .refuse _,_=>rfl
theorem adM {i:Nat}{o1 o2:Oper}{y:Code}{Q:Exit→Act→World→Prop}{f:Fr}{w:World}{v:Value}{d:Deferred}
  (e1:(execOp (ev f) o1).run P w=.ok (.value v) w) (e2:(execOp (ev (lD f o1.dst v)) o2).run P w=.ok (.defer d) w)
  (k:Zu P (N.1,d :: N.2) y Q (lD f o1.dst v) w) (h1:o1.guard=none:=by rfl) (h2:o2.guard=none:=by rfl) (h3:o2.dst=none:=by rfl) :
  Zu P N (.seq (.region i #[o1,o2] false) y) Q f w:=fun hok a ha=>by
 simp only [Kr,Ei] at hok;have hd1:BF N o1=true:=by have:=hok.1;simp at this;exact this.1
 have hp:=ha.put o1.dst (uz hd1) v;refine wp_seq (wp_region_lit (l:=[o1,o2]) ?_);refine wpList_plain h1 fun K1 hK1=>?_;unfold Oper.wp;rw [ha.BR,e1];refine hK1 _ _ (wpList_plain h2 fun K2 hK2=>?_);unfold Oper.wp;rw [hp.BR,e2];refine hK2 _ _ (wpList_nil ?_);rw [h3];refine k (Dn y hok.2) _ ⟨hp.size,hp.get,?_⟩;show d :: (a.put o1.dst v).defers=d :: N.2;rw [hp.dfr]
theorem Wi {g:FuncId}{fn:Func}{c:Code}{args:Array Value}{w:World}{R:Ending->World->Prop}(hf:P.funcs[g]?=some fn)(hb:fn.body=some c)(h:Zu P (fn.ntmps,[]) c (bodyPostD P fn R) (Ct args) w)(hs:Nat.ble args.size fn.ntmps=true:=by exact rfl)(hok:Kr (fn.ntmps,[]) c=true:=by kernel_rfl):Calls P g args w R:=
 calls_of_wp_defers hf hb (h hok _ (Mc (Nat.le_of_ble_eq_true hs)))
def HV:FrameMode→Value × FrameMode
 | .panicking (⟨v,false,false⟩ :: l)=>(v,.panicking (⟨v,true,false⟩ :: l))
 | m=>(.nilIface,m)
def RD (u:FrameMode)(R:World→Prop)(V:List PanicEntry→World→Prop):Ending→FrameMode→World→Prop
 | .returned _,u',w=>u'=u/\R w
 | .panicked c,u',w=>u'=u/\V c w
 | .outgrown,_,_=>False
end
end Go.Fw
namespace Go.Proofs.YtdkneekpdecjbaaGreat
open Go.RowKit Go.Fw Go.Proofs.Tryz
def Pz (f:BitVec 64->BitVec 64->BitVec 64)(a b:Int):Int:=wr (f (BitVec.ofInt 64 a) (BitVec.ofInt 64 b)).toNat
section
variable {P:Program}{w:World}{ρ:Operand->Value}{d:Option Nat}{ty:TypeId}{pos:String}{af:Array Edge}{g:Option (Nat × Bool)}{t t':TypeId}{x y:Operand}{a b:Int}
theorem abh (hx:ρ x=V a)(hy:ρ y=V b):Yl P ρ (.binOp .and t x y t') d ty pos af g w (V (Pz (· &&& ·) a b)):=by have h:Op.intBits .and .i64 a b=pure (V (Pz (· &&& ·) a b)):=rfl;simp [Yl,execOp,hx,hy,binOp,eqGuard,h]
theorem agD (hx:ρ x=V a)(hy:ρ y=V b):Yl P ρ (.binOp .or t x y t') d ty pos af g w (V (Pz (· ||| ·) a b)):=by have h:Op.intBits .or .i64 a b=pure (V (Pz (· ||| ·) a b)):=rfl;simp [Yl,execOp,hx,hy,binOp,eqGuard,h]
theorem aeE (hx:ρ x=V a)(hy:ρ y=V b):Yl P ρ (.binOp .xor t x y t') d ty pos af g w (V (Pz (· ^^^ ·) a b)):=by have h:Op.intBits .xor .i64 a b=pure (V (Pz (· ^^^ ·) a b)):=rfl;simp [Yl,execOp,hx,hy,binOp,eqGuard,h]
theorem aep (hx:ρ x=V a):Yl P ρ (.unOp .neg t x) d ty pos af g w (V (wr (0 - a))):=by simp [Yl,execOp,hx,Op.unary,Op.intArith,wr]
theorem ahd {v:Value}(h:∃ D,P.underlying t=some D/\(match D with | .interface _=>false | _=>true)=true)(hx:ρ x=v):Yl P ρ (.makeInterface t x) d ty pos af g w (.iface t v):=by obtain ⟨D,h1,h2⟩:=h;cases D <;> simp_all [Yl,execOp,Instr.makeInterface,run_underlying h1]
end
section
variable {P:Program}{N:Fz}{ops:Array Oper}{K:KK}{rest:List Oper}{f:Fr}{w:World}{d:Option Nat}{ty:TypeId}{pos:String}{af:Array Edge}
theorem aa2 {op:Op}{g:Nat × Bool}(h:rZ ops f (some g)=true)(k:pq P N ops K (⟨d,op,ty,pos,af,none⟩ :: rest) f w):pq P N ops K (⟨d,op,ty,pos,af,some g⟩ :: rest) f w:=kY h k
theorem ZH {op:Op}{g:Nat × Bool}(h:rZ ops f (some g)=false)(k:pq P N ops K rest (lD f d undef) w):pq P N ops K (⟨d,op,ty,pos,af,some g⟩ :: rest) f w:=kX h k
theorem ac5 {x:Operand}{p:OA}(h:ev f x=.pointer p)(k:pq P N ops K rest (lD f d (.pointer p)) w):pq P N ops K (⟨d,.move x,ty,pos,af,none⟩ :: rest) f w:=jJ (Xa h) k
theorem aaL {x:Operand}{n:Int}(h:ev f x=V n)(k:pq P N ops K rest (lD f d (V n)) w):pq P N ops K (⟨d,.move x,ty,pos,af,none⟩ :: rest) f w:=jJ (E9 h) k
theorem aaz {x:Operand}{p:OA}{n m:Nat}(h:ev f x=.slice p n m)(k:pq P N ops K rest (lD f d (.slice p n m)) w):pq P N ops K (⟨d,.move x,ty,pos,af,none⟩ :: rest) f w:=jJ (vR h) k
theorem aaG {x:Operand}{b:Bool}(h:ev f x=.bool b)(k:pq P N ops K rest (lD f d (.bool b)) w):pq P N ops K (⟨d,.move x,ty,pos,af,none⟩ :: rest) f w:=jJ (mh h) k
theorem ac3 {x:Operand}{b:BA}(h:ev f x=T b)(k:pq P N ops K rest (lD f d (T b)) w):pq P N ops K (⟨d,.move x,ty,pos,af,none⟩ :: rest) f w:=jJ (nW h) k
theorem aNl {x:Operand}{a:Addr}(h:ev f x=.pointer (some a))(k:pq P N ops K rest (lD f d (.pointer (some a))) w):pq P N ops K (⟨d,.nilCheck x,ty,pos,af,none⟩ :: rest) f w:=jJ (Ye h) k
theorem XV {x:Operand}{n:Int}(h:ev f x=V n)(k:pq P N ops K rest (lD f d (V n)) w):pq P N ops K (⟨d,.assign x,ty,pos,af,none⟩ :: rest) f w:=jJ (KY h) k
theorem ZB {x:Operand}{b:Bool}(h:ev f x=.bool b)(k:pq P N ops K rest (lD f d (.bool b)) w):pq P N ops K (⟨d,.assign x,ty,pos,af,none⟩ :: rest) f w:=jJ (lM h) k
theorem aaA {x:Operand}{p:OA}{n m:Nat}(h:ev f x=.slice p n m)(k:pq P N ops K rest (lD f d (.slice p n m)) w):pq P N ops K (⟨d,.assign x,ty,pos,af,none⟩ :: rest) f w:=jJ (q9 h) k
theorem adU {x:Operand}{p:OA}(h:ev f x=.pointer p)(k:pq P N ops K rest (lD f d (.pointer p)) w):pq P N ops K (⟨d,.assign x,ty,pos,af,none⟩ :: rest) f w:=jJ (WA h) k
theorem adb {x:Operand}{b:BA}(h:ev f x=T b)(k:pq P N ops K rest (lD f d (T b)) w):pq P N ops K (⟨d,.assign x,ty,pos,af,none⟩ :: rest) f w:=jJ (pz h) k
theorem ab1 {t t':TypeId}{x y:Operand}{n m:Int}(h:ev f x=V n)(h2:ev f y=V m)(k:pq P N ops K rest (lD f d (.bool (decide (n=m)))) w):pq P N ops K (⟨d,.binOp .eql t x y t',ty,pos,af,none⟩ :: rest) f w:=jJ (kI h h2) k
theorem acg {t t':TypeId}{x y:Operand}{n m:Int}(h:ev f x=V n)(h2:ev f y=V m)(k:pq P N ops K rest (lD f d (.bool (decide (n≠m)))) w):pq P N ops K (⟨d,.binOp .neq t x y t',ty,pos,af,none⟩ :: rest) f w:=jJ (rQ h h2) k
theorem ac9 {t t':TypeId}{x y:Operand}{n m:Int}(h:ev f x=V n)(h2:ev f y=V m)(k:pq P N ops K rest (lD f d (.bool (decide (n < m)))) w):pq P N ops K (⟨d,.binOp .lss t x y t',ty,pos,af,none⟩ :: rest) f w:=jJ (sU h h2) k
theorem adq {t t':TypeId}{x y:Operand}{n m:Int}(h:ev f x=V n)(h2:ev f y=V m)(k:pq P N ops K rest (lD f d (.bool (decide (n<=m)))) w):pq P N ops K (⟨d,.binOp .leq t x y t',ty,pos,af,none⟩ :: rest) f w:=jJ (Ns h h2) k
theorem acz {t t':TypeId}{x y:Operand}{n m:Int}(h:ev f x=V n)(h2:ev f y=V m)(k:pq P N ops K rest (lD f d (.bool (decide (m < n)))) w):pq P N ops K (⟨d,.binOp .gtr t x y t',ty,pos,af,none⟩ :: rest) f w:=jJ (xH h h2) k
theorem adR {t t':TypeId}{x y:Operand}{n m:Int}(h:ev f x=V n)(h2:ev f y=V m)(k:pq P N ops K rest (lD f d (.bool (decide (m<=n)))) w):pq P N ops K (⟨d,.binOp .geq t x y t',ty,pos,af,none⟩ :: rest) f w:=jJ (FI h h2) k
theorem ab3 {x:Operand}{i:Nat}{vs:Array Value}{v:Value}(h:ev f x=.tuple vs)(h2:vs[i]?=some v)(k:pq P N ops K rest (lD f d v) w):pq P N ops K (⟨d,.extract x i,ty,pos,af,none⟩ :: rest) f w:=jJ (kL h h2) k
theorem adJ {t t':TypeId}{x y:Operand}{n m:Int}(h:ev f x=V n)(h2:ev f y=V m)(k:pq P N ops K rest (lD f d (V (wr (n+m)))) w):pq P N ops K (⟨d,.binOp .add t x y t',ty,pos,af,none⟩ :: rest) f w:=jJ (mg h h2) k
theorem acO {t t':TypeId}{x y:Operand}{n m:Int}(h:ev f x=V n)(h2:ev f y=V m)(k:pq P N ops K rest (lD f d (V (wr (n - m)))) w):pq P N ops K (⟨d,.binOp .sub t x y t',ty,pos,af,none⟩ :: rest) f w:=jJ (ER h h2) k
theorem adA {t t':TypeId}{x y:Operand}{n m:Int}(h:ev f x=V n)(h2:ev f y=V m)(k:pq P N ops K rest (lD f d (V (wr (n * m)))) w):pq P N ops K (⟨d,.binOp .mul t x y t',ty,pos,af,none⟩ :: rest) f w:=jJ (abF h h2) k
theorem acC {t t':TypeId}{x y:Operand}{n m:Int}(h:ev f x=V n)(h2:ev f y=V m)(k:pq P N ops K rest (lD f d (V (Pz (· &&& ·) n m))) w):pq P N ops K (⟨d,.binOp .and t x y t',ty,pos,af,none⟩ :: rest) f w:=jJ (abh h h2) k
theorem aOr {t t':TypeId}{x y:Operand}{n m:Int}(h:ev f x=V n)(h2:ev f y=V m)(k:pq P N ops K rest (lD f d (V (Pz (· ||| ·) n m))) w):pq P N ops K (⟨d,.binOp .or t x y t',ty,pos,af,none⟩ :: rest) f w:=jJ (agD h h2) k
theorem adB {t t':TypeId}{x y:Operand}{n m:Int}(h:ev f x=V n)(h2:ev f y=V m)(k:pq P N ops K rest (lD f d (V (Pz (· ^^^ ·) n m))) w):pq P N ops K (⟨d,.binOp .xor t x y t',ty,pos,af,none⟩ :: rest) f w:=jJ (aeE h h2) k
theorem adX {t:TypeId}{x:Operand}{n:Int}(h:ev f x=V n)(k:pq P N ops K rest (lD f d (V (wr (0 - n)))) w):pq P N ops K (⟨d,.unOp .neg t x,ty,pos,af,none⟩ :: rest) f w:=jJ (aep h) k
theorem Zx {c x y:Operand}{b:Bool}(h:ev f c=.bool true)(h2:ev f x=.bool b)(k:pq P N ops K rest (lD f d (.bool b)) w):pq P N ops K (⟨d,.pick c x y,ty,pos,af,none⟩ :: rest) f w:=jJ (mK h h2) k
theorem aav {c x y:Operand}{b:Bool}(h:ev f c=.bool false)(h2:ev f y=.bool b)(k:pq P N ops K rest (lD f d (.bool b)) w):pq P N ops K (⟨d,.pick c x y,ty,pos,af,none⟩ :: rest) f w:=jJ (lu h h2) k
theorem aam {t:TypeId}{x:Operand}{b:Bool}(h:ev f x=.bool b)(k:pq P N ops K rest (lD f d (.bool (!b))) w):pq P N ops K (⟨d,.unOp .not t x,ty,pos,af,none⟩ :: rest) f w:=jJ (EY h) k
end
section
variable {P:Program}{N:Fz}{Q:Post}{f:Fr}{w:World}
theorem tL {c:Operand}{x y:Code}{p:Prop}[Decidable p](hc:ev f c=.bool (decide p))(ht:p->WP P N x Q f w)(hf:¬ p->WP P N y Q f w):WP P N (.cond c x y) Q f w:=
 if h:p then jQ (hc.trans (bt h)) (ht h) else jM (hc.trans (bf h)) (hf h)
end
theorem go {G R:Prop}(k:R) (h:R->G:=by
 intro k
 repeat (first
  | refine tV ?_
  | refine nU ?_
  | refine sN ?_
  | refine CW ?_
  | refine oN ?_
  | refine ac5 rfl ?_
  | refine aaL rfl ?_
  | refine aaz rfl ?_
  | refine aaG rfl ?_
  | refine ac3 rfl ?_
  | refine aNl rfl ?_
  | refine XV rfl ?_
  | refine ZB rfl ?_
  | refine aaA rfl ?_
  | refine adU rfl ?_
  | refine adb rfl ?_
  | refine ab1 rfl rfl ?_
  | refine acg rfl rfl ?_
  | refine ac9 rfl rfl ?_
  | refine adq rfl rfl ?_
  | refine acz rfl rfl ?_
  | refine adR rfl rfl ?_
  | refine ab3 rfl rfl ?_
  | refine adJ rfl rfl ?_
  | refine acO rfl rfl ?_
  | refine adA rfl rfl ?_
  | refine acC rfl rfl ?_
  | refine aOr rfl rfl ?_
  | refine adB rfl rfl ?_
  | refine adX rfl ?_
  | refine Zx rfl rfl ?_
  | refine aav rfl rfl ?_
  | refine aam rfl ?_
  | refine aa2 rfl ?_
  | refine ZH rfl ?_
  | refine jQ rfl ?_
  | refine jM rfl ?_)
 exact k):G:=h k
def tbO (t:Nat):List Nat:=bif Nat.beq t 26 then [0,1] else bif Nat.beq t 30 then [0,2,3] else bif Nat.beq t 36 then [0] else bif Nat.beq t 52 then [0,1,2,3] else bif Nat.beq t 55 then [0,1,2,3,4,5,6] else bif Nat.beq t 57 then [0,1,2] else bif Nat.beq t 61 then [0,1,2,3] else bif Nat.beq t 64 then [0,1] else bif Nat.beq t 67 then [0,1,2,3,4] else bif Nat.beq t 69 then [0,1,2] else bif Nat.beq t 71 then [0,1,2] else bif Nat.beq t 73 then [0,1,2,3,4,5,6,7,8] else bif Nat.beq t 78 then [0] else bif Nat.beq t 90 then [0,4,5,9,10,11,12,13,14,15,16,17] else bif Nat.beq t 99 then [0,1,2,3] else bif Nat.beq t 103 then [0,4,5,6,7] else bif Nat.beq t 107 then [0,1,2] else bif Nat.beq t 115 then [0,1,2,3,4,5,6,7,8,9,10,11,12] else bif Nat.beq t 123 then [0,4,5,9,10,11,12,13,14,15] else bif Nat.beq t 125 then [0,1,2] else bif Nat.beq t 137 then [0,1,2,3] else bif Nat.beq t 143 then [0,1] else bif Nat.beq t 159 then [0,1] else bif Nat.beq t 163 then [0,1,2,3,4,5,6,7,8] else bif Nat.beq t 166 then [0,1,2,3,4,5] else bif Nat.beq t 170 then [0,1] else bif Nat.beq t 172 then [0,1] else bif Nat.beq t 225 then [0,1] else []
def gtO:List Nat→Nat→Option Nat
 | [],_=>none
 | a :: _,0=>some a
 | _ :: l,n+1=>gtO l n
def fT (t n:Nat):Option Nat:=gtO (tbO t) n
noncomputable def fo (t n:Nat):Option Nat:=match prog.underlying t with
 | some (.struct fs)=>match fs[n]? with
  | some f=>match prog.info? f.type with
   | some i=>bif i.zero.isSome && !Nat.beq i.size 0 then some f.offset else none
   | none=>none
  | none=>none
 | _=>none
def scB (t:Nat):Bool:=Nat.beq (Nat.mod (Nat.shiftRight 0x8000000000000100200000000302800041c000004c27002419c00238 t) 2) 1
def slB (t:Nat):Bool:=Nat.beq (Nat.mod (Nat.shiftRight 0x10000000001000000000003020000410000004c27000419c00000 t) 2) 1
noncomputable def okT:Bool:=(List.range 247).all fun t=>((List.range 16).all fun n=>(match fT t n with | none=>true | some j=>(match fo t n with | some i=>Nat.beq i j | none=>false))) && (!scB t || (match prog.underlying t with | some D=>!MU D | none=>false)) && (!slB t || (match prog.underlying t with | some (.slice _)=>true | _=>false))
theorem agO:okT=true:=by kernel_rfl
theorem Ui {t:Nat}(ht:Nat.blt t 247=true):(((List.range 16).all fun n=>(match fT t n with | none=>true | some j=>(match fo t n with | some i=>Nat.beq i j | none=>false))) && (!scB t || (match prog.underlying t with | some D=>!MU D | none=>false)) && (!slB t || (match prog.underlying t with | some (.slice _)=>true | _=>false)))=true:=by have h:=agO;unfold okT at h;exact List.all_eq_true.1 h t (List.mem_range.2 (by simpa using ht))
def TY:Nat:=247
theorem aev {t n j:Nat}(hj:fT t n=some j)(ht:Nat.blt t TY=true)(hn:Nat.blt n 16=true):∃ fs fd,prog.underlying t=some (.struct fs)/\fs[n]?=some fd/\fd.offset=j/\∃ i z,prog.info? fd.type=some i/\i.zero=some z/\Nat.beq i.size 0=false:=by
 have h1:=Ui ht;simp only [Ei] at h1;have h2:=List.all_eq_true.1 h1.1.1 n (List.mem_range.2 (by simpa using hn));rw [hj] at h2;dsimp only at h2;cases hf:fo t n with
 | none=>rw [hf] at h2;cases h2
 | some j'=>
  rw [hf] at h2;have hjj:j'=j:=Nat.eq_of_beq_eq_true h2;subst hjj;unfold fo at hf;cases hu:prog.underlying t with
  | none=>rw [hu] at hf;cases hf
  | some D=>
   rw [hu] at hf;cases D with
   | struct fs=>
    dsimp only at hf;cases hfs:fs[n]? with
    | none=>rw [hfs] at hf;cases hf
    | some fd=>
     rw [hfs] at hf;dsimp only at hf;cases hi:prog.info? fd.type with
     | none=>rw [hi] at hf;cases hf
     | some i=>
      rw [hi] at hf;dsimp only at hf;cases hz:i.zero with
      | none=>rw [hz] at hf;cases hf
      | some z=>
       rw [hz] at hf;cases hs:Nat.beq i.size 0 with
       | true=>rw [hs] at hf;cases hf
       | false=>
        rw [hs] at hf;exact ⟨fs,fd,rfl,hfs,Kj hf,i,z,hi,hz,hs⟩
   | _=>cases hf
theorem abA {t:Nat}(hs:scB t=true)(ht:Nat.blt t TY=true):∃ D,prog.underlying t=some D/\MU D=false:=by
 have h1:=Ui ht;simp only [Ei] at h1;have h2:=h1.1.2;rw [hs,Bool.not_true,Bool.false_or] at h2;cases hu:prog.underlying t with
 | none=>rw [hu] at h2;cases h2
 | some D=>
  rw [hu] at h2;exact ⟨D,rfl,by simpa using h2⟩
theorem afx {t:Nat}(hs:slB t=true)(ht:Nat.blt t TY=true):∃ e,prog.underlying t=some (.slice e):=by
 have h1:=Ui ht;simp only [Ei] at h1;have h2:=h1.2;rw [hs,Bool.not_true,Bool.false_or] at h2;cases hu:prog.underlying t with
 | none=>rw [hu] at h2;cases h2
 | some D=>
  rw [hu] at h2;cases D with
  | slice e=>exact ⟨e,rfl⟩
  | _=>cases h2
section
variable {ρ:Operand->Value}{w:World}{d:Option Nat}{ty:TypeId}{pos:String}{af:Array Edge}{g:Option (Nat × Bool)}{x:Operand}{b o t n j:Nat}
theorem yF (h:ρ x=.pointer (some ⟨b,o,none⟩))(hj:fT t n=some j)(ht:Nat.blt t TY=true)(hn:Nat.blt n 16=true):Yl prog ρ (.fieldAddr t x n) d ty pos af g w (.pointer (some ⟨b,o+j,none⟩)):=by obtain ⟨fs,fd,hu,hfs,ho,i,z,hi,hz,hs⟩:=aev hj ht hn;exact adG (k:=j) hu hfs ho ⟨i,hi,hz,rfl,rfl⟩ (fun e=>by rw [e] at hs;cases hs) h
theorem yL {t':TypeId}{cs:Array Value}{v:Value}(h:ρ x=.pointer (some ⟨b,o,none⟩))(hb:yA w b t' cs)(hi:cs[o]?=some v)(hs:scB t=true)(ht:Nat.blt t TY=true):Yl prog ρ (.load t x) d ty pos af g w v:=by obtain ⟨D,hu,hD⟩:=abA hs ht;exact kH hu hD h (hb.cell hi)
theorem yC {a:Addr}{v:Value}(h:ρ x=.pointer (some a))(hc:w.cell? a=some v)(hs:scB t=true)(ht:Nat.blt t TY=true):Yl prog ρ (.load t x) d ty pos af g w v:=by obtain ⟨D,hu,hD⟩:=abA hs ht;exact kH hu hD h hc
theorem yN {A:OA}{m c:Nat}(h:ρ x=.slice A m c)(hs:slB t=true)(ht:Nat.blt t TY=true):Yl prog ρ (.call { callee:=.builtin .len,args:=#[x],argTypes:=#[t] }) d ty pos af g w (V (m:Int)):=by obtain ⟨e,hu⟩:=afx hs ht;exact qG hu h
end
section
variable {N:Fz}{ops:Array Oper}{K:KK}{rest:List Oper}{f:Fr}{w:World}{d:Option Nat}{ty:TypeId}{pos:String}{af:Array Edge}{x:Operand}{b o t n j:Nat}
theorem gF (h:ev f x=.pointer (some ⟨b,o,none⟩))(hj:fT t n=some j)(k:pq prog N ops K rest (lD f d (.pointer (some ⟨b,o+j,none⟩))) w)(ht:Nat.blt t TY=true:=by exact rfl)(hn:Nat.blt n 16=true:=by exact rfl):pq prog N ops K (⟨d,.fieldAddr t x n,ty,pos,af,none⟩ :: rest) f w:=jJ (yF h hj ht hn) k
theorem gL {t':TypeId}{cs:Array Value}{v:Value}(h:ev f x=.pointer (some ⟨b,o,none⟩))(hb:yA w b t' cs)(hi:cs[o]?=some v)(hs:scB t=true)(k:pq prog N ops K rest (lD f d v) w)(ht:Nat.blt t TY=true:=by exact rfl):pq prog N ops K (⟨d,.load t x,ty,pos,af,none⟩ :: rest) f w:=jJ (yL h hb hi hs ht) k
theorem gC {a:Addr}{v:Value}(h:ev f x=.pointer (some a))(hc:w.cell? a=some v)(hs:scB t=true)(k:pq prog N ops K rest (lD f d v) w)(ht:Nat.blt t TY=true:=by exact rfl):pq prog N ops K (⟨d,.load t x,ty,pos,af,none⟩ :: rest) f w:=jJ (yC h hc hs ht) k
theorem gN {A:OA}{m c:Nat}(h:ev f x=.slice A m c)(hs:slB t=true)(k:pq prog N ops K rest (lD f d (V (m:Int))) w)(ht:Nat.blt t TY=true:=by exact rfl):pq prog N ops K (⟨d,.call { callee:=.builtin .len,args:=#[x],argTypes:=#[t] },ty,pos,af,none⟩ :: rest) f w:=jJ (yN h hs ht) k
end
theorem goC {w0 w:World}{Z G':Nat->Prop}{Lt:List It}{D:List Da}{G R:Prop}(e:Bx w0 w Z G' Lt D)(k:R) (h:Bx w0 w Z G' Lt D->R->G:=by
 intro e k
 repeat (first
  | refine tV ?_
  | refine nU ?_
  | refine sN ?_
  | refine CW ?_
  | refine oN ?_
  | refine ac5 rfl ?_
  | refine aaL rfl ?_
  | refine aaz rfl ?_
  | refine aaG rfl ?_
  | refine ac3 rfl ?_
  | refine aNl rfl ?_
  | refine XV rfl ?_
  | refine ZB rfl ?_
  | refine aaA rfl ?_
  | refine adU rfl ?_
  | refine adb rfl ?_
  | refine ab1 rfl rfl ?_
  | refine acg rfl rfl ?_
  | refine ac9 rfl rfl ?_
  | refine adq rfl rfl ?_
  | refine acz rfl rfl ?_
  | refine adR rfl rfl ?_
  | refine ab3 rfl rfl ?_
  | refine adJ rfl rfl ?_
  | refine acO rfl rfl ?_
  | refine adA rfl rfl ?_
  | refine acC rfl rfl ?_
  | refine aOr rfl rfl ?_
  | refine adB rfl rfl ?_
  | refine adX rfl ?_
  | refine Zx rfl rfl ?_
  | refine aav rfl rfl ?_
  | refine aam rfl ?_
  | refine aa2 rfl ?_
  | refine ZH rfl ?_
  | refine jQ rfl ?_
  | refine jM rfl ?_
  | refine gF rfl rfl ?_
  | refine gN rfl rfl ?_
  | refine gL rfl (e.bk 0 rfl) rfl rfl ?_
  | refine gL rfl (e.bk 1 rfl) rfl rfl ?_
  | refine gL rfl (e.bk 2 rfl) rfl rfl ?_
  | refine gL rfl (e.bk 3 rfl) rfl rfl ?_
  | refine gL rfl (e.bk 4 rfl) rfl rfl ?_
  | refine gL rfl (e.bk 5 rfl) rfl rfl ?_
  | refine gL rfl (e.bk 6 rfl) rfl rfl ?_
  | refine gL rfl (e.bk 7 rfl) rfl rfl ?_
  | refine gL rfl (e.bk 8 rfl) rfl rfl ?_)
 exact k):G:=h e k
def Td:List Oper→Nat→Option Oper
 | a :: _,0=>some a
 | _ :: l,n+1=>Td l n
 | [],_=>none
theorem KX:∀ (l:List Oper)(i:Nat),Td l i=l[i]?
 | _ :: _,0=>rfl
 | _ :: l,i+1=>by rw [Td,KX l i];simp
 | [],_=>by simp [Td]
def pk (o:Oper):Bool:=match o.op with
 | .move _=>true
 | .nilCheck _=>true
 | .fieldAddr _ _ _=>true
 | .load _ _=>true
 | .assign _=>true
 | .binOp .add _ _ _ _=>true
 | .binOp .sub _ _ _ _=>true
 | .call c=>match c.callee with
  | .builtin .len=>true
  | _=>false
 | _=>false
def rdy (L:Array Bool)(i:Nat)(o:Oper):Bool:=!(L.getD i false) && o.after.toList.all fun e=>L.getD e.on false
def DS (P:Program)(N:Fz)(ops:Array Oper)(S1 S:World->Prop)(T:List Nat)(K:KK)(n:Nat)(L:Array Bool)(i:Nat)(oi:Oper)(f:Fr)(w:World):Prop:=ops[i]?=some oi->may ops T L i=true->nV P N ops S1 S T K n L f w
section
variable {N:Fz}{ops:Array Oper}{S1:World->Prop}{T:List Nat}{K:KK}{n:Nat}{Lb:Array Bool}{f:Fr}{w w0:World}{Z G:Nat->Prop}{L:List It}{D:List Da}
theorem EM {Q:Post}{i:Nat}(b:Bx w0 w Z G L D)(T:List Nat)(k:Bx w0 w.drew Z G L D->nV prog N ops (fun _=>True) (fun u=>Bx w0 u Z G L D) T ⟨Q.n,Q.p⟩ ops.size (Array.replicate ops.size false) f w.drew)(hm:prog.follows .mixedOrders=true:=by kernel_rfl):WP prog N (.region i ops true) Q f w:=
 OQ _ _ T hm (k b.drew)
theorem wN (i:Nat){S:World->Prop}{oi:Oper}(hi:Td ops.toList i=some oi)(k:DS prog N ops S1 S T K n Lb i oi f w)(hc:may ops T Lb i=true:=by kernel_rfl):nV prog N ops S1 S T K n Lb f w:=k (by rw [KX] at hi;simpa using hi) hc
theorem Ci (i:Nat){S:World->Prop}{oi:Oper}(hi:Td ops.toList i=some oi)(k:DS prog N ops S1 S T K n Lb i oi f w)(hq:(pk oi && rdy Lb i oi)=true:=by exact rfl)(hc:may ops T Lb i=true:=by kernel_rfl):nV prog N ops S1 S T K n Lb f w:=wN i hi k hc
variable {S:World->Prop}{i:Nat}{d:Option Nat}{ty:TypeId}{pos:String}{af:Array Edge}{x y:Operand}{v:Value}
theorem dP {op:Op}(hy:∀ {w:World},Yl prog (ev f) op d ty pos af none w v)(hS:Cn S1 T S Lb w)(k:nV prog N ops S1 S T K n (Lb.setIfInBounds i true) (lD f d v) w):DS prog N ops S1 S T K (n+1) Lb i ⟨d,op,ty,pos,af,none⟩ f w:=
 fun hi hc=>TG i hi hc rfl (fun _=>hy) hS k
theorem dU {op:Op}(hy:∀ {u:World},S u->Yl prog (ev f) op d ty pos af none u v)(hS:Cn S1 T S Lb w)(k:nV prog N ops S1 S T K n (Lb.setIfInBounds i true) (lD f d v) w)(hT:(T.all fun t=>Tt ops 20 t i)=true:=by kernel_rfl):DS prog N ops S1 S T K (n+1) Lb i ⟨d,op,ty,pos,af,none⟩ f w:=
 fun hi hc=>KJ 20 i hi hc hT rfl (fun _=>hy) hS k
theorem aeH {p:OA}(h:ev f x=.pointer p)(hS:Cn S1 T S Lb w)(k:nV prog N ops S1 S T K n (Lb.setIfInBounds i true) (lD f d (.pointer p)) w):DS prog N ops S1 S T K (n+1) Lb i ⟨d,.move x,ty,pos,af,none⟩ f w:=dP (Xa h) hS k
theorem afj {p:Int}(h:ev f x=V p)(hS:Cn S1 T S Lb w)(k:nV prog N ops S1 S T K n (Lb.setIfInBounds i true) (lD f d (V p)) w):DS prog N ops S1 S T K (n+1) Lb i ⟨d,.move x,ty,pos,af,none⟩ f w:=dP (E9 h) hS k
theorem afg {p:Bool}(h:ev f x=.bool p)(hS:Cn S1 T S Lb w)(k:nV prog N ops S1 S T K n (Lb.setIfInBounds i true) (lD f d (.bool p)) w):DS prog N ops S1 S T K (n+1) Lb i ⟨d,.move x,ty,pos,af,none⟩ f w:=dP (mh h) hS k
theorem aeJ {p:OA}{a c:Nat}(h:ev f x=.slice p a c)(hS:Cn S1 T S Lb w)(k:nV prog N ops S1 S T K n (Lb.setIfInBounds i true) (lD f d (.slice p a c)) w):DS prog N ops S1 S T K (n+1) Lb i ⟨d,.move x,ty,pos,af,none⟩ f w:=dP (vR h) hS k
theorem ae8 {p:OA}(h:ev f x=.pointer p)(hS:Cn S1 T S Lb w)(k:nV prog N ops S1 S T K n (Lb.setIfInBounds i true) (lD f d (.pointer p)) w):DS prog N ops S1 S T K (n+1) Lb i ⟨d,.assign x,ty,pos,af,none⟩ f w:=dP (WA h) hS k
theorem afz {p:Int}(h:ev f x=V p)(hS:Cn S1 T S Lb w)(k:nV prog N ops S1 S T K n (Lb.setIfInBounds i true) (lD f d (V p)) w):DS prog N ops S1 S T K (n+1) Lb i ⟨d,.assign x,ty,pos,af,none⟩ f w:=dP (KY h) hS k
theorem dNl {p:Addr}(h:ev f x=.pointer (some p))(hS:Cn S1 T S Lb w)(k:nV prog N ops S1 S T K n (Lb.setIfInBounds i true) (lD f d (.pointer (some p))) w):DS prog N ops S1 S T K (n+1) Lb i ⟨d,.nilCheck x,ty,pos,af,none⟩ f w:=dP (Ye h) hS k
theorem aeY {t t':TypeId}{p q:Int}(h:ev f x=V p)(h2:ev f y=V q)(hS:Cn S1 T S Lb w)(k:nV prog N ops S1 S T K n (Lb.setIfInBounds i true) (lD f d (V (wr (p+q)))) w):DS prog N ops S1 S T K (n+1) Lb i ⟨d,.binOp .add t x y t',ty,pos,af,none⟩ f w:=dP (mg h h2) hS k
theorem afW {t t':TypeId}{p q:Int}(h:ev f x=V p)(h2:ev f y=V q)(hS:Cn S1 T S Lb w)(k:nV prog N ops S1 S T K n (Lb.setIfInBounds i true) (lD f d (V (wr (p - q)))) w):DS prog N ops S1 S T K (n+1) Lb i ⟨d,.binOp .sub t x y t',ty,pos,af,none⟩ f w:=dP (ER h h2) hS k
theorem dF {t j m b o:Nat}(h:ev f x=.pointer (some ⟨b,o,none⟩))(hj:fT t m=some j)(hS:Cn S1 T S Lb w)(k:nV prog N ops S1 S T K n (Lb.setIfInBounds i true) (lD f d (.pointer (some ⟨b,o+j,none⟩))) w)(ht:Nat.blt t TY=true:=by exact rfl)(hn:Nat.blt m 16=true:=by exact rfl):DS prog N ops S1 S T K (n+1) Lb i ⟨d,.fieldAddr t x m,ty,pos,af,none⟩ f w:=dP (yF h hj ht hn) hS k
theorem dN {t m c:Nat}{A:OA}(h:ev f x=.slice A m c)(hs:slB t=true)(hS:Cn S1 T S Lb w)(k:nV prog N ops S1 S T K n (Lb.setIfInBounds i true) (lD f d (V (m:Int))) w)(ht:Nat.blt t TY=true:=by exact rfl):DS prog N ops S1 S T K (n+1) Lb i ⟨d,.call { callee:=.builtin .len,args:=#[x],argTypes:=#[t] },ty,pos,af,none⟩ f w:=dP (yN h hs ht) hS k
theorem dLk (j:Nat){t t' b o:Nat}{cs:Array Value}(h:ev f x=.pointer (some ⟨b,o,none⟩))(hj:L[j]?=some (.box b t' cs))(hi:cs[o]?=some v)(hs:scB t=true)(hS:Cn S1 T (fun u=>Bx w0 u Z G L D) Lb w)(k:nV prog N ops S1 (fun u=>Bx w0 u Z G L D) T K n (Lb.setIfInBounds i true) (lD f d v) w)(ht:Nat.blt t TY=true:=by exact rfl)(hT:(T.all fun t=>Tt ops 20 t i)=true:=by kernel_rfl):DS prog N ops S1 (fun u=>Bx w0 u Z G L D) T K (n+1) Lb i ⟨d,.load t x,ty,pos,af,none⟩ f w:=
 dU (fun hu=>yL h (hu.bk j hj) hi hs ht) hS k hT
end
theorem BQ {w0 w:World}{Z G':Nat->Prop}{Lt:List It}{D:List Da}{G R:Prop}(e:Bx w0 w Z G' Lt D)(k:R) (h:Bx w0 w Z G' Lt D->R->G:=by
 intro e k
 repeat
  first
  | refine Ci 0 rfl ?_
  | refine Ci 1 rfl ?_
  | refine Ci 2 rfl ?_
  | refine Ci 3 rfl ?_
  | refine Ci 4 rfl ?_
  | refine Ci 5 rfl ?_
  | refine Ci 6 rfl ?_
  | refine Ci 7 rfl ?_
  | refine Ci 8 rfl ?_
  | refine Ci 9 rfl ?_
  | refine Ci 10 rfl ?_
  | refine Ci 11 rfl ?_
  | refine Ci 12 rfl ?_
  | refine Ci 13 rfl ?_
  | refine Ci 14 rfl ?_
  | refine Ci 15 rfl ?_
  | refine Ci 16 rfl ?_
  | refine Ci 17 rfl ?_
  | refine Ci 18 rfl ?_
  | refine Ci 19 rfl ?_
  | refine Ci 20 rfl ?_
  | refine Ci 21 rfl ?_
  | refine Ci 22 rfl ?_
  | refine Ci 23 rfl ?_
  first
  | refine aeH rfl (jL kE e) ?_
  | refine afj rfl (jL kE e) ?_
  | refine dNl rfl (jL kE e) ?_
  | refine dF rfl rfl (jL kE e) ?_
  | refine dLk 0 rfl rfl rfl rfl (jL kE e) ?_
  | refine dLk 9 rfl rfl rfl rfl (jL kE e) ?_
  | refine dLk 10 rfl rfl rfl rfl (jL kE e) ?_
  | refine dLk 11 rfl rfl rfl rfl (jL kE e) ?_
  | refine dN rfl rfl (jL kE e) ?_
  | refine afg rfl (jL kE e) ?_
  | refine aeJ rfl (jL kE e) ?_
  | refine aeY rfl rfl (jL kE e) ?_
  | refine afW rfl rfl (jL kE e) ?_
  | refine ae8 rfl (jL kE e) ?_
  | refine afz rfl (jL kE e) ?_
 exact k):G:=h e k
theorem kr {w0 w:World}{Z G':Nat->Prop}{Lt:List It}{D:List Da}{G R:Prop}(e:Bx w0 w Z G' Lt D)(k:R) (h:Bx w0 w Z G' Lt D->R->G:=by
 intro e k
 repeat (first
  | refine tV ?_
  | refine nU ?_
  | refine sN ?_
  | refine CW ?_
  | refine oN ?_
  | refine ac5 rfl ?_
  | refine aaL rfl ?_
  | refine aaz rfl ?_
  | refine aaG rfl ?_
  | refine ac3 rfl ?_
  | refine aNl rfl ?_
  | refine XV rfl ?_
  | refine ZB rfl ?_
  | refine aaA rfl ?_
  | refine adU rfl ?_
  | refine adb rfl ?_
  | refine ab1 rfl rfl ?_
  | refine acg rfl rfl ?_
  | refine ac9 rfl rfl ?_
  | refine adq rfl rfl ?_
  | refine acz rfl rfl ?_
  | refine adR rfl rfl ?_
  | refine ab3 rfl rfl ?_
  | refine adJ rfl rfl ?_
  | refine acO rfl rfl ?_
  | refine adA rfl rfl ?_
  | refine acC rfl rfl ?_
  | refine aOr rfl rfl ?_
  | refine adB rfl rfl ?_
  | refine adX rfl ?_
  | refine Zx rfl rfl ?_
  | refine aav rfl rfl ?_
  | refine aam rfl ?_
  | refine aa2 rfl ?_
  | refine ZH rfl ?_
  | refine jQ rfl ?_
  | refine jM rfl ?_
  | refine gF rfl rfl ?_
  | refine gN rfl rfl ?_
  | refine gL rfl (e.bk 0 rfl) rfl rfl ?_
  | refine gL rfl (e.bk 9 rfl) rfl rfl ?_
  | refine gL rfl (e.bk 10 rfl) rfl rfl ?_
  | refine gL rfl (e.bk 11 rfl) rfl rfl ?_
  | refine gL rfl (e.bk 11 rfl) rfl rfl ?_)
 exact k):G:=h e k
end Go.Proofs.YtdkneekpdecjbaaGreat
