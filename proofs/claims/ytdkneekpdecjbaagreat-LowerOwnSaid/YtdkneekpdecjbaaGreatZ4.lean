/- Posts out of sight; rows cut short. Over any program. -/
import Derived.Test.YtdkneekpdecjbaaGreatZ3
import Derived.Test.YtdkneekpdecjbaaGreatRows
set_option linter.unusedVariables false
namespace Go.Fw
open Go.RowKit
section
variable {P:Program}{N:Fz}{n R:Fr->World->Prop}{X:Nat->Fr->World->Prop}{V:Fr->List PanicEntry->World->Prop}{f:Fr}{w:World}
theorem GD {x y:Code}(h:WP P N x ⟨fun f w=>WP P N y ⟨n,X,R,V⟩ f w,X,R,V⟩ f w):WP P N (.seq x y) ⟨n,X,R,V⟩ f w:=aeM h
theorem pW {i:Nat}{c:Code}(h:WP P N c ⟨n,fun j=>bif Nat.beq j i then n else X j,R,V⟩ f w):WP P N (.block i c) ⟨n,X,R,V⟩ f w:=abj h
theorem qM {x:Code}(J:Fr->World->Prop)(h:∀ J':Fr->World->Prop,(∀ f w,J f w->J' f w)->WP P N x ⟨J',X,R,V⟩ f w)(k:∀ f w,J f w->n f w):WP P N x ⟨n,X,R,V⟩ f w:=
 wJ J (h J fun _ _ h=>h) k
theorem kG {c:Code}(I:Nat->Fr->World->Prop)(n0:Nat)(h0:I n0 f w)(hr:∀ n f w,I n f w->∀ J':Fr->World->Prop,(∀ m f w,m < n->I m f w->J' f w)->WP P N c ⟨J',X,R,V⟩ f w):WP P N (.loop c) ⟨n,X,R,V⟩ f w:=
 aa9 I n0 h0 fun n f w h=>hr n f w h _ fun m f w hm hi=>⟨m,hm,hi⟩
theorem uL {i:Nat}(h:X i f w):WP P N (.exit i) ⟨n,X,R,V⟩ f w:=acu h
theorem lT (h:R f w):WP P N .ret ⟨n,X,R,V⟩ f w:=aee h
end
theorem Own.shr {w:World}{base:Nat}{e:TypeId}{sz n c:Nat}{A:Option Addr}{xs:List Value}(h:Own w base e sz A n c xs)(m:Nat)(hm:m<=n):Own w base e sz A m c (xs.take (m * sz)):=by
 refine ⟨by rw [vT,h.len];exact Nat.min_eq_left (Nat.mul_le_mul_right _ hm),?_⟩;rcases h.2 with ⟨h2,hn⟩|⟨b,cap,cur,h3,h4,h5,h6,h7,h8,h9⟩
 · subst hn;obtain rfl:m=0:=by omega
   exact .inl ⟨h2,rfl⟩
 · injection h3 with h3a h3b h3c;refine .inr ⟨b,cap,cur,by rw [h3a,h3c],h4,h5,by omega,h7,h8,?_⟩;rw [<-h9,List.take_take,Nat.min_eq_left (Nat.mul_le_mul_right _ hm)]
theorem wR.acr {α:Type}[Rp α]{F:Nat->Prop}{w:World}{cs:List (List Value)}{l:List α}(h:wR F w cs l)(m:Nat)(hm:m<=l.length):(cs.take m).flatten=cs.flatten.take (m * Rp.sz α):=by
 have h1:=(h.take m).U9;rw [vT,Nat.min_eq_left hm] at h1;have h2:cs.flatten=(cs.take m).flatten ++ (cs.drop m).flatten:=by rw [<-List.flatten_append,List.take_append_drop]
 rw [<-h1,h2,List.take_append_of_le_length (ng _),List.take_length]
theorem Bx.shr {α:Type}[Rp α]{w0 w:World}{Z G:Nat->Prop}{L:List It}{D:List Da}(h:Bx w0 w Z G L D)(i j:Nat){base:Nat}{A:Option Addr}{c:Nat}{e:TypeId}{cs:List (List Value)}{l r:List α}{m:Nat}(hi:L[i]?=some (.own base A c e (Rp.sz α) cs))(hj:D[j]?=some (.els cs l))(hm:m<=l.length)(hr:(l.drop 0).take (m - 0)=r):Bx w0 w Z G (L.set i (.own base A c e (Rp.sz α) (cs.take m))) (D.set j (.els (cs.take m) r)):=by
 have he:=h.de j hj;have hr':l.take m=r:=by rw [<-hr,List.drop_zero,Nat.sub_zero]
 have h1:Bx w0 w Z G L (.els (cs.take m) r :: D):=h.jX (by rw [<-hr'];exact he.take m);have h2:Bx w0 w Z G L (D.set j (.els (cs.take m) r)):=h1.Au fun d hd=>by
  rcases GX hd with hd | hd
  · exact xQ _ hd
  · rw [hd];exact zH
 refine h2.put i hi ((Ext.refl w).FM _) ?_ (fun k hk=>.inl hk);have ho:=(h.bo i hi).shr m (by rw [he.len];exact hm);rw [<-he.acr m hm] at ho;have hl:(cs.take m).length=m:=by rw [vT,he.len,Nat.min_eq_left hm]
 show Own w base e (Rp.sz α) A (cs.take m).length c (cs.take m).flatten;rw [hl];exact ho
inductive Lf where
 | i (n:Int)
 | t (s:ByteArray)
 | b (x:Bool)
deriving DecidableEq
def Lf.v:Lf→Value
 | .i n=>.int .i64 n
 | .t s=>.string s
 | .b x=>.bool x
def Lf.k:Lf→Nat
 | .i _=>0
 | .t _=>1
 | .b _=>2
section
variable {P:Program}{w:World}{ρ:Operand->Value}{d:Option Nat}{ty:TypeId}{pos:String}{af:Array Edge}{g:Option (Nat × Bool)}
end
end Go.Fw
set_option maxHeartbeats 12800000
set_option linter.unusedSimpArgs false
set_option maxRecDepth 4000
namespace Go.Proofs.YtdkneekpdecjbaaGreat
open Go.RowKit Go.Fw Go.Proofs.Tryz
theorem r.{u}{α:Sort u}{a:α}:a=a:=rfl
abbrev OA:=Option Addr
abbrev LV:=List (List Value)
noncomputable section
structure jN where
 l:(List Int)
 a:Int
instance:Rp jN:=⟨2,32,fun F w cs x=>∃ (a1:OA)(c1:Nat),cs=[.slice a1 x.l.length c1,Vi x.a]/\kr F w a1 c1 x.l,fun h=>by obtain ⟨a1,c1,rfl,_⟩:=h;rfl,fun h=>by obtain ⟨a1,c1,rfl,_⟩:=h;rfl,fun h m=>by obtain ⟨a1,c1,h,k1⟩:=h;exact ⟨a1,c1,h,k1.mv m⟩⟩
theorem jN.out {F:Nat->Prop}{w:World}{cs:List Value}{x:jN}(h:Rp.rep F w cs x):∃ (a:OA)(b:Nat),cs=[.slice a x.l.length b,Vi x.a]/\kr F w a b x.l:=h
theorem jN.inn {F:Nat->Prop}{w:World}{cs:List Value}{x:jN}(h:∃ (a:OA) (b:Nat),cs=[.slice a x.l.length b,Vi x.a]/\kr F w a b x.l):Rp.rep F w cs x:=h
structure jB where
 e:Int
 d:Int
 f:Int
 c:ByteArray
 b:ByteArray
 a:(List jB)
inductive jB.R (F:Nat→Prop)(w:World):List Value→jB→Prop
 | mk (x:jB) (a1:OA) (c1:Nat) (C1:Nat->List Value) (h1:x.a.length<=c1/\c1<=maxLen) (k1:0 < x.a.length->a1=some ⟨mX a1,nW a1,none⟩/\F (mX a1)/\mX a1 < w.heap.size) (e1:∀ i y,x.a[i]?=some y->Cells w (mX a1) (nW a1+i * 6) (C1 i)) (r1:∀ i y,x.a[i]?=some y->jB.R F w (C1 i) y):jB.R F w [Vi x.e,Vi x.d,Vi x.f,Vt x.c,Vt x.b,.slice a1 x.a.length c1] x
instance:Rp jB where
 sz:=6
 bs:=80
 rep:=jB.R
 len h:=by cases h;rfl
 one h:=by cases h;rfl
 mv {F G w w' cs x} h m:=by
  induction h with
  | mk x a1 c1 C1 h1 k1 e1 r1 ih1=>exact .mk x a1 c1 C1 h1 (fun h0=>⟨(k1 h0).1,(m.1 _ (k1 h0).2.1 (k1 h0).2.2).1,Nat.lt_of_lt_of_le (k1 h0).2.2 m.2⟩) (fun i y hy=>(e1 i y hy).same (m.1 _ (k1 (by have:=kN hy;omega)).2.1 (k1 (by have:=kN hy;omega)).2.2).2) ih1
theorem jB.out {F:Nat->Prop}{w:World}{cs:List Value}{x:jB}(h:Rp.rep F w cs x):∃ (a:OA)(b:Nat),cs=[Vi x.e,Vi x.d,Vi x.f,Vt x.c,Vt x.b,.slice a x.a.length b]/\kr F w a b x.a:=by
 cases h with
 | mk _ a b f e c j k=>exact ⟨a,b,rfl,⟨e.1,e.2,fun d=>⟨(c d).1,(c d).2.1,(c d).2.2,fun i l hy=>⟨f i,j i l hy,k i l hy⟩⟩⟩⟩
theorem jB.inn {F:Nat->Prop}{w:World}{cs:List Value}{x:jB}(h:∃ (b:OA) (c:Nat),cs=[Vi x.e,Vi x.d,Vi x.f,Vt x.c,Vt x.b,.slice b x.a.length c]/\kr F w b c x.a):Rp.rep F w cs x:=by obtain ⟨b,c,rfl,a⟩:=h;obtain ⟨e,f,i⟩:=a.fn;exact .mk x b c e ⟨a.1,a.2.1⟩ (fun d=>⟨(a.2.2 d).1,(a.2.2 d).2.1,(a.2.2 d).2.2.1⟩) f i
structure kM where
 b:Int
 g:Int
 a:ByteArray
 d:Int
instance:Rp kM:=⟨4,40,fun _ _ cs x=>cs=[Vi x.b,Vi x.g,Vt x.a,Vi x.d],fun h=>by rw [h];rfl,fun h=>by rw [h];rfl,fun h _=>h⟩
structure gP where
 l:(List kM)
 a:Int
 c:Int
 e:Int
instance:Rp gP:=⟨4,48,fun F w cs x=>∃ (a1:OA)(c1:Nat),cs=[.slice a1 x.l.length c1,Vi x.a,Vi x.c,Vi x.e]/\kr F w a1 c1 x.l,fun h=>by obtain ⟨a1,c1,rfl,_⟩:=h;rfl,fun h=>by obtain ⟨a1,c1,rfl,_⟩:=h;rfl,fun h m=>by obtain ⟨a1,c1,h,k1⟩:=h;exact ⟨a1,c1,h,k1.mv m⟩⟩
theorem gP.out {F:Nat->Prop}{w:World}{cs:List Value}{x:gP}(h:Rp.rep F w cs x):∃ (a:OA)(b:Nat),cs=[.slice a x.l.length b,Vi x.a,Vi x.c,Vi x.e]/\kr F w a b x.l:=h
theorem gP.inn {F:Nat->Prop}{w:World}{cs:List Value}{x:gP}(h:∃ (a:OA) (b:Nat),cs=[.slice a x.l.length b,Vi x.a,Vi x.c,Vi x.e]/\kr F w a b x.l):Rp.rep F w cs x:=h
structure jA where
 b:Int
 g:Int
 n:Int
 c:ByteArray
 j:ByteArray
 m:Int
 f:Int
 e:(List jB)
 k:ByteArray
 i:Int
 a:(List jB)
 d:(List jA)
 h:(List jA)
inductive jA.R (F:Nat→Prop)(w:World):List Value→jA→Prop
 | mk (x:jA) (a1:OA) (c1:Nat) (a2:OA) (c2:Nat) (a3:OA) (c3:Nat) (a4:OA) (c4:Nat) (k1:kr F w a1 c1 x.e) (k2:kr F w a2 c2 x.a) (C3:Nat->List Value) (h3:x.d.length<=c3/\c3<=maxLen) (k3:0 < x.d.length->a3=some ⟨mX a3,nW a3,none⟩/\F (mX a3)/\mX a3 < w.heap.size) (e3:∀ i y,x.d[i]?=some y->Cells w (mX a3) (nW a3+i * 13) (C3 i)) (r3:∀ i y,x.d[i]?=some y->jA.R F w (C3 i) y) (C4:Nat->List Value) (h4:x.h.length<=c4/\c4<=maxLen) (k4:0 < x.h.length->a4=some ⟨mX a4,nW a4,none⟩/\F (mX a4)/\mX a4 < w.heap.size) (e4:∀ i y,x.h[i]?=some y->Cells w (mX a4) (nW a4+i * 13) (C4 i)) (r4:∀ i y,x.h[i]?=some y->jA.R F w (C4 i) y):jA.R F w [Vi x.b,Vi x.g,Vi x.n,Vt x.c,Vt x.j,Vi x.m,Vi x.f,.slice a1 x.e.length c1,Vt x.k,Vi x.i,.slice a2 x.a.length c2,.slice a3 x.d.length c3,.slice a4 x.h.length c4] x
instance:Rp jA where
 sz:=13
 bs:=192
 rep:=jA.R
 len h:=by cases h;rfl
 one h:=by cases h;rfl
 mv {F G w w' cs x} h m:=by
  induction h with
  | mk x a1 c1 a2 c2 a3 c3 a4 c4 k1 k2 C3 h3 k3 e3 r3 C4 h4 k4 e4 r4 ih3 ih4=>exact .mk x a1 c1 a2 c2 a3 c3 a4 c4 (k1.mv m) (k2.mv m) C3 h3 (fun h0=>⟨(k3 h0).1,(m.1 _ (k3 h0).2.1 (k3 h0).2.2).1,Nat.lt_of_lt_of_le (k3 h0).2.2 m.2⟩) (fun i y hy=>(e3 i y hy).same (m.1 _ (k3 (by have:=kN hy;omega)).2.1 (k3 (by have:=kN hy;omega)).2.2).2) ih3 C4 h4 (fun h0=>⟨(k4 h0).1,(m.1 _ (k4 h0).2.1 (k4 h0).2.2).1,Nat.lt_of_lt_of_le (k4 h0).2.2 m.2⟩) (fun i y hy=>(e4 i y hy).same (m.1 _ (k4 (by have:=kN hy;omega)).2.1 (k4 (by have:=kN hy;omega)).2.2).2) ih4
theorem jA.out {F:Nat->Prop}{w:World}{cs:List Value}{x:jA}(h:Rp.rep F w cs x):∃ (b:OA)(c:Nat)(d:OA)(e:Nat)(f:OA)(j:Nat)(k:OA)(l:Nat),cs=[Vi x.b,Vi x.g,Vi x.n,Vt x.c,Vt x.j,Vi x.m,Vi x.f,.slice b x.e.length c,Vt x.k,Vi x.i,.slice d x.a.length e,.slice f x.d.length j,.slice k x.h.length l]/\kr F w b c x.e/\kr F w d e x.a/\kr F w f j x.d/\kr F w k l x.h:=by
 cases h with
 | mk _ b c d e f j k l u v z p m A B C t o D E=>exact ⟨b,c,d,e,f,j,k,l,rfl,u,v,⟨p.1,p.2,fun a=>⟨(m a).1,(m a).2.1,(m a).2.2,fun i G hy=>⟨z i,A i G hy,B i G hy⟩⟩⟩,⟨t.1,t.2,fun a=>⟨(o a).1,(o a).2.1,(o a).2.2,fun i G hy=>⟨C i,D i G hy,E i G hy⟩⟩⟩⟩
theorem jA.inn {F:Nat->Prop}{w:World}{cs:List Value}{x:jA}(h:∃ (d:OA) (e:Nat) (f:OA) (i:Nat) (j:OA) (k:Nat) (l:OA) (m:Nat),cs=[Vi x.b,Vi x.g,Vi x.n,Vt x.c,Vt x.j,Vi x.m,Vi x.f,.slice d x.e.length e,Vt x.k,Vi x.i,.slice f x.a.length i,.slice j x.d.length k,.slice l x.h.length m]/\kr F w d e x.e/\kr F w f i x.a/\kr F w j k x.d/\kr F w l m x.h):Rp.rep F w cs x:=by obtain ⟨d,e,f,i,j,k,l,m,rfl,o,p,b,c⟩:=h;obtain ⟨t,u,v⟩:=b.fn;obtain ⟨z,A,B⟩:=c.fn;exact .mk x d e f i j k l m o p t ⟨b.1,b.2.1⟩ (fun a=>⟨(b.2.2 a).1,(b.2.2 a).2.1,(b.2.2 a).2.2.1⟩) u v z ⟨c.1,c.2.1⟩ (fun a=>⟨(c.2.2 a).1,(c.2.2 a).2.1,(c.2.2 a).2.2.1⟩) A B
structure kg where
 c:ByteArray
 a:(List ByteArray)
instance:Rp kg:=⟨2,40,fun F w cs x=>∃ (a1:OA)(c1:Nat),cs=[Vt x.c,.slice a1 x.a.length c1]/\kr F w a1 c1 x.a,fun h=>by obtain ⟨a1,c1,rfl,_⟩:=h;rfl,fun h=>by obtain ⟨a1,c1,rfl,_⟩:=h;rfl,fun h m=>by obtain ⟨a1,c1,h,k1⟩:=h;exact ⟨a1,c1,h,k1.mv m⟩⟩
theorem kg.out {F:Nat->Prop}{w:World}{cs:List Value}{x:kg}(h:Rp.rep F w cs x):∃ (a:OA)(b:Nat),cs=[Vt x.c,.slice a x.a.length b]/\kr F w a b x.a:=h
theorem kg.inn {F:Nat->Prop}{w:World}{cs:List Value}{x:kg}(h:∃ (a:OA) (b:Nat),cs=[Vt x.c,.slice a x.a.length b]/\kr F w a b x.a):Rp.rep F w cs x:=h
structure kT where
 c:ByteArray
 g:Int
 a:(List ByteArray)
 d:(List jA)
instance:Rp kT:=⟨4,72,fun F w cs x=>∃ (a1:OA)(c1:Nat)(a2:OA)(c2:Nat),cs=[Vt x.c,Vi x.g,.slice a1 x.a.length c1,.slice a2 x.d.length c2]/\kr F w a1 c1 x.a/\kr F w a2 c2 x.d,fun h=>by obtain ⟨a1,c1,a2,c2,rfl,_⟩:=h;rfl,fun h=>by obtain ⟨a1,c1,a2,c2,rfl,_⟩:=h;rfl,fun h m=>by obtain ⟨a1,c1,a2,c2,h,k1,k2⟩:=h;exact ⟨a1,c1,a2,c2,h,k1.mv m,k2.mv m⟩⟩
theorem kT.out {F:Nat->Prop}{w:World}{cs:List Value}{x:kT}(h:Rp.rep F w cs x):∃ (a:OA)(b:Nat)(c:OA)(d:Nat),cs=[Vt x.c,Vi x.g,.slice a x.a.length b,.slice c x.d.length d]/\kr F w a b x.a/\kr F w c d x.d:=h
theorem kT.inn {F:Nat->Prop}{w:World}{cs:List Value}{x:kT}(h:∃ (a:OA) (b:Nat) (c:OA) (d:Nat),cs=[Vt x.c,Vi x.g,.slice a x.a.length b,.slice c x.d.length d]/\kr F w a b x.a/\kr F w c d x.d):Rp.rep F w cs x:=h
structure jT where
 a:(List kg)
 b:(List kT)
instance:Rp jT:=⟨2,48,fun F w cs x=>∃ (a1:OA)(c1:Nat)(a2:OA)(c2:Nat),cs=[.slice a1 x.a.length c1,.slice a2 x.b.length c2]/\kr F w a1 c1 x.a/\kr F w a2 c2 x.b,fun h=>by obtain ⟨a1,c1,a2,c2,rfl,_⟩:=h;rfl,fun h=>by obtain ⟨a1,c1,a2,c2,rfl,_⟩:=h;rfl,fun h m=>by obtain ⟨a1,c1,a2,c2,h,k1,k2⟩:=h;exact ⟨a1,c1,a2,c2,h,k1.mv m,k2.mv m⟩⟩
theorem jT.out {F:Nat->Prop}{w:World}{cs:List Value}{x:jT}(h:Rp.rep F w cs x):∃ (a:OA)(b:Nat)(c:OA)(d:Nat),cs=[.slice a x.a.length b,.slice c x.b.length d]/\kr F w a b x.a/\kr F w c d x.b:=h
theorem jT.inn {F:Nat->Prop}{w:World}{cs:List Value}{x:jT}(h:∃ (a:OA) (b:Nat) (c:OA) (d:Nat),cs=[.slice a x.a.length b,.slice c x.b.length d]/\kr F w a b x.a/\kr F w c d x.b):Rp.rep F w cs x:=h
structure lM where
 f:Int
 e:Int
 b:(List Int)
 a:(List ByteArray)
 d:(List ByteArray)
 c:(List ByteArray)
 g:Int
 h:Int
structure iA where
 c:ByteArray
 b:Int
 e:Int
 a:Int
 g:Bool
 f:Int
 d:Int
instance:Rp iA:=⟨7,64,fun _ _ cs x=>cs=[Vt x.c,Vi x.b,Vi x.e,Vi x.a,.bool x.g,Vi x.f,Vi x.d],fun h=>by rw [h];rfl,fun h=>by rw [h];rfl,fun h _=>h⟩
structure jU where
 k:Int
 b:Int
 g:Int
instance:Rp jU:=⟨3,24,fun _ _ cs x=>cs=[Vi x.k,Vi x.b,Vi x.g],fun h=>by rw [h];rfl,fun h=>by rw [h];rfl,fun h _=>h⟩
structure jY where
 a:jT
 c:(List (List iA))
 b:(List jU)
instance:Rp jY:=⟨4,96,fun F w cs x=>∃ (a1:OA)(c1:Nat)(a2:OA)(c2:Nat)(a3:OA)(c3:Nat)(a4:OA)(c4:Nat),cs=[.slice a1 x.a.a.length c1,.slice a2 x.a.b.length c2,.slice a3 x.c.length c3,.slice a4 x.b.length c4]/\kr F w a1 c1 x.a.a/\kr F w a2 c2 x.a.b/\kr F w a3 c3 x.c/\kr F w a4 c4 x.b,fun h=>by obtain ⟨a1,c1,a2,c2,a3,c3,a4,c4,rfl,_⟩:=h;rfl,fun h=>by obtain ⟨a1,c1,a2,c2,a3,c3,a4,c4,rfl,_⟩:=h;rfl,fun h m=>by obtain ⟨a1,c1,a2,c2,a3,c3,a4,c4,h,k1,k2,k3,k4⟩:=h;exact ⟨a1,c1,a2,c2,a3,c3,a4,c4,h,k1.mv m,k2.mv m,k3.mv m,k4.mv m⟩⟩
theorem jY.out {F:Nat->Prop}{w:World}{cs:List Value}{x:jY}(h:Rp.rep F w cs x):∃ (a:OA)(b:Nat)(c:OA)(d:Nat)(e:OA)(f:Nat)(i:OA)(j:Nat),cs=[.slice a x.a.a.length b,.slice c x.a.b.length d,.slice e x.c.length f,.slice i x.b.length j]/\kr F w a b x.a.a/\kr F w c d x.a.b/\kr F w e f x.c/\kr F w i j x.b:=h
theorem jY.inn {F:Nat->Prop}{w:World}{cs:List Value}{x:jY}(h:∃ (a:OA) (b:Nat) (c:OA) (d:Nat) (e:OA) (f:Nat) (i:OA) (j:Nat),cs=[.slice a x.a.a.length b,.slice c x.a.b.length d,.slice e x.c.length f,.slice i x.b.length j]/\kr F w a b x.a.a/\kr F w c d x.a.b/\kr F w e f x.c/\kr F w i j x.b):Rp.rep F w cs x:=h
structure fV where
 a:jY
 f:Int
 b:(List Int)
 c:Int
 e:Int
instance:Rp fV:=⟨8,144,fun F w cs x=>∃ (a1:OA)(c1:Nat)(a2:OA)(c2:Nat)(a3:OA)(c3:Nat)(a4:OA)(c4:Nat)(a5:OA)(c5:Nat),cs=[.slice a1 x.a.a.a.length c1,.slice a2 x.a.a.b.length c2,.slice a3 x.a.c.length c3,.slice a4 x.a.b.length c4,Vi x.f,.slice a5 x.b.length c5,Vi x.c,Vi x.e]/\kr F w a1 c1 x.a.a.a/\kr F w a2 c2 x.a.a.b/\kr F w a3 c3 x.a.c/\kr F w a4 c4 x.a.b/\kr F w a5 c5 x.b,fun h=>by obtain ⟨a1,c1,a2,c2,a3,c3,a4,c4,a5,c5,rfl,_⟩:=h;rfl,fun h=>by obtain ⟨a1,c1,a2,c2,a3,c3,a4,c4,a5,c5,rfl,_⟩:=h;rfl,fun h m=>by obtain ⟨a1,c1,a2,c2,a3,c3,a4,c4,a5,c5,h,k1,k2,k3,k4,k5⟩:=h;exact ⟨a1,c1,a2,c2,a3,c3,a4,c4,a5,c5,h,k1.mv m,k2.mv m,k3.mv m,k4.mv m,k5.mv m⟩⟩
theorem fV.out {F:Nat->Prop}{w:World}{cs:List Value}{x:fV}(h:Rp.rep F w cs x):∃ (a:OA)(b:Nat)(c:OA)(d:Nat)(i:OA)(j:Nat)(k:OA)(l:Nat)(m:OA)(o:Nat),cs=[.slice a x.a.a.a.length b,.slice c x.a.a.b.length d,.slice i x.a.c.length j,.slice k x.a.b.length l,Vi x.f,.slice m x.b.length o,Vi x.c,Vi x.e]/\kr F w a b x.a.a.a/\kr F w c d x.a.a.b/\kr F w i j x.a.c/\kr F w k l x.a.b/\kr F w m o x.b:=h
theorem fV.inn {F:Nat->Prop}{w:World}{cs:List Value}{x:fV}(h:∃ (a:OA) (b:Nat) (c:OA) (d:Nat) (i:OA) (j:Nat) (k:OA) (l:Nat) (m:OA) (o:Nat),cs=[.slice a x.a.a.a.length b,.slice c x.a.a.b.length d,.slice i x.a.c.length j,.slice k x.a.b.length l,Vi x.f,.slice m x.b.length o,Vi x.c,Vi x.e]/\kr F w a b x.a.a.a/\kr F w c d x.a.a.b/\kr F w i j x.a.c/\kr F w k l x.a.b/\kr F w m o x.b):Rp.rep F w cs x:=h
structure abk where
 b:Int
 a:Int
 c:Int
instance:Rp abk:=⟨3,24,fun _ _ cs x=>cs=[Vi x.b,Vi x.a,Vi x.c],fun h=>by rw [h];rfl,fun h=>by rw [h];rfl,fun h _=>h⟩
structure pR where
 b:Int
 e:Int
 A:Int
 B:Int
 N:Int
 d:Int
 f:Int
 c:Int
 a:abk
instance:Rp pR:=⟨11,88,fun _ _ cs x=>cs=[Vi x.b,Vi x.e,Vi x.A,Vi x.B,Vi x.N,Vi x.d,Vi x.f,Vi x.c,Vi x.a.b,Vi x.a.a,Vi x.a.c],fun h=>by rw [h];rfl,fun h=>by rw [h];rfl,fun h _=>h⟩
structure uD where
 b:Int
 a:(List Int)
instance:Rp uD:=⟨2,32,fun F w cs x=>∃ (a1:OA)(c1:Nat),cs=[Vi x.b,.slice a1 x.a.length c1]/\kr F w a1 c1 x.a,fun h=>by obtain ⟨a1,c1,rfl,_⟩:=h;rfl,fun h=>by obtain ⟨a1,c1,rfl,_⟩:=h;rfl,fun h m=>by obtain ⟨a1,c1,h,k1⟩:=h;exact ⟨a1,c1,h,k1.mv m⟩⟩
theorem uD.out {F:Nat->Prop}{w:World}{cs:List Value}{x:uD}(h:Rp.rep F w cs x):∃ (a:OA)(b:Nat),cs=[Vi x.b,.slice a x.a.length b]/\kr F w a b x.a:=h
theorem uD.inn {F:Nat->Prop}{w:World}{cs:List Value}{x:uD}(h:∃ (a:OA) (b:Nat),cs=[Vi x.b,.slice a x.a.length b]/\kr F w a b x.a):Rp.rep F w cs x:=h
structure IW where
 a:uD
 b:uD
instance:Rp IW:=⟨4,64,fun F w cs x=>∃ (a1:OA)(c1:Nat)(a2:OA)(c2:Nat),cs=[Vi x.a.b,.slice a1 x.a.a.length c1,Vi x.b.b,.slice a2 x.b.a.length c2]/\kr F w a1 c1 x.a.a/\kr F w a2 c2 x.b.a,fun h=>by obtain ⟨a1,c1,a2,c2,rfl,_⟩:=h;rfl,fun h=>by obtain ⟨a1,c1,a2,c2,rfl,_⟩:=h;rfl,fun h m=>by obtain ⟨a1,c1,a2,c2,h,k1,k2⟩:=h;exact ⟨a1,c1,a2,c2,h,k1.mv m,k2.mv m⟩⟩
theorem IW.out {F:Nat->Prop}{w:World}{cs:List Value}{x:IW}(h:Rp.rep F w cs x):∃ (a:OA)(b:Nat)(c:OA)(d:Nat),cs=[Vi x.a.b,.slice a x.a.a.length b,Vi x.b.b,.slice c x.b.a.length d]/\kr F w a b x.a.a/\kr F w c d x.b.a:=h
theorem IW.inn {F:Nat->Prop}{w:World}{cs:List Value}{x:IW}(h:∃ (a:OA) (b:Nat) (c:OA) (d:Nat),cs=[Vi x.a.b,.slice a x.a.a.length b,Vi x.b.b,.slice c x.b.a.length d]/\kr F w a b x.a.a/\kr F w c d x.b.a):Rp.rep F w cs x:=h
structure zl where
 b:Int
 A:Int
 N:Int
 a:(List Int)
 d:IW
instance:Rp zl:=⟨8,112,fun F w cs x=>∃ (a1:OA)(c1:Nat)(a2:OA)(c2:Nat)(a3:OA)(c3:Nat),cs=[Vi x.b,Vi x.A,Vi x.N,.slice a1 x.a.length c1,Vi x.d.a.b,.slice a2 x.d.a.a.length c2,Vi x.d.b.b,.slice a3 x.d.b.a.length c3]/\kr F w a1 c1 x.a/\kr F w a2 c2 x.d.a.a/\kr F w a3 c3 x.d.b.a,fun h=>by obtain ⟨a1,c1,a2,c2,a3,c3,rfl,_⟩:=h;rfl,fun h=>by obtain ⟨a1,c1,a2,c2,a3,c3,rfl,_⟩:=h;rfl,fun h m=>by obtain ⟨a1,c1,a2,c2,a3,c3,h,k1,k2,k3⟩:=h;exact ⟨a1,c1,a2,c2,a3,c3,h,k1.mv m,k2.mv m,k3.mv m⟩⟩
theorem zl.out {F:Nat->Prop}{w:World}{cs:List Value}{x:zl}(h:Rp.rep F w cs x):∃ (a:OA)(b:Nat)(c:OA)(d:Nat)(e:OA)(f:Nat),cs=[Vi x.b,Vi x.A,Vi x.N,.slice a x.a.length b,Vi x.d.a.b,.slice c x.d.a.a.length d,Vi x.d.b.b,.slice e x.d.b.a.length f]/\kr F w a b x.a/\kr F w c d x.d.a.a/\kr F w e f x.d.b.a:=h
theorem zl.inn {F:Nat->Prop}{w:World}{cs:List Value}{x:zl}(h:∃ (a:OA) (b:Nat) (c:OA) (d:Nat) (e:OA) (f:Nat),cs=[Vi x.b,Vi x.A,Vi x.N,.slice a x.a.length b,Vi x.d.a.b,.slice c x.d.a.a.length d,Vi x.d.b.b,.slice e x.d.b.a.length f]/\kr F w a b x.a/\kr F w c d x.d.a.a/\kr F w e f x.d.b.a):Rp.rep F w cs x:=h
structure nk where
 a:Int
 c:(List pR)
 b:zl
instance:Rp nk:=⟨10,144,fun F w cs x=>∃ (a1:OA)(c1:Nat)(a2:OA)(c2:Nat)(a3:OA)(c3:Nat)(a4:OA)(c4:Nat),cs=[Vi x.a,.slice a1 x.c.length c1,Vi x.b.b,Vi x.b.A,Vi x.b.N,.slice a2 x.b.a.length c2,Vi x.b.d.a.b,.slice a3 x.b.d.a.a.length c3,Vi x.b.d.b.b,.slice a4 x.b.d.b.a.length c4]/\kr F w a1 c1 x.c/\kr F w a2 c2 x.b.a/\kr F w a3 c3 x.b.d.a.a/\kr F w a4 c4 x.b.d.b.a,fun h=>by obtain ⟨a1,c1,a2,c2,a3,c3,a4,c4,rfl,_⟩:=h;rfl,fun h=>by obtain ⟨a1,c1,a2,c2,a3,c3,a4,c4,rfl,_⟩:=h;rfl,fun h m=>by obtain ⟨a1,c1,a2,c2,a3,c3,a4,c4,h,k1,k2,k3,k4⟩:=h;exact ⟨a1,c1,a2,c2,a3,c3,a4,c4,h,k1.mv m,k2.mv m,k3.mv m,k4.mv m⟩⟩
theorem nk.out {F:Nat->Prop}{w:World}{cs:List Value}{x:nk}(h:Rp.rep F w cs x):∃ (a:OA)(b:Nat)(c:OA)(d:Nat)(e:OA)(f:Nat)(i:OA)(j:Nat),cs=[Vi x.a,.slice a x.c.length b,Vi x.b.b,Vi x.b.A,Vi x.b.N,.slice c x.b.a.length d,Vi x.b.d.a.b,.slice e x.b.d.a.a.length f,Vi x.b.d.b.b,.slice i x.b.d.b.a.length j]/\kr F w a b x.c/\kr F w c d x.b.a/\kr F w e f x.b.d.a.a/\kr F w i j x.b.d.b.a:=h
theorem nk.inn {F:Nat->Prop}{w:World}{cs:List Value}{x:nk}(h:∃ (a:OA) (b:Nat) (c:OA) (d:Nat) (e:OA) (f:Nat) (i:OA) (j:Nat),cs=[Vi x.a,.slice a x.c.length b,Vi x.b.b,Vi x.b.A,Vi x.b.N,.slice c x.b.a.length d,Vi x.b.d.a.b,.slice e x.b.d.a.a.length f,Vi x.b.d.b.b,.slice i x.b.d.b.a.length j]/\kr F w a b x.c/\kr F w c d x.b.a/\kr F w e f x.b.d.a.a/\kr F w i j x.b.d.b.a):Rp.rep F w cs x:=h
structure BR where
 a:Int
 b:Int
 k:Int
instance:Rp BR:=⟨3,24,fun _ _ cs x=>cs=[Vi x.a,Vi x.b,Vi x.k],fun h=>by rw [h];rfl,fun h=>by rw [h];rfl,fun h _=>h⟩
structure Cr where
 d:Int
 f:Int
 a:Int
instance:Rp Cr:=⟨3,24,fun _ _ cs x=>cs=[Vi x.d,Vi x.f,Vi x.a],fun h=>by rw [h];rfl,fun h=>by rw [h];rfl,fun h _=>h⟩
structure qF where
 a:Int
 b:(List nk)
 c:(List BR)
 d:(List Cr)
instance:Rp qF:=⟨4,80,fun F w cs x=>∃ (a1:OA)(c1:Nat)(a2:OA)(c2:Nat)(a3:OA)(c3:Nat),cs=[Vi x.a,.slice a1 x.b.length c1,.slice a2 x.c.length c2,.slice a3 x.d.length c3]/\kr F w a1 c1 x.b/\kr F w a2 c2 x.c/\kr F w a3 c3 x.d,fun h=>by obtain ⟨a1,c1,a2,c2,a3,c3,rfl,_⟩:=h;rfl,fun h=>by obtain ⟨a1,c1,a2,c2,a3,c3,rfl,_⟩:=h;rfl,fun h m=>by obtain ⟨a1,c1,a2,c2,a3,c3,h,k1,k2,k3⟩:=h;exact ⟨a1,c1,a2,c2,a3,c3,h,k1.mv m,k2.mv m,k3.mv m⟩⟩
theorem qF.out {F:Nat->Prop}{w:World}{cs:List Value}{x:qF}(h:Rp.rep F w cs x):∃ (a:OA)(b:Nat)(c:OA)(d:Nat)(e:OA)(f:Nat),cs=[Vi x.a,.slice a x.b.length b,.slice c x.c.length d,.slice e x.d.length f]/\kr F w a b x.b/\kr F w c d x.c/\kr F w e f x.d:=h
theorem qF.inn {F:Nat->Prop}{w:World}{cs:List Value}{x:qF}(h:∃ (a:OA) (b:Nat) (c:OA) (d:Nat) (e:OA) (f:Nat),cs=[Vi x.a,.slice a x.b.length b,.slice c x.c.length d,.slice e x.d.length f]/\kr F w a b x.b/\kr F w c d x.c/\kr F w e f x.d):Rp.rep F w cs x:=h
structure DF where
 b:(List qF)
instance:Rp DF:=⟨1,24,fun F w cs x=>∃ (a1:OA)(c1:Nat),cs=[.slice a1 x.b.length c1]/\kr F w a1 c1 x.b,fun h=>by obtain ⟨a1,c1,rfl,_⟩:=h;rfl,fun h=>by obtain ⟨a1,c1,rfl,_⟩:=h;rfl,fun h m=>by obtain ⟨a1,c1,h,k1⟩:=h;exact ⟨a1,c1,h,k1.mv m⟩⟩
theorem DF.out {F:Nat->Prop}{w:World}{cs:List Value}{x:DF}(h:Rp.rep F w cs x):∃ (a:OA)(b:Nat),cs=[.slice a x.b.length b]/\kr F w a b x.b:=h
theorem DF.inn {F:Nat->Prop}{w:World}{cs:List Value}{x:DF}(h:∃ (a:OA) (b:Nat),cs=[.slice a x.b.length b]/\kr F w a b x.b):Rp.rep F w cs x:=h
section
variable {ρ:Operand->Value}{w:World}{d:Option Nat}{ty:TypeId}{pos:String}{af:Array Edge}{g:Option (Nat × Bool)}
theorem Uf {a b c e f h i j k l m n o p q r s t u v x y z A B C D E F G H I}(J:ρ s=Vi a)(K:ρ t=Vi b)(L:ρ u=Vi c)(M:ρ v=Vi e)(N:ρ x=Vi f)(O:ρ y=Vi h)(P:ρ z=Vi i)(Q:ρ A=Vi j)(R:ρ B=Vi k)(S:ρ C=Vi l)(T:ρ D=Vi m)(U:ρ E=Vi n)(V:ρ F=Vi o)(W:ρ G=Vi p)(X:ρ H=Vi q)(Y:ρ I=Vi r):(execOp ρ ⟨d,.buildSlice 22 16 #[(0,s),(1,t),(2,u),(3,v),(4,x),(5,y),(6,z),(7,A),(8,B),(9,C),(10,D),(11,E),(12,F),(13,G),(14,H),(15,I)],ty,pos,af,g⟩).run prog w=.ok (.value (.slice (some ⟨w.heap.size,0,none⟩) 16 16)) (w.alloc (.cells #[Vi a,Vi b,Vi c,Vi e,Vi f,Vi h,Vi i,Vi j,Vi k,Vi l,Vi m,Vi n,Vi o,Vi p,Vi q,Vi r] 3)):=by simp [execOp,J,K,L,M,N,O,P,Q,R,S,T,U,V,W,X,Y];kernel_rfl
theorem IJ {a b c e f h i j k l m n o p q r s t u v x y z A}(B:ρ o=Vt a)(C:ρ p=Vt b)(D:ρ q=Vt c)(E:ρ r=Vt e)(F:ρ s=Vt f)(G:ρ t=Vt h)(H:ρ u=Vt i)(I:ρ v=Vt j)(J:ρ x=Vt k)(K:ρ y=Vt l)(L:ρ z=Vt m)(M:ρ A=Vt n):(execOp ρ ⟨d,.buildSlice 58 12 #[(0,o),(1,p),(2,q),(3,r),(4,s),(5,t),(6,u),(7,v),(8,x),(9,y),(10,z),(11,A)],ty,pos,af,g⟩).run prog w=.ok (.value (.slice (some ⟨w.heap.size,0,none⟩) 12 12)) (w.alloc (.cells #[Vt a,Vt b,Vt c,Vt e,Vt f,Vt h,Vt i,Vt j,Vt k,Vt l,Vt m,Vt n] 9)):=by simp [execOp,B,C,D,E,F,G,H,I,J,K,L,M];kernel_rfl
theorem UY {a b c e f h}(i:ρ e=Vt a)(j:ρ f=Vt b)(k:ρ h=Vt c):(execOp ρ ⟨d,.buildSlice 58 3 #[(0,e),(1,f),(2,h)],ty,pos,af,g⟩).run prog w=.ok (.value (.slice (some ⟨w.heap.size,0,none⟩) 3 3)) (w.alloc (.cells #[Vt a,Vt b,Vt c] 9)):=by simp [execOp,i,j,k];kernel_rfl
theorem RI {a b c e f h i j k l m n o p q r s t u v x y z A B C D E F G H I J K L M N O P Q R S}(T:ρ y=.int .u8 a)(U:ρ z=.int .u8 b)(V:ρ A=.int .u8 c)(W:ρ B=.int .u8 e)(X:ρ C=.int .u8 f)(Y:ρ D=.int .u8 h)(Z:ρ E=.int .u8 i)(Aa:ρ F=.int .u8 j)(Ab:ρ G=.int .u8 k)(Ac:ρ H=.int .u8 l)(Ad:ρ I=.int .u8 m)(Ae:ρ J=.int .u8 n)(Af:ρ K=.int .u8 o)(Ag:ρ L=.int .u8 p)(Ah:ρ M=.int .u8 q)(Ai:ρ N=.int .u8 r)(Aj:ρ O=.int .u8 s)(Ak:ρ P=.int .u8 t)(Al:ρ Q=.int .u8 u)(Am:ρ R=.int .u8 v)(An:ρ S=.int .u8 x):(execOp ρ ⟨d,.buildSlice 208 21 #[(0,y),(1,z),(2,A),(3,B),(4,C),(5,D),(6,E),(7,F),(8,G),(9,H),(10,I),(11,J),(12,K),(13,L),(14,M),(15,N),(16,O),(17,P),(18,Q),(19,R),(20,S)],ty,pos,af,g⟩).run prog w=.ok (.value (.slice (some ⟨w.heap.size,0,none⟩) 21 21)) (w.alloc (.cells #[.int .u8 a,.int .u8 b,.int .u8 c,.int .u8 e,.int .u8 f,.int .u8 h,.int .u8 i,.int .u8 j,.int .u8 k,.int .u8 l,.int .u8 m,.int .u8 n,.int .u8 o,.int .u8 p,.int .u8 q,.int .u8 r,.int .u8 s,.int .u8 t,.int .u8 u,.int .u8 v,.int .u8 x] 5)):=by simp [execOp,T,U,V,W,X,Y,Z,Aa,Ab,Ac,Ad,Ae,Af,Ag,Ah,Ai,Aj,Ak,Al,Am,An];kernel_rfl
theorem IV {a b c e}(f:ρ c=Vi a)(h:ρ e=Vt b):Yl prog ρ (.build 166 #[(0,c),(3,e)]) d ty pos af g w (.agg #[Vi a,Vi 0,Vi 0,Vt b,Vt be,sn]):=by simp [Yl,execOp,f,h];kernel_rfl
theorem MZ {a b c e}(f:ρ c=Vi a)(h:ρ e=Vi b):Yl prog ρ (.build 166 #[(0,c),(1,e)]) d ty pos af g w (.agg #[Vi a,Vi b,Vi 0,Vt be,Vt be,sn]):=by simp [Yl,execOp,f,h];kernel_rfl
theorem NV :Yl prog ρ (.build 137 #[]) d ty pos af g w (.agg #[Vi 0,Vi 0,Vt be,Vi 0]):=by simp [Yl,execOp];kernel_rfl
theorem Ep {a b c e f h}(i:ρ e=Vi a)(j:ρ f=Vi b)(k:ρ h=Vt c):Yl prog ρ (.build 137 #[(0,e),(1,f),(2,h)]) d ty pos af g w (.agg #[Vi a,Vi b,Vt c,Vi 0]):=by simp [Yl,execOp,i,j,k];kernel_rfl
theorem OP {a b c e f h}(i:ρ e=Vi a)(j:ρ f=Vi b)(k:ρ h=Vi c):Yl prog ρ (.build 137 #[(0,e),(1,f),(3,h)]) d ty pos af g w (.agg #[Vi a,Vi b,Vt be,Vi c]):=by simp [Yl,execOp,i,j,k];kernel_rfl
theorem Pn {a b c e f}(h:ρ f=.agg #[Vi a,Vi b,Vt c,Vi e]):(execOp ρ ⟨d,.buildSlice 94 1 #[(0,f)],ty,pos,af,g⟩).run prog w=.ok (.value (.slice (some ⟨w.heap.size,0,none⟩) 1 1)) (w.alloc (.cells #[Vi a,Vi b,Vt c,Vi e] 137)):=by simp [execOp,h];kernel_rfl
theorem TS {a b c e}(f:ρ c=Vi a)(h:ρ e=Vi b):Yl prog ρ (.build 137 #[(0,c),(1,e)]) d ty pos af g w (.agg #[Vi a,Vi b,Vt be,Vi 0]):=by simp [Yl,execOp,f,h];kernel_rfl
theorem Uj {a b}(c:ρ b=.int .u8 a):(execOp ρ ⟨d,.buildSlice 208 1 #[(0,b)],ty,pos,af,g⟩).run prog w=.ok (.value (.slice (some ⟨w.heap.size,0,none⟩) 1 1)) (w.alloc (.cells #[.int .u8 a] 5)):=by simp [execOp,c];kernel_rfl
theorem BG {a b}(c:ρ b=Vt a):(execOp ρ ⟨d,.buildSlice 58 1 #[(0,b)],ty,pos,af,g⟩).run prog w=.ok (.value (.slice (some ⟨w.heap.size,0,none⟩) 1 1)) (w.alloc (.cells #[Vt a] 9)):=by simp [execOp,c];kernel_rfl
theorem Ug {a b c e f h i j k l m n o p q r s t u v x y z A}(B:ρ o=Vi a)(C:ρ p=Vi b)(D:ρ q=Vi c)(E:ρ r=Vi e)(F:ρ s=Vi f)(G:ρ t=Vi h)(H:ρ u=Vi i)(I:ρ v=Vi j)(J:ρ x=Vi k)(K:ρ y=Vi l)(L:ρ z=Vi m)(M:ρ A=Vi n):(execOp ρ ⟨d,.buildSlice 22 12 #[(0,o),(1,p),(2,q),(3,r),(4,s),(5,t),(6,u),(7,v),(8,x),(9,y),(10,z),(11,A)],ty,pos,af,g⟩).run prog w=.ok (.value (.slice (some ⟨w.heap.size,0,none⟩) 12 12)) (w.alloc (.cells #[Vi a,Vi b,Vi c,Vi e,Vi f,Vi h,Vi i,Vi j,Vi k,Vi l,Vi m,Vi n] 3)):=by simp [execOp,B,C,D,E,F,G,H,I,J,K,L,M];kernel_rfl
theorem WR {a b c e f h i j k l m n o p}(q:ρ j=Vt a)(r:ρ k=Vt b)(s:ρ l=Vt c)(t:ρ m=Vt e)(u:ρ n=Vt f)(v:ρ o=Vt h)(x:ρ p=Vt i):(execOp ρ ⟨d,.buildSlice 58 7 #[(0,j),(1,k),(2,l),(3,m),(4,n),(5,o),(6,p)],ty,pos,af,g⟩).run prog w=.ok (.value (.slice (some ⟨w.heap.size,0,none⟩) 7 7)) (w.alloc (.cells #[Vt a,Vt b,Vt c,Vt e,Vt f,Vt h,Vt i] 9)):=by simp [execOp,q,r,s,t,u,v,x];kernel_rfl
theorem xK {a b c e f h i j k l m n o p q r s t}(u:ρ s=.agg #[Vi a,Vi b,Vi c,Vt e,Vt f,.slice h i j])(v:ρ t=.agg #[Vi k,Vi l,Vi m,Vt n,Vt o,.slice p q r]):(execOp ρ ⟨d,.buildSlice 113 2 #[(0,s),(1,t)],ty,pos,af,g⟩).run prog w=.ok (.value (.slice (some ⟨w.heap.size,0,none⟩) 2 2)) (w.alloc (.cells #[Vi a,Vi b,Vi c,Vt e,Vt f,.slice h i j,Vi k,Vi l,Vi m,Vt n,Vt o,.slice p q r] 166)):=by simp [execOp,u,v];kernel_rfl
theorem uN {a b c e f h}(i:ρ f=Vi a)(j:ρ h=.slice b c e):Yl prog ρ (.build 166 #[(0,f),(5,h)]) d ty pos af g w (.agg #[Vi a,Vi 0,Vi 0,Vt be,Vt be,.slice b c e]):=by simp [Yl,execOp,i,j];kernel_rfl
theorem Rf :Yl prog ρ (.build 166 #[]) d ty pos af g w (.agg #[Vi 0,Vi 0,Vi 0,Vt be,Vt be,sn]):=by simp [Yl,execOp];kernel_rfl
theorem wT {a b c e}(f:ρ c=Vt a)(h:ρ e=Vt b):(execOp ρ ⟨d,.buildSlice 58 2 #[(0,c),(1,e)],ty,pos,af,g⟩).run prog w=.ok (.value (.slice (some ⟨w.heap.size,0,none⟩) 2 2)) (w.alloc (.cells #[Vt a,Vt b] 9)):=by simp [execOp,f,h];kernel_rfl
theorem kU {a b c e f h i j k}(l:ρ k=.agg #[Vi a,Vi b,Vi c,Vt e,Vt f,.slice h i j]):(execOp ρ ⟨d,.buildSlice 113 1 #[(0,k)],ty,pos,af,g⟩).run prog w=.ok (.value (.slice (some ⟨w.heap.size,0,none⟩) 1 1)) (w.alloc (.cells #[Vi a,Vi b,Vi c,Vt e,Vt f,.slice h i j] 166)):=by simp [execOp,l];kernel_rfl
theorem uZ {a b c e f h}(i:ρ e=Vi a)(j:ρ f=Vt b)(k:ρ h=Vt c):Yl prog ρ (.build 166 #[(0,e),(3,f),(4,h)]) d ty pos af g w (.agg #[Vi a,Vi 0,Vi 0,Vt b,Vt c,sn]):=by simp [Yl,execOp,i,j,k];kernel_rfl
theorem El {a b c e f h i j}(k:ρ h=Vi a)(l:ρ i=Vt b)(m:ρ j=.slice c e f):Yl prog ρ (.build 166 #[(0,h),(3,i),(5,j)]) d ty pos af g w (.agg #[Vi a,Vi 0,Vi 0,Vt b,Vt be,.slice c e f]):=by simp [Yl,execOp,k,l,m];kernel_rfl
theorem rY {a b c e f h i j k l m n o p q r s t u v x y}(z:ρ y=.agg #[Vi a,Vi b,Vi c,Vt e,Vt f,Vi h,Vi i,.slice j k l,Vt m,Vi n,.slice o p q,.slice r s t,.slice u v x]):(execOp ρ ⟨d,.buildSlice 59 1 #[(0,y)],ty,pos,af,g⟩).run prog w=.ok (.value (.slice (some ⟨w.heap.size,0,none⟩) 1 1)) (w.alloc (.cells #[Vi a,Vi b,Vi c,Vt e,Vt f,Vi h,Vi i,.slice j k l,Vt m,Vi n,.slice o p q,.slice r s t,.slice u v x] 115)):=by simp [execOp,z];kernel_rfl
theorem YH {a b}(c:ρ b=Vi a):Yl prog ρ (.build 115 #[(1,b)]) d ty pos af g w (.agg #[Vi 0,Vi a,Vi 0,Vt be,Vt be,Vi 0,Vi 0,sn,Vt be,Vi 0,sn,sn,sn]):=by simp [Yl,execOp,c];kernel_rfl
theorem Yi {a b}(c:ρ b=Vt a):Yl prog ρ (.build 143 #[(0,b)]) d ty pos af g w (.agg #[Vt a,sn]):=by simp [Yl,execOp,c];kernel_rfl
theorem PN {a b c e f}(h:ρ f=.agg #[Vt a,.slice b c e]):(execOp ρ ⟨d,.buildSlice 23 1 #[(0,f)],ty,pos,af,g⟩).run prog w=.ok (.value (.slice (some ⟨w.heap.size,0,none⟩) 1 1)) (w.alloc (.cells #[Vt a,.slice b c e] 143)):=by simp [execOp,h];kernel_rfl
theorem aaQ {a b}(c:ρ b=Vi a):Yl prog ρ (.build 61 #[(1,b)]) d ty pos af g w (.agg #[Vt be,Vi a,sn,sn]):=by simp [Yl,execOp,c];kernel_rfl
theorem Uu {a b c e}(f:ρ c=Vi a)(h:ρ e=Vi b):Yl prog ρ (.build 115 #[(0,c),(1,e)]) d ty pos af g w (.agg #[Vi a,Vi b,Vi 0,Vt be,Vt be,Vi 0,Vi 0,sn,Vt be,Vi 0,sn,sn,sn]):=by simp [Yl,execOp,f,h];kernel_rfl
theorem Qk {a b c e f h i j k}(l:ρ k=.agg #[Vt a,Vi b,.slice c e f,.slice h i j]):(execOp ρ ⟨d,.buildSlice 24 1 #[(0,k)],ty,pos,af,g⟩).run prog w=.ok (.value (.slice (some ⟨w.heap.size,0,none⟩) 1 1)) (w.alloc (.cells #[Vt a,Vi b,.slice c e f,.slice h i j] 61)):=by simp [execOp,l];kernel_rfl
theorem ZF :Yl prog ρ (.build 26 #[]) d ty pos af g w (.agg #[sn,sn]):=by simp [Yl,execOp];kernel_rfl
theorem aah {a b c e}(f:ρ e=.slice a b c):Yl prog ρ (.build 99 #[(0,e)]) d ty pos af g w (.agg #[.slice a b c,Vi 0,Vi 0,Vi 0]):=by simp [Yl,execOp,f];kernel_rfl
theorem rF {a b c e f h i j}(k:ρ f=Vt a)(l:ρ h=Vt b)(m:ρ i=Vt c)(n:ρ j=Vt e):(execOp ρ ⟨d,.buildSlice 58 4 #[(0,f),(1,h),(2,i),(3,j)],ty,pos,af,g⟩).run prog w=.ok (.value (.slice (some ⟨w.heap.size,0,none⟩) 4 4)) (w.alloc (.cells #[Vt a,Vt b,Vt c,Vt e] 9)):=by simp [execOp,k,l,m,n];kernel_rfl
theorem MU {a b c e}(f:ρ c=Vi a)(h:ρ e=Vt b):Yl prog ρ (.build 115 #[(0,c),(3,e)]) d ty pos af g w (.agg #[Vi a,Vi 0,Vi 0,Vt b,Vt be,Vi 0,Vi 0,sn,Vt be,Vi 0,sn,sn,sn]):=by simp [Yl,execOp,f,h];kernel_rfl
theorem HV {a b}(c:ρ b=Vi a):Yl prog ρ (.build 115 #[(0,b)]) d ty pos af g w (.agg #[Vi a,Vi 0,Vi 0,Vt be,Vt be,Vi 0,Vi 0,sn,Vt be,Vi 0,sn,sn,sn]):=by simp [Yl,execOp,c];kernel_rfl
theorem qI {a b c e f h}(i:ρ f=Vi a)(j:ρ h=.slice b c e):Yl prog ρ (.build 115 #[(0,f),(10,h)]) d ty pos af g w (.agg #[Vi a,Vi 0,Vi 0,Vt be,Vt be,Vi 0,Vi 0,sn,Vt be,Vi 0,.slice b c e,sn,sn]):=by simp [Yl,execOp,i,j];kernel_rfl
theorem mK :(execOp ρ ⟨d,.buildSlice 58 0 #[],ty,pos,af,g⟩).run prog w=.ok (.value (.slice (some ⟨w.heap.size,0,none⟩) 0 0)) (w.alloc (.cells #[] 9)):=by simp [execOp];kernel_rfl
theorem Oh {a b c e f h i j k l}(m:ρ j=Vi a)(n:ρ k=.slice b c e)(o:ρ l=.slice f h i):Yl prog ρ (.build 115 #[(0,j),(7,k),(10,l)]) d ty pos af g w (.agg #[Vi a,Vi 0,Vi 0,Vt be,Vt be,Vi 0,Vi 0,.slice b c e,Vt be,Vi 0,.slice f h i,sn,sn]):=by simp [Yl,execOp,m,n,o];kernel_rfl
theorem UM {a b c e f h i j k l m n o p q r s t u v x y z A B C D E F G H I J K L M N O P Q R S T U}(V:ρ T=.agg #[Vi a,Vi b,Vi c,Vt e,Vt f,Vi h,Vi i,.slice j k l,Vt m,Vi n,.slice o p q,.slice r s t,.slice u v x])(W:ρ U=.agg #[Vi y,Vi z,Vi A,Vt B,Vt C,Vi D,Vi E,.slice F G H,Vt I,Vi J,.slice K L M,.slice N O P,.slice Q R S]):(execOp ρ ⟨d,.buildSlice 59 2 #[(0,T),(1,U)],ty,pos,af,g⟩).run prog w=.ok (.value (.slice (some ⟨w.heap.size,0,none⟩) 2 2)) (w.alloc (.cells #[Vi a,Vi b,Vi c,Vt e,Vt f,Vi h,Vi i,.slice j k l,Vt m,Vi n,.slice o p q,.slice r s t,.slice u v x,Vi y,Vi z,Vi A,Vt B,Vt C,Vi D,Vi E,.slice F G H,Vt I,Vi J,.slice K L M,.slice N O P,.slice Q R S] 115)):=by simp [execOp,V,W];kernel_rfl
theorem LG {a b c e f h i j k l}(m:ρ j=Vi a)(n:ρ k=.slice b c e)(o:ρ l=.slice f h i):Yl prog ρ (.build 115 #[(0,j),(10,k),(11,l)]) d ty pos af g w (.agg #[Vi a,Vi 0,Vi 0,Vt be,Vt be,Vi 0,Vi 0,sn,Vt be,Vi 0,.slice b c e,.slice f h i,sn]):=by simp [Yl,execOp,m,n,o];kernel_rfl
theorem X8 {a b c e}(f:ρ e=.slice a b c):Yl prog ρ (.build 159 #[(0,e)]) d ty pos af g w (.agg #[.slice a b c,Vi 0]):=by simp [Yl,execOp,f];kernel_rfl
theorem Uc {a b c e f h}(i:ρ f=Vt a)(j:ρ h=.slice b c e):Yl prog ρ (.build 143 #[(0,f),(1,h)]) d ty pos af g w (.agg #[Vt a,.slice b c e]):=by simp [Yl,execOp,i,j];kernel_rfl
theorem aa6 {a b c e}(f:ρ e=.slice a b c):Yl prog ρ (.build 26 #[(0,e)]) d ty pos af g w (.agg #[.slice a b c,sn]):=by simp [Yl,execOp,f];kernel_rfl
theorem Xi {a b c e f h i j}(k:ρ f=Vi a)(l:ρ h=Vi b)(m:ρ i=Vi c)(n:ρ j=Vi e):(execOp ρ ⟨d,.buildSlice 22 4 #[(0,f),(1,h),(2,i),(3,j)],ty,pos,af,g⟩).run prog w=.ok (.value (.slice (some ⟨w.heap.size,0,none⟩) 4 4)) (w.alloc (.cells #[Vi a,Vi b,Vi c,Vi e] 3)):=by simp [execOp,k,l,m,n];kernel_rfl
theorem Jq {a b c e f h i j k l m n}(o:ρ j=.pointer a)(p:ρ k=Vi b)(q:ρ l=Vi c)(r:ρ m=.slice e f h)(s:ρ n=Vi i):Yl prog ρ (.build 163 #[(0,j),(1,k),(2,l),(3,m),(8,n)]) d ty pos af g w (.agg #[.pointer a,Vi b,Vi c,.slice e f h,sn,sn,sn,Vi 0,Vi i]):=by simp [Yl,execOp,o,p,q,r,s];kernel_rfl
theorem uy {a b c e f h}(i:ρ f=Vt a)(j:ρ h=.slice b c e):Yl prog ρ (.build 61 #[(0,f),(2,h)]) d ty pos af g w (.agg #[Vt a,Vi 0,.slice b c e,sn]):=by simp [Yl,execOp,i,j];kernel_rfl
theorem QC {a b}(c:ρ b=Vi a):(execOp ρ ⟨d,.buildSlice 22 1 #[(0,b)],ty,pos,af,g⟩).run prog w=.ok (.value (.slice (some ⟨w.heap.size,0,none⟩) 1 1)) (w.alloc (.cells #[Vi a] 3)):=by simp [execOp,c];kernel_rfl
theorem U4 {a b c e f h i j}(k:ρ j=.agg #[Vt a,Vi b,Vi c,Vi e,.bool f,Vi h,Vi i]):(execOp ρ ⟨d,.buildSlice 53 1 #[(0,j)],ty,pos,af,g⟩).run prog w=.ok (.value (.slice (some ⟨w.heap.size,0,none⟩) 1 1)) (w.alloc (.cells #[Vt a,Vi b,Vi c,Vi e,.bool f,Vi h,Vi i] 55)):=by simp [execOp,k];kernel_rfl
theorem QA :(execOp ρ ⟨d,.buildSlice 22 0 #[],ty,pos,af,g⟩).run prog w=.ok (.value (.slice (some ⟨w.heap.size,0,none⟩) 0 0)) (w.alloc (.cells #[] 3)):=by simp [execOp];kernel_rfl
theorem QM {a b c e f h}(i:ρ e=Vi a)(j:ρ f=Vi b)(k:ρ h=Vi c):Yl prog ρ (.build 78 #[(0,e),(1,f),(2,h)]) d ty pos af g w (.agg #[Vi a,Vi b,Vi c]):=by simp [Yl,execOp,i,j,k];kernel_rfl
theorem Xj {a b c e}(f:ρ e=.agg #[Vi a,Vi b,Vi c]):(execOp ρ ⟨d,.buildSlice 28 1 #[(0,e)],ty,pos,af,g⟩).run prog w=.ok (.value (.slice (some ⟨w.heap.size,0,none⟩) 1 1)) (w.alloc (.cells #[Vi a,Vi b,Vi c] 78)):=by simp [execOp,f];kernel_rfl
theorem Ew {a b c e f h i j k l}(m:ρ h=Vt a)(n:ρ i=Vi b)(o:ρ j=Vi c)(p:ρ k=Vi e)(q:ρ l=Vi f):Yl prog ρ (.build 55 #[(0,h),(1,i),(2,j),(3,k),(5,l)]) d ty pos af g w (.agg #[Vt a,Vi b,Vi c,Vi e,.bool false,Vi f,Vi 0]):=by simp [Yl,execOp,m,n,o,p,q];kernel_rfl
theorem Iy {a b c e f h i j k l m n}(o:ρ i=Vt a)(p:ρ j=Vi b)(q:ρ k=Vi c)(r:ρ l=Vi e)(s:ρ m=.bool f)(t:ρ n=Vi h):Yl prog ρ (.build 55 #[(0,i),(1,j),(2,k),(3,l),(4,m),(5,n)]) d ty pos af g w (.agg #[Vt a,Vi b,Vi c,Vi e,.bool f,Vi h,Vi 0]):=by simp [Yl,execOp,o,p,q,r,s,t];kernel_rfl
theorem V8 :(execOp ρ ⟨d,.buildSlice 24 0 #[],ty,pos,af,g⟩).run prog w=.ok (.value (.slice (some ⟨w.heap.size,0,none⟩) 0 0)) (w.alloc (.cells #[] 61)):=by simp [execOp];kernel_rfl
theorem WQ {a b c e f h i j}(k:ρ i=.slice a b c)(l:ρ j=.slice e f h):Yl prog ρ (.build 26 #[(0,i),(1,j)]) d ty pos af g w (.agg #[.slice a b c,.slice e f h]):=by simp [Yl,execOp,k,l];kernel_rfl
theorem aag {a b c e f h i}(j:ρ i=.agg #[.slice a b c,.slice e f h]):Yl prog ρ (.build 30 #[(0,i)]) d ty pos af g w (.agg #[.slice a b c,.slice e f h,sn,sn]):=by simp [Yl,execOp,j];kernel_rfl
theorem X9 {a b c e f h i j k l m n o}(p:ρ o=.agg #[.slice a b c,.slice e f h,.slice i j k,.slice l m n]):Yl prog ρ (.build 103 #[(0,o)]) d ty pos af g w (.agg #[.slice a b c,.slice e f h,.slice i j k,.slice l m n,Vi 0,sn,Vi 0,Vi 0]):=by simp [Yl,execOp,p];kernel_rfl
theorem Vw {a b c e}(f:ρ e=.slice a b c):(execOp ρ ⟨d,.buildSlice 27 1 #[(0,e)],ty,pos,af,g⟩).run prog w=.ok (.value (.slice (some ⟨w.heap.size,0,none⟩) 1 1)) (w.alloc (.cells #[.slice a b c] 53)):=by simp [execOp,f];kernel_rfl
theorem ZJ :Yl prog ρ (.build 30 #[]) d ty pos af g w (.agg #[sn,sn,sn,sn]):=by simp [Yl,execOp];kernel_rfl
theorem GJ :(execOp ρ ⟨d,.buildSlice 62 0 #[],ty,pos,af,g⟩).run prog w=.ok (.value (.slice (some ⟨w.heap.size,0,none⟩) 0 0)) (w.alloc (.cells #[] 73)):=by simp [execOp];kernel_rfl
theorem Dk {a b c e f h i j k l m n}(o:ρ n=.agg #[Vi a,Vi b,Vi c,Vi e,Vi f,Vi h,Vi i,Vi j,Vi k,Vi l,Vi m]):(execOp ρ ⟨d,.buildSlice 62 1 #[(0,n)],ty,pos,af,g⟩).run prog w=.ok (.value (.slice (some ⟨w.heap.size,0,none⟩) 1 1)) (w.alloc (.cells #[Vi a,Vi b,Vi c,Vi e,Vi f,Vi h,Vi i,Vi j,Vi k,Vi l,Vi m] 73)):=by simp [execOp,o];kernel_rfl
end
theorem oJ:TI prog 3 (Vi 0) 1 8:=nU (by kernel_rfl)
theorem ti5:TI prog 5 (.int .u8 0) 1 1:=nU (by kernel_rfl)
theorem pX:TI prog 9 (Vt be) 1 16:=nU (by kernel_rfl)
theorem He:TI prog 22 sn 1 24:=nU (by kernel_rfl)
theorem ac2:TI prog 23 sn 1 24:=nU (by kernel_rfl)
theorem aau:TI prog 24 sn 1 24:=nU (by kernel_rfl)
theorem uQ:TI prog 26 (.agg #[sn,sn]) 2 48:=nU (by kernel_rfl)
theorem acV:TI prog 27 sn 1 24:=nU (by kernel_rfl)
theorem adj:TI prog 28 sn 1 24:=nU (by kernel_rfl)
theorem zB:TI prog 30 (.agg #[sn,sn,sn,sn]) 4 96:=nU (by kernel_rfl)
theorem ab8:TI prog 34 sn 1 24:=nU (by kernel_rfl)
theorem NK:TI prog 36 (.agg #[sn]) 1 24:=nU (by kernel_rfl)
theorem O9:TI prog 37 (Vi 0) 1 8:=nU (by kernel_rfl)
theorem adh:TI prog 48 sn 1 24:=nU (by kernel_rfl)
theorem Pw:TI prog 52 (.agg #[Vi 0,sn,sn,sn]) 4 80:=nU (by kernel_rfl)
theorem F8:TI prog 53 sn 1 24:=nU (by kernel_rfl)
theorem wz:TI prog 55 (.agg #[Vt be,Vi 0,Vi 0,Vi 0,.bool false,Vi 0,Vi 0]) 7 64:=nU (by kernel_rfl)
theorem pG:TI prog 58 sn 1 24:=nU (by kernel_rfl)
theorem CJ:TI prog 59 sn 1 24:=nU (by kernel_rfl)
theorem oz:TI prog 61 (.agg #[Vt be,Vi 0,sn,sn]) 4 72:=nU (by kernel_rfl)
theorem acZ:TI prog 62 sn 1 24:=nU (by kernel_rfl)
theorem Oj:TI prog 69 (.agg #[Vi 0,sn,Vi 0,Vi 0,Vi 0,sn,Vi 0,sn,Vi 0,sn]) 10 144:=nU (by kernel_rfl)
theorem YN:TI prog 71 (.agg #[Vi 0,Vi 0,Vi 0]) 3 24:=nU (by kernel_rfl)
theorem sD:TI prog 73 (.agg #[Vi 0,Vi 0,Vi 0,Vi 0,Vi 0,Vi 0,Vi 0,Vi 0,Vi 0,Vi 0,Vi 0]) 11 88:=nU (by kernel_rfl)
theorem aeT:TI prog 78 (.agg #[Vi 0,Vi 0,Vi 0]) 3 24:=nU (by kernel_rfl)
theorem ad4:TI prog 94 sn 1 24:=nU (by kernel_rfl)
theorem wF:TI prog 113 sn 1 24:=nU (by kernel_rfl)
theorem jQ:TI prog 115 (.agg #[Vi 0,Vi 0,Vi 0,Vt be,Vt be,Vi 0,Vi 0,sn,Vt be,Vi 0,sn,sn,sn]) 13 192:=nU (by kernel_rfl)
theorem qB:TI prog 137 (.agg #[Vi 0,Vi 0,Vt be,Vi 0]) 4 40:=nU (by kernel_rfl)
theorem yH:TI prog 143 (.agg #[Vt be,sn]) 2 40:=nU (by kernel_rfl)
theorem acG:TI prog 157 (.pointer none) 1 8:=nU (by kernel_rfl)
theorem jR:TI prog 166 (.agg #[Vi 0,Vi 0,Vi 0,Vt be,Vt be,sn]) 6 80:=nU (by kernel_rfl)
theorem uU {n:Nat} {f:Func} (h:prog.funcs[n]?=some f) (a:(f.name=="runtime.NumGoroutine")=false:=by kernel_rfl) (b:f.body.isNone=false:=by kernel_rfl):jC prog n:=⟨_,h,a,b⟩
theorem aeg:jC prog 9:=uU func9
theorem ZG:jC prog 10:=uU func10
theorem ZB:jC prog 11:=uU func11
theorem Zp:jC prog 14:=uU func14
theorem YW:jC prog 15:=uU func15
theorem ac0:jC prog 17:=uU func17
theorem acE:jC prog 20:=uU func20
theorem adN:jC prog 21:=uU func21
theorem abY:jC prog 22:=uU func22
theorem acv:jC prog 27:=uU func27
theorem adK:jC prog 28:=uU func28
theorem acz:jC prog 29:=uU func29
theorem Zn:jC prog 30:=uU func30
theorem Zr:jC prog 32:=uU func32
theorem acP:jC prog 33:=uU func33
theorem acy:jC prog 34:=uU func34
theorem ZC:jC prog 48:=uU func48
theorem ac9:jC prog 49:=uU func49
theorem wZ:jC prog 50:=uU func50
theorem FI:jC prog 51:=uU func51
theorem xJ:jC prog 52:=uU func52
theorem Zf:jC prog 53:=uU func53
theorem MK:jC prog 54:=uU func54
theorem H6:jC prog 55:=uU func55
theorem GU:jC prog 56:=uU func56
theorem Bg:jC prog 57:=uU func57
theorem Vh:jC prog 58:=uU func58
theorem Tx:jC prog 59:=uU func59
theorem YV:jC prog 63:=uU func63
theorem ME:jC prog 64:=uU func64
theorem oG:jC prog 65:=uU func65
theorem YZ:jC prog 66:=uU func66
theorem Jg:jC prog 67:=uU func67
theorem ab2:jC prog 68:=uU func68
theorem Ws:jC prog 73:=uU func73
theorem VZ:jC prog 74:=uU func74
theorem ac4:jC prog 75:=uU func75
theorem acW:jC prog 76:=uU func76
theorem adi:jC prog 77:=uU func77
theorem ads:jC prog 78:=uU func78
theorem Zh:jC prog 79:=uU func79
theorem acL:jC prog 80:=uU func80
theorem Ji:jC prog 90:=uU func90
theorem Na:jC prog 91:=uU func91
theorem MQ:jC prog 92:=uU func92
theorem adp:jC prog 93:=uU func93
theorem adO:jC prog 94:=uU func94
theorem adv:jC prog 95:=uU func95
theorem Dg:jC prog 96:=uU func96
theorem Mi:jC prog 97:=uU func97
theorem acf:jC prog 98:=uU func98
theorem UW:jC prog 99:=uU func99
theorem UO:jC prog 100:=uU func100
theorem abm:jC prog 101:=uU func101
theorem aaJ:jC prog 129:=uU func129
theorem Dz:jC prog 130:=uU func130
theorem JG:jC prog 131:=uU func131
theorem aam:jC prog 132:=uU func132
theorem abJ:jC prog 133:=uU func133
theorem QL:jC prog 134:=uU func134
theorem abP:jC prog 135:=uU func135
theorem aaS:jC prog 136:=uU func136
theorem Xk:jC prog 137:=uU func137
theorem FZ:jC prog 138:=uU func138
theorem abd:jC prog 139:=uU func139
theorem VN:jC prog 140:=uU func140
theorem Wz:jC prog 160:=uU func160
theorem aax:jC prog 161:=uU func161
theorem Wu:jC prog 162:=uU func162
theorem abE:jC prog 163:=uU func163
theorem Wj:jC prog 164:=uU func164
theorem abb:jC prog 165:=uU func165
theorem aaA:jC prog 166:=uU func166
theorem aaK:jC prog 176:=uU func176
end
end Go.Proofs.YtdkneekpdecjbaaGreat
