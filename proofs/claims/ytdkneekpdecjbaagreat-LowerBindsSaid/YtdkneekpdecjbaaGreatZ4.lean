/- Posts out of sight; rows cut short. Over any program. -/
import Derived.Test.YtdkneekpdecjbaaGreatZ3
import Derived.Test.YtdkneekpdecjbaaGreatRows
set_option linter.unusedVariables false
namespace Go.Fw
open Go.RowKit
section
variable {P:Program}{N:Fz}{n R:Fr->World->Prop}{X:Nat->Fr->World->Prop}{V:Fr->List PanicEntry->World->Prop}{f:Fr}{w:World}
theorem GV {x y:Code}(h:WP P N x ⟨fun f w=>WP P N y ⟨n,X,R,V⟩ f w,X,R,V⟩ f w):WP P N (.seq x y) ⟨n,X,R,V⟩ f w:=afR h
theorem pW {i:Nat}{c:Code}(h:WP P N c ⟨n,fun j=>bif Nat.beq j i then n else X j,R,V⟩ f w):WP P N (.block i c) ⟨n,X,R,V⟩ f w:=aa9 h
theorem qK {x:Code}(J:Fr->World->Prop)(h:∀ J':Fr->World->Prop,(∀ f w,J f w->J' f w)->WP P N x ⟨J',X,R,V⟩ f w)(k:∀ f w,J f w->n f w):WP P N x ⟨n,X,R,V⟩ f w:=
 wJ J (h J fun _ _ h=>h) k
theorem kG {c:Code}(I:Nat->Fr->World->Prop)(n0:Nat)(h0:I n0 f w)(hr:∀ n f w,I n f w->∀ J':Fr->World->Prop,(∀ m f w,m < n->I m f w->J' f w)->WP P N c ⟨J',X,R,V⟩ f w):WP P N (.loop c) ⟨n,X,R,V⟩ f w:=
 abN I n0 h0 fun n f w h=>hr n f w h _ fun m f w hm hi=>⟨m,hm,hi⟩
theorem uE {i:Nat}(h:X i f w):WP P N (.exit i) ⟨n,X,R,V⟩ f w:=aep h
theorem lX (h:R f w):WP P N .ret ⟨n,X,R,V⟩ f w:=afi h
end
theorem Own.shr {w:World}{base:Nat}{e:TypeId}{sz n c:Nat}{A:Option Addr}{xs:List Value}(h:Own w base e sz A n c xs)(m:Nat)(hm:m<=n):Own w base e sz A m c (xs.take (m * sz)):=by
 refine ⟨by rw [wI,h.len];exact Nat.min_eq_left (Nat.mul_le_mul_right _ hm),?_⟩;rcases h.2 with ⟨h2,hn⟩|⟨b,cap,cur,h3,h4,h5,h6,h7,h8,h9⟩
 · subst hn;obtain rfl:m=0:=by omega
   exact .inl ⟨h2,rfl⟩
 · injection h3 with h3a h3b h3c;refine .inr ⟨b,cap,cur,by rw [h3a,h3c],h4,h5,by omega,h7,h8,?_⟩;rw [<-h9,List.take_take,Nat.min_eq_left (Nat.mul_le_mul_right _ hm)]
theorem xg.adH {α:Type}[Rp α]{F:Nat->Prop}{w:World}{cs:List (List Value)}{l:List α}(h:xg F w cs l)(m:Nat)(hm:m<=l.length):(cs.take m).flatten=cs.flatten.take (m * Rp.sz α):=by
 have h1:=(h.take m).VG;rw [wI,Nat.min_eq_left hm] at h1;have h2:cs.flatten=(cs.take m).flatten ++ (cs.drop m).flatten:=by rw [<-List.flatten_append,List.take_append_drop]
 rw [<-h1,h2,List.take_append_of_le_length (mO _),List.take_length]
theorem Bx.shr {α:Type}[Rp α]{w0 w:World}{Z G:Nat->Prop}{L:List It}{D:List Da}(h:Bx w0 w Z G L D)(i j:Nat){base:Nat}{A:Option Addr}{c:Nat}{e:TypeId}{cs:List (List Value)}{l r:List α}{m:Nat}(hi:L[i]?=some (.own base A c e (Rp.sz α) cs))(hj:D[j]?=some (.els cs l))(hm:m<=l.length)(hr:(l.drop 0).take (m - 0)=r):Bx w0 w Z G (L.set i (.own base A c e (Rp.sz α) (cs.take m))) (D.set j (.els (cs.take m) r)):=by
 have he:=h.de j hj;have hr':l.take m=r:=by rw [<-hr,List.drop_zero,Nat.sub_zero]
 have h1:Bx w0 w Z G L (.els (cs.take m) r :: D):=h.jX (by rw [<-hr'];exact he.take m);have h2:Bx w0 w Z G L (D.set j (.els (cs.take m) r)):=h1.AR fun d hd=>by
  rcases Ie hd with hd | hd
  · exact yw _ hd
  · rw [hd];exact Bl
 refine h2.put i hi ((Ext.refl w).Gf _) ?_ (fun k hk=>.inl hk);have ho:=(h.bo i hi).shr m (by rw [he.len];exact hm);rw [<-he.adH m hm] at ho;have hl:(cs.take m).length=m:=by rw [wI,he.len,Nat.min_eq_left hm]
 show Own w base e (Rp.sz α) A (cs.take m).length c (cs.take m).flatten;rw [hl];exact ho
inductive Lf where
 | i (n:Int)
 | t (s:ByteArray)
 | b (x:Bool)
deriving DecidableEq
def Lf.v:Lf→Value
 | .i n=>.int .i64 n
 | .t s=>.string s
 | .b x=>.bool x
def Lf.k:Lf→Nat
 | .i _=>0
 | .t _=>1
 | .b _=>2
section
variable {P:Program}{w:World}{ρ:Operand->Value}{d:Option Nat}{ty:TypeId}{pos:String}{af:Array Edge}{g:Option (Nat × Bool)}
end
end Go.Fw
set_option maxHeartbeats 12800000
set_option linter.unusedSimpArgs false
set_option maxRecDepth 4000
namespace Go.Proofs.YtdkneekpdecjbaaGreat
open Go.RowKit Go.Fw Go.Proofs.Tryz
theorem r.{u}{α:Sort u}{a:α}:a=a:=rfl
abbrev OA:=Option Addr
abbrev LV:=List (List Value)
noncomputable section
structure jP where
 l:(List Int)
 a:Int
instance:Rp jP:=⟨2,32,fun F w cs x=>∃ (a1:OA)(c1:Nat),cs=[.slice a1 x.l.length c1,Vi x.a]/\kD F w a1 c1 x.l,fun h=>by obtain ⟨a1,c1,rfl,_⟩:=h;rfl,fun h=>by obtain ⟨a1,c1,rfl,_⟩:=h;rfl,fun h m=>by obtain ⟨a1,c1,h,k1⟩:=h;exact ⟨a1,c1,h,k1.mv m⟩⟩
theorem jP.out {F:Nat->Prop}{w:World}{cs:List Value}{x:jP}(h:Rp.rep F w cs x):∃ (a:OA)(b:Nat),cs=[.slice a x.l.length b,Vi x.a]/\kD F w a b x.l:=h
theorem jP.inn {F:Nat->Prop}{w:World}{cs:List Value}{x:jP}(h:∃ (a:OA) (b:Nat),cs=[.slice a x.l.length b,Vi x.a]/\kD F w a b x.l):Rp.rep F w cs x:=h
structure jB where
 e:Int
 d:Int
 f:Int
 c:ByteArray
 b:ByteArray
 a:(List jB)
inductive jB.R (F:Nat→Prop)(w:World):List Value→jB→Prop
 | mk (x:jB) (a1:OA) (c1:Nat) (C1:Nat->List Value) (h1:x.a.length<=c1/\c1<=maxLen) (k1:0 < x.a.length->a1=some ⟨mU a1,nS a1,none⟩/\F (mU a1)/\mU a1 < w.heap.size) (e1:∀ i y,x.a[i]?=some y->Cells w (mU a1) (nS a1+i * 6) (C1 i)) (r1:∀ i y,x.a[i]?=some y->jB.R F w (C1 i) y):jB.R F w [Vi x.e,Vi x.d,Vi x.f,Vt x.c,Vt x.b,.slice a1 x.a.length c1] x
instance:Rp jB where
 sz:=6
 bs:=80
 rep:=jB.R
 len h:=by cases h;rfl
 one h:=by cases h;rfl
 mv {F G w w' cs x} h m:=by
  induction h with
  | mk x a1 c1 C1 h1 k1 e1 r1 ih1=>exact .mk x a1 c1 C1 h1 (fun h0=>⟨(k1 h0).1,(m.1 _ (k1 h0).2.1 (k1 h0).2.2).1,Nat.lt_of_lt_of_le (k1 h0).2.2 m.2⟩) (fun i y hy=>(e1 i y hy).same (m.1 _ (k1 (by have:=ko hy;omega)).2.1 (k1 (by have:=ko hy;omega)).2.2).2) ih1
theorem jB.out {F:Nat->Prop}{w:World}{cs:List Value}{x:jB}(h:Rp.rep F w cs x):∃ (a:OA)(b:Nat),cs=[Vi x.e,Vi x.d,Vi x.f,Vt x.c,Vt x.b,.slice a x.a.length b]/\kD F w a b x.a:=by
 cases h with
 | mk _ a b f e c j k=>exact ⟨a,b,rfl,⟨e.1,e.2,fun d=>⟨(c d).1,(c d).2.1,(c d).2.2,fun i l hy=>⟨f i,j i l hy,k i l hy⟩⟩⟩⟩
theorem jB.inn {F:Nat->Prop}{w:World}{cs:List Value}{x:jB}(h:∃ (b:OA) (c:Nat),cs=[Vi x.e,Vi x.d,Vi x.f,Vt x.c,Vt x.b,.slice b x.a.length c]/\kD F w b c x.a):Rp.rep F w cs x:=by obtain ⟨b,c,rfl,a⟩:=h;obtain ⟨e,f,i⟩:=a.fn;exact .mk x b c e ⟨a.1,a.2.1⟩ (fun d=>⟨(a.2.2 d).1,(a.2.2 d).2.1,(a.2.2 d).2.2.1⟩) f i
structure kR where
 b:Int
 g:Int
 a:ByteArray
 d:Int
instance:Rp kR:=⟨4,40,fun _ _ cs x=>cs=[Vi x.b,Vi x.g,Vt x.a,Vi x.d],fun h=>by rw [h];rfl,fun h=>by rw [h];rfl,fun h _=>h⟩
structure iA where
 l:(List kR)
 a:Int
 c:Int
 e:Int
instance:Rp iA:=⟨4,48,fun F w cs x=>∃ (a1:OA)(c1:Nat),cs=[.slice a1 x.l.length c1,Vi x.a,Vi x.c,Vi x.e]/\kD F w a1 c1 x.l,fun h=>by obtain ⟨a1,c1,rfl,_⟩:=h;rfl,fun h=>by obtain ⟨a1,c1,rfl,_⟩:=h;rfl,fun h m=>by obtain ⟨a1,c1,h,k1⟩:=h;exact ⟨a1,c1,h,k1.mv m⟩⟩
theorem iA.out {F:Nat->Prop}{w:World}{cs:List Value}{x:iA}(h:Rp.rep F w cs x):∃ (a:OA)(b:Nat),cs=[.slice a x.l.length b,Vi x.a,Vi x.c,Vi x.e]/\kD F w a b x.l:=h
theorem iA.inn {F:Nat->Prop}{w:World}{cs:List Value}{x:iA}(h:∃ (a:OA) (b:Nat),cs=[.slice a x.l.length b,Vi x.a,Vi x.c,Vi x.e]/\kD F w a b x.l):Rp.rep F w cs x:=h
structure jA where
 b:Int
 g:Int
 n:Int
 c:ByteArray
 j:ByteArray
 m:Int
 f:Int
 e:(List jB)
 k:ByteArray
 i:Int
 a:(List jB)
 d:(List jA)
 h:(List jA)
inductive jA.R (F:Nat→Prop)(w:World):List Value→jA→Prop
 | mk (x:jA) (a1:OA) (c1:Nat) (a2:OA) (c2:Nat) (a3:OA) (c3:Nat) (a4:OA) (c4:Nat) (k1:kD F w a1 c1 x.e) (k2:kD F w a2 c2 x.a) (C3:Nat->List Value) (h3:x.d.length<=c3/\c3<=maxLen) (k3:0 < x.d.length->a3=some ⟨mU a3,nS a3,none⟩/\F (mU a3)/\mU a3 < w.heap.size) (e3:∀ i y,x.d[i]?=some y->Cells w (mU a3) (nS a3+i * 13) (C3 i)) (r3:∀ i y,x.d[i]?=some y->jA.R F w (C3 i) y) (C4:Nat->List Value) (h4:x.h.length<=c4/\c4<=maxLen) (k4:0 < x.h.length->a4=some ⟨mU a4,nS a4,none⟩/\F (mU a4)/\mU a4 < w.heap.size) (e4:∀ i y,x.h[i]?=some y->Cells w (mU a4) (nS a4+i * 13) (C4 i)) (r4:∀ i y,x.h[i]?=some y->jA.R F w (C4 i) y):jA.R F w [Vi x.b,Vi x.g,Vi x.n,Vt x.c,Vt x.j,Vi x.m,Vi x.f,.slice a1 x.e.length c1,Vt x.k,Vi x.i,.slice a2 x.a.length c2,.slice a3 x.d.length c3,.slice a4 x.h.length c4] x
instance:Rp jA where
 sz:=13
 bs:=192
 rep:=jA.R
 len h:=by cases h;rfl
 one h:=by cases h;rfl
 mv {F G w w' cs x} h m:=by
  induction h with
  | mk x a1 c1 a2 c2 a3 c3 a4 c4 k1 k2 C3 h3 k3 e3 r3 C4 h4 k4 e4 r4 ih3 ih4=>exact .mk x a1 c1 a2 c2 a3 c3 a4 c4 (k1.mv m) (k2.mv m) C3 h3 (fun h0=>⟨(k3 h0).1,(m.1 _ (k3 h0).2.1 (k3 h0).2.2).1,Nat.lt_of_lt_of_le (k3 h0).2.2 m.2⟩) (fun i y hy=>(e3 i y hy).same (m.1 _ (k3 (by have:=ko hy;omega)).2.1 (k3 (by have:=ko hy;omega)).2.2).2) ih3 C4 h4 (fun h0=>⟨(k4 h0).1,(m.1 _ (k4 h0).2.1 (k4 h0).2.2).1,Nat.lt_of_lt_of_le (k4 h0).2.2 m.2⟩) (fun i y hy=>(e4 i y hy).same (m.1 _ (k4 (by have:=ko hy;omega)).2.1 (k4 (by have:=ko hy;omega)).2.2).2) ih4
theorem jA.out {F:Nat->Prop}{w:World}{cs:List Value}{x:jA}(h:Rp.rep F w cs x):∃ (b:OA)(c:Nat)(d:OA)(e:Nat)(f:OA)(j:Nat)(k:OA)(l:Nat),cs=[Vi x.b,Vi x.g,Vi x.n,Vt x.c,Vt x.j,Vi x.m,Vi x.f,.slice b x.e.length c,Vt x.k,Vi x.i,.slice d x.a.length e,.slice f x.d.length j,.slice k x.h.length l]/\kD F w b c x.e/\kD F w d e x.a/\kD F w f j x.d/\kD F w k l x.h:=by
 cases h with
 | mk _ b c d e f j k l u v z p m A B C t o D E=>exact ⟨b,c,d,e,f,j,k,l,rfl,u,v,⟨p.1,p.2,fun a=>⟨(m a).1,(m a).2.1,(m a).2.2,fun i G hy=>⟨z i,A i G hy,B i G hy⟩⟩⟩,⟨t.1,t.2,fun a=>⟨(o a).1,(o a).2.1,(o a).2.2,fun i G hy=>⟨C i,D i G hy,E i G hy⟩⟩⟩⟩
theorem jA.inn {F:Nat->Prop}{w:World}{cs:List Value}{x:jA}(h:∃ (d:OA) (e:Nat) (f:OA) (i:Nat) (j:OA) (k:Nat) (l:OA) (m:Nat),cs=[Vi x.b,Vi x.g,Vi x.n,Vt x.c,Vt x.j,Vi x.m,Vi x.f,.slice d x.e.length e,Vt x.k,Vi x.i,.slice f x.a.length i,.slice j x.d.length k,.slice l x.h.length m]/\kD F w d e x.e/\kD F w f i x.a/\kD F w j k x.d/\kD F w l m x.h):Rp.rep F w cs x:=by obtain ⟨d,e,f,i,j,k,l,m,rfl,o,p,b,c⟩:=h;obtain ⟨t,u,v⟩:=b.fn;obtain ⟨z,A,B⟩:=c.fn;exact .mk x d e f i j k l m o p t ⟨b.1,b.2.1⟩ (fun a=>⟨(b.2.2 a).1,(b.2.2 a).2.1,(b.2.2 a).2.2.1⟩) u v z ⟨c.1,c.2.1⟩ (fun a=>⟨(c.2.2 a).1,(c.2.2 a).2.1,(c.2.2 a).2.2.1⟩) A B
structure kg where
 c:ByteArray
 a:(List ByteArray)
instance:Rp kg:=⟨2,40,fun F w cs x=>∃ (a1:OA)(c1:Nat),cs=[Vt x.c,.slice a1 x.a.length c1]/\kD F w a1 c1 x.a,fun h=>by obtain ⟨a1,c1,rfl,_⟩:=h;rfl,fun h=>by obtain ⟨a1,c1,rfl,_⟩:=h;rfl,fun h m=>by obtain ⟨a1,c1,h,k1⟩:=h;exact ⟨a1,c1,h,k1.mv m⟩⟩
theorem kg.out {F:Nat->Prop}{w:World}{cs:List Value}{x:kg}(h:Rp.rep F w cs x):∃ (a:OA)(b:Nat),cs=[Vt x.c,.slice a x.a.length b]/\kD F w a b x.a:=h
theorem kg.inn {F:Nat->Prop}{w:World}{cs:List Value}{x:kg}(h:∃ (a:OA) (b:Nat),cs=[Vt x.c,.slice a x.a.length b]/\kD F w a b x.a):Rp.rep F w cs x:=h
structure kN where
 c:ByteArray
 g:Int
 a:(List ByteArray)
 d:(List jA)
instance:Rp kN:=⟨4,72,fun F w cs x=>∃ (a1:OA)(c1:Nat)(a2:OA)(c2:Nat),cs=[Vt x.c,Vi x.g,.slice a1 x.a.length c1,.slice a2 x.d.length c2]/\kD F w a1 c1 x.a/\kD F w a2 c2 x.d,fun h=>by obtain ⟨a1,c1,a2,c2,rfl,_⟩:=h;rfl,fun h=>by obtain ⟨a1,c1,a2,c2,rfl,_⟩:=h;rfl,fun h m=>by obtain ⟨a1,c1,a2,c2,h,k1,k2⟩:=h;exact ⟨a1,c1,a2,c2,h,k1.mv m,k2.mv m⟩⟩
theorem kN.out {F:Nat->Prop}{w:World}{cs:List Value}{x:kN}(h:Rp.rep F w cs x):∃ (a:OA)(b:Nat)(c:OA)(d:Nat),cs=[Vt x.c,Vi x.g,.slice a x.a.length b,.slice c x.d.length d]/\kD F w a b x.a/\kD F w c d x.d:=h
theorem kN.inn {F:Nat->Prop}{w:World}{cs:List Value}{x:kN}(h:∃ (a:OA) (b:Nat) (c:OA) (d:Nat),cs=[Vt x.c,Vi x.g,.slice a x.a.length b,.slice c x.d.length d]/\kD F w a b x.a/\kD F w c d x.d):Rp.rep F w cs x:=h
structure jV where
 a:(List kg)
 b:(List kN)
instance:Rp jV:=⟨2,48,fun F w cs x=>∃ (a1:OA)(c1:Nat)(a2:OA)(c2:Nat),cs=[.slice a1 x.a.length c1,.slice a2 x.b.length c2]/\kD F w a1 c1 x.a/\kD F w a2 c2 x.b,fun h=>by obtain ⟨a1,c1,a2,c2,rfl,_⟩:=h;rfl,fun h=>by obtain ⟨a1,c1,a2,c2,rfl,_⟩:=h;rfl,fun h m=>by obtain ⟨a1,c1,a2,c2,h,k1,k2⟩:=h;exact ⟨a1,c1,a2,c2,h,k1.mv m,k2.mv m⟩⟩
theorem jV.out {F:Nat->Prop}{w:World}{cs:List Value}{x:jV}(h:Rp.rep F w cs x):∃ (a:OA)(b:Nat)(c:OA)(d:Nat),cs=[.slice a x.a.length b,.slice c x.b.length d]/\kD F w a b x.a/\kD F w c d x.b:=h
theorem jV.inn {F:Nat->Prop}{w:World}{cs:List Value}{x:jV}(h:∃ (a:OA) (b:Nat) (c:OA) (d:Nat),cs=[.slice a x.a.length b,.slice c x.b.length d]/\kD F w a b x.a/\kD F w c d x.b):Rp.rep F w cs x:=h
structure lU where
 f:Int
 e:Int
 b:(List Int)
 a:(List ByteArray)
 d:(List ByteArray)
 c:(List ByteArray)
 g:Int
 h:Int
structure gP where
 c:ByteArray
 b:Int
 f:Int
 a:Int
 g:Bool
 e:Int
 d:Int
instance:Rp gP:=⟨7,64,fun _ _ cs x=>cs=[Vt x.c,Vi x.b,Vi x.f,Vi x.a,.bool x.g,Vi x.e,Vi x.d],fun h=>by rw [h];rfl,fun h=>by rw [h];rfl,fun h _=>h⟩
structure jT where
 k:Int
 b:Int
 g:Int
instance:Rp jT:=⟨3,24,fun _ _ cs x=>cs=[Vi x.k,Vi x.b,Vi x.g],fun h=>by rw [h];rfl,fun h=>by rw [h];rfl,fun h _=>h⟩
structure jR where
 a:jV
 c:(List (List gP))
 b:(List jT)
instance:Rp jR:=⟨4,96,fun F w cs x=>∃ (a1:OA)(c1:Nat)(a2:OA)(c2:Nat)(a3:OA)(c3:Nat)(a4:OA)(c4:Nat),cs=[.slice a1 x.a.a.length c1,.slice a2 x.a.b.length c2,.slice a3 x.c.length c3,.slice a4 x.b.length c4]/\kD F w a1 c1 x.a.a/\kD F w a2 c2 x.a.b/\kD F w a3 c3 x.c/\kD F w a4 c4 x.b,fun h=>by obtain ⟨a1,c1,a2,c2,a3,c3,a4,c4,rfl,_⟩:=h;rfl,fun h=>by obtain ⟨a1,c1,a2,c2,a3,c3,a4,c4,rfl,_⟩:=h;rfl,fun h m=>by obtain ⟨a1,c1,a2,c2,a3,c3,a4,c4,h,k1,k2,k3,k4⟩:=h;exact ⟨a1,c1,a2,c2,a3,c3,a4,c4,h,k1.mv m,k2.mv m,k3.mv m,k4.mv m⟩⟩
theorem jR.out {F:Nat->Prop}{w:World}{cs:List Value}{x:jR}(h:Rp.rep F w cs x):∃ (a:OA)(b:Nat)(c:OA)(d:Nat)(e:OA)(f:Nat)(i:OA)(j:Nat),cs=[.slice a x.a.a.length b,.slice c x.a.b.length d,.slice e x.c.length f,.slice i x.b.length j]/\kD F w a b x.a.a/\kD F w c d x.a.b/\kD F w e f x.c/\kD F w i j x.b:=h
theorem jR.inn {F:Nat->Prop}{w:World}{cs:List Value}{x:jR}(h:∃ (a:OA) (b:Nat) (c:OA) (d:Nat) (e:OA) (f:Nat) (i:OA) (j:Nat),cs=[.slice a x.a.a.length b,.slice c x.a.b.length d,.slice e x.c.length f,.slice i x.b.length j]/\kD F w a b x.a.a/\kD F w c d x.a.b/\kD F w e f x.c/\kD F w i j x.b):Rp.rep F w cs x:=h
structure fV where
 a:jR
 f:Int
 b:(List Int)
 c:Int
 e:Int
instance:Rp fV:=⟨8,144,fun F w cs x=>∃ (a1:OA)(c1:Nat)(a2:OA)(c2:Nat)(a3:OA)(c3:Nat)(a4:OA)(c4:Nat)(a5:OA)(c5:Nat),cs=[.slice a1 x.a.a.a.length c1,.slice a2 x.a.a.b.length c2,.slice a3 x.a.c.length c3,.slice a4 x.a.b.length c4,Vi x.f,.slice a5 x.b.length c5,Vi x.c,Vi x.e]/\kD F w a1 c1 x.a.a.a/\kD F w a2 c2 x.a.a.b/\kD F w a3 c3 x.a.c/\kD F w a4 c4 x.a.b/\kD F w a5 c5 x.b,fun h=>by obtain ⟨a1,c1,a2,c2,a3,c3,a4,c4,a5,c5,rfl,_⟩:=h;rfl,fun h=>by obtain ⟨a1,c1,a2,c2,a3,c3,a4,c4,a5,c5,rfl,_⟩:=h;rfl,fun h m=>by obtain ⟨a1,c1,a2,c2,a3,c3,a4,c4,a5,c5,h,k1,k2,k3,k4,k5⟩:=h;exact ⟨a1,c1,a2,c2,a3,c3,a4,c4,a5,c5,h,k1.mv m,k2.mv m,k3.mv m,k4.mv m,k5.mv m⟩⟩
theorem fV.out {F:Nat->Prop}{w:World}{cs:List Value}{x:fV}(h:Rp.rep F w cs x):∃ (a:OA)(b:Nat)(c:OA)(d:Nat)(i:OA)(j:Nat)(k:OA)(l:Nat)(m:OA)(o:Nat),cs=[.slice a x.a.a.a.length b,.slice c x.a.a.b.length d,.slice i x.a.c.length j,.slice k x.a.b.length l,Vi x.f,.slice m x.b.length o,Vi x.c,Vi x.e]/\kD F w a b x.a.a.a/\kD F w c d x.a.a.b/\kD F w i j x.a.c/\kD F w k l x.a.b/\kD F w m o x.b:=h
theorem fV.inn {F:Nat->Prop}{w:World}{cs:List Value}{x:fV}(h:∃ (a:OA) (b:Nat) (c:OA) (d:Nat) (i:OA) (j:Nat) (k:OA) (l:Nat) (m:OA) (o:Nat),cs=[.slice a x.a.a.a.length b,.slice c x.a.a.b.length d,.slice i x.a.c.length j,.slice k x.a.b.length l,Vi x.f,.slice m x.b.length o,Vi x.c,Vi x.e]/\kD F w a b x.a.a.a/\kD F w c d x.a.a.b/\kD F w i j x.a.c/\kD F w k l x.a.b/\kD F w m o x.b):Rp.rep F w cs x:=h
structure aaN where
 b:Int
 a:Int
 c:Int
instance:Rp aaN:=⟨3,24,fun _ _ cs x=>cs=[Vi x.b,Vi x.a,Vi x.c],fun h=>by rw [h];rfl,fun h=>by rw [h];rfl,fun h _=>h⟩
structure qm where
 b:Int
 e:Int
 A:Int
 B:Int
 N:Int
 d:Int
 f:Int
 c:Int
 a:aaN
instance:Rp qm:=⟨11,88,fun _ _ cs x=>cs=[Vi x.b,Vi x.e,Vi x.A,Vi x.B,Vi x.N,Vi x.d,Vi x.f,Vi x.c,Vi x.a.b,Vi x.a.a,Vi x.a.c],fun h=>by rw [h];rfl,fun h=>by rw [h];rfl,fun h _=>h⟩
structure ug where
 b:Int
 a:(List Int)
instance:Rp ug:=⟨2,32,fun F w cs x=>∃ (a1:OA)(c1:Nat),cs=[Vi x.b,.slice a1 x.a.length c1]/\kD F w a1 c1 x.a,fun h=>by obtain ⟨a1,c1,rfl,_⟩:=h;rfl,fun h=>by obtain ⟨a1,c1,rfl,_⟩:=h;rfl,fun h m=>by obtain ⟨a1,c1,h,k1⟩:=h;exact ⟨a1,c1,h,k1.mv m⟩⟩
theorem ug.out {F:Nat->Prop}{w:World}{cs:List Value}{x:ug}(h:Rp.rep F w cs x):∃ (a:OA)(b:Nat),cs=[Vi x.b,.slice a x.a.length b]/\kD F w a b x.a:=h
theorem ug.inn {F:Nat->Prop}{w:World}{cs:List Value}{x:ug}(h:∃ (a:OA) (b:Nat),cs=[Vi x.b,.slice a x.a.length b]/\kD F w a b x.a):Rp.rep F w cs x:=h
structure IG where
 a:ug
 b:ug
instance:Rp IG:=⟨4,64,fun F w cs x=>∃ (a1:OA)(c1:Nat)(a2:OA)(c2:Nat),cs=[Vi x.a.b,.slice a1 x.a.a.length c1,Vi x.b.b,.slice a2 x.b.a.length c2]/\kD F w a1 c1 x.a.a/\kD F w a2 c2 x.b.a,fun h=>by obtain ⟨a1,c1,a2,c2,rfl,_⟩:=h;rfl,fun h=>by obtain ⟨a1,c1,a2,c2,rfl,_⟩:=h;rfl,fun h m=>by obtain ⟨a1,c1,a2,c2,h,k1,k2⟩:=h;exact ⟨a1,c1,a2,c2,h,k1.mv m,k2.mv m⟩⟩
theorem IG.out {F:Nat->Prop}{w:World}{cs:List Value}{x:IG}(h:Rp.rep F w cs x):∃ (a:OA)(b:Nat)(c:OA)(d:Nat),cs=[Vi x.a.b,.slice a x.a.a.length b,Vi x.b.b,.slice c x.b.a.length d]/\kD F w a b x.a.a/\kD F w c d x.b.a:=h
theorem IG.inn {F:Nat->Prop}{w:World}{cs:List Value}{x:IG}(h:∃ (a:OA) (b:Nat) (c:OA) (d:Nat),cs=[Vi x.a.b,.slice a x.a.a.length b,Vi x.b.b,.slice c x.b.a.length d]/\kD F w a b x.a.a/\kD F w c d x.b.a):Rp.rep F w cs x:=h
structure x9 where
 b:Int
 A:Int
 N:Int
 a:(List Int)
 d:IG
instance:Rp x9:=⟨8,112,fun F w cs x=>∃ (a1:OA)(c1:Nat)(a2:OA)(c2:Nat)(a3:OA)(c3:Nat),cs=[Vi x.b,Vi x.A,Vi x.N,.slice a1 x.a.length c1,Vi x.d.a.b,.slice a2 x.d.a.a.length c2,Vi x.d.b.b,.slice a3 x.d.b.a.length c3]/\kD F w a1 c1 x.a/\kD F w a2 c2 x.d.a.a/\kD F w a3 c3 x.d.b.a,fun h=>by obtain ⟨a1,c1,a2,c2,a3,c3,rfl,_⟩:=h;rfl,fun h=>by obtain ⟨a1,c1,a2,c2,a3,c3,rfl,_⟩:=h;rfl,fun h m=>by obtain ⟨a1,c1,a2,c2,a3,c3,h,k1,k2,k3⟩:=h;exact ⟨a1,c1,a2,c2,a3,c3,h,k1.mv m,k2.mv m,k3.mv m⟩⟩
theorem x9.out {F:Nat->Prop}{w:World}{cs:List Value}{x:x9}(h:Rp.rep F w cs x):∃ (a:OA)(b:Nat)(c:OA)(d:Nat)(e:OA)(f:Nat),cs=[Vi x.b,Vi x.A,Vi x.N,.slice a x.a.length b,Vi x.d.a.b,.slice c x.d.a.a.length d,Vi x.d.b.b,.slice e x.d.b.a.length f]/\kD F w a b x.a/\kD F w c d x.d.a.a/\kD F w e f x.d.b.a:=h
theorem x9.inn {F:Nat->Prop}{w:World}{cs:List Value}{x:x9}(h:∃ (a:OA) (b:Nat) (c:OA) (d:Nat) (e:OA) (f:Nat),cs=[Vi x.b,Vi x.A,Vi x.N,.slice a x.a.length b,Vi x.d.a.b,.slice c x.d.a.a.length d,Vi x.d.b.b,.slice e x.d.b.a.length f]/\kD F w a b x.a/\kD F w c d x.d.a.a/\kD F w e f x.d.b.a):Rp.rep F w cs x:=h
structure mP where
 a:Int
 c:(List qm)
 b:x9
instance:Rp mP:=⟨10,144,fun F w cs x=>∃ (a1:OA)(c1:Nat)(a2:OA)(c2:Nat)(a3:OA)(c3:Nat)(a4:OA)(c4:Nat),cs=[Vi x.a,.slice a1 x.c.length c1,Vi x.b.b,Vi x.b.A,Vi x.b.N,.slice a2 x.b.a.length c2,Vi x.b.d.a.b,.slice a3 x.b.d.a.a.length c3,Vi x.b.d.b.b,.slice a4 x.b.d.b.a.length c4]/\kD F w a1 c1 x.c/\kD F w a2 c2 x.b.a/\kD F w a3 c3 x.b.d.a.a/\kD F w a4 c4 x.b.d.b.a,fun h=>by obtain ⟨a1,c1,a2,c2,a3,c3,a4,c4,rfl,_⟩:=h;rfl,fun h=>by obtain ⟨a1,c1,a2,c2,a3,c3,a4,c4,rfl,_⟩:=h;rfl,fun h m=>by obtain ⟨a1,c1,a2,c2,a3,c3,a4,c4,h,k1,k2,k3,k4⟩:=h;exact ⟨a1,c1,a2,c2,a3,c3,a4,c4,h,k1.mv m,k2.mv m,k3.mv m,k4.mv m⟩⟩
theorem mP.out {F:Nat->Prop}{w:World}{cs:List Value}{x:mP}(h:Rp.rep F w cs x):∃ (a:OA)(b:Nat)(c:OA)(d:Nat)(e:OA)(f:Nat)(i:OA)(j:Nat),cs=[Vi x.a,.slice a x.c.length b,Vi x.b.b,Vi x.b.A,Vi x.b.N,.slice c x.b.a.length d,Vi x.b.d.a.b,.slice e x.b.d.a.a.length f,Vi x.b.d.b.b,.slice i x.b.d.b.a.length j]/\kD F w a b x.c/\kD F w c d x.b.a/\kD F w e f x.b.d.a.a/\kD F w i j x.b.d.b.a:=h
theorem mP.inn {F:Nat->Prop}{w:World}{cs:List Value}{x:mP}(h:∃ (a:OA) (b:Nat) (c:OA) (d:Nat) (e:OA) (f:Nat) (i:OA) (j:Nat),cs=[Vi x.a,.slice a x.c.length b,Vi x.b.b,Vi x.b.A,Vi x.b.N,.slice c x.b.a.length d,Vi x.b.d.a.b,.slice e x.b.d.a.a.length f,Vi x.b.d.b.b,.slice i x.b.d.b.a.length j]/\kD F w a b x.c/\kD F w c d x.b.a/\kD F w e f x.b.d.a.a/\kD F w i j x.b.d.b.a):Rp.rep F w cs x:=h
structure Ck where
 a:Int
 b:Int
 k:Int
instance:Rp Ck:=⟨3,24,fun _ _ cs x=>cs=[Vi x.a,Vi x.b,Vi x.k],fun h=>by rw [h];rfl,fun h=>by rw [h];rfl,fun h _=>h⟩
structure CR where
 d:Int
 f:Int
 a:Int
instance:Rp CR:=⟨3,24,fun _ _ cs x=>cs=[Vi x.d,Vi x.f,Vi x.a],fun h=>by rw [h];rfl,fun h=>by rw [h];rfl,fun h _=>h⟩
structure p8 where
 a:Int
 b:(List mP)
 c:(List Ck)
 d:(List CR)
instance:Rp p8:=⟨4,80,fun F w cs x=>∃ (a1:OA)(c1:Nat)(a2:OA)(c2:Nat)(a3:OA)(c3:Nat),cs=[Vi x.a,.slice a1 x.b.length c1,.slice a2 x.c.length c2,.slice a3 x.d.length c3]/\kD F w a1 c1 x.b/\kD F w a2 c2 x.c/\kD F w a3 c3 x.d,fun h=>by obtain ⟨a1,c1,a2,c2,a3,c3,rfl,_⟩:=h;rfl,fun h=>by obtain ⟨a1,c1,a2,c2,a3,c3,rfl,_⟩:=h;rfl,fun h m=>by obtain ⟨a1,c1,a2,c2,a3,c3,h,k1,k2,k3⟩:=h;exact ⟨a1,c1,a2,c2,a3,c3,h,k1.mv m,k2.mv m,k3.mv m⟩⟩
theorem p8.out {F:Nat->Prop}{w:World}{cs:List Value}{x:p8}(h:Rp.rep F w cs x):∃ (a:OA)(b:Nat)(c:OA)(d:Nat)(e:OA)(f:Nat),cs=[Vi x.a,.slice a x.b.length b,.slice c x.c.length d,.slice e x.d.length f]/\kD F w a b x.b/\kD F w c d x.c/\kD F w e f x.d:=h
theorem p8.inn {F:Nat->Prop}{w:World}{cs:List Value}{x:p8}(h:∃ (a:OA) (b:Nat) (c:OA) (d:Nat) (e:OA) (f:Nat),cs=[Vi x.a,.slice a x.b.length b,.slice c x.c.length d,.slice e x.d.length f]/\kD F w a b x.b/\kD F w c d x.c/\kD F w e f x.d):Rp.rep F w cs x:=h
structure Ec where
 b:(List p8)
instance:Rp Ec:=⟨1,24,fun F w cs x=>∃ (a1:OA)(c1:Nat),cs=[.slice a1 x.b.length c1]/\kD F w a1 c1 x.b,fun h=>by obtain ⟨a1,c1,rfl,_⟩:=h;rfl,fun h=>by obtain ⟨a1,c1,rfl,_⟩:=h;rfl,fun h m=>by obtain ⟨a1,c1,h,k1⟩:=h;exact ⟨a1,c1,h,k1.mv m⟩⟩
theorem Ec.out {F:Nat->Prop}{w:World}{cs:List Value}{x:Ec}(h:Rp.rep F w cs x):∃ (a:OA)(b:Nat),cs=[.slice a x.b.length b]/\kD F w a b x.b:=h
theorem Ec.inn {F:Nat->Prop}{w:World}{cs:List Value}{x:Ec}(h:∃ (a:OA) (b:Nat),cs=[.slice a x.b.length b]/\kD F w a b x.b):Rp.rep F w cs x:=h
section
variable {ρ:Operand->Value}{w:World}{d:Option Nat}{ty:TypeId}{pos:String}{af:Array Edge}{g:Option (Nat × Bool)}
theorem Va {a b c e f h i j k l m n o p q r s t u v x y z A B C D E F G H I}(J:ρ s=Vi a)(K:ρ t=Vi b)(L:ρ u=Vi c)(M:ρ v=Vi e)(N:ρ x=Vi f)(O:ρ y=Vi h)(P:ρ z=Vi i)(Q:ρ A=Vi j)(R:ρ B=Vi k)(S:ρ C=Vi l)(T:ρ D=Vi m)(U:ρ E=Vi n)(V:ρ F=Vi o)(W:ρ G=Vi p)(X:ρ H=Vi q)(Y:ρ I=Vi r):(execOp ρ ⟨d,.buildSlice 22 16 #[(0,s),(1,t),(2,u),(3,v),(4,x),(5,y),(6,z),(7,A),(8,B),(9,C),(10,D),(11,E),(12,F),(13,G),(14,H),(15,I)],ty,pos,af,g⟩).run prog w=.ok (.value (.slice (some ⟨w.heap.size,0,none⟩) 16 16)) (w.alloc (.cells #[Vi a,Vi b,Vi c,Vi e,Vi f,Vi h,Vi i,Vi j,Vi k,Vi l,Vi m,Vi n,Vi o,Vi p,Vi q,Vi r] 3)):=by simp [execOp,J,K,L,M,N,O,P,Q,R,S,T,U,V,W,X,Y];kernel_rfl
theorem IE {a b c e f h i j k l m n o p q r s t u v x y z A}(B:ρ o=Vt a)(C:ρ p=Vt b)(D:ρ q=Vt c)(E:ρ r=Vt e)(F:ρ s=Vt f)(G:ρ t=Vt h)(H:ρ u=Vt i)(I:ρ v=Vt j)(J:ρ x=Vt k)(K:ρ y=Vt l)(L:ρ z=Vt m)(M:ρ A=Vt n):(execOp ρ ⟨d,.buildSlice 58 12 #[(0,o),(1,p),(2,q),(3,r),(4,s),(5,t),(6,u),(7,v),(8,x),(9,y),(10,z),(11,A)],ty,pos,af,g⟩).run prog w=.ok (.value (.slice (some ⟨w.heap.size,0,none⟩) 12 12)) (w.alloc (.cells #[Vt a,Vt b,Vt c,Vt e,Vt f,Vt h,Vt i,Vt j,Vt k,Vt l,Vt m,Vt n] 9)):=by simp [execOp,B,C,D,E,F,G,H,I,J,K,L,M];kernel_rfl
theorem VH {a b c e f h}(i:ρ e=Vt a)(j:ρ f=Vt b)(k:ρ h=Vt c):(execOp ρ ⟨d,.buildSlice 58 3 #[(0,e),(1,f),(2,h)],ty,pos,af,g⟩).run prog w=.ok (.value (.slice (some ⟨w.heap.size,0,none⟩) 3 3)) (w.alloc (.cells #[Vt a,Vt b,Vt c] 9)):=by simp [execOp,i,j,k];kernel_rfl
theorem RI {a b c e f h i j k l m n o p q r s t u v x y z A B C D E F G H I J K L M N O P Q R S}(T:ρ y=.int .u8 a)(U:ρ z=.int .u8 b)(V:ρ A=.int .u8 c)(W:ρ B=.int .u8 e)(X:ρ C=.int .u8 f)(Y:ρ D=.int .u8 h)(Z:ρ E=.int .u8 i)(Aa:ρ F=.int .u8 j)(Ab:ρ G=.int .u8 k)(Ac:ρ H=.int .u8 l)(Ad:ρ I=.int .u8 m)(Ae:ρ J=.int .u8 n)(Af:ρ K=.int .u8 o)(Ag:ρ L=.int .u8 p)(Ah:ρ M=.int .u8 q)(Ai:ρ N=.int .u8 r)(Aj:ρ O=.int .u8 s)(Ak:ρ P=.int .u8 t)(Al:ρ Q=.int .u8 u)(Am:ρ R=.int .u8 v)(An:ρ S=.int .u8 x):(execOp ρ ⟨d,.buildSlice 208 21 #[(0,y),(1,z),(2,A),(3,B),(4,C),(5,D),(6,E),(7,F),(8,G),(9,H),(10,I),(11,J),(12,K),(13,L),(14,M),(15,N),(16,O),(17,P),(18,Q),(19,R),(20,S)],ty,pos,af,g⟩).run prog w=.ok (.value (.slice (some ⟨w.heap.size,0,none⟩) 21 21)) (w.alloc (.cells #[.int .u8 a,.int .u8 b,.int .u8 c,.int .u8 e,.int .u8 f,.int .u8 h,.int .u8 i,.int .u8 j,.int .u8 k,.int .u8 l,.int .u8 m,.int .u8 n,.int .u8 o,.int .u8 p,.int .u8 q,.int .u8 r,.int .u8 s,.int .u8 t,.int .u8 u,.int .u8 v,.int .u8 x] 5)):=by simp [execOp,T,U,V,W,X,Y,Z,Aa,Ab,Ac,Ad,Ae,Af,Ag,Ah,Ai,Aj,Ak,Al,Am,An];kernel_rfl
theorem IC {a b c e}(f:ρ c=Vi a)(h:ρ e=Vt b):Yl prog ρ (.build 166 #[(0,c),(3,e)]) d ty pos af g w (.agg #[Vi a,Vi 0,Vi 0,Vt b,Vt be,sn]):=by simp [Yl,execOp,f,h];kernel_rfl
theorem ND {a b c e}(f:ρ c=Vi a)(h:ρ e=Vi b):Yl prog ρ (.build 166 #[(0,c),(1,e)]) d ty pos af g w (.agg #[Vi a,Vi b,Vi 0,Vt be,Vt be,sn]):=by simp [Yl,execOp,f,h];kernel_rfl
theorem NN :Yl prog ρ (.build 137 #[]) d ty pos af g w (.agg #[Vi 0,Vi 0,Vt be,Vi 0]):=by simp [Yl,execOp];kernel_rfl
theorem E8 {a b c e f h}(i:ρ e=Vi a)(j:ρ f=Vi b)(k:ρ h=Vt c):Yl prog ρ (.build 137 #[(0,e),(1,f),(2,h)]) d ty pos af g w (.agg #[Vi a,Vi b,Vt c,Vi 0]):=by simp [Yl,execOp,i,j,k];kernel_rfl
theorem Rc {a b c e f h}(i:ρ e=Vi a)(j:ρ f=Vi b)(k:ρ h=Vi c):Yl prog ρ (.build 137 #[(0,e),(1,f),(3,h)]) d ty pos af g w (.agg #[Vi a,Vi b,Vt be,Vi c]):=by simp [Yl,execOp,i,j,k];kernel_rfl
theorem QL {a b c e f}(h:ρ f=.agg #[Vi a,Vi b,Vt c,Vi e]):(execOp ρ ⟨d,.buildSlice 94 1 #[(0,f)],ty,pos,af,g⟩).run prog w=.ok (.value (.slice (some ⟨w.heap.size,0,none⟩) 1 1)) (w.alloc (.cells #[Vi a,Vi b,Vt c,Vi e] 137)):=by simp [execOp,h];kernel_rfl
theorem UM {a b c e}(f:ρ c=Vi a)(h:ρ e=Vi b):Yl prog ρ (.build 137 #[(0,c),(1,e)]) d ty pos af g w (.agg #[Vi a,Vi b,Vt be,Vi 0]):=by simp [Yl,execOp,f,h];kernel_rfl
theorem U1 {a b}(c:ρ b=.int .u8 a):(execOp ρ ⟨d,.buildSlice 208 1 #[(0,b)],ty,pos,af,g⟩).run prog w=.ok (.value (.slice (some ⟨w.heap.size,0,none⟩) 1 1)) (w.alloc (.cells #[.int .u8 a] 5)):=by simp [execOp,c];kernel_rfl
theorem BQ {a b}(c:ρ b=Vt a):(execOp ρ ⟨d,.buildSlice 58 1 #[(0,b)],ty,pos,af,g⟩).run prog w=.ok (.value (.slice (some ⟨w.heap.size,0,none⟩) 1 1)) (w.alloc (.cells #[Vt a] 9)):=by simp [execOp,c];kernel_rfl
theorem Vg {a b c e f h i j k l m n o p q r s t u v x y z A}(B:ρ o=Vi a)(C:ρ p=Vi b)(D:ρ q=Vi c)(E:ρ r=Vi e)(F:ρ s=Vi f)(G:ρ t=Vi h)(H:ρ u=Vi i)(I:ρ v=Vi j)(J:ρ x=Vi k)(K:ρ y=Vi l)(L:ρ z=Vi m)(M:ρ A=Vi n):(execOp ρ ⟨d,.buildSlice 22 12 #[(0,o),(1,p),(2,q),(3,r),(4,s),(5,t),(6,u),(7,v),(8,x),(9,y),(10,z),(11,A)],ty,pos,af,g⟩).run prog w=.ok (.value (.slice (some ⟨w.heap.size,0,none⟩) 12 12)) (w.alloc (.cells #[Vi a,Vi b,Vi c,Vi e,Vi f,Vi h,Vi i,Vi j,Vi k,Vi l,Vi m,Vi n] 3)):=by simp [execOp,B,C,D,E,F,G,H,I,J,K,L,M];kernel_rfl
theorem X6 {a b c e f h i j k l m n o p}(q:ρ j=Vt a)(r:ρ k=Vt b)(s:ρ l=Vt c)(t:ρ m=Vt e)(u:ρ n=Vt f)(v:ρ o=Vt h)(x:ρ p=Vt i):(execOp ρ ⟨d,.buildSlice 58 7 #[(0,j),(1,k),(2,l),(3,m),(4,n),(5,o),(6,p)],ty,pos,af,g⟩).run prog w=.ok (.value (.slice (some ⟨w.heap.size,0,none⟩) 7 7)) (w.alloc (.cells #[Vt a,Vt b,Vt c,Vt e,Vt f,Vt h,Vt i] 9)):=by simp [execOp,q,r,s,t,u,v,x];kernel_rfl
theorem xV {a b c e f h i j k l m n o p q r s t}(u:ρ s=.agg #[Vi a,Vi b,Vi c,Vt e,Vt f,.slice h i j])(v:ρ t=.agg #[Vi k,Vi l,Vi m,Vt n,Vt o,.slice p q r]):(execOp ρ ⟨d,.buildSlice 113 2 #[(0,s),(1,t)],ty,pos,af,g⟩).run prog w=.ok (.value (.slice (some ⟨w.heap.size,0,none⟩) 2 2)) (w.alloc (.cells #[Vi a,Vi b,Vi c,Vt e,Vt f,.slice h i j,Vi k,Vi l,Vi m,Vt n,Vt o,.slice p q r] 166)):=by simp [execOp,u,v];kernel_rfl
theorem uR {a b c e f h}(i:ρ f=Vi a)(j:ρ h=.slice b c e):Yl prog ρ (.build 166 #[(0,f),(5,h)]) d ty pos af g w (.agg #[Vi a,Vi 0,Vi 0,Vt be,Vt be,.slice b c e]):=by simp [Yl,execOp,i,j];kernel_rfl
theorem Tn :Yl prog ρ (.build 166 #[]) d ty pos af g w (.agg #[Vi 0,Vi 0,Vi 0,Vt be,Vt be,sn]):=by simp [Yl,execOp];kernel_rfl
theorem xB {a b c e}(f:ρ c=Vt a)(h:ρ e=Vt b):(execOp ρ ⟨d,.buildSlice 58 2 #[(0,c),(1,e)],ty,pos,af,g⟩).run prog w=.ok (.value (.slice (some ⟨w.heap.size,0,none⟩) 2 2)) (w.alloc (.cells #[Vt a,Vt b] 9)):=by simp [execOp,f,h];kernel_rfl
theorem kY {a b c e f h i j k}(l:ρ k=.agg #[Vi a,Vi b,Vi c,Vt e,Vt f,.slice h i j]):(execOp ρ ⟨d,.buildSlice 113 1 #[(0,k)],ty,pos,af,g⟩).run prog w=.ok (.value (.slice (some ⟨w.heap.size,0,none⟩) 1 1)) (w.alloc (.cells #[Vi a,Vi b,Vi c,Vt e,Vt f,.slice h i j] 166)):=by simp [execOp,l];kernel_rfl
theorem vG {a b c e f h}(i:ρ e=Vi a)(j:ρ f=Vt b)(k:ρ h=Vt c):Yl prog ρ (.build 166 #[(0,e),(3,f),(4,h)]) d ty pos af g w (.agg #[Vi a,Vi 0,Vi 0,Vt b,Vt c,sn]):=by simp [Yl,execOp,i,j,k];kernel_rfl
theorem EW {a b c e f h i j}(k:ρ h=Vi a)(l:ρ i=Vt b)(m:ρ j=.slice c e f):Yl prog ρ (.build 166 #[(0,h),(3,i),(5,j)]) d ty pos af g w (.agg #[Vi a,Vi 0,Vi 0,Vt b,Vt be,.slice c e f]):=by simp [Yl,execOp,k,l,m];kernel_rfl
theorem sM {a b c e f h i j k l m n o p q r s t u v x y}(z:ρ y=.agg #[Vi a,Vi b,Vi c,Vt e,Vt f,Vi h,Vi i,.slice j k l,Vt m,Vi n,.slice o p q,.slice r s t,.slice u v x]):(execOp ρ ⟨d,.buildSlice 59 1 #[(0,y)],ty,pos,af,g⟩).run prog w=.ok (.value (.slice (some ⟨w.heap.size,0,none⟩) 1 1)) (w.alloc (.cells #[Vi a,Vi b,Vi c,Vt e,Vt f,Vi h,Vi i,.slice j k l,Vt m,Vi n,.slice o p q,.slice r s t,.slice u v x] 115)):=by simp [execOp,z];kernel_rfl
theorem Y0 {a b}(c:ρ b=Vi a):Yl prog ρ (.build 115 #[(1,b)]) d ty pos af g w (.agg #[Vi 0,Vi a,Vi 0,Vt be,Vt be,Vi 0,Vi 0,sn,Vt be,Vi 0,sn,sn,sn]):=by simp [Yl,execOp,c];kernel_rfl
theorem Yu {a b}(c:ρ b=Vt a):Yl prog ρ (.build 143 #[(0,b)]) d ty pos af g w (.agg #[Vt a,sn]):=by simp [Yl,execOp,c];kernel_rfl
theorem Q5 {a b c e f}(h:ρ f=.agg #[Vt a,.slice b c e]):(execOp ρ ⟨d,.buildSlice 23 1 #[(0,f)],ty,pos,af,g⟩).run prog w=.ok (.value (.slice (some ⟨w.heap.size,0,none⟩) 1 1)) (w.alloc (.cells #[Vt a,.slice b c e] 143)):=by simp [execOp,h];kernel_rfl
theorem acG {a b}(c:ρ b=Vi a):Yl prog ρ (.build 61 #[(1,b)]) d ty pos af g w (.agg #[Vt be,Vi a,sn,sn]):=by simp [Yl,execOp,c];kernel_rfl
theorem U7 {a b c e}(f:ρ c=Vi a)(h:ρ e=Vi b):Yl prog ρ (.build 115 #[(0,c),(1,e)]) d ty pos af g w (.agg #[Vi a,Vi b,Vi 0,Vt be,Vt be,Vi 0,Vi 0,sn,Vt be,Vi 0,sn,sn,sn]):=by simp [Yl,execOp,f,h];kernel_rfl
theorem PU {a b c e f h i j k}(l:ρ k=.agg #[Vt a,Vi b,.slice c e f,.slice h i j]):(execOp ρ ⟨d,.buildSlice 24 1 #[(0,k)],ty,pos,af,g⟩).run prog w=.ok (.value (.slice (some ⟨w.heap.size,0,none⟩) 1 1)) (w.alloc (.cells #[Vt a,Vi b,.slice c e f,.slice h i j] 61)):=by simp [execOp,l];kernel_rfl
theorem ZG :Yl prog ρ (.build 26 #[]) d ty pos af g w (.agg #[sn,sn]):=by simp [Yl,execOp];kernel_rfl
theorem acD {a b c e}(f:ρ e=.slice a b c):Yl prog ρ (.build 99 #[(0,e)]) d ty pos af g w (.agg #[.slice a b c,Vi 0,Vi 0,Vi 0]):=by simp [Yl,execOp,f];kernel_rfl
theorem rR {a b c e f h i j}(k:ρ f=Vt a)(l:ρ h=Vt b)(m:ρ i=Vt c)(n:ρ j=Vt e):(execOp ρ ⟨d,.buildSlice 58 4 #[(0,f),(1,h),(2,i),(3,j)],ty,pos,af,g⟩).run prog w=.ok (.value (.slice (some ⟨w.heap.size,0,none⟩) 4 4)) (w.alloc (.cells #[Vt a,Vt b,Vt c,Vt e] 9)):=by simp [execOp,k,l,m,n];kernel_rfl
theorem Ni {a b c e}(f:ρ c=Vi a)(h:ρ e=Vt b):Yl prog ρ (.build 115 #[(0,c),(3,e)]) d ty pos af g w (.agg #[Vi a,Vi 0,Vi 0,Vt b,Vt be,Vi 0,Vi 0,sn,Vt be,Vi 0,sn,sn,sn]):=by simp [Yl,execOp,f,h];kernel_rfl
theorem HZ {a b}(c:ρ b=Vi a):Yl prog ρ (.build 115 #[(0,b)]) d ty pos af g w (.agg #[Vi a,Vi 0,Vi 0,Vt be,Vt be,Vi 0,Vi 0,sn,Vt be,Vi 0,sn,sn,sn]):=by simp [Yl,execOp,c];kernel_rfl
theorem qO {a b c e f h}(i:ρ f=Vi a)(j:ρ h=.slice b c e):Yl prog ρ (.build 115 #[(0,f),(10,h)]) d ty pos af g w (.agg #[Vi a,Vi 0,Vi 0,Vt be,Vt be,Vi 0,Vi 0,sn,Vt be,Vi 0,.slice b c e,sn,sn]):=by simp [Yl,execOp,i,j];kernel_rfl
theorem mR :(execOp ρ ⟨d,.buildSlice 58 0 #[],ty,pos,af,g⟩).run prog w=.ok (.value (.slice (some ⟨w.heap.size,0,none⟩) 0 0)) (w.alloc (.cells #[] 9)):=by simp [execOp];kernel_rfl
theorem OB {a b c e f h i j k l}(m:ρ j=Vi a)(n:ρ k=.slice b c e)(o:ρ l=.slice f h i):Yl prog ρ (.build 115 #[(0,j),(7,k),(10,l)]) d ty pos af g w (.agg #[Vi a,Vi 0,Vi 0,Vt be,Vt be,Vi 0,Vi 0,.slice b c e,Vt be,Vi 0,.slice f h i,sn,sn]):=by simp [Yl,execOp,m,n,o];kernel_rfl
theorem Xh {a b c e f h i j k l m n o p q r s t u v x y z A B C D E F G H I J K L M N O P Q R S T U}(V:ρ T=.agg #[Vi a,Vi b,Vi c,Vt e,Vt f,Vi h,Vi i,.slice j k l,Vt m,Vi n,.slice o p q,.slice r s t,.slice u v x])(W:ρ U=.agg #[Vi y,Vi z,Vi A,Vt B,Vt C,Vi D,Vi E,.slice F G H,Vt I,Vi J,.slice K L M,.slice N O P,.slice Q R S]):(execOp ρ ⟨d,.buildSlice 59 2 #[(0,T),(1,U)],ty,pos,af,g⟩).run prog w=.ok (.value (.slice (some ⟨w.heap.size,0,none⟩) 2 2)) (w.alloc (.cells #[Vi a,Vi b,Vi c,Vt e,Vt f,Vi h,Vi i,.slice j k l,Vt m,Vi n,.slice o p q,.slice r s t,.slice u v x,Vi y,Vi z,Vi A,Vt B,Vt C,Vi D,Vi E,.slice F G H,Vt I,Vi J,.slice K L M,.slice N O P,.slice Q R S] 115)):=by simp [execOp,V,W];kernel_rfl
theorem Mf {a b c e f h i j k l}(m:ρ j=Vi a)(n:ρ k=.slice b c e)(o:ρ l=.slice f h i):Yl prog ρ (.build 115 #[(0,j),(10,k),(11,l)]) d ty pos af g w (.agg #[Vi a,Vi 0,Vi 0,Vt be,Vt be,Vi 0,Vi 0,sn,Vt be,Vi 0,.slice b c e,.slice f h i,sn]):=by simp [Yl,execOp,m,n,o];kernel_rfl
theorem Yy {a b c e}(f:ρ e=.slice a b c):Yl prog ρ (.build 159 #[(0,e)]) d ty pos af g w (.agg #[.slice a b c,Vi 0]):=by simp [Yl,execOp,f];kernel_rfl
theorem UN {a b c e f h}(i:ρ f=Vt a)(j:ρ h=.slice b c e):Yl prog ρ (.build 143 #[(0,f),(1,h)]) d ty pos af g w (.agg #[Vt a,.slice b c e]):=by simp [Yl,execOp,i,j];kernel_rfl
theorem ace {a b c e}(f:ρ e=.slice a b c):Yl prog ρ (.build 26 #[(0,e)]) d ty pos af g w (.agg #[.slice a b c,sn]):=by simp [Yl,execOp,f];kernel_rfl
theorem Xz {a b c e f h i j}(k:ρ f=Vi a)(l:ρ h=Vi b)(m:ρ i=Vi c)(n:ρ j=Vi e):(execOp ρ ⟨d,.buildSlice 22 4 #[(0,f),(1,h),(2,i),(3,j)],ty,pos,af,g⟩).run prog w=.ok (.value (.slice (some ⟨w.heap.size,0,none⟩) 4 4)) (w.alloc (.cells #[Vi a,Vi b,Vi c,Vi e] 3)):=by simp [execOp,k,l,m,n];kernel_rfl
theorem Jz {a b c e f h i j k l m n}(o:ρ j=.pointer a)(p:ρ k=Vi b)(q:ρ l=Vi c)(r:ρ m=.slice e f h)(s:ρ n=Vi i):Yl prog ρ (.build 163 #[(0,j),(1,k),(2,l),(3,m),(8,n)]) d ty pos af g w (.agg #[.pointer a,Vi b,Vi c,.slice e f h,sn,sn,sn,Vi 0,Vi i]):=by simp [Yl,execOp,o,p,q,r,s];kernel_rfl
theorem uM {a b c e f h}(i:ρ f=Vt a)(j:ρ h=.slice b c e):Yl prog ρ (.build 61 #[(0,f),(2,h)]) d ty pos af g w (.agg #[Vt a,Vi 0,.slice b c e,sn]):=by simp [Yl,execOp,i,j];kernel_rfl
theorem Kl {a b}(c:ρ b=Vi a):(execOp ρ ⟨d,.buildSlice 22 1 #[(0,b)],ty,pos,af,g⟩).run prog w=.ok (.value (.slice (some ⟨w.heap.size,0,none⟩) 1 1)) (w.alloc (.cells #[Vi a] 3)):=by simp [execOp,c];kernel_rfl
theorem WC {a b c e f h i j}(k:ρ j=.agg #[Vt a,Vi b,Vi c,Vi e,.bool f,Vi h,Vi i]):(execOp ρ ⟨d,.buildSlice 53 1 #[(0,j)],ty,pos,af,g⟩).run prog w=.ok (.value (.slice (some ⟨w.heap.size,0,none⟩) 1 1)) (w.alloc (.cells #[Vt a,Vi b,Vi c,Vi e,.bool f,Vi h,Vi i] 55)):=by simp [execOp,k];kernel_rfl
theorem Qy :(execOp ρ ⟨d,.buildSlice 22 0 #[],ty,pos,af,g⟩).run prog w=.ok (.value (.slice (some ⟨w.heap.size,0,none⟩) 0 0)) (w.alloc (.cells #[] 3)):=by simp [execOp];kernel_rfl
theorem Ti {a b c e f h}(i:ρ e=Vi a)(j:ρ f=Vi b)(k:ρ h=Vi c):Yl prog ρ (.build 78 #[(0,e),(1,f),(2,h)]) d ty pos af g w (.agg #[Vi a,Vi b,Vi c]):=by simp [Yl,execOp,i,j,k];kernel_rfl
theorem Vz {a b c e}(f:ρ e=.agg #[Vi a,Vi b,Vi c]):(execOp ρ ⟨d,.buildSlice 28 1 #[(0,e)],ty,pos,af,g⟩).run prog w=.ok (.value (.slice (some ⟨w.heap.size,0,none⟩) 1 1)) (w.alloc (.cells #[Vi a,Vi b,Vi c] 78)):=by simp [execOp,f];kernel_rfl
theorem EN {a b c e f h i j k l}(m:ρ h=Vt a)(n:ρ i=Vi b)(o:ρ j=Vi c)(p:ρ k=Vi e)(q:ρ l=Vi f):Yl prog ρ (.build 55 #[(0,h),(1,i),(2,j),(3,k),(5,l)]) d ty pos af g w (.agg #[Vt a,Vi b,Vi c,Vi e,.bool false,Vi f,Vi 0]):=by simp [Yl,execOp,m,n,o,p,q];kernel_rfl
theorem IJ {a b c e f h i j k l m n}(o:ρ i=Vt a)(p:ρ j=Vi b)(q:ρ k=Vi c)(r:ρ l=Vi e)(s:ρ m=.bool f)(t:ρ n=Vi h):Yl prog ρ (.build 55 #[(0,i),(1,j),(2,k),(3,l),(4,m),(5,n)]) d ty pos af g w (.agg #[Vt a,Vi b,Vi c,Vi e,.bool f,Vi h,Vi 0]):=by simp [Yl,execOp,o,p,q,r,s,t];kernel_rfl
theorem Xc :(execOp ρ ⟨d,.buildSlice 24 0 #[],ty,pos,af,g⟩).run prog w=.ok (.value (.slice (some ⟨w.heap.size,0,none⟩) 0 0)) (w.alloc (.cells #[] 61)):=by simp [execOp];kernel_rfl
theorem Wq {a b c e f h i j}(k:ρ i=.slice a b c)(l:ρ j=.slice e f h):Yl prog ρ (.build 26 #[(0,i),(1,j)]) d ty pos af g w (.agg #[.slice a b c,.slice e f h]):=by simp [Yl,execOp,k,l];kernel_rfl
theorem acC {a b c e f h i}(j:ρ i=.agg #[.slice a b c,.slice e f h]):Yl prog ρ (.build 30 #[(0,i)]) d ty pos af g w (.agg #[.slice a b c,.slice e f h,sn,sn]):=by simp [Yl,execOp,j];kernel_rfl
theorem YH {a b c e f h i j k l m n o}(p:ρ o=.agg #[.slice a b c,.slice e f h,.slice i j k,.slice l m n]):Yl prog ρ (.build 103 #[(0,o)]) d ty pos af g w (.agg #[.slice a b c,.slice e f h,.slice i j k,.slice l m n,Vi 0,sn,Vi 0,Vi 0]):=by simp [Yl,execOp,p];kernel_rfl
theorem Xd {a b c e}(f:ρ e=.slice a b c):(execOp ρ ⟨d,.buildSlice 27 1 #[(0,e)],ty,pos,af,g⟩).run prog w=.ok (.value (.slice (some ⟨w.heap.size,0,none⟩) 1 1)) (w.alloc (.cells #[.slice a b c] 53)):=by simp [execOp,f];kernel_rfl
theorem ZQ :Yl prog ρ (.build 30 #[]) d ty pos af g w (.agg #[sn,sn,sn,sn]):=by simp [Yl,execOp];kernel_rfl
theorem Hz :(execOp ρ ⟨d,.buildSlice 62 0 #[],ty,pos,af,g⟩).run prog w=.ok (.value (.slice (some ⟨w.heap.size,0,none⟩) 0 0)) (w.alloc (.cells #[] 73)):=by simp [execOp];kernel_rfl
theorem Dr {a b c e f h i j k l m n}(o:ρ n=.agg #[Vi a,Vi b,Vi c,Vi e,Vi f,Vi h,Vi i,Vi j,Vi k,Vi l,Vi m]):(execOp ρ ⟨d,.buildSlice 62 1 #[(0,n)],ty,pos,af,g⟩).run prog w=.ok (.value (.slice (some ⟨w.heap.size,0,none⟩) 1 1)) (w.alloc (.cells #[Vi a,Vi b,Vi c,Vi e,Vi f,Vi h,Vi i,Vi j,Vi k,Vi l,Vi m] 73)):=by simp [execOp,o];kernel_rfl
end
theorem oW:TI prog 3 (Vi 0) 1 8:=oq (by kernel_rfl)
theorem ti5:TI prog 5 (.int .u8 0) 1 1:=oq (by kernel_rfl)
theorem ql:TI prog 9 (Vt be) 1 16:=oq (by kernel_rfl)
theorem Iq:TI prog 22 sn 1 24:=oq (by kernel_rfl)
theorem adR:TI prog 23 sn 1 24:=oq (by kernel_rfl)
theorem acz:TI prog 24 sn 1 24:=oq (by kernel_rfl)
theorem u6:TI prog 26 (.agg #[sn,sn]) 2 48:=oq (by kernel_rfl)
theorem adz:TI prog 27 sn 1 24:=oq (by kernel_rfl)
theorem aeb:TI prog 28 sn 1 24:=oq (by kernel_rfl)
theorem zq:TI prog 30 (.agg #[sn,sn,sn,sn]) 4 96:=oq (by kernel_rfl)
theorem aef:TI prog 34 sn 1 24:=oq (by kernel_rfl)
theorem Pd:TI prog 36 (.agg #[sn]) 1 24:=oq (by kernel_rfl)
theorem Qv:TI prog 37 (Vi 0) 1 8:=oq (by kernel_rfl)
theorem adE:TI prog 48 sn 1 24:=oq (by kernel_rfl)
theorem QG:TI prog 52 (.agg #[Vi 0,sn,sn,sn]) 4 80:=oq (by kernel_rfl)
theorem Em:TI prog 53 sn 1 24:=oq (by kernel_rfl)
theorem uo:TI prog 55 (.agg #[Vt be,Vi 0,Vi 0,Vi 0,.bool false,Vi 0,Vi 0]) 7 64:=oq (by kernel_rfl)
theorem pG:TI prog 58 sn 1 24:=oq (by kernel_rfl)
theorem Df:TI prog 59 sn 1 24:=oq (by kernel_rfl)
theorem oO:TI prog 61 (.agg #[Vt be,Vi 0,sn,sn]) 4 72:=oq (by kernel_rfl)
theorem adn:TI prog 62 sn 1 24:=oq (by kernel_rfl)
theorem Oz:TI prog 69 (.agg #[Vi 0,sn,Vi 0,Vi 0,Vi 0,sn,Vi 0,sn,Vi 0,sn]) 10 144:=oq (by kernel_rfl)
theorem aaP:TI prog 71 (.agg #[Vi 0,Vi 0,Vi 0]) 3 24:=oq (by kernel_rfl)
theorem rZ:TI prog 73 (.agg #[Vi 0,Vi 0,Vi 0,Vi 0,Vi 0,Vi 0,Vi 0,Vi 0,Vi 0,Vi 0,Vi 0]) 11 88:=oq (by kernel_rfl)
theorem afU:TI prog 78 (.agg #[Vi 0,Vi 0,Vi 0]) 3 24:=oq (by kernel_rfl)
theorem afy:TI prog 94 sn 1 24:=oq (by kernel_rfl)
theorem wP:TI prog 113 sn 1 24:=oq (by kernel_rfl)
theorem jS:TI prog 115 (.agg #[Vi 0,Vi 0,Vi 0,Vt be,Vt be,Vi 0,Vi 0,sn,Vt be,Vi 0,sn,sn,sn]) 13 192:=oq (by kernel_rfl)
theorem qI:TI prog 137 (.agg #[Vi 0,Vi 0,Vt be,Vi 0]) 4 40:=oq (by kernel_rfl)
theorem yI:TI prog 143 (.agg #[Vt be,sn]) 2 40:=oq (by kernel_rfl)
theorem adv:TI prog 157 (.pointer none) 1 8:=oq (by kernel_rfl)
theorem jU:TI prog 166 (.agg #[Vi 0,Vi 0,Vi 0,Vt be,Vt be,sn]) 6 80:=oq (by kernel_rfl)
theorem vg {n:Nat} {f:Func} (h:prog.funcs[n]?=some f) (a:(f.name=="runtime.NumGoroutine")=false:=by kernel_rfl) (b:f.body.isNone=false:=by kernel_rfl):jC prog n:=⟨_,h,a,b⟩
theorem ae8:jC prog 9:=vg func9
theorem aah:jC prog 10:=vg func10
theorem aam:jC prog 11:=vg func11
theorem aaq:jC prog 14:=vg func14
theorem aae:jC prog 15:=vg func15
theorem aez:jC prog 17:=vg func17
theorem adZ:jC prog 18:=vg func18
theorem aes:jC prog 20:=vg func20
theorem acR:jC prog 21:=vg func21
theorem adu:jC prog 22:=vg func22
theorem adb:jC prog 27:=vg func27
theorem aeF:jC prog 28:=vg func28
theorem acY:jC prog 29:=vg func29
theorem Z0:jC prog 30:=vg func30
theorem ZP:jC prog 32:=vg func32
theorem adf:jC prog 33:=vg func33
theorem adN:jC prog 34:=vg func34
theorem aap:jC prog 48:=vg func48
theorem acU:jC prog 49:=vg func49
theorem xq:jC prog 50:=vg func50
theorem FV:jC prog 51:=vg func51
theorem yc:jC prog 52:=vg func52
theorem Z6:jC prog 53:=vg func53
theorem M8:jC prog 54:=vg func54
theorem Ib:jC prog 55:=vg func55
theorem Ig:jC prog 56:=vg func56
theorem Bq:jC prog 57:=vg func57
theorem VD:jC prog 58:=vg func58
theorem TH:jC prog 59:=vg func59
theorem aai:jC prog 63:=vg func63
theorem NC:jC prog 64:=vg func64
theorem oU:jC prog 65:=vg func65
theorem aad:jC prog 66:=vg func66
theorem Jr:jC prog 67:=vg func67
theorem acP:jC prog 68:=vg func68
theorem Xm:jC prog 73:=vg func73
theorem VW:jC prog 74:=vg func74
theorem ad8:jC prog 75:=vg func75
theorem ac8:jC prog 76:=vg func76
theorem adC:jC prog 77:=vg func77
theorem adF:jC prog 78:=vg func78
theorem ZJ:jC prog 79:=vg func79
theorem adk:jC prog 80:=vg func80
theorem Jy:jC prog 90:=vg func90
theorem Nc:jC prog 91:=vg func91
theorem Nw:jC prog 92:=vg func92
theorem adt:jC prog 93:=vg func93
theorem ael:jC prog 94:=vg func94
theorem aer:jC prog 95:=vg func95
theorem Dq:jC prog 96:=vg func96
theorem Nr:jC prog 97:=vg func97
theorem ad3:jC prog 98:=vg func98
theorem XQ:jC prog 99:=vg func99
theorem Wv:jC prog 100:=vg func100
theorem abw:jC prog 101:=vg func101
theorem ab5:jC prog 129:=vg func129
theorem Ee:jC prog 130:=vg func130
theorem KN:jC prog 131:=vg func131
theorem aci:jC prog 132:=vg func132
theorem ab1:jC prog 133:=vg func133
theorem Sq:jC prog 134:=vg func134
theorem aco:jC prog 135:=vg func135
theorem acE:jC prog 136:=vg func136
theorem WB:jC prog 137:=vg func137
theorem Ga:jC prog 138:=vg func138
theorem ab7:jC prog 139:=vg func139
theorem VX:jC prog 140:=vg func140
theorem Xr:jC prog 160:=vg func160
theorem abW:jC prog 161:=vg func161
theorem Xp:jC prog 162:=vg func162
theorem aaM:jC prog 163:=vg func163
theorem XV:jC prog 164:=vg func164
theorem abv:jC prog 165:=vg func165
theorem aa3:jC prog 166:=vg func166
theorem aa1:jC prog 176:=vg func176
end
end Go.Proofs.YtdkneekpdecjbaaGreat
