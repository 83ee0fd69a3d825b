/- Posts out of sight; rows cut short. Over any program. -/
import Derived.Test.YtfglbdkfnphjgaaSx
set_option linter.unusedVariables false
namespace Go.Fw
open Go.RowKit
section
variable {P:Program} {N:Nat} {n R:Fr→World→Prop} {X:Nat→Fr→World→Prop} {f:Fr} {w:World}
theorem wSq {x y:Code} (h:WP P N x ⟨fun f w=>WP P N y ⟨n,X,R⟩ f w,X,R⟩ f w):WP P N (.seq x y) ⟨n,X,R⟩ f w:=wSeq h
theorem wBk {i:Nat} {c:Code} (h:WP P N c ⟨n,fun j=>bif Nat.beq j i then n else X j,R⟩ f w):WP P N (.block i c) ⟨n,X,R⟩ f w:=wBlock h
theorem wJd {x:Code} (J:Fr→World→Prop) (h:∀ J':Fr→World→Prop,(∀ f w,J f w→J' f w)→WP P N x ⟨J',X,R⟩ f w) (k:∀ f w,J f w→n f w):WP P N x ⟨n,X,R⟩ f w:=
 wJ J (h J fun _ _ h=>h) k
theorem wLoopGd {c:Code} (I:Nat→Fr→World→Prop) (n0:Nat) (h0:I n0 f w)
  (hr:∀ n f w,I n f w→∀ J':Fr→World→Prop,(∀ m f w,m < n→I m f w→J' f w)→WP P N c ⟨J',X,R⟩ f w):WP P N (.loop c) ⟨n,X,R⟩ f w:=
 wLoopG I n0 h0 fun n f w h=>hr n f w h _ fun m f w hm hi=>⟨m,hm,hi⟩
theorem wEx {i:Nat} (h:X i f w):WP P N (.exit i) ⟨n,X,R⟩ f w:=wExit h
theorem wRt (h:R f w):WP P N .ret ⟨n,X,R⟩ f w:=wRet h
theorem xEqNil {ρ:Operand→Value} {d:Option Nat} {ty:TypeId} {pos:String} {af:Array Edge} {g:Option (Nat × Bool)} {t t' e:TypeId} {x y:Operand} {a:Option Addr} {m c:Nat} (ht:P.underlying t=some (.slice e)) (hx:ρ x=.slice a m c) (hy:ρ y=.slice none 0 0) :
  Yl P ρ (.binOp .eql t x y t') d ty pos af g w (.bool (decide (a=none))):=by
 have h:=Go.Lib.run_eql_slice_nil (P:=P) w t e a m c 0 0 ht
 have e:a.isNone=decide (a=none):=by cases a <;> simp
 rw [e] at h
 simp [Yl,execOp,hx,hy,eqGuard,h]
end
theorem LRep.nil_of {α:Type} [Rp α] {F:Nat→Prop} {w:World} {a:Option Addr} {c:Nat} {l:List α} (h:LRep F w a c l) (ha:a=none):l=[]:=by
 cases l with
 | nil=>rfl
 | cons x l=>have:=(h.2.2 (by simp)).1;rw [ha] at this;cases this
theorem Own.shr {w:World} {base:Nat} {e:TypeId} {sz n c:Nat} {A:Option Addr} {xs:List Value} (h:Own w base e sz A n c xs) (m:Nat) (hm:m≤n):Own w base e sz A m c (xs.take (m * sz)):=by
 refine ⟨by rw [List.length_take,h.len];exact Nat.min_eq_left (Nat.mul_le_mul_right _ hm),?_⟩
 rcases h.2 with ⟨h2,hn⟩|⟨b,cap,cur,h3,h4,h5,h6,h7,h8,h9⟩
 · subst hn
   obtain rfl:m=0:=by omega
   exact .inl ⟨h2,rfl⟩
 · injection h3 with h3a h3b h3c
   refine .inr ⟨b,cap,cur,by rw [h3a,h3c],h4,h5,by omega,h7,h8,?_⟩
   rw [← h9,List.take_take,Nat.min_eq_left (Nat.mul_le_mul_right _ hm)]
theorem Els.ftake {α:Type} [Rp α] {F:Nat→Prop} {w:World} {cs:List (List Value)} {l:List α} (h:Els F w cs l) (m:Nat) (hm:m≤l.length):(cs.take m).flatten=cs.flatten.take (m * Rp.sz α):=by
 have h1:=(h.take m).flen
 rw [List.length_take,Nat.min_eq_left hm] at h1
 have h2:cs.flatten=(cs.take m).flatten ++ (cs.drop m).flatten:=by rw [← List.flatten_append,List.take_append_drop]
 rw [← h1,h2,List.take_append_of_le_length (Nat.le_refl _),List.take_length]
theorem Bx.shr {α:Type} [Rp α] {w0 w:World} {Z G:Nat→Prop} {L:List It} {D:List Da} (h:Bx w0 w Z G L D) (i j:Nat) {base:Nat} {A:Option Addr} {c:Nat} {e:TypeId} {cs:List (List Value)} {l r:List α} {m:Nat}
  (hi:L[i]?=some (.own base A c e (Rp.sz α) cs)) (hj:D[j]?=some (.els cs l)) (hm:m≤l.length) (hr:(l.drop 0).take (m - 0)=r):Bx w0 w Z G (L.set i (.own base A c e (Rp.sz α) (cs.take m))) (D.set j (.els (cs.take m) r)):=by
 have he:=h.de j hj
 have hr':l.take m=r:=by rw [← hr,List.drop_zero,Nat.sub_zero]
 have h1:Bx w0 w Z G L (.els (cs.take m) r :: D):=h.dadd (by rw [← hr'];exact he.take m)
 have h2:Bx w0 w Z G L (D.set j (.els (cs.take m) r)):=h1.dsub fun d hd=>by
  rcases List.mem_or_eq_of_mem_set hd with hd | hd
  · exact List.mem_cons_of_mem _ hd
  · rw [hd];exact List.mem_cons_self
 refine h2.put i hi ((Ext.refl w).chgd _) ?_ (fun k hk=>.inl hk)
 have ho:=(h.bo i hi).shr m (by rw [he.len];exact hm)
 rw [← he.ftake m hm] at ho
 have hl:(cs.take m).length=m:=by rw [List.length_take,he.len,Nat.min_eq_left hm]
 show Own w base e (Rp.sz α) A (cs.take m).length c (cs.take m).flatten
 rw [hl];exact ho
inductive Lf where
 | i (n:Int)
 | t (s:ByteArray)
 | b (x:Bool)
deriving DecidableEq
def Lf.v:Lf→Value
 | .i n=>.int .i64 n
 | .t s=>.string s
 | .b x=>.bool x
def Lf.k:Lf→Nat
 | .i _=>0
 | .t _=>1
 | .b _=>2
section
variable {P:Program} {w:World} {ρ:Operand→Value} {d:Option Nat} {ty:TypeId} {pos:String} {af:Array Edge} {g:Option (Nat × Bool)}
end
end Go.Fw
