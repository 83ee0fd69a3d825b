/- Slice expressions; over any program. -/
import Derived.Test.YtfglbdkfnphjgaaMem
set_option linter.unusedVariables false
namespace Go.Fw
open Go.RowKit
section
variable {P:Program} {w:World} {ρ:Operand→Value} {d:Option Nat} {ty:TypeId} {pos:String} {af:Array Edge} {g:Option (Nat × Bool)}
theorem add0 (A:Option Addr):A.map (·.add 0)=A:=by cases A with
 | none=>rfl
 | some a=>simp [Addr.add_zero']
theorem xSlcH {t e:TypeId} {x y:Operand} {A:Option Addr} {n c:Nat} {k:IntKind} {i:Int} {z:Value} {s by_:Nat} (j:Nat) (ht:P.underlying t=some (.slice e)) (he:TI P e z s by_) (hx:ρ x=.slice A n c) (hy:ρ y=.int k i) (hi:i=(j:Int)) (hj:j≤c) :
  Yl P ρ (.slice t x none (some y) none) d ty pos af g w (.slice A j c):=by
 subst hi
 obtain ⟨i,hi1,hi2,hi3,hi4⟩:=he
 have h0:(0:Int)≤j∧(j:Int)≤c:=by omega
 simp [Yl,execOp,hx,hy,Instr.sliceAt,Instr.slice,run_underlying ht,Instr.sliceBounds,Instr.sliceBound,asIntOf,sizeOf,typeInfo,hi1,h0,add0]
 omega
theorem xSlcL {t e:TypeId} {x y:Operand} {A:Option Addr} {n c:Nat} {k:IntKind} {i:Int} {z:Value} {s by_:Nat} (j:Nat) (ht:P.underlying t=some (.slice e)) (he:TI P e z s by_) (hx:ρ x=.slice A n c) (hy:ρ y=.int k i) (hi:i=(j:Int)) (hj:j≤n) :
  Yl P ρ (.slice t x (some y) none none) d ty pos af g w (.slice (if c=j then A else A.map (·.add (j * s))) (n - j) (c - j)):=by
 subst hi
 obtain ⟨i,hi1,hi2,hi3,hi4⟩:=he
 have h0:(0:Int)≤j∧(j:Int)≤n:=by omega
 simp [Yl,execOp,hx,hy,Instr.sliceAt,Instr.slice,run_underlying ht,Instr.sliceBounds,Instr.sliceBound,asIntOf,sizeOf,typeInfo,hi1,hi3,h0]
 omega
end
theorem Sl.take {w:World} {B s n:Nat} {A:Option Addr} {xs:List Value} (h:Sl w B s A n xs) {j:Nat} (hj:j≤n):Sl w B s A j (xs.take (j * s)):=by
 refine ⟨?_,fun h0=>?_⟩
 · rw [List.length_take,h.1,Nat.min_eq_left (Nat.mul_le_mul_right s hj)]
 · obtain ⟨b,o,h1,h2,h3⟩:=h.2 (by omega)
   refine ⟨b,o,h1,h2,fun i v hv=>h3 i v ?_⟩
   rw [List.getElem?_take] at hv
   split at hv
   · exact hv
   · cases hv
theorem Sl.drop {w:World} {B s n c:Nat} {A:Option Addr} {xs:List Value} (h:Sl w B s A n xs) (hc:n≤c) {j:Nat} (hj:j≤n):Sl w B s (if c=j then A else A.map (·.add (j * s))) (n - j) (xs.drop (j * s)):=by
 refine ⟨?_,fun h0=>?_⟩
 · rw [List.length_drop,h.1,Nat.sub_mul]
 · obtain ⟨b,o,h1,h2,h3⟩:=h.2 (by omega)
   rw [if_neg (by omega)]
   subst h1
   refine ⟨b,o+j * s,by simp [Addr.add_lit],h2,fun i v hv=>?_⟩
   rw [List.getElem?_drop] at hv
   rw [Nat.add_assoc]
   exact h3 _ v hv
section
variable {P:Program} {w:World} {ρ:Operand→Value} {d:Option Nat} {ty:TypeId} {pos:String} {af:Array Edge} {g:Option (Nat × Bool)}
end
section
variable {P:Program} {N:Nat} {ops:Array Oper} {S:World→Prop} {T:List Nat} {K:Fr→World→Prop} {f:Fr} {w:World} {n:Nat} {L:Array Bool}
end
end Go.Fw
