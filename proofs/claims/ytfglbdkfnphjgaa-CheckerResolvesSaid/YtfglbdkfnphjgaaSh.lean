/- Short forms of the steps that printed proofs repeat: calls, regions that draw, operations that come up early. -/
import Derived.Test.YtfglbdkfnphjgaaRw
import Derived.Test.YtfglbdkfnphjgaaDr
set_option linter.unusedVariables false
namespace Go.Fw
open Go.RowKit
section
variable {w0 w w':World} {Z G:Nat→Prop} {L:List It} {D:List Da}
theorem pick_app {α:Type} (L:List α) (a b:List Nat):pick L (a ++ b)=pick L a ++ pick L b:=by
 induction a with
 | nil=>rfl
 | cons i a ih=>rw [List.cons_append,pick,pick,ih,List.append_assoc]
theorem Bx.pr (h:Bx w0 w Z G L D) (i r d:List Nat) (hn:nodup (i ++ r)=true):Pre w (Frz w0 Z (pick L i ++ pick L r)) (pick L i) (pick D d):=by
 have h2:=(h.arr (i ++ r) hn).dp d
 rw [pick_app] at h2
 exact h2.pre h2.da
theorem Bx.cl (h:Bx w0 w Z G L D) (i r:List Nat) (hn:nodup (i ++ r)=true) {Lc L1:List It} {D1:List Da} (k:Bx w w' (Frz w0 Z (pick L i ++ pick L r)) (Gof Lc) L1 D1) (e:pick L i=Lc):Bx w0 w' Z G (L1 ++ pick L r) (D1 ++ D):=by
 subst e
 have h2:=h.arr (i ++ r) hn
 rw [pick_app] at h2
 exact h2.call k
end
section
variable {P:Program} {N:Nat} {ops:Array Oper} {f:Fr} {w w0:World} {n:Nat} {K:Fr→World→Prop} {Lb:Array Bool} {T:List Nat} {Z G:Nat→Prop} {L:List It} {D:List Da} {S1 S:World→Prop}
theorem wDr {Q:Post} {i:Nat} (h:Bx w0 w Z G L D) (i1 d1 i2 d2:List Nat) (T:List Nat) (hm:P.follows .mixedOrders=true)
  (k:WPh' P N ops (fun u=>Bx w0 u Z G (pick L i1) (pick D d1)) (fun u=>Bx w0 u Z G (pick L i2) (pick D d2)) T Q.n ops.size (Array.replicate ops.size false) f w.drew):WP P N (.region i ops true) Q f w:=
 wDraw' _ _ T hm k
theorem wDr1 {Q:Post} {i:Nat} (h:Bx w0 w Z G L D) (i1 d1:List Nat) (T:List Nat) (hm:P.follows .mixedOrders=true)
  (k:WPh' P N ops (fun u=>Bx w0 u Z G (pick L i1) (pick D d1)) (fun _=>True) T Q.n ops.size (Array.replicate ops.size false) f w.drew):WP P N (.region i ops true) Q f w:=
 wDraw' _ _ T hm k
theorem sF {w:World} (h:S1 w):SL' S1 T (fun _=>True) Lb w:=⟨h,fun _=>trivial⟩
theorem tP (i:Nat) {oi:Oper} {v:Value} (hi:ops[i]?=some oi) (hy:∀ w,(execOp (ev f) oi).run P w=.ok (.value v) w) (hS:SL' S1 T S Lb w)
 (k:WPh' P N ops S1 S T K n (Lb.setIfInBounds i true) (updO f oi.dst v) w) (hw:wantF ops f oi.guard=true:=by exact rfl) (hc:may ops T Lb i=true:=by kernel_rfl):WPh' P N ops S1 S T K (n+1) Lb f w:=hTake' i hi hc hw hy hS k
theorem tU (i:Nat) {oi:Oper} {v:Value} (hi:ops[i]?=some oi) (hy:∀ w,S1 w→(execOp (ev f) oi).run P w=.ok (.value v) w) (hS:SL' S1 T S Lb w)
 (k:WPh' P N ops S1 S T K n (Lb.setIfInBounds i true) (updO f oi.dst v) w) (hw:wantF ops f oi.guard=true:=by exact rfl) (hc:may ops T Lb i=true:=by kernel_rfl):WPh' P N ops S1 S T K (n+1) Lb f w:=hTakeU i hi hc hw hy hS k
theorem tS (dp i:Nat) {oi:Oper} {v:Value} (hi:ops[i]?=some oi) (hy:∀ w,S w→(execOp (ev f) oi).run P w=.ok (.value v) w) (hS:SL' S1 T S Lb w)
 (k:WPh' P N ops S1 S T K n (Lb.setIfInBounds i true) (updO f oi.dst v) w) (hw:wantF ops f oi.guard=true:=by exact rfl) (hc:may ops T Lb i=true:=by kernel_rfl) (hT:(T.all fun t=>anc ops dp t i)=true:=by kernel_rfl):WPh' P N ops S1 S T K (n+1) Lb f w:=hTakeS' dp i hi hc hT hw hy hS k
end
end Go.Fw
