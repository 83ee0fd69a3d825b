/- Arguments opened: a list of numbers lies in memory. -/
import Derived.Test.YtfglbdkfnphjgaaLt
import Derived.WalkKit
import Derived.ProofKit
import Derived.OpenShut
import Derived.ChangeOld
import Derived.SizedLaws
import Derived.Lib.SmallJoins
import Derived.Deep.Slices
import Derived.Deep.Fields
set_option linter.unusedVariables false
namespace Go.Proofs.Ytfglbdkfnphjgaa
open Go.ChangeShapes Go.WideShapes Go.ChangeAt Go.RowKit Go.Fw Go.Joins
theorem Try.own:ownKnob Try.prog.godebug=none:=by kernel_rfl
theorem Try.laidOut:laidOutB Try.prog=true:=by kernel_rfl
theorem N7 {w:World} {a:Addr} {v:Value} (h:w.cell? a=some v):∃ b o,a=⟨b,o,none⟩∧b < w.heap.size:=by
 have h1:=World.cell?_spot h
 obtain ⟨b,o,s⟩:=a
 simp only at h1
 subst h1
 exact ⟨b,o,rfl,World.block_lt_of_cell? w _ h⟩
theorem open_list {H:Type} {enc:TypeId × Value→H} {w:World} {base:Nat} {spare:Nat→Bool} {held:Bool} {fuel:Nat} {cs:List Value} {x:DataW H × List MemPlace} (h:DataW.trod enc Try.prog w base spare held fuel 22 cs=some x) :
   ∃ A c zs,cs=[.slice A zs.length c]∧ll (α:=Int) (fun _=>True) w A c zs:=by
 rcases open_ints Try.underlying22 Try.underlying3 (by kernel_rfl) h with ⟨rfl,hx⟩|⟨a,len,cap,zs,rfl,hb,hl,hm,hz,hx,hcell,hwz⟩
 · exact ⟨none,0,[],rfl,ll.nil⟩
 · have hlz:len≤zs.length:=by rw [hz];split <;> omega
   have hlt:(zs.take len).length=len:=by rw [List.length_take];omega
   refine ⟨some a,cap,zs.take len,by rw [hlt],by omega,hm,fun h0=>?_⟩
   have h1:=hcell 0 (by omega)
   rw [Addr.add_zero'] at h1
   obtain ⟨b,o,rfl,hbb⟩:=N7 h1
   refine ⟨rfl,trivial,hbb,fun i z hi=>⟨[.int .i64 z],?_,rfl⟩⟩
   rw [List.getElem?_take] at hi
   split at hi
   · rename_i hj
     have h2:=hcell i (by omega)
     rw [Addr.add_lit] at h2
     intro k v hk
     obtain _ | k:=k
     · obtain rfl:Value.int .i64 z=v:=Option.some.inj hk
       have hd:zs.getD i 0=z:=by rw [List.getD_eq_getElem?_getD,hi];rfl
       rw [hd] at h2
       exact (by simpa [Rp.sz,uB,xk] using h2)
     · cases hk
   · cases hi
theorem Ou {w:World} {A:Option Addr} {c:Nat} {l:List Int} (h:ll (fun _=>True) w A c l):Pre w (fun _=>True) [] [.l A c l]:=⟨fun it hi=>(by cases hi),fun it hi=>(by cases hi),List.Pairwise.nil,fun d hd=>by
 simp only [List.mem_cons,List.not_mem_nil,or_false] at hd
 subst hd
 exact h⟩
end Go.Proofs.Ytfglbdkfnphjgaa
