/- The law of spoilt texts. -/
import Derived.Test.YtfglbdkfnphjgaaY8
set_option linter.unusedVariables false
set_option linter.unusedSimpArgs false
namespace Go.Proofs.Ytfglbdkfnphjgaa
open Go.RowKit Go.Fw
set_option maxRecDepth 100000 in
theorem OI:AR 1000000000=some true:=by kernel_rfl
theorem QU {fu:Nat} {v:ByteArray} (hv:v.size≤800000000):∀ (n i:Nat),i≤v.size→v.size+1≤n+i→kI (oH fu v n i) (oK (fun j=>(i:Int)≤j∧j≤v.size) (fun _=>False))
 | 0,i,h1,h2=>by omega
 | n+1,i,h1,h2=>by
  rw [oH]
  have hJ:kI (rQ fu v i) (oK (fun b=>b=true→i < v.size) (fun _=>False)):=by
   unfold rQ
   exact .ite (fun c=>.bd (.AQ (by omega) c) fun g _=>.ite (fun _=>.go fun _=>by omega) fun _=>.bd (.AQ (by omega) c) fun g _=>.go fun _=>by omega) fun _=>.go fun z=>(by cases z)
  refine .Cv hJ fun b hb=>.ite (fun z=>?_) fun _=>.go ⟨Int.le_refl _,by omega⟩
  have:=hb z
  have e:wr ((i:Int)+1)=((i+1:Nat):Int):=by rw [lD (by omega) (by omega)];omega
  rw [e]
  exact (QU hv n (i+1) (by omega) (by omega)).imp fun r hr=>by
   cases r with
   | go j=>exact ⟨by have:=hr.1;omega,hr.2⟩
   | out o=>exact hr
theorem QB {fu:Nat} {v:ByteArray} (hv:v.size≤800000000):∀ (n i:Nat),i≤v.size→v.size+1≤n+i→kI (oI fu v n i) (oK (fun j=>(i:Int)≤j∧j≤v.size) (fun _=>False))
 | 0,i,h1,h2=>by omega
 | n+1,i,h1,h2=>by
  rw [oI]
  have hJ:kI (rY fu v i) (oK (fun b=>b=true→i < v.size) (fun _=>False)):=by
   unfold rY
   refine .ite (fun c=>?_) fun _=>.go fun z=>(by cases z)
   have hb:∀ b:Bool,b=true→i < v.size:=fun _ _=>by omega
   have tail:kI ((AQ v (i:Int)).bind fun g=>if (48:Int)≤g then (AQ v (i:Int)).bind fun g2=>some (Ld.go (ρ:=Bool) (decide (g2≤(57:Int)))) else some (.go false)) (oK (fun b=>b=true→i < v.size) (fun _=>False)):=
    .bd (.AQ (by omega) c) fun g _=>.ite (fun _=>.bd (.AQ (by omega) c) fun g2 _=>.go (hb _)) fun _=>.go (hb _)
   exact .bd (.AQ (by omega) c) fun g _=>.ite (fun _=>.bd (.AQ (by omega) c) fun g2 _=>.ite (fun _=>.go (hb _)) fun _=>tail) fun _=>tail
  refine .Cv hJ fun b hb=>.ite (fun z=>?_) fun _=>.go ⟨Int.le_refl _,by omega⟩
  have:=hb z
  have e:wr ((i:Int)+1)=((i+1:Nat):Int):=by rw [lD (by omega) (by omega)];omega
  rw [e]
  exact (QB hv n (i+1) (by omega) (by omega)).imp fun r hr=>by
   cases r with
   | go j=>exact ⟨by have:=hr.1;omega,hr.2⟩
   | out o=>exact hr
theorem LZ:∀ x ∈ ([(⟨#[97]⟩:ByteArray),(⟨#[118,49]⟩:ByteArray),(⟨#[118,50]⟩:ByteArray),(⟨#[118,51]⟩:ByteArray),(⟨#[102]⟩:ByteArray),(⟨#[103]⟩:ByteArray),(⟨#[122,122]⟩:ByteArray),(⟨#[80]⟩:ByteArray),(⟨#[120]⟩:ByteArray),(⟨#[105,110,116]⟩:ByteArray),(⟨#[118,49,46,120]⟩:ByteArray),(⟨#[118,50,91,48,93]⟩:ByteArray),(⟨#[118,51,46,122]⟩:ByteArray),(⟨#[102,40,49,41]⟩:ByteArray),(⟨#[121]⟩:ByteArray),(⟨#[97,46,120]⟩:ByteArray)]:List ByteArray),x.size≤10:=by
 intro x hx
 simp only [List.mem_cons,List.not_mem_nil,or_false] at hx
 rcases hx with rfl | rfl | rfl | rfl | rfl | rfl | rfl | rfl | rfl | rfl | rfl | rfl | rfl | rfl | rfl | rfl <;> decide
theorem KT (l:List Int) (a w:Int):rG 1000000000 l a w=some true:=by
 have h:kI (rG 1000000000 l a w) (fun b=>b=true):=by
  unfold rG
  refine .bd P8 fun l2 h2=>?_
  have hT:kI (Ah 1000000000 l2) (fun s=>s.size≤700000000):=by
   unfold Ah
   exact .bd (Nj (by decide) (by omega)) fun p hp=>.bd (PR (by decide) hp) fun s hs=>.mk hs
  refine .bd hT fun v hv=>?_
  rw [lD (n:=(v.size:Int)+1) (by omega) (by omega)]
  refine .bd (O1 (by omega) (by omega)) fun k hk=>?_
  obtain ⟨i,rfl⟩:∃ i:Nat,k=(i:Int):=⟨k.toNat,by omega⟩
  refine .el (QU (by omega) 1000000000 i (by omega) (by omega)) (fun j hj=>?_) fun _ z=>z.elim
  obtain ⟨j',rfl⟩:∃ i:Nat,j=(i:Int):=⟨j.toNat,by omega⟩
  refine .el (QB (by omega) 1000000000 j' (by omega) (by omega)) (fun q hq=>?_) fun _ z=>z.elim
  refine .bd (.KA ⟨Int.le_refl _,by omega,by omega⟩) fun g1 e1=>.bd (.KA ⟨by omega,by omega,Int.le_refl _⟩) fun g2 e2=>.bd (O1 (by decide) (by decide)) fun u hu=>.bd (.ix hu.1 hu.2) fun x hx=>?_
  have s1:g1.size≤700000000:=by rw [e1,ByteArray.size_extract];omega
  have s2:g2.size≤100000000+600000000:=by rw [e2,ByteArray.size_extract];omega
  have s3:=LZ x (List.mem_of_getElem? hx)
  have s4:g1.size+g2.size≤700000000:=by rw [e1,e2,ByteArray.size_extract,ByteArray.size_extract];omega
  refine .bd (.qw (by omega)) fun g3 e3=>.bd (.qw (by rw [e3,Bf];omega)) fun g4 _=>.bd (NU (by decide)) fun b hb=>?_
  rw [if_pos hb,OI]
  exact .mk rfl
 obtain ⟨v,h1,rfl⟩:=h
 exact h1
end Go.Proofs.Ytfglbdkfnphjgaa
