/- CheckerSpoilt: also the text of a program with a name, a number or a word replaced by another one is checked as specified. No condition. -/
import Derived.Test.YtfglbdkfnphjgaaSw
import Derived.Test.YtfglbdkfnphjgaaQo
set_option linter.unusedVariables false
namespace Go.Proofs.Ytfglbdkfnphjgaa
open Go.ChangeShapes Go.WideShapes Go.ChangeAt Go.RowKit Go.Fw Go.Joins
theorem De (w:World) {A0:Option Addr} {c0:Nat} {x0:List Int} (h0:ll (fun _=>True) w A0 c0 x0) {x1:Int} {x2:Int}:Calls Try.prog 8 #[.slice A0 x0.length c0,Vi x1,Vi x2] w (rf fun v w'=>v=.bool true∧Ext w w'):=
 (Ct 1000000000 (Ou h0) (KT x0 x1 x2)).mono fun e w' he=>by
  obtain ⟨v,rfl,hv,hb⟩:=he
  exact ⟨v,rfl,hv,hb.ex⟩
set_option maxRecDepth 100000 in
theorem Ck (os:Os) (started:os.Started) (H:Type) (enc:TypeId × Value→H) :
  ReturnsInHanded {} Try.checked os 8 .any (Rows.checkerSpoiltSpec.pre6 enc Try.prog Try.f8 Rows.checkerSpoiltRow.domain false) (Rows.checkerSpoiltSpec.post enc Try.prog Try.f8 false true false false):=by
 refine returnsInHanded_of_change (C:=Try.checked) Try.own started (by kernel_rfl) Try.func8
  (ChangeSpec.witness6 (enc:=enc) (C:=Try.checked) false ⟨#[],#[.slice none 0 0,.int .i64 0,.int .i64 0],[]⟩ 8 (by kernel_rfl) (by kernel_rfl) (by kernel_rfl) (by kernel_rfl)) ?_
 intro W base args ds gs before hval0 hW hcnd _
 have hval:∀ (j:Nat) t v,Try.f8.params[j]?=some t→args[j]?=some v→Value.okWide Try.prog W .any base t v:=hval0
 have hW':=hW
 obtain ⟨p,q,hA0,hV,rfl,hfz,hnd⟩:=hW
 have hA:DataW.TrodAll enc Try.prog W 0 (fun _=>true) true Try.f8.params.toList args.toList ds p:=hA0
 rw [Try.params8] at hA hval
 obtain ⟨v0,vs0,d0,ds0,p0,q0,hargs,rfl,rfl,h0,r0⟩:=trodAll_cons hA
 obtain ⟨v1,vs1,d1,ds1,p1,q1,rfl,rfl,rfl,h1,r1⟩:=trodAll_cons r0
 obtain ⟨v2,vs2,d2,ds2,p2,q2,rfl,rfl,rfl,h2,r2⟩:=trodAll_cons r1
 obtain ⟨rfl,rfl,rfl⟩:=trodAll_nil r2
 obtain rfl:args=#[v0,v1,v2]:=by cases args;simp_all
 obtain ⟨rfl,rfl⟩:=trodVars_none hV
 have k0:=h0
 have lt0:∀ x ∈ p0,x.block < W.heap.size:=by obtain ⟨m,hm⟩:=k0;exact DataW.trod_lt m _ _ _ hm
 have k1:=h1
 have lt1:∀ x ∈ p1,x.block < W.heap.size:=by obtain ⟨m,hm⟩:=k1;exact DataW.trod_lt m _ _ _ hm
 have k2:=h2
 have lt2:∀ x ∈ p2,x.block < W.heap.size:=by obtain ⟨m,hm⟩:=k2;exact DataW.trod_lt m _ _ _ hm
 obtain ⟨a0,n0,c0,rfl⟩:=okWide_slice Try.underlying22 (hval 0 22 v0 rfl rfl)
 obtain ⟨f0,hf0⟩:=h0
 obtain ⟨A0,e0,l0,hcs0,hl0⟩:=open_list hf0
 simp [Value.cells] at hcs0
 obtain ⟨rfl,rfl,rfl⟩:=hcs0
 obtain ⟨x1,rfl⟩:=okWide_int Try.underlying3 (hval 1 3 v1 rfl rfl)
 obtain ⟨x2,rfl⟩:=okWide_int Try.underlying3 (hval 2 3 v2 rfl rfl)
 clear hA0 hval0
 refine (De W hl0).mono fun e W' he=>?_
 obtain ⟨v,rfl,rfl,bel⟩:=he
 exact ⟨_,rfl,_,_,_,[],_,[],hW',trodAll_mk1 (shut_bool Try.underlying4 _),(trodAll_cons_mk (Below.trod Try.laidOut (by kernel_rfl) (of_decide_eq_true (by kernel_rfl)) k0 bel lt0) (trodAll_cons_mk (Below.trod Try.laidOut (by kernel_rfl) (of_decide_eq_true (by kernel_rfl)) k1 bel lt1) (trodAll_cons_mk (Below.trod Try.laidOut (by kernel_rfl) (of_decide_eq_true (by kernel_rfl)) k2 bel lt2) trodAll_mk0))),rfl,Below.frame bel _,fun h=>by cases h⟩
theorem checkerSpoilt_holds:Rows.CheckerSpoiltSaid:=
 OpenClaim.holds_of_wide 8 Try.f8 rfl rfl rfl rfl rfl rfl rfl ⟨rfl,rfl,rfl,rfl,rfl⟩ rfl rfl rfl rfl rfl (by kernel_rfl) Try.func8 (by kernel_rfl)
  (of_decide_eq_true (by kernel_rfl)) (by unfold Func.isWrapper;first | (rw [if_pos (by decide +kernel)];kernel_rfl)|(rw [if_neg (by decide +kernel)];exact ⟨rfl,rfl⟩))
  (fun os started H enc _=>Ck os started H enc)
end Go.Proofs.Ytfglbdkfnphjgaa
