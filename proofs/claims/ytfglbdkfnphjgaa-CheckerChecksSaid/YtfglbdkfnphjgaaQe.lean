/- CheckerChecks: every program that can be parsed is checked as specified, or has the first error with its line. No condition. -/
import Derived.Test.YtfglbdkfnphjgaaY8
import Derived.Test.YtfglbdkfnphjgaaQo
set_option linter.unusedVariables false
namespace Go.Proofs.Ytfglbdkfnphjgaa
open Go.ChangeShapes Go.WideShapes Go.ChangeAt Go.RowKit Go.Fw Go.Joins
theorem Du (w:World) {x0:ByteArray} {A1:Option Addr} {c1:Nat} {x1:List Int} (h1:lm (fun _=>True) w A1 c1 x1):Calls Try.prog 7 #[Vt x0,.slice A1 x1.length c1] w (rA fun v w'=>v=.bool true∧Ext w w'):=
 (BV 10500 (Pp h1) (Lv x0 x1)).mono fun e w' he=>by
  obtain ⟨v,rfl,hv,hb⟩:=he
  exact ⟨v,rfl,hv,hb.ex⟩
set_option maxRecDepth 100000 in
theorem Ce (os:Os) (started:os.Started) (H:Type) (enc:TypeId × Value→H) :
  ReturnsInHanded {} Try.checked os 7 .any (Rows.checkerChecksSpec.pre6 enc Try.prog Try.f7 Rows.checkerChecksRow.domain false) (Rows.checkerChecksSpec.post enc Try.prog Try.f7 false true false false):=by
 refine returnsInHanded_of_change (C:=Try.checked) Try.own started (by kernel_rfl) Try.func7
  (ChangeSpec.witness6 (enc:=enc) (C:=Try.checked) false ⟨#[],#[.string ByteArray.empty,.slice none 0 0],[]⟩ 8 (by kernel_rfl) (by kernel_rfl) (by kernel_rfl) (by kernel_rfl)) ?_
 intro W base args ds gs before hval0 hW hcnd _
 have hval:∀ (j:Nat) t v,Try.f7.params[j]?=some t→args[j]?=some v→Value.okWide Try.prog W .any base t v:=hval0
 have hW':=hW
 obtain ⟨p,q,hA0,hV,rfl,hfz,hnd⟩:=hW
 have hA:DataW.TrodAll enc Try.prog W 0 (fun _=>true) true Try.f7.params.toList args.toList ds p:=hA0
 rw [Try.params7] at hA hval
 obtain ⟨v0,vs0,d0,ds0,p0,q0,hargs,rfl,rfl,h0,r0⟩:=trodAll_cons hA
 obtain ⟨v1,vs1,d1,ds1,p1,q1,rfl,rfl,rfl,h1,r1⟩:=trodAll_cons r0
 obtain ⟨rfl,rfl,rfl⟩:=trodAll_nil r1
 obtain rfl:args=#[v0,v1]:=by cases args;simp_all
 obtain ⟨rfl,rfl⟩:=trodVars_none hV
 have k0:=h0
 have lt0:∀ x ∈ p0,x.block < W.heap.size:=by obtain ⟨m,hm⟩:=k0;exact DataW.trod_lt m _ _ _ hm
 have k1:=h1
 have lt1:∀ x ∈ p1,x.block < W.heap.size:=by obtain ⟨m,hm⟩:=k1;exact DataW.trod_lt m _ _ _ hm
 obtain ⟨x0,rfl⟩:=okWide_string Try.underlying9 (hval 0 9 v0 rfl rfl)
 obtain ⟨a1,n1,c1,rfl⟩:=okWide_slice Try.underlying22 (hval 1 22 v1 rfl rfl)
 obtain ⟨f1,hf1⟩:=h1
 obtain ⟨A1,e1,l1,hcs1,hl1⟩:=open_list hf1
 simp [Value.cells] at hcs1
 obtain ⟨rfl,rfl,rfl⟩:=hcs1
 clear hA0 hval0
 refine (Du W hl1).mono fun e W' he=>?_
 obtain ⟨v,rfl,rfl,bel⟩:=he
 exact ⟨_,rfl,_,_,_,[],_,[],hW',trodAll_mk1 (shut_bool Try.underlying4 _),(trodAll_cons_mk (Below.trod Try.laidOut (by kernel_rfl) (of_decide_eq_true (by kernel_rfl)) k0 bel lt0) (trodAll_cons_mk (Below.trod Try.laidOut (by kernel_rfl) (of_decide_eq_true (by kernel_rfl)) k1 bel lt1) trodAll_mk0)),rfl,Below.frame bel _,fun h=>by cases h⟩
theorem checkerChecks_holds:Rows.CheckerChecksSaid:=
 OpenClaim.holds_of_wide 7 Try.f7 rfl rfl rfl rfl rfl rfl rfl ⟨rfl,rfl,rfl,rfl,rfl⟩ rfl rfl rfl rfl rfl (by kernel_rfl) Try.func7 (by kernel_rfl)
  (of_decide_eq_true (by kernel_rfl)) (by unfold Func.isWrapper;first | (rw [if_pos (by decide +kernel)];kernel_rfl)|(rw [if_neg (by decide +kernel)];exact ⟨rfl,rfl⟩))
  (fun os started H enc _=>Ce os started H enc)
end Go.Proofs.Ytfglbdkfnphjgaa
