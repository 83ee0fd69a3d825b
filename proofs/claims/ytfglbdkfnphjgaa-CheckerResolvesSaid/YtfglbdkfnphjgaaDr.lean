/- Regions that draw their order: what stays all the time (S1), and what stays till one of T has come up (S). Over any program. -/
import Derived.Test.YtfglbdkfnphjgaaWx
set_option linter.unusedVariables false
namespace Go.Fw
open Go.RowKit
def SL' (S1:World→Prop) (T:List Nat) (S:World→Prop) (L:Array Bool) (w:World):Prop:=S1 w∧((∀ t ∈ T,L.getD t false=false)→S w)
def anyT' (P:Program) (ops:Array Oper) (Q:Exit→Act→World→Prop) (S1 S:World→Prop) (T:List Nat):Nat→Array Bool→Act→World→Prop
 | 0,L,a,w=>Region.ready .any ops L=[]∧Q .normal a w
 | n+1,L,a,w=>(Region.ready .any ops L=[]→Q .normal a w)∧
  ∀ i ∈ Region.ready .any ops L,wpOp P ops Q i (fun a' w'=>SL' S1 T S (L.setIfInBounds i true) w'∧anyT' P ops Q S1 S T n (L.setIfInBounds i true) a' w') a w
theorem any_of_T' {P:Program} {ops:Array Oper} {Q:Exit→Act→World→Prop} {S1 S:World→Prop} {T:List Nat}:∀ (n:Nat) (L:Array Bool) (a:Act) (w:World),anyT' P ops Q S1 S T n L a w→wpAny P .any ops Q n L a w
 | 0,_,_,_,h=>h
 | n+1,_,_,_,h=>⟨h.1,fun i hi=>wpOp_mono (fun a' w' h'=>any_of_T' n _ a' w' h'.2) (h.2 i hi)⟩
theorem anyT_first' {P:Program} {ops:Array Oper} {Q:Exit→Act→World→Prop} {S1 S S2:World→Prop} {T:List Nat} {i:Nat} {oi:Oper} {v:Value} (hi:ops[i]?=some oi)
  (hsel:∀ (j:Nat) (o:Oper) cs b,ops[j]?=some o→o.op≠.select cs b) (hQ:∀ c a w,Q (.panic c) (a.put oi.dst v) w→Q (.panic c) a w) (hT:i ∉ T)
  (hS2:∀ L w,Closed ops L→L.getD i false=false→SL' S1 T S L w→S2 w) :
  ∀ (n:Nat) (L:Array Bool) (a:Act) (w:World),Closed ops L→
    (∀ j oj,ops[j]?=some oj→j≠i→L.getD j true=false→(∀ e ∈ oj.after,Region.binds .any e=true→e.on≠i)→oi.apart ops oj=true)→
    i ∈ Region.ready .any ops L→YieldsIf P ops S2 oi v a→SL' S1 T S L w→
    anyT' P ops Q S1 S T n (L.setIfInBounds i true) (a.put oi.dst v) w→anyT' P ops Q S1 S T (n+1) L a w:=by
 have unl:∀ L,i ∈ Region.ready .any ops L→L.getD i false=false:=by
  intro L hr
  have h0:=(mem_ready.1 hr).1
  rcases Nat.lt_or_ge i L.size with h' | h'
  · simp [h'] at h0 ⊢;exact h0
  · simp [Array.getElem?_eq_none h']
 have sl:∀ L w,SL' S1 T S (L.setIfInBounds i true) w→SL' S1 T S L w:=by
  intro L w h
  refine ⟨h.1,fun ht=>h.2 fun t hm=>?_⟩
  rw [getD_set_any false (fun e=>hT (by rw [e];exact hm))]
  exact ht t hm
 have sl':∀ L w,SL' S1 T S L w→SL' S1 T S (L.setIfInBounds i true) w:=by
  intro L w h
  refine ⟨h.1,fun ht=>h.2 fun t hm=>?_⟩
  have:=ht t hm
  rwa [getD_set_any false (fun e=>hT (by rw [e];exact hm))] at this
 intro n
 induction n with
 | zero=>
  intro L a w hcl _ hr hy hS H
  refine ⟨fun h=>(by rw [h] at hr;cases hr),fun j hj=>?_⟩
  by_cases hji:j=i
  · subst hji;exact hy.wpOp hi (hS2 L w hcl (unl L hr) hS) ⟨sl' L w hS,H⟩
  · have:=ready_mono hj hji
    rw [H.1] at this
    cases this
 | succ n ih=>
  intro L a w hcl hfree hr hy hS H
  refine ⟨fun h=>(by rw [h] at hr;cases hr),fun j hj=>?_⟩
  by_cases hji:j=i
  · subst hji;exact hy.wpOp hi (hS2 L w hcl (unl L hr) hS) ⟨sl' L w hS,H⟩
  · have h1:=H.2 j (ready_mono hj hji)
    obtain ⟨hjun,oj,hoj,hall⟩:=mem_ready.1 hj
    have hnot:∀ e ∈ oj.after,Region.binds .any e=true→e.on≠i:=fun e he hb heq=>by
     have h1:=hall e he hb
     have h0:=unl L hr
     rw [heq,h0] at h1
     cases h1
    have h2:=wpOp_putIf hoj (hfree j oj hoj hji hjun hnot) (fun cs b=>hsel i oi cs b hi) (fun cs b=>hsel j oj cs b hoj) hQ hy h1
    have hfree':∀ k ok,ops[k]?=some ok→k≠i→(L.setIfInBounds j true).getD k true=false→
       (∀ e ∈ ok.after,Region.binds .any e=true→e.on≠i)→oi.apart ops ok=true:=fun k ok hk hki hun hno=>by
     refine hfree k ok hk hki ?_ hno
     by_cases hjk:j=k
     · subst hjk;exact hjun
     · rw [getD_set_any true hjk] at hun;exact hun
    have hcomm:(L.setIfInBounds i true).setIfInBounds j true=(L.setIfInBounds j true).setIfInBounds i true:=Array.setIfInBounds_comm _ _ (Ne.symm hji)
    refine wpOp_mono (fun a' w' h3=>?_) h2
    have h4:=h3.2.1
    rw [hcomm] at h4
    have h5:=sl _ _ h4
    refine ⟨h5,ih (L.setIfInBounds j true) a' w' (hcl.step hj) hfree' (ready_mono hr (Ne.symm hji)) h3.1 h5 ?_⟩
    rw [← hcomm]
    exact h3.2.2
def WPh' (P:Program) (N:Nat) (ops:Array Oper) (S1 S:World→Prop) (T:List Nat) (K:Fr→World→Prop) (n:Nat) (L:Array Bool) (f:Fr) (w:World):Prop:=
 (∀ o ∈ ops.toList,dstOk N o=true)→Closed ops L→∀ a,Rep N f a→anyT' P ops (liftN N K) S1 S T n L a w
section
variable {P:Program} {N:Nat} {ops:Array Oper} {S1 S:World→Prop} {T:List Nat} {K:Fr→World→Prop} {f:Fr} {w:World} {n:Nat} {L:Array Bool}
theorem wDraw' {Q:Post} {i:Nat} (S1 S:World→Prop) (T:List Nat) (hm:P.follows .mixedOrders=true) (h:WPh' P N ops S1 S T Q.n ops.size (Array.replicate ops.size false) f w.drew):WP P N (.region i ops true) Q f w:=by
 unfold WP
 intro hok a ha
 have hl:∀ o ∈ ops.toList,dstOk N o=true:=by
  intro o ho
  have:=Array.all_eq_true_iff_forall_mem.1 (show ops.all (dstOk N)=true from hok)
  exact this o (by simpa using ho)
 refine Code.wp_mono (fun e a w q=>?_) (wp_region_any hm (any_of_T' _ _ _ _ (h hl (Closed.start ops _) a ha)))
 cases e with
 | normal=>exact q
 | _=>exact q.elim
theorem hDone' (hr:Region.ready .any ops L=[]) (h:K f w):WPh' P N ops S1 S T K n L f w:=by
 intro _ _ a ha
 cases n with
 | zero=>exact ⟨hr,f,ha,h⟩
 | succ n=>exact ⟨fun _=>⟨f,ha,h⟩,by rw [hr];simp⟩
theorem hTake0' (S2:World→Prop) (i:Nat) {oi:Oper} {v:Value} (hi:ops[i]?=some oi) (hc:may ops T L i=true) (hS2:∀ L w,Closed ops L→L.getD i false=false→SL' S1 T S L w→S2 w)
   (hw:(wantF ops f oi.guard=true∧∀ w,S2 w→(execOp (ev f) oi).run P w=.ok (.value v) w) ∨ (wantF ops f oi.guard=false∧v=undef)) (hS:SL' S1 T S L w)
   (k:WPh' P N ops S1 S T K n (L.setIfInBounds i true) (updO f oi.dst v) w):WPh' P N ops S1 S T K (n+1) L f w:=by
 intro hok hcl a ha
 simp only [may,Bool.and_eq_true,Bool.not_eq_true',List.contains_eq_mem] at hc
 have hd:dstOk N oi=true:=hok oi (by have:=Array.mem_of_getElem? hi;simpa using this)
 have hr:i ∈ Region.ready .any ops L:=by simpa using hc.1.2
 have hT:i ∉ T:=by simpa using hc.2
 refine anyT_first' (S2:=S2) (v:=v) hi (Region.noSelect_spec hc.1.1.1) (fun _ _ _ h=>h) hT hS2 n L a w hcl (Region.free_spec hi hc.1.1.2) hr ?_ hS (k hok (hcl.step hr) _ (ha.put _ (dstOk_lt hd) v))
 rcases hw with ⟨h1,h2⟩|⟨h1,h2⟩
 · exact .inl ⟨by rw [wanted_eq ha];exact h1,fun w hw=>by rw [ha.ev_eq];exact h2 w hw⟩
 · exact .inr ⟨by rw [wanted_eq ha];exact h1,h2⟩
theorem hTake' (i:Nat) {oi:Oper} {v:Value} (hi:ops[i]?=some oi) (hc:may ops T L i=true) (hw:wantF ops f oi.guard=true) (hy:∀ w,(execOp (ev f) oi).run P w=.ok (.value v) w) (hS:SL' S1 T S L w)
  (k:WPh' P N ops S1 S T K n (L.setIfInBounds i true) (updO f oi.dst v) w):WPh' P N ops S1 S T K (n+1) L f w:=
 hTake0' (fun _=>True) i hi hc (fun _ _ _ _ _=>trivial) (.inl ⟨hw,fun w _=>hy w⟩) hS k
theorem hTakeS' (dp:Nat) (i:Nat) {oi:Oper} {v:Value} (hi:ops[i]?=some oi) (hc:may ops T L i=true) (hT:(T.all fun t=>anc ops dp t i)=true) (hw:wantF ops f oi.guard=true) (hy:∀ w,S w→(execOp (ev f) oi).run P w=.ok (.value v) w) (hS:SL' S1 T S L w)
  (k:WPh' P N ops S1 S T K n (L.setIfInBounds i true) (updO f oi.dst v) w):WPh' P N ops S1 S T K (n+1) L f w:=
 hTake0' S i hi hc (fun L w hcl hu hs=>hs.2 fun t ht=>by
  have h1:=List.all_eq_true.1 hT t ht
  cases hl:L.getD t false with
  | false=>rfl
  | true=>rw [hcl.anc i dp t h1 hl] at hu;cases hu) (.inl ⟨hw,hy⟩) hS k
theorem hSkip' (i:Nat) {oi:Oper} (hi:ops[i]?=some oi) (hc:may ops T L i=true) (hw:wantF ops f oi.guard=false) (hS:SL' S1 T S L w)
  (k:WPh' P N ops S1 S T K n (L.setIfInBounds i true) (updO f oi.dst undef) w):WPh' P N ops S1 S T K (n+1) L f w:=
 hTake0' (fun _=>True) i hi hc (fun _ _ _ _ _=>trivial) (.inr ⟨hw,rfl⟩) hS k
def One' (P:Program) (N:Nat) (ops:Array Oper) (S1 S:World→Prop) (T:List Nat) (K:Fr→World→Prop) (n:Nat) (L:Array Bool) (f:Fr) (w:World) (i:Nat):Prop:=
 (∀ o ∈ ops.toList,dstOk N o=true)→Closed ops (L.setIfInBounds i true)→∀ a,Rep N f a→wpOp P ops (liftN N K) i (fun a' w'=>SL' S1 T S (L.setIfInBounds i true) w'∧anyT' P ops (liftN N K) S1 S T n (L.setIfInBounds i true) a' w') a w
theorem hOne' (i:Nat) (hr:Region.ready .any ops L=[i]) (h:One' P N ops S1 S T K n L f w i):WPh' P N ops S1 S T K (n+1) L f w:=fun hok hcl a ha=>
 ⟨fun h0=>(by rw [hr] at h0;cases h0),fun j hj=>by
  have hcl':=hcl.step hj
  rw [hr] at hj
  have hj':j=i:=by simpa using hj
  subst hj'
  exact h hok hcl' a ha⟩
theorem oRun' {i:Nat} {oi:Oper} {v:Value} {w':World} (hi:ops[i]?=some oi) (hw:wantF ops f oi.guard=true) (h:(execOp (ev f) oi).run P w=.ok (.value v) w')
  (hS:SL' S1 T S (L.setIfInBounds i true) w') (k:WPh' P N ops S1 S T K n (L.setIfInBounds i true) (updO f oi.dst v) w'):One' P N ops S1 S T K n L f w i:=by
 intro hok hcl a ha
 have hd:dstOk N oi=true:=hok oi (by have:=Array.mem_of_getElem? hi;simpa using this)
 unfold wpOp
 simp only [hi]
 rw [if_pos (by rw [wanted_eq ha];exact hw)]
 left
 unfold Oper.wp
 rw [ha.ev_eq,h]
 exact ⟨hS,k hok hcl _ (ha.put _ (dstOk_lt hd) v)⟩
theorem oDo' {i:Nat} {oi:Oper} {w':World} (hi:ops[i]?=some oi) (hw:wantF ops f oi.guard=true) (h:(execOp (ev f) oi).run P w=.ok .skip w')
  (hS:SL' S1 T S (L.setIfInBounds i true) w') (k:WPh' P N ops S1 S T K n (L.setIfInBounds i true) (updO f oi.dst undef) w'):One' P N ops S1 S T K n L f w i:=by
 intro hok hcl a ha
 have hd:dstOk N oi=true:=hok oi (by have:=Array.mem_of_getElem? hi;simpa using this)
 unfold wpOp
 simp only [hi]
 rw [if_pos (by rw [wanted_eq ha];exact hw)]
 left
 unfold Oper.wp
 rw [ha.ev_eq,h]
 exact ⟨hS,k hok hcl _ (ha.put _ (dstOk_lt hd) undef)⟩
theorem oCall' {i:Nat} {oi:Oper} {w':World} {g:FuncId} {args:Array Value} {R:Value→World→Prop} (hi:ops[i]?=some oi) (hw:wantF ops f oi.guard=true)
  (h:(execOp (ev f) oi).run P w=.ok (.enter g args) w') (hc:Calls P g args w' (Ret R))
  (k:∀ v w'',R v w''→SL' S1 T S (L.setIfInBounds i true) w''∧WPh' P N ops S1 S T K n (L.setIfInBounds i true) (updO f oi.dst v) w''):One' P N ops S1 S T K n L f w i:=by
 intro hok hcl a ha
 have hd:dstOk N oi=true:=hok oi (by have:=Array.mem_of_getElem? hi;simpa using this)
 unfold wpOp
 simp only [hi]
 rw [if_pos (by rw [wanted_eq ha];exact hw)]
 left
 unfold Oper.wp
 rw [ha.ev_eq,h]
 refine hc.mono fun e w'' he=>?_
 obtain ⟨v,rfl,hR⟩:=he
 exact ⟨(k v w'' hR).1,(k v w'' hR).2 hok hcl _ (ha.put _ (dstOk_lt hd) v)⟩
theorem sl_of' {w:World} (h1:S1 w) (h:S w):SL' S1 T S L w:=⟨h1,fun _=>h⟩
theorem sl_late' (t:Nat) {w:World} (h1:S1 w) (h:(T.contains t && L.getD t false)=true):SL' S1 T S L w:=⟨h1,fun ht=>by
 simp only [Bool.and_eq_true,List.contains_eq_mem] at h
 have:=ht t (by simpa using h.1)
 rw [this] at h
 cases h.2⟩
theorem hTakeU (i:Nat) {oi:Oper} {v:Value} (hi:ops[i]?=some oi) (hc:may ops T L i=true) (hw:wantF ops f oi.guard=true) (hy:∀ w,S1 w→(execOp (ev f) oi).run P w=.ok (.value v) w) (hS:SL' S1 T S L w)
  (k:WPh' P N ops S1 S T K n (L.setIfInBounds i true) (updO f oi.dst v) w):WPh' P N ops S1 S T K (n+1) L f w:=
 hTake0' S1 i hi hc (fun _ _ _ _ h=>h.1) (.inl ⟨hw,hy⟩) hS k
theorem oTo' {i:Nat} {oi:Oper} {R:Value→World→Prop} (hi:ops[i]?=some oi) (hw:wantF ops f oi.guard=true)
  (h:To P (ev f) oi w R) (k:∀ v w',R v w'→SL' S1 T S (L.setIfInBounds i true) w'∧WPh' P N ops S1 S T K n (L.setIfInBounds i true) (updO f oi.dst v) w'):One' P N ops S1 S T K n L f w i:=by
 obtain ⟨v,w',h1,h2⟩:=h
 exact oRun' hi hw h1 (k v w' h2).1 (k v w' h2).2
theorem oTs' {i:Nat} {oi:Oper} {R:World→Prop} (hi:ops[i]?=some oi) (hw:wantF ops f oi.guard=true) (h:ToS P (ev f) oi w R)
  (k:∀ w',R w'→SL' S1 T S (L.setIfInBounds i true) w'∧WPh' P N ops S1 S T K n (L.setIfInBounds i true) (updO f oi.dst undef) w'):One' P N ops S1 S T K n L f w i:=by
 obtain ⟨w',h1,h2⟩:=h
 exact oDo' hi hw h1 (k w' h2).1 (k w' h2).2
theorem hList' (i:Nat) (l:List Nat) (hr:Region.ready .any ops L=i :: l) (h:∀ j ∈ i :: l,One' P N ops S1 S T K n L f w j):WPh' P N ops S1 S T K (n+1) L f w:=by
 unfold WPh'
 intro hok hcl a ha
 refine ⟨fun h0=>?_,fun j hj=>?_⟩
 · rw [hr] at h0;cases h0
 · have hcl':=hcl.step hj
   rw [hr] at hj
   have:=h j hj
   unfold One' at this
   exact this hok hcl' a ha
theorem om_nil':∀ i ∈ ([]:List Nat),One' P N ops S1 S T K n L f w i:=fun _ h=>by cases h
theorem om_cons' {i:Nat} {l:List Nat} (h:One' P N ops S1 S T K n L f w i) (k:∀ j ∈ l,One' P N ops S1 S T K n L f w j):∀ j ∈ i :: l,One' P N ops S1 S T K n L f w j:=fun j hj=>by
 rcases List.mem_cons.1 hj with rfl | hj
 · exact h
 · exact k j hj
end
attribute [irreducible] WPh' One'
end Go.Fw
