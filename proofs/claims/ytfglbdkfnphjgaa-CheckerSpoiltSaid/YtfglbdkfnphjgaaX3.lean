/- Regions that draw their order: what stays all the time (S1), and what stays till one of T has come up (S). Over any program. -/
import Derived.Test.YtfglbdkfnphjgaaX2
set_option linter.unusedVariables false
namespace Go.Fw
open Go.RowKit
def Fe (S1:World→Prop) (T:List Nat) (S:World→Prop) (L:Array Bool) (w:World):Prop:=S1 w∧((∀ t ∈ T,L.getD t false=false)→S w)
def IA (P:Program) (ops:Array Oper) (Q:Exit→Act→World→Prop) (S1 S:World→Prop) (T:List Nat):Nat→Array Bool→Act→World→Prop
 | 0,L,a,w=>Region.ready .any ops L=[]∧Q .normal a w
 | n+1,L,a,w=>(Region.ready .any ops L=[]→Q .normal a w)∧
  ∀ i ∈ Region.ready .any ops L,wpOp P ops Q i (fun a' w'=>Fe S1 T S (L.setIfInBounds i true) w'∧IA P ops Q S1 S T n (L.setIfInBounds i true) a' w') a w
theorem I9 {P:Program} {ops:Array Oper} {Q:Exit→Act→World→Prop} {S1 S:World→Prop} {T:List Nat}:∀ (n:Nat) (L:Array Bool) (a:Act) (w:World),IA P ops Q S1 S T n L a w→wpAny P .any ops Q n L a w
 | 0,_,_,_,h=>h
 | n+1,_,_,_,h=>⟨h.1,fun i hi=>wpOp_mono (fun a' w' h'=>I9 n _ a' w' h'.2) (h.2 i hi)⟩
theorem LJ {P:Program} {ops:Array Oper} {Q:Exit→Act→World→Prop} {S1 S S2:World→Prop} {T:List Nat} {i:Nat} {oi:Oper} {v:Value} (hi:ops[i]?=some oi)
  (hsel:∀ (j:Nat) (o:Oper) cs b,ops[j]?=some o→o.op≠.select cs b) (hQ:∀ c a w,Q (.panic c) (a.put oi.dst v) w→Q (.panic c) a w) (hT:i ∉ T)
  (hS2:∀ L w,Closed ops L→L.getD i false=false→Fe S1 T S L w→S2 w) :
  ∀ (n:Nat) (L:Array Bool) (a:Act) (w:World),Closed ops L→
    (∀ j oj,ops[j]?=some oj→j≠i→L.getD j true=false→(∀ e ∈ oj.after,Region.binds .any e=true→e.on≠i)→oi.apart ops oj=true)→
    i ∈ Region.ready .any ops L→YieldsIf P ops S2 oi v a→Fe S1 T S L w→
    IA P ops Q S1 S T n (L.setIfInBounds i true) (a.put oi.dst v) w→IA P ops Q S1 S T (n+1) L a w:=by
 have unl:∀ L,i ∈ Region.ready .any ops L→L.getD i false=false:=by
  intro L hr
  have h0:=(mem_ready.1 hr).1
  rcases Nat.lt_or_ge i L.size with h' | h'
  · simp [h'] at h0 ⊢;exact h0
  · simp [Array.getElem?_eq_none h']
 have sl:∀ L w,Fe S1 T S (L.setIfInBounds i true) w→Fe S1 T S L w:=by
  intro L w h
  refine ⟨h.1,fun ht=>h.2 fun t hm=>?_⟩
  rw [zY false (fun e=>hT (by rw [e];exact hm))]
  exact ht t hm
 have sl':∀ L w,Fe S1 T S L w→Fe S1 T S (L.setIfInBounds i true) w:=by
  intro L w h
  refine ⟨h.1,fun ht=>h.2 fun t hm=>?_⟩
  have:=ht t hm
  rwa [zY false (fun e=>hT (by rw [e];exact hm))] at this
 intro n
 induction n with
 | zero=>
  intro L a w hcl _ hr hy hS H
  refine ⟨fun h=>(by rw [h] at hr;cases hr),fun j hj=>?_⟩
  by_cases hji:j=i
  · subst hji;exact hy.wpOp hi (hS2 L w hcl (unl L hr) hS) ⟨sl' L w hS,H⟩
  · have:=ready_mono hj hji
    rw [H.1] at this
    cases this
 | succ n ih=>
  intro L a w hcl hfree hr hy hS H
  refine ⟨fun h=>(by rw [h] at hr;cases hr),fun j hj=>?_⟩
  by_cases hji:j=i
  · subst hji;exact hy.wpOp hi (hS2 L w hcl (unl L hr) hS) ⟨sl' L w hS,H⟩
  · have h1:=H.2 j (ready_mono hj hji)
    obtain ⟨hjun,oj,hoj,hall⟩:=mem_ready.1 hj
    have hnot:∀ e ∈ oj.after,Region.binds .any e=true→e.on≠i:=fun e he hb heq=>by
     have h1:=hall e he hb
     have h0:=unl L hr
     rw [heq,h0] at h1
     cases h1
    have h2:=wpOp_putIf hoj (hfree j oj hoj hji hjun hnot) (fun cs b=>hsel i oi cs b hi) (fun cs b=>hsel j oj cs b hoj) hQ hy h1
    have hfree':∀ k ok,ops[k]?=some ok→k≠i→(L.setIfInBounds j true).getD k true=false→
       (∀ e ∈ ok.after,Region.binds .any e=true→e.on≠i)→oi.apart ops ok=true:=fun k ok hk hki hun hno=>by
     refine hfree k ok hk hki ?_ hno
     by_cases hjk:j=k
     · subst hjk;exact hjun
     · rw [zY true hjk] at hun;exact hun
    have hcomm:(L.setIfInBounds i true).setIfInBounds j true=(L.setIfInBounds j true).setIfInBounds i true:=Array.setIfInBounds_comm _ _ (Ne.symm hji)
    refine wpOp_mono (fun a' w' h3=>?_) h2
    have h4:=h3.2.1
    rw [hcomm] at h4
    have h5:=sl _ _ h4
    refine ⟨h5,ih (L.setIfInBounds j true) a' w' (hcl.step hj) hfree' (ready_mono hr (Ne.symm hji)) h3.1 h5 ?_⟩
    rw [← hcomm]
    exact h3.2.2
def vF (P:Program) (N:Nat) (ops:Array Oper) (S1 S:World→Prop) (T:List Nat) (K:Fr→World→Prop) (n:Nat) (L:Array Bool) (f:Fr) (w:World):Prop:=
 (∀ o ∈ ops.toList,Ae N o=true)→Closed ops L→∀ a,Kq N f a→IA P ops (G8 N K) S1 S T n L a w
section
variable {P:Program} {N:Nat} {ops:Array Oper} {S1 S:World→Prop} {T:List Nat} {K:Fr→World→Prop} {f:Fr} {w:World} {n:Nat} {L:Array Bool}
theorem O3 {Q:Post} {i:Nat} (S1 S:World→Prop) (T:List Nat) (hm:P.follows .mixedOrders=true) (h:vF P N ops S1 S T Q.n ops.size (Array.replicate ops.size false) f w.drew):WP P N (.region i ops true) Q f w:=by
 unfold WP
 intro hok a ha
 have hl:∀ o ∈ ops.toList,Ae N o=true:=by
  intro o ho
  have:=Array.all_eq_true_iff_forall_mem.1 (show ops.all (Ae N)=true from hok)
  exact this o (by simpa using ho)
 refine Code.wp_mono (fun e a w q=>?_) (wp_region_any hm (I9 _ _ _ _ (h hl (Closed.start ops _) a ha)))
 cases e with
 | normal=>exact q
 | _=>exact q.elim
theorem Ru (hr:Region.ready .any ops L=[]) (h:K f w):vF P N ops S1 S T K n L f w:=by
 intro _ _ a ha
 cases n with
 | zero=>exact ⟨hr,f,ha,h⟩
 | succ n=>exact ⟨fun _=>⟨f,ha,h⟩,by rw [hr];simp⟩
theorem FU (S2:World→Prop) (i:Nat) {oi:Oper} {v:Value} (hi:ops[i]?=some oi) (hc:may ops T L i=true) (hS2:∀ L w,Closed ops L→L.getD i false=false→Fe S1 T S L w→S2 w)
   (hw:(wM ops f oi.guard=true∧∀ w,S2 w→(execOp (ev f) oi).run P w=.ok (.value v) w) ∨ (wM ops f oi.guard=false∧v=undef)) (hS:Fe S1 T S L w)
   (k:vF P N ops S1 S T K n (L.setIfInBounds i true) (zP f oi.dst v) w):vF P N ops S1 S T K (n+1) L f w:=by
 intro hok hcl a ha
 simp only [may,Bool.and_eq_true,Bool.not_eq_true',List.contains_eq_mem] at hc
 have hd:Ae N oi=true:=hok oi (by have:=Array.mem_of_getElem? hi;simpa using this)
 have hr:i ∈ Region.ready .any ops L:=by simpa using hc.1.2
 have hT:i ∉ T:=by simpa using hc.2
 refine LJ (S2:=S2) (v:=v) hi (Region.noSelect_spec hc.1.1.1) (fun _ _ _ h=>h) hT hS2 n L a w hcl (Region.free_spec hi hc.1.1.2) hr ?_ hS (k hok (hcl.step hr) _ (ha.put _ (zu hd) v))
 rcases hw with ⟨h1,h2⟩|⟨h1,h2⟩
 · exact .inl ⟨by rw [xB ha];exact h1,fun w hw=>by rw [ha.Fj];exact h2 w hw⟩
 · exact .inr ⟨by rw [xB ha];exact h1,h2⟩
theorem Rl (i:Nat) {oi:Oper} {v:Value} (hi:ops[i]?=some oi) (hc:may ops T L i=true) (hw:wM ops f oi.guard=true) (hy:∀ w,(execOp (ev f) oi).run P w=.ok (.value v) w) (hS:Fe S1 T S L w)
  (k:vF P N ops S1 S T K n (L.setIfInBounds i true) (zP f oi.dst v) w):vF P N ops S1 S T K (n+1) L f w:=
 FU (fun _=>True) i hi hc (fun _ _ _ _ _=>trivial) (.inl ⟨hw,fun w _=>hy w⟩) hS k
theorem Qv (dp:Nat) (i:Nat) {oi:Oper} {v:Value} (hi:ops[i]?=some oi) (hc:may ops T L i=true) (hT:(T.all fun t=>Qp ops dp t i)=true) (hw:wM ops f oi.guard=true) (hy:∀ w,S w→(execOp (ev f) oi).run P w=.ok (.value v) w) (hS:Fe S1 T S L w)
  (k:vF P N ops S1 S T K n (L.setIfInBounds i true) (zP f oi.dst v) w):vF P N ops S1 S T K (n+1) L f w:=
 FU S i hi hc (fun L w hcl hu hs=>hs.2 fun t ht=>by
  have h1:=List.all_eq_true.1 hT t ht
  cases hl:L.getD t false with
  | false=>rfl
  | true=>rw [hcl.Qp i dp t h1 hl] at hu;cases hu) (.inl ⟨hw,hy⟩) hS k
theorem pM (i:Nat) {oi:Oper} (hi:ops[i]?=some oi) (hc:may ops T L i=true) (hw:wM ops f oi.guard=false) (hS:Fe S1 T S L w)
  (k:vF P N ops S1 S T K n (L.setIfInBounds i true) (zP f oi.dst undef) w):vF P N ops S1 S T K (n+1) L f w:=
 FU (fun _=>True) i hi hc (fun _ _ _ _ _=>trivial) (.inr ⟨hw,rfl⟩) hS k
def DJ (P:Program) (N:Nat) (ops:Array Oper) (S1 S:World→Prop) (T:List Nat) (K:Fr→World→Prop) (n:Nat) (L:Array Bool) (f:Fr) (w:World) (i:Nat):Prop:=
 (∀ o ∈ ops.toList,Ae N o=true)→Closed ops (L.setIfInBounds i true)→∀ a,Kq N f a→wpOp P ops (G8 N K) i (fun a' w'=>Fe S1 T S (L.setIfInBounds i true) w'∧IA P ops (G8 N K) S1 S T n (L.setIfInBounds i true) a' w') a w
theorem Tv (i:Nat) (hr:Region.ready .any ops L=[i]) (h:DJ P N ops S1 S T K n L f w i):vF P N ops S1 S T K (n+1) L f w:=fun hok hcl a ha=>
 ⟨fun h0=>(by rw [hr] at h0;cases h0),fun j hj=>by
  have hcl':=hcl.step hj
  rw [hr] at hj
  have hj':j=i:=by simpa using hj
  subst hj'
  exact h hok hcl' a ha⟩
theorem vI {i:Nat} {oi:Oper} {v:Value} {w':World} (hi:ops[i]?=some oi) (hw:wM ops f oi.guard=true) (h:(execOp (ev f) oi).run P w=.ok (.value v) w')
  (hS:Fe S1 T S (L.setIfInBounds i true) w') (k:vF P N ops S1 S T K n (L.setIfInBounds i true) (zP f oi.dst v) w'):DJ P N ops S1 S T K n L f w i:=by
 intro hok hcl a ha
 have hd:Ae N oi=true:=hok oi (by have:=Array.mem_of_getElem? hi;simpa using this)
 unfold wpOp
 simp only [hi]
 rw [if_pos (by rw [xB ha];exact hw)]
 left
 unfold Oper.wp
 rw [ha.Fj,h]
 exact ⟨hS,k hok hcl _ (ha.put _ (zu hd) v)⟩
theorem Va {i:Nat} {oi:Oper} {w':World} (hi:ops[i]?=some oi) (hw:wM ops f oi.guard=true) (h:(execOp (ev f) oi).run P w=.ok .skip w')
  (hS:Fe S1 T S (L.setIfInBounds i true) w') (k:vF P N ops S1 S T K n (L.setIfInBounds i true) (zP f oi.dst undef) w'):DJ P N ops S1 S T K n L f w i:=by
 intro hok hcl a ha
 have hd:Ae N oi=true:=hok oi (by have:=Array.mem_of_getElem? hi;simpa using this)
 unfold wpOp
 simp only [hi]
 rw [if_pos (by rw [xB ha];exact hw)]
 left
 unfold Oper.wp
 rw [ha.Fj,h]
 exact ⟨hS,k hok hcl _ (ha.put _ (zu hd) undef)⟩
theorem NR {i:Nat} {oi:Oper} {w':World} {g:FuncId} {args:Array Value} {R:Value→World→Prop} (hi:ops[i]?=some oi) (hw:wM ops f oi.guard=true)
  (h:(execOp (ev f) oi).run P w=.ok (.enter g args) w') (hc:Calls P g args w' (rf R))
  (k:∀ v w'',R v w''→Fe S1 T S (L.setIfInBounds i true) w''∧vF P N ops S1 S T K n (L.setIfInBounds i true) (zP f oi.dst v) w''):DJ P N ops S1 S T K n L f w i:=by
 intro hok hcl a ha
 have hd:Ae N oi=true:=hok oi (by have:=Array.mem_of_getElem? hi;simpa using this)
 unfold wpOp
 simp only [hi]
 rw [if_pos (by rw [xB ha];exact hw)]
 left
 unfold Oper.wp
 rw [ha.Fj,h]
 refine hc.mono fun e w'' he=>?_
 obtain ⟨v,rfl,hR⟩:=he
 exact ⟨(k v w'' hR).1,(k v w'' hR).2 hok hcl _ (ha.put _ (zu hd) v)⟩
theorem LY {w:World} (h1:S1 w) (h:S w):Fe S1 T S L w:=⟨h1,fun _=>h⟩
theorem OM (t:Nat) {w:World} (h1:S1 w) (h:(T.contains t && L.getD t false)=true):Fe S1 T S L w:=⟨h1,fun ht=>by
 simp only [Bool.and_eq_true,List.contains_eq_mem] at h
 have:=ht t (by simpa using h.1)
 rw [this] at h
 cases h.2⟩
theorem Sv (i:Nat) {oi:Oper} {v:Value} (hi:ops[i]?=some oi) (hc:may ops T L i=true) (hw:wM ops f oi.guard=true) (hy:∀ w,S1 w→(execOp (ev f) oi).run P w=.ok (.value v) w) (hS:Fe S1 T S L w)
  (k:vF P N ops S1 S T K n (L.setIfInBounds i true) (zP f oi.dst v) w):vF P N ops S1 S T K (n+1) L f w:=
 FU S1 i hi hc (fun _ _ _ _ h=>h.1) (.inl ⟨hw,hy⟩) hS k
theorem TY {i:Nat} {oi:Oper} {R:Value→World→Prop} (hi:ops[i]?=some oi) (hw:wM ops f oi.guard=true)
  (h:To P (ev f) oi w R) (k:∀ v w',R v w'→Fe S1 T S (L.setIfInBounds i true) w'∧vF P N ops S1 S T K n (L.setIfInBounds i true) (zP f oi.dst v) w'):DJ P N ops S1 S T K n L f w i:=by
 obtain ⟨v,w',h1,h2⟩:=h
 exact vI hi hw h1 (k v w' h2).1 (k v w' h2).2
theorem TW {i:Nat} {oi:Oper} {R:World→Prop} (hi:ops[i]?=some oi) (hw:wM ops f oi.guard=true) (h:QA P (ev f) oi w R)
  (k:∀ w',R w'→Fe S1 T S (L.setIfInBounds i true) w'∧vF P N ops S1 S T K n (L.setIfInBounds i true) (zP f oi.dst undef) w'):DJ P N ops S1 S T K n L f w i:=by
 obtain ⟨w',h1,h2⟩:=h
 exact Va hi hw h1 (k w' h2).1 (k w' h2).2
theorem nI (i:Nat) (l:List Nat) (hr:Region.ready .any ops L=i :: l) (h:∀ j ∈ i :: l,DJ P N ops S1 S T K n L f w j):vF P N ops S1 S T K (n+1) L f w:=by
 unfold vF
 intro hok hcl a ha
 refine ⟨fun h0=>?_,fun j hj=>?_⟩
 · rw [hr] at h0;cases h0
 · have hcl':=hcl.step hj
   rw [hr] at hj
   have:=h j hj
   unfold DJ at this
   exact this hok hcl' a ha
theorem lX:∀ i ∈ ([]:List Nat),DJ P N ops S1 S T K n L f w i:=fun _ h=>by cases h
theorem jS {i:Nat} {l:List Nat} (h:DJ P N ops S1 S T K n L f w i) (k:∀ j ∈ l,DJ P N ops S1 S T K n L f w j):∀ j ∈ i :: l,DJ P N ops S1 S T K n L f w j:=fun j hj=>by
 rcases List.mem_cons.1 hj with rfl | hj
 · exact h
 · exact k j hj
end
attribute [irreducible] vF DJ
end Go.Fw
set_option linter.unusedVariables false
namespace Go.Fw
open Go.RowKit
structure Rw where
 a:Option Addr
 c:Nat
 cs:List (List Value)
def Rw.hdr (r:Rw):List Value:=[.slice r.a r.cs.length r.c]
section
variable {α:Type} [Rp α] {F G:Nat→Prop} {w w':World}
def zX (F:Nat→Prop) (w:World):List Rw→List (List α)→Prop
 | [],[]=>True
 | r :: R,l :: m=>yA F w r.cs l∧zX F w R m
 | _,_=>False
theorem zX.mv:∀ {R:List Rw} {m:List (List α)},zX F w R m→Mv F G w w'→zX G w' R m
 | [],[],_,_=>trivial
 | _ :: _,_ :: _,h,k=>⟨h.1.mv k,zX.mv h.2 k⟩
 | [],_ :: _,h,_=>h.elim
 | _ :: _,[],h,_=>h.elim
theorem zX.len:∀ {R:List Rw} {m:List (List α)},zX F w R m→R.length=m.length
 | [],[],_=>rfl
 | _ :: _,_ :: _,h=>congrArg (·+1) (zX.len h.2)
 | [],_ :: _,h=>h.elim
 | _ :: _,[],h=>h.elim
theorem zX.get:∀ {R:List Rw} {m:List (List α)} {k:Nat} {x:List α},zX F w R m→m[k]?=some x→∃ r,R[k]?=some r∧yA F w r.cs x
 | r :: _,_ :: _,0,x,h,hx=>by simp only [List.getElem?_cons_zero,Option.some.injEq] at hx;subst hx;exact ⟨r,rfl,h.1⟩
 | _ :: _,_ :: _,k+1,x,h,hx=>zX.get (k:=k) h.2 (by simpa using hx)
 | [],[],_,_,_,hx=>by simp at hx
 | [],_ :: _,_,_,h,_=>h.elim
 | _ :: _,[],_,_,h,_=>h.elim
theorem zX.set:∀ {R:List Rw} {m:List (List α)} (k:Nat) {r:Rw} {x:List α},zX F w R m→yA F w r.cs x→zX F w (R.set k r) (m.set k x)
 | [],[],_,_,_,_,_=>trivial
 | _ :: _,_ :: _,0,_,_,h,k=>⟨k,h.2⟩
 | _ :: _,_ :: _,n+1,_,_,h,k=>⟨h.1,zX.set n h.2 k⟩
 | [],_ :: _,_,_,_,h,_=>h.elim
 | _ :: _,[],_,_,_,h,_=>h.elim
theorem zX.app:∀ {R:List Rw} {m:List (List α)} {S:List Rw} {n:List (List α)},zX F w R m→zX F w S n→zX F w (R ++ S) (m ++ n)
 | [],[],_,_,_,k=>k
 | _ :: _,_ :: _,_,_,h,k=>⟨h.1,zX.app h.2 k⟩
 | [],_ :: _,_,_,h,_=>h.elim
 | _ :: _,[],_,_,h,_=>h.elim
end
def Da.nN {α:Type} [Rp α] (R:List Rw) (m:List (List α)):Da:=⟨fun F w=>zX F w R m,zX.mv⟩
theorem Own.same {w w':World} {base:Nat} {e:TypeId} {sz n c:Nat} {A:Option Addr} {xs:List Value} (h:Own w base e sz A n c xs) (k:∀ b,rowOf A=some b→w'.heap[b]?=w.heap[b]?):Own w' base e sz A n c xs:=by
 refine ⟨h.1,?_⟩
 rcases h.2 with h1 | ⟨g,cap,cur,h3,h4,h5,h6⟩
 · exact .inl h1
 · refine .inr ⟨g,cap,cur,h3,h4,?_,h6⟩
   injection h3 with h3 _ _
   rw [k g (by rw [h3];rfl)]
   exact h5
def It.tN (base:Nat) (e:TypeId) (sz:Nat) (R:List Rw) (x:Option Nat):It where
 F k:=∃ (i:Nat) (r:Rw),R[i]?=some r∧some i≠x∧rowOf r.a=some k
 p w:=(∀ (i:Nat) (r:Rw),R[i]?=some r→some i≠x→Own w base e sz r.a r.cs.length r.c r.cs.flatten)∧∀ (i j:Nat) (r s:Rw) (b:Nat),R[i]?=some r→R[j]?=some s→some i≠x→some j≠x→rowOf r.a=some b→rowOf s.a=some b→i=j
 bd w h k hk:=by obtain ⟨i,r,h1,h2,h3⟩:=hk;exact ((h.1 i r h1 h2).row k h3).2
 st w w' h k hs:=⟨fun i r h1 h2=>Own.same (h.1 i r h1 h2) (fun b hb=>k b ⟨i,r,h1,h2,hb⟩),h.2⟩
section
variable {α:Type} [Rp α] {w0 w w':World} {Z G:Nat→Prop} {L Lr:List It} {D:List Da} {base e sz:Nat} {R:List Rw} {m:List (List α)} {k:Nat} {x:List α}
theorem Bx.d2 (h:Bx w0 w Z G L D) (j:Nat) (hj:D[j]?=some (.nN R m)):zX (F4 w0 Z L) w R m:=h.d j hj
theorem Bx.Sd (h:Bx w0 w Z G (.tN base e sz R none :: Lr) D) (j:Nat) (hj:D[j]?=some (.nN R m)) (hx:m[k]?=some x) :
  ∃ a c cs,R[k]?=some ⟨a,c,cs⟩∧cs.length=x.length∧Bx w0 w Z G (.own base a c e sz cs :: .tN base e sz R (some k) :: Lr) (.els cs x :: D):=by
 obtain ⟨⟨a,c,cs⟩,hr,hE⟩:=(h.d2 j hj).get hx
 have hf:=(h.it _ (List.mem_cons_self ..)).1
 have hpw:=List.pairwise_cons.1 h.pw
 refine ⟨a,c,cs,hr,hE.len,?_⟩
 have h1:Bx w0 w Z G (.own base a c e sz cs :: .tN base e sz R (some k) :: Lr) D:=by
  refine h.step (X:=fun _=>False) ((Ext.refl w).FQ _) (fun _ hx=>hx.elim) (fun it hi=>?_) (fun it hi b hb hl=>?_) (List.pairwise_cons.2 ⟨fun y hy b hb hc=>?_,List.pairwise_cons.2 ⟨fun y hy b hb=>?_,hpw.2⟩⟩)
  · rcases List.mem_cons.1 hi with rfl | hi
    · exact hf.1 k _ hr (by simp)
    · rcases List.mem_cons.1 hi with rfl | hi
      · exact ⟨fun i r h1 h2=>hf.1 i r h1 (by simp),fun i j r s b h1 h2 _ _ h3 h4=>hf.2 i j r s b h1 h2 (by simp) (by simp) h3 h4⟩
      · exact (h.it it (List.mem_cons_of_mem _ hi)).1
  · rcases List.mem_cons.1 hi with rfl | hi
    · exact ⟨_,List.mem_cons_self ..,k,_,hr,by simp,hb⟩
    · rcases List.mem_cons.1 hi with rfl | hi
      · obtain ⟨i,r,h1,h2,h3⟩:=hb
        exact ⟨_,List.mem_cons_self ..,i,r,h1,by simp,h3⟩
      · exact ⟨it,List.mem_cons_of_mem _ hi,hb⟩
  · rcases List.mem_cons.1 hy with rfl | hy
    · obtain ⟨i,r,h1,h2,h3⟩:=hc
      have:=hf.2 i k r _ b h1 hr (by simp) (by simp) h3 hb
      subst this
      exact h2 rfl
    · exact hpw.1 y hy b ⟨k,_,hr,by simp,hb⟩ hc
  · obtain ⟨i,r,h1,h2,h3⟩:=hb
    exact hpw.1 y hy b ⟨i,r,h1,by simp,h3⟩
 refine h1.ku (d:=.els cs x) ?_
 obtain ⟨r',hr',hE'⟩:=(h1.d2 j hj).get hx
 rw [hr] at hr'
 injection hr' with hr'
 subst hr'
 exact hE'
theorem Bx.TD {a:Option Addr} {c:Nat} {cs:List (List Value)} (h:Bx w0 w Z G (.own base a c e sz cs :: .tN base e sz R (some k) :: Lr) D) (j p:Nat) (hj:D[j]?=some (.nN R m)) (hp:D[p]?=some (.els cs x)) :
  Bx w0 w Z G (.tN base e sz (R.set k ⟨a,c,cs⟩) none :: Lr) (D.set j (.nN (R.set k ⟨a,c,cs⟩) (m.set k x))):=by
 have ho:=(h.it _ (List.mem_cons_self ..)).1
 have hf:=(h.it _ (List.mem_cons_of_mem _ (List.mem_cons_self ..))).1
 have hpw:=List.pairwise_cons.1 h.pw
 have hpw2:=List.pairwise_cons.1 hpw.2
 have hget:∀ {i:Nat} {r:Rw},(R.set k ⟨a,c,cs⟩)[i]?=some r→i=k∧r=⟨a,c,cs⟩ ∨ i≠k∧R[i]?=some r:=by
  intro i r hi
  rw [List.getElem?_set] at hi
  split at hi
  · rename_i hki
    split at hi
    · injection hi with hi;exact .inl ⟨hki.symm,hi.symm⟩
    · cases hi
  · rename_i hki
    exact .inr ⟨fun e=>hki e.symm,hi⟩
 have hap:∀ {i:Nat} {r:Rw} {b:Nat},i≠k→R[i]?=some r→rowOf r.a=some b→rowOf a≠some b:=fun {i r b} hne hi hb hc=>
  hpw.1 _ (List.mem_cons_self ..) b hc ⟨i,r,hi,by simpa using hne,hb⟩
 have h1:Bx w0 w Z G (.tN base e sz (R.set k ⟨a,c,cs⟩) none :: Lr) D:=by
  refine h.step (X:=fun _=>False) ((Ext.refl w).FQ _) (fun _ hx=>hx.elim) (fun it hi=>?_) (fun it hi b hb hl=>?_) (List.pairwise_cons.2 ⟨fun y hy b hb=>?_,hpw2.2⟩)
  · rcases List.mem_cons.1 hi with rfl | hi
    · refine ⟨fun i r h1 _=>?_,fun i j r s b h1 h2 _ _ h3 h4=>?_⟩
      · rcases hget h1 with ⟨_,rfl⟩|⟨hne,h1⟩
        · exact ho
        · exact hf.1 i r h1 (by simpa using hne)
      · rcases hget h1 with ⟨e1,er⟩|⟨hne,h1⟩
        · rcases hget h2 with ⟨e2,es⟩|⟨hne2,h2⟩
          · rw [e1,e2]
          · rw [er] at h3;exact absurd h3 (hap hne2 h2 h4)
        · rcases hget h2 with ⟨e2,es⟩|⟨hne2,h2⟩
          · rw [es] at h4;exact absurd h4 (hap hne h1 h3)
          · exact hf.2 i j r s b h1 h2 (by simpa using hne) (by simpa using hne2) h3 h4
    · exact (h.it it (List.mem_cons_of_mem _ (List.mem_cons_of_mem _ hi))).1
  · rcases List.mem_cons.1 hi with rfl | hi
    · obtain ⟨i,r,h1,_,h3⟩:=hb
      rcases hget h1 with ⟨rfl,rfl⟩|⟨hne,h1⟩
      · exact ⟨_,List.mem_cons_self ..,h3⟩
      · exact ⟨_,List.mem_cons_of_mem _ (List.mem_cons_self ..),i,r,h1,by simpa using hne,h3⟩
    · exact ⟨it,List.mem_cons_of_mem _ (List.mem_cons_of_mem _ hi),hb⟩
  · obtain ⟨i,r,h1,_,h3⟩:=hb
    rcases hget h1 with ⟨rfl,rfl⟩|⟨hne,h1⟩
    · exact hpw.1 y (List.mem_cons_of_mem _ hy) b h3
    · exact hpw2.1 y hy b ⟨i,r,h1,by simpa using hne,h3⟩
 exact h1.PZ j (d:=.nN _ _) ((h1.d2 j hj).set k (h1.de p hp))
theorem Bx.hd (h:Bx w0 w Z G L D) (i:Nat) {A:Option Addr} {c:Nat} {H H':List (List Value)} (hi:L[i]?=some (.own base A c e sz H)) (hH:H=H'):Bx w0 w Z G (L.set i (.own base A c e sz H')) D:=by
 subst hH
 exact h.put i hi ((Ext.refl w).FQ _) (h.bo i hi) (fun k hk=>.inl hk)
theorem Rv {R:List Rw} {k:Nat} {a:Option Addr} {c:Nat} {cs cs':List (List Value)} (hr:R[k]?=some ⟨a,c,cs⟩) (hl:cs'.length=cs.length):R.map Rw.hdr=(R.set k ⟨a,c,cs'⟩).map Rw.hdr:=by
 refine List.ext_getElem? fun i=>?_
 rw [List.getElem?_map,List.getElem?_map,List.getElem?_set]
 split
 · rename_i hki
   subst hki
   rw [hr]
   split
   · simp [Rw.hdr,hl]
   · have:=kE hr;omega
 · rfl
theorem Vk {R:List Rw} {k:Nat} {a:Option Addr} {c n:Nat} {cs':List (List Value)} (hl:cs'.length=n):(R.map Rw.hdr).set k [.slice a n c]=(R.set k ⟨a,c,cs'⟩).map Rw.hdr:=by
 rw [List.map_set,Rw.hdr,hl]
theorem G7 (R:List Rw):(R.map Rw.hdr).flatten=R.map fun r=>Value.slice r.a r.cs.length r.c:=by
 induction R with
 | nil=>rfl
 | cons r R ih=>rw [List.map_cons,List.flatten_cons,ih];rfl
theorem Bx.hc (h:Bx w0 w Z G L D) (i:Nat) {A a:Option Addr} {c' c n:Nat} {cs:List (List Value)} (hi:L[i]?=some (.own base A c' e (Rp.sz (List α)) (R.map Rw.hdr))) (hr:R[k]?=some ⟨a,c,cs⟩) (hn:cs.length=n):Cells w (uB A) (xk A+k * Rp.sz (List α)) [.slice a n c]:=by
 have ho:=h.bo i hi
 have hk:=kE hr
 obtain ⟨g,rfl⟩:=ho.Qo (by simp;omega)
 rw [G7] at ho
 intro j v hv
 rcases j with _ | j
 · simp only [List.getElem?_cons_zero,Option.some.injEq] at hv
   subst hv
   show w.cell? ⟨g,0+k * 1+0,none⟩=_
   rw [show 0+k * 1+0=k by omega]
   exact ho.cell (by rw [List.getElem?_map,hr];simp [hn])
 · simp at hv
theorem La {P:Program} {w w1:World} {ρ:Operand→Value} {d:Option Nat} {ty:TypeId} {pos:String} {af:Array Edge} {g:Option (Nat × Bool)} {α:Type} [Rp α] {base et:Nat} {A:Option Addr} {c n:Nat} {R:List Rw} {r:Rw} {t e:TypeId} {x y:Operand} {kk:IntKind} {i:Int} {z:Value} {by_ k:Nat} (ht:P.underlying t=some (.slice e)) (he:TI P e z (Rp.sz (List α)) by_) (hx:ρ x=.slice A n c)
  (hy:ρ y=.int kk i) (hi:i=(k:Int)) (ho:Own w1 base et (Rp.sz (List α)) A (R.map Rw.hdr).length c (R.map Rw.hdr).flatten) (hr:R[k]?=some r) (hn:R.length=n):Yl P ρ (.indexAddr t x y) d ty pos af g w (.pointer (some ⟨uB A,xk A+k * Rp.sz (List α),none⟩)):=by
 have hk:=kE hr
 obtain ⟨g0,rfl⟩:=ho.Qo (by simp;omega)
 exact UT (P:=P) (w:=w) (d:=d) (ty:=ty) (pos:=pos) (af:=af) (g:=g) k ht he hx hy hi (by omega)
theorem U4 {P:Program} {ρ:Operand→Value} {d:Option Nat} {ty:TypeId} {pos:String} {af:Array Edge} {g:Option (Nat × Bool)} (hL:Bx w0 w Z G L D) (i:Nat) {t:TypeId} {x y:Operand} {z:Value} {by_:Nat} {A a:Option Addr} {c' c n:Nat} {r:Rw} (hi:L[i]?=some (.own base A c' e (Rp.sz (List α)) (R.map Rw.hdr))) (hr:R[k]?=some r) (ht:TI P t z 1 by_)
  (hx:ρ x=.pointer (some ⟨uB A,xk A+k * Rp.sz (List α),none⟩)) (hy:ρ y=.slice a n c):QA P ρ ⟨d,.store t x y,ty,pos,af,g⟩ w fun w'=>Bx w0 w' Z G (L.set i (.own base A c' e (Rp.sz (List α)) ((R.map Rw.hdr).set k [.slice a n c]))) D:=by
 have ho:=hL.bo i hi
 have hk:=kE hr
 obtain ⟨g0,rfl⟩:=ho.Qo (by simp;omega)
 have hx':ρ x=.pointer (some ⟨g0,k,none⟩):=by rw [hx];simp [uB,xk,Rp.sz]
 have hcell:w.cell? ⟨g0,k,none⟩=some (.slice r.a r.cs.length r.c):=ho.cell (by rw [G7,List.getElem?_map,hr];rfl)
 refine ⟨_,Tf ht hx' hy rfl hcell (ho.frozen k),?_⟩
 have h1:=ho.set k (.slice a n c)
 have hfl:(R.map Rw.hdr).flatten.set k (.slice a n c)=((R.map Rw.hdr).set k [.slice a n c]).flatten:=by
  clear hi ho hr hk hcell h1 hx hx'
  induction R generalizing k with
  | nil=>simp
  | cons q R ih=>
   cases k with
   | zero=>rw [List.map_cons,List.set_cons_zero,List.flatten_cons,List.flatten_cons];rfl
   | succ k=>
    rw [List.map_cons,List.set_cons_succ,List.flatten_cons,List.flatten_cons,← ih]
    rfl
 rw [hfl] at h1
 refine hL.M7 i hi h1 (by simp) rfl (Eh.setCell w g0 k _) (.inl rfl)
theorem Td {P:Program} {ρ:Operand→Value} {d:Option Nat} {ty:TypeId} {pos:String} {af:Array Edge} {g:Option (Nat × Bool)} {b1 e1:Nat} {t:TypeId} {s y:Operand} {z:Value} {by_:Nat} {A A':Option Addr} {c c' b' cy:Nat} {r:List (List α)} (q i j:Nat) (hL:Bx w0 w Z G L D)
   (hq:L[q]?=some (.own b1 A c e1 (Rp.sz (List α)) (R.map Rw.hdr))) (hi:L[i]?=some (.tN base e sz R none)) (hqi:q≠i) (hj:D[j]?=some (.nN R m)) (ht:P.underlying t=some (.slice e1)) (hti:TI P e1 z (Rp.sz (List α)) by_) (hz:z.cells.size=Rp.sz (List α)) (hb:by_≤100000) (hbase:b1≤w0.heap.size)
   (hs:ρ s=.slice A m.length c) (hx:ρ y=.slice A' 1 c') {iy:Nat} (hy:L[iy]?=some (.own b' A' cy e1 (Rp.sz (List α)) [[.slice none 0 0]])) (hr:Fw.app m [[]]=some r) :
   To P ρ ⟨d,.call { callee:=.builtin .append,args:=#[s,y],argTypes:=#[t,t] },ty,pos,af,g⟩ w fun v w'=>
     ∃ A2 c2 R2,v=.slice A2 r.length c2∧Bx w0 w' Z G ((L.set q (.own b1 A2 c2 e1 (Rp.sz (List α)) (R2.map Rw.hdr))).set i (.tN base e sz R2 none)) (D.set j (.nN R2 r)):=by
 obtain ⟨hm,rfl⟩:=pK hr
 have hE:=hL.d2 j hj
 have ho:=hL.bo q hq
 have hlen:(R.map Rw.hdr).length=m.length:=by rw [List.length_map,hE.len]
 rw [hlen] at ho
 have hbb:(m.length+1) * by_≤140737488355328:=Nat.le_trans (Nat.mul_le_mul hm hb) (by decide)
 have hsl:=(hL.bo iy hy).sl
 obtain ⟨v,w',h1,A2,c2,rfl,h2,h3,h4⟩:=MG (P:=P) (ρ:=ρ) (w:=w) (d:=d) (ty:=ty) (pos:=pos) (af:=af) (g:=g) b1 (m ++ [[]]).length ht hti hz (show 0 < 1 by decide) hs hx ho hsl (by simp [Value.oneCell']) (Nat.le_trans hbase hL.rX.size) (by simp at hm;omega) hbb (by simp)
 refine ⟨_,w',h1,A2,c2,R ++ [⟨none,0,[]⟩],rfl,?_⟩
 have hgetn:∀ {i:Nat} {r:Rw},(R ++ [(⟨none,0,[]⟩:Rw)])[i]?=some r→R[i]?=some r ∨ r=⟨none,0,[]⟩:=by
   intro i r hi
   rw [List.getElem?_append] at hi
   split at hi
   · exact .inl hi
   · right
     rcases Nat.eq_zero_or_pos (i - R.length) with h0 | h0
     · rw [h0] at hi;simpa using hi.symm
     · rw [List.getElem?_eq_none (by simp;omega)] at hi;cases hi
 have h5:Bx w0 w Z G L (D.set j (.nN (R ++ [⟨none,0,[]⟩]) (m ++ [[]]))):=hL.PZ j (d:=.nN _ _) (hE.app ⟨trivial,trivial⟩)
 have h6:=h5.M7 (ds:=(R ++ [(⟨none,0,[]⟩:Rw)]).map Rw.hdr) q hq h2 (by rw [List.length_map,List.length_append,List.length_append,hE.len];rfl) (by rw [List.map_append,List.flatten_append];rfl) h3 h4
 have hi':(L.set q (.own b1 A2 c2 e1 (Rp.sz (List α)) ((R ++ [(⟨none,0,[]⟩:Rw)]).map Rw.hdr)))[i]?=some (.tN base e sz R none):=by rw [List.getElem?_set_ne hqi];exact hi
 have hfam:=h6.at i hi'
 refine h6.put i hi' ((Ext.refl w').FQ _) ⟨fun i r h1 _=>?_,fun i j r s b h1 h2 _ _ h3 h4=>?_⟩ (fun b ⟨i,r,h1,_,h3⟩=>?_)
 · rcases hgetn h1 with h1 | rfl
   · exact hfam.1 i r h1 (by simp)
   · exact Own.nil w' base e sz
 · rcases hgetn h1 with h1 | rfl
   · rcases hgetn h2 with h2 | rfl
     · exact hfam.2 i j r s b h1 h2 (by simp) (by simp) h3 h4
     · cases h4
   · cases h3
 · rcases hgetn h1 with h1 | rfl
   · exact .inl ⟨i,r,h1,by simp,h3⟩
   · cases h3
theorem QM {F:Nat→Prop} {A:Option Addr} {c b1 e1:Nat} (ho:Own w b1 e1 (Rp.sz (List α)) A (R.map Rw.hdr).length c (R.map Rw.hdr).flatten) (hf:(It.tN base e (Rp.sz α) R none).p w) (hE:zX F w R m) (hA:∀ b,rowOf A=some b→F b) (hR:∀ b,(It.tN base e (Rp.sz α) R none).F b→F b):ll F w A c m:=by
 have hc:=ho.cap
 rw [List.length_map,hE.len] at hc
 refine ⟨hc.1,hc.2,fun h0=>?_⟩
 obtain ⟨g,rfl⟩:=ho.Qo (by rw [List.length_map,hE.len];exact h0)
 refine ⟨rfl,hA g rfl,(ho.row g rfl).2,fun i x hx=>?_⟩
 obtain ⟨r,hr,hEx⟩:=hE.get hx
 have hor:=hf.1 i r hr (by simp)
 refine ⟨[.slice r.a x.length r.c],fun j v hv=>?_,r.a,r.c,rfl,hor.Sz hEx fun b hb=>hR b ⟨i,r,hr,by simp,hb⟩⟩
 rcases j with _ | j
 · simp only [List.getElem?_cons_zero,Option.some.injEq] at hv
   subst hv
   show w.cell? ⟨g,0+i * 1+0,none⟩=_
   rw [show 0+i * 1+0=i by omega]
   exact ho.cell (by rw [G7,List.getElem?_map,hr];simp [hEx.len])
 · simp at hv
theorem Bx.VP (h:Bx w0 w Z G L D) (q i j:Nat) {A:Option Addr} {c b1 e1:Nat} (hq:L[q]?=some (.own b1 A c e1 (Rp.sz (List α)) (R.map Rw.hdr))) (hi:L[i]?=some (.tN base e (Rp.sz α) R none)) (hj:D[j]?=some (.nN R m)):ll (fun _=>True) w A c m:=
 QM (h.bo q hq) (h.at i hi) ((h.d2 j hj).mv (.same fun _ _ _=>trivial)) (fun _ _=>trivial) (fun _ _=>trivial)
theorem Bx.Vz {A:Option Addr} {c e1:Nat} (h:Bx w0 w Z G (.own w0.heap.size A c e1 (Rp.sz (List α)) (R.map Rw.hdr) :: .tN w0.heap.size e (Rp.sz α) R none :: Lr) D) (j:Nat) (hj:D[j]?=some (.nN R m)):Bx w0 w Z G Lr (.l A c m :: D.eraseIdx j):=by
 have hpw:=List.pairwise_cons.1 h.pw
 have hpw2:=List.pairwise_cons.1 hpw.2
 have h1:Bx w0 w Z G Lr (D.eraseIdx j):=(h.tl.tl).NA fun d hd=>(List.eraseIdx_sublist D j).subset hd
 have ho:=(h.it _ (List.mem_cons_self ..)).1
 have hf:=(h.it _ (List.mem_cons_of_mem _ (List.mem_cons_self ..))).1
 refine h1.ku (d:=.l A c m) (QM ho hf ((h.tl.tl).d2 j hj) (fun b hb=>⟨fun hl=>?_,fun it hi=>hpw.1 it (List.mem_cons_of_mem _ hi) b hb⟩) (fun b hb=>⟨fun hl=>?_,fun it hi=>hpw2.1 it hi b hb⟩))
 · have:=(ho.row b hb).1;omega
 · obtain ⟨i,r,h1,h2,h3⟩:=hb
   have:=((hf.1 i r h1 h2).row b h3).1;omega
end
theorem Pre.all {w:World} {Dc:List Da} (hD:∀ d ∈ Dc,d.ok (fun _=>True) w):Pre w (fun _=>True) [] Dc:={ it:=fun _ h=>(List.not_mem_nil h).elim,z:=fun _ h=>(List.not_mem_nil h).elim,pw:=List.Pairwise.nil,da:=hD }
theorem ll.all {α:Type} [Rp α] {F:Nat→Prop} {w:World} {a:Option Addr} {c:Nat} {l:List α} (h:ll F w a c l):ll (fun _=>True) w a c l:=h.mv (.same fun _ _ _=>trivial)
end Go.Fw
namespace Go.Fw
open Go.RowKit
section
variable {α:Type} [Rp α] {w0 w w':World} {Z G:Nat→Prop} {L Lr:List It} {D:List Da} {base e sz:Nat} {R:List Rw} {m:List (List α)} {k:Nat} {x:List α}
theorem set_self {β:Type} {l:List β} {k:Nat} {x:β} (h:l[k]?=some x):l.set k x=l:=by
 refine List.ext_getElem? fun i=>?_
 rw [List.getElem?_set]
 split
 · rename_i hki
   subst hki
   rw [h]
   split
   · rfl
   · have:=kE h;omega
 · rfl
theorem Bx.Tc {a:Option Addr} {c:Nat} {cs:List (List Value)} (h:Bx w0 w Z G (.own base a c e sz cs :: .tN base e sz R (some k) :: Lr) D) (j p:Nat) (hj:D[j]?=some (.nN R m)) (hp:D[p]?=some (.els cs x)) (hR:R[k]?=some ⟨a,c,cs⟩) :
  Bx w0 w Z G (.tN base e sz R none :: Lr) D:=by
 have h1:=h.TD j p hj hp
 rw [set_self hR] at h1
 have h2:Bx w0 w Z G (.tN base e sz R none :: Lr) D:=⟨h1.rX,h1.zg,h1.it,h1.pw,fun d hd=>by
  obtain ⟨i,hi⟩:=List.getElem?_of_mem hd
  by_cases hij:i=j
  · subst hij
    rw [hj] at hi
    injection hi with hi
    subst hi
    have h3:=h.d2 i hj
    exact h3.mv (.same fun b hb _=>⟨hb.1,fun it hit=>by
     rcases List.mem_cons.1 hit with rfl | hit
     · intro hf
       obtain ⟨q,r,h4,_,h5⟩:=hf
       by_cases hqk:q=k
       · subst hqk
         rw [hR] at h4
         injection h4 with h4
         subst h4
         exact hb.2 _ (List.mem_cons_self ..) h5
       · exact hb.2 _ (List.mem_cons_of_mem _ (List.mem_cons_self ..)) ⟨q,r,h4,by simpa using hqk,h5⟩
     · exact hb.2 it (List.mem_cons_of_mem _ (List.mem_cons_of_mem _ hit))⟩)
  · refine h1.da d (List.mem_of_getElem? (i:=i) ?_)
    rw [List.getElem?_set_ne (fun e=>hij e.symm)]
    exact hi⟩
 exact h2
theorem Bx.UK (h:Bx w0 w Z G L D) (α:Type) [Rp α] (e1 e:TypeId):Bx w0 w Z G (.own w0.heap.size none 0 e1 (Rp.sz (List α)) (([]:List Rw).map Rw.hdr) :: .tN w0.heap.size e (Rp.sz α) [] none :: L) (.nN ([]:List Rw) ([]:List (List α)) :: D):=by
 have h1:Bx w0 w Z G (.tN w0.heap.size e (Rp.sz α) [] none :: L) D:=h.push (Ext.refl w) ⟨fun i r hi _=>by simp at hi,fun i j r s b hi=>by simp at hi⟩ (fun k ⟨i,r,hi,_⟩=>by simp at hi)
 exact (h1.VK e1 (Rp.sz (List α))).ku (d:=.nN [] []) trivial
theorem ll.Ji {F:Nat→Prop} {a A:Option Addr} {c C:Nat} {l r:List α} {i j:Nat} (h:ll F w a c l) (hij:i≤j) (hj:j≤l.length) (hr:(l.drop i).take (j - i)=r) (hA:(if c=i then a else a.map (·.add (i * Rp.sz α)))=A) (hC:c - i=C):ll F w A C r:=by
 subst hr hA hC
 exact h.part hij hj
end
end Go.Fw
set_option linter.unusedVariables false
namespace Go.Fw
open Go.RowKit
section
variable {w0 w w':World} {Z G:Nat→Prop} {L:List It} {D:List Da}
theorem LB {α:Type} (L:List α) (a b:List Nat):pick L (a ++ b)=pick L a ++ pick L b:=by
 induction a with
 | nil=>rfl
 | cons i a ih=>rw [List.cons_append,pick,pick,ih,List.append_assoc]
theorem Bx.pr (h:Bx w0 w Z G L D) (i r d:List Nat) (hn:nodup (i ++ r)=true):Pre w (F4 w0 Z (pick L i ++ pick L r)) (pick L i) (pick D d):=by
 have h2:=(h.arr (i ++ r) hn).dp d
 rw [LB] at h2
 exact h2.pre h2.da
theorem Bx.cl (h:Bx w0 w Z G L D) (i r:List Nat) (hn:nodup (i ++ r)=true) {Lc L1:List It} {D1:List Da} (k:Bx w w' (F4 w0 Z (pick L i ++ pick L r)) (lT Lc) L1 D1) (e:pick L i=Lc):Bx w0 w' Z G (L1 ++ pick L r) (D1 ++ D):=by
 subst e
 have h2:=h.arr (i ++ r) hn
 rw [LB] at h2
 exact h2.call k
end
section
variable {P:Program} {N:Nat} {ops:Array Oper} {f:Fr} {w w0:World} {n:Nat} {K:Fr→World→Prop} {Lb:Array Bool} {T:List Nat} {Z G:Nat→Prop} {L:List It} {D:List Da} {S1 S:World→Prop}
theorem Fa {Q:Post} {i:Nat} (h:Bx w0 w Z G L D) (i1 d1 i2 d2:List Nat) (T:List Nat) (hm:P.follows .mixedOrders=true)
  (k:vF P N ops (fun u=>Bx w0 u Z G (pick L i1) (pick D d1)) (fun u=>Bx w0 u Z G (pick L i2) (pick D d2)) T Q.n ops.size (Array.replicate ops.size false) f w.drew):WP P N (.region i ops true) Q f w:=
 O3 _ _ T hm k
theorem oJ {Q:Post} {i:Nat} (h:Bx w0 w Z G L D) (i1 d1:List Nat) (T:List Nat) (hm:P.follows .mixedOrders=true)
  (k:vF P N ops (fun u=>Bx w0 u Z G (pick L i1) (pick D d1)) (fun _=>True) T Q.n ops.size (Array.replicate ops.size false) f w.drew):WP P N (.region i ops true) Q f w:=
 O3 _ _ T hm k
theorem sF {w:World} (h:S1 w):Fe S1 T (fun _=>True) Lb w:=⟨h,fun _=>trivial⟩
theorem tP (i:Nat) {oi:Oper} {v:Value} (hi:ops[i]?=some oi) (hy:∀ w,(execOp (ev f) oi).run P w=.ok (.value v) w) (hS:Fe S1 T S Lb w)
 (k:vF P N ops S1 S T K n (Lb.setIfInBounds i true) (zP f oi.dst v) w) (hw:wM ops f oi.guard=true:=by exact rfl) (hc:may ops T Lb i=true:=by kernel_rfl):vF P N ops S1 S T K (n+1) Lb f w:=Rl i hi hc hw hy hS k
theorem tU (i:Nat) {oi:Oper} {v:Value} (hi:ops[i]?=some oi) (hy:∀ w,S1 w→(execOp (ev f) oi).run P w=.ok (.value v) w) (hS:Fe S1 T S Lb w)
 (k:vF P N ops S1 S T K n (Lb.setIfInBounds i true) (zP f oi.dst v) w) (hw:wM ops f oi.guard=true:=by exact rfl) (hc:may ops T Lb i=true:=by kernel_rfl):vF P N ops S1 S T K (n+1) Lb f w:=Sv i hi hc hw hy hS k
theorem tS (dp i:Nat) {oi:Oper} {v:Value} (hi:ops[i]?=some oi) (hy:∀ w,S w→(execOp (ev f) oi).run P w=.ok (.value v) w) (hS:Fe S1 T S Lb w)
 (k:vF P N ops S1 S T K n (Lb.setIfInBounds i true) (zP f oi.dst v) w) (hw:wM ops f oi.guard=true:=by exact rfl) (hc:may ops T Lb i=true:=by kernel_rfl) (hT:(T.all fun t=>Qp ops dp t i)=true:=by kernel_rfl):vF P N ops S1 S T K (n+1) Lb f w:=Qv dp i hi hc hT hw hy hS k
end
end Go.Fw
namespace Go.Fw
open Go.RowKit
abbrev Vi (n:Int):Value:=Value.int IntKind.i64 n
abbrev Vt (s:ByteArray):Value:=Value.string s
abbrev Pt (b:Nat):Value:=Value.pointer (some ⟨b,0,none⟩)
abbrev ad (b:Nat):Option Addr:=some ⟨b,0,none⟩
abbrev sn:Value:=Value.slice none 0 0
abbrev be:ByteArray:=ByteArray.empty
end Go.Fw
set_option linter.unusedVariables false
namespace Go.Fw
open Go.RowKit
section
variable {P:Program} {N:Nat} {n R:Fr→World→Prop} {X:Nat→Fr→World→Prop} {f:Fr} {w:World}
theorem VI {x y:Code} (h:WP P N x ⟨fun f w=>WP P N y ⟨n,X,R⟩ f w,X,R⟩ f w):WP P N (.seq x y) ⟨n,X,R⟩ f w:=U5 h
theorem nZ {i:Nat} {c:Code} (h:WP P N c ⟨n,fun j=>bif Nat.beq j i then n else X j,R⟩ f w):WP P N (.block i c) ⟨n,X,R⟩ f w:=SK h
theorem oC {x:Code} (J:Fr→World→Prop) (h:∀ J':Fr→World→Prop,(∀ f w,J f w→J' f w)→WP P N x ⟨J',X,R⟩ f w) (k:∀ f w,J f w→n f w):WP P N x ⟨n,X,R⟩ f w:=
 wJ J (h J fun _ _ h=>h) k
theorem kH {c:Code} (I:Nat→Fr→World→Prop) (n0:Nat) (h0:I n0 f w)
  (hr:∀ n f w,I n f w→∀ J':Fr→World→Prop,(∀ m f w,m < n→I m f w→J' f w)→WP P N c ⟨J',X,R⟩ f w):WP P N (.loop c) ⟨n,X,R⟩ f w:=
 Rs I n0 h0 fun n f w h=>hr n f w h _ fun m f w hm hi=>⟨m,hm,hi⟩
theorem uW {i:Nat} (h:X i f w):WP P N (.exit i) ⟨n,X,R⟩ f w:=Tx h
theorem kP (h:R f w):WP P N .ret ⟨n,X,R⟩ f w:=Vp h
theorem Sg {ρ:Operand→Value} {d:Option Nat} {ty:TypeId} {pos:String} {af:Array Edge} {g:Option (Nat × Bool)} {t t' e:TypeId} {x y:Operand} {a:Option Addr} {m c:Nat} (ht:P.underlying t=some (.slice e)) (hx:ρ x=.slice a m c) (hy:ρ y=.slice none 0 0) :
  Yl P ρ (.binOp .eql t x y t') d ty pos af g w (.bool (decide (a=none))):=by
 have h:=Go.Lib.run_eql_slice_nil (P:=P) w t e a m c 0 0 ht
 have e:a.isNone=decide (a=none):=by cases a <;> simp
 rw [e] at h
 simp [Yl,execOp,hx,hy,eqGuard,h]
end
theorem ll.RL {α:Type} [Rp α] {F:Nat→Prop} {w:World} {a:Option Addr} {c:Nat} {l:List α} (h:ll F w a c l) (ha:a=none):l=[]:=by
 cases l with
 | nil=>rfl
 | cons x l=>have:=(h.2.2 (by simp)).1;rw [ha] at this;cases this
theorem Own.shr {w:World} {base:Nat} {e:TypeId} {sz n c:Nat} {A:Option Addr} {xs:List Value} (h:Own w base e sz A n c xs) (m:Nat) (hm:m≤n):Own w base e sz A m c (xs.take (m * sz)):=by
 refine ⟨by rw [List.length_take,h.len];exact Nat.min_eq_left (Nat.mul_le_mul_right _ hm),?_⟩
 rcases h.2 with ⟨h2,hn⟩|⟨b,cap,cur,h3,h4,h5,h6,h7,h8,h9⟩
 · subst hn
   obtain rfl:m=0:=by omega
   exact .inl ⟨h2,rfl⟩
 · injection h3 with h3a h3b h3c
   refine .inr ⟨b,cap,cur,by rw [h3a,h3c],h4,h5,by omega,h7,h8,?_⟩
   rw [← h9,List.take_take,Nat.min_eq_left (Nat.mul_le_mul_right _ hm)]
theorem yA.Ul {α:Type} [Rp α] {F:Nat→Prop} {w:World} {cs:List (List Value)} {l:List α} (h:yA F w cs l) (m:Nat) (hm:m≤l.length):(cs.take m).flatten=cs.flatten.take (m * Rp.sz α):=by
 have h1:=(h.take m).Pp
 rw [List.length_take,Nat.min_eq_left hm] at h1
 have h2:cs.flatten=(cs.take m).flatten ++ (cs.drop m).flatten:=by rw [← List.flatten_append,List.take_append_drop]
 rw [← h1,h2,List.take_append_of_le_length (Nat.le_refl _),List.take_length]
theorem Bx.shr {α:Type} [Rp α] {w0 w:World} {Z G:Nat→Prop} {L:List It} {D:List Da} (h:Bx w0 w Z G L D) (i j:Nat) {base:Nat} {A:Option Addr} {c:Nat} {e:TypeId} {cs:List (List Value)} {l r:List α} {m:Nat}
  (hi:L[i]?=some (.own base A c e (Rp.sz α) cs)) (hj:D[j]?=some (.els cs l)) (hm:m≤l.length) (hr:(l.drop 0).take (m - 0)=r):Bx w0 w Z G (L.set i (.own base A c e (Rp.sz α) (cs.take m))) (D.set j (.els (cs.take m) r)):=by
 have he:=h.de j hj
 have hr':l.take m=r:=by rw [← hr,List.drop_zero,Nat.sub_zero]
 have h1:Bx w0 w Z G L (.els (cs.take m) r :: D):=h.ku (by rw [← hr'];exact he.take m)
 have h2:Bx w0 w Z G L (D.set j (.els (cs.take m) r)):=h1.NA fun d hd=>by
  rcases List.mem_or_eq_of_mem_set hd with hd | hd
  · exact List.mem_cons_of_mem _ hd
  · rw [hd];exact List.mem_cons_self
 refine h2.put i hi ((Ext.refl w).FQ _) ?_ (fun k hk=>.inl hk)
 have ho:=(h.bo i hi).shr m (by rw [he.len];exact hm)
 rw [← he.Ul m hm] at ho
 have hl:(cs.take m).length=m:=by rw [List.length_take,he.len,Nat.min_eq_left hm]
 show Own w base e (Rp.sz α) A (cs.take m).length c (cs.take m).flatten
 rw [hl];exact ho
inductive Lf where
 | i (n:Int)
 | t (s:ByteArray)
 | b (x:Bool)
deriving DecidableEq
def Lf.v:Lf→Value
 | .i n=>.int .i64 n
 | .t s=>.string s
 | .b x=>.bool x
def Lf.k:Lf→Nat
 | .i _=>0
 | .t _=>1
 | .b _=>2
def UY (P : Program) (f : Field) (o : Nat) (a : Lf) : Bool := f.name != "_" && f.offset == o && (match a, P.underlying f.type with | .i _, some (.int _) => true | .t _, some .string => true | .b _, some .bool => true | _, _ => false)
section
variable {P:Program} {w:World} {ρ:Operand→Value} {d:Option Nat} {ty:TypeId} {pos:String} {af:Array Edge} {g:Option (Nat × Bool)}
theorem R7 {f:Field} {fs:List Field} {o dp:Nat} {xs ys:Array Value} {a b:Lf} (h:UY P f o a=true) (hk:a.k=b.k) (hx:xs[o]?=some a.v) (hy:ys[o]?=some b.v) :
  (Op.eqFields (dp+1) xs ys (f :: fs)).run P w=if a=b then (Op.eqFields (dp+1) xs ys fs).run P w else .ok false w:=by
 simp only [UY,Bool.and_eq_true,bne_iff_ne,ne_eq,beq_iff_eq] at h
 obtain ⟨⟨h1,rfl⟩,h3⟩:=h
 cases hu:P.underlying f.type with
 | none=>rw [hu] at h3;cases a <;> cases h3
 | some D=>
  rw [hu] at h3
  have key:(isAgg f.type).run P w=.ok false w→(Op.equalIn (dp+1) f.type a.v b.v).run P w=.ok (decide (a=b)) w→(Op.eqFields (dp+1) xs ys (f :: fs)).run P w=if a=b then (Op.eqFields (dp+1) xs ys fs).run P w else .ok false w:=fun hagg he=>by
   have hp1:(part f.type xs f.offset).run P w=.ok a.v w:=by simp [part,hagg,hx]
   have hp2:(part f.type ys f.offset).run P w=.ok b.v w:=by simp [part,hagg,hy]
   conv=>lhs;unfold Op.eqFields
   rw [if_pos h1]
   simp only [Sem.run_bind,hp1,hp2,Result.andThen_ok,he]
   by_cases hab:a=b
   · simp [hab]
   · simp [hab]
  have agg:∀ D',P.underlying f.type=some D'→(match D' with | .int _=>true | .string=>true | .bool=>true | _=>false)=true→(isAgg f.type).run P w=.ok false w:=fun D' hD hm=>by
   unfold isAgg
   rw [Sem.run_bind,run_underlying hD w]
   cases D' <;> first | (cases hm;done)|simp
  cases a with
  | i x=>
   cases b with
   | i y=>
     cases D with
     | int k=>exact key (agg _ hu rfl) (by rw [show (Lf.i x).v=.int .i64 x from rfl,show (Lf.i y).v=.int .i64 y from rfl,run_equalIn_int (P:=P) w dp f.type .i64 k x y hu];by_cases e:x=y <;> simp [e])
     | _=>cases h3
   | _=>cases hk
  | t x=>
   cases b with
   | t y=>
     cases D with
     | string=>exact key (agg _ hu rfl) (by rw [show (Lf.t x).v=.string x from rfl,show (Lf.t y).v=.string y from rfl,run_equalIn_string (P:=P) w dp f.type x y hu,G9];by_cases e:x=y <;> simp [e])
     | _=>cases h3
   | _=>cases hk
  | b x=>
   cases b with
   | b y=>
     cases D with
     | bool=>exact key (agg _ hu rfl) (by rw [show (Lf.b x).v=.bool x from rfl,show (Lf.b y).v=.bool y from rfl,run_equalIn_bool' (P:=P) w dp f.type x y hu];cases x <;> cases y <;> rfl)
     | _=>cases h3
   | _=>cases hk
def Oi (P:Program):List Field→Nat→List Lf→Bool
 | [],_,[]=>true
 | f :: fs,o,a :: l=>UY P f o a && Oi P fs (o+1) l
 | _,_,_=>false
theorem MK {dp:Nat}:∀ {fs:List Field} {ls ms pre qre:List Lf},Oi P fs pre.length ls=true→ls.map Lf.k=ms.map Lf.k→pre.length=qre.length→
  (Op.eqFields (dp+1) ((pre ++ ls).map Lf.v).toArray ((qre ++ ms).map Lf.v).toArray fs).run P w=.ok (decide (ls=ms)) w
 | [],[],[],_,_,_,_,_=>by simp [Op.eqFields]
 | f :: fs,a :: ls,b :: ms,pre,qre,h,hk,hl=>by
  obtain ⟨h1,h2⟩:=(Bool.and_eq_true _ _).mp (show (UY P f pre.length a && Oi P fs (pre.length+1) ls)=true from h)
  simp only [List.map_cons,List.cons.injEq] at hk
  rw [R7 (a:=a) (b:=b) h1 hk.1 (by simp) (by rw [hl];simp)]
  have:=MK (dp:=dp) (fs:=fs) (ls:=ls) (ms:=ms) (pre:=pre ++ [a]) (qre:=qre ++ [b]) (by simpa using h2) hk.2 (by simp [hl])
  rw [List.append_assoc,List.append_assoc] at this
  simp only [List.cons_append,List.nil_append] at this
  rw [this]
  by_cases e:a=b <;> simp [e]
 | [],_ :: _,_,_,_,h,_,_=>by cases h
 | _ :: _,[],_,_,_,h,_,_=>by cases h
 | [],[],_ :: _,_,_,_,hk,_=>by simp at hk
 | _ :: _,_ :: _,[],_,_,_,hk,_=>by simp at hk
theorem SE {t:TypeId} {fs:Array Field} {ls ms:List Lf} (ht:P.underlying t=some (.struct fs)) (hf:Oi P fs.toList 0 ls=true) (hk:ls.map Lf.k=ms.map Lf.k) (hp:P.stoodInHeld t=false) :
  (Op.equalIn 10000 t (.agg (ls.map Lf.v).toArray) (.agg (ms.map Lf.v).toArray)).run P w=.ok (decide (ls=ms)) w:=by
 have hfs:P.fieldsOf t=fs:=by unfold Program.fieldsOf;rw [ht]
 rw [run_equalIn_struct (P:=P) w 9999 t _ _ (by rw [hfs,ht]) hp,hfs]
 exact MK (dp:=9998) (pre:=[]) (qre:=[]) hf hk rfl
theorem Vq {t t':TypeId} {x y:Operand} {fs:Array Field} (ls ms:List Lf) (ht:P.underlying t=some (.struct fs)) (hf:Oi P fs.toList 0 ls=true) (hk:ls.map Lf.k=ms.map Lf.k) (hp:P.stoodInHeld t=false) (hm:P.eqGuardType P.depth t=false)
  (hx:ρ x=.agg (ls.map Lf.v).toArray) (hy:ρ y=.agg (ms.map Lf.v).toArray):Yl P ρ (.binOp .neq t x y t') d ty pos af g w (.bool (decide (¬ ls=ms))):=by
 have h1:=run_neq_struct (P:=P) w t (ls.map Lf.v).toArray (ms.map Lf.v).toArray
 rw [SE ht hf hk hp] at h1
 have h2:=run_eqGuard_agg (P:=P) w .neq t x y (ls.map Lf.v).toArray (ms.map Lf.v).toArray hm
 have e:decide (¬ ls=ms)=!decide (ls=ms):=by by_cases h:ls=ms <;> simp [h]
 rw [e]
 simp only [Yl,execOp,hx,hy,Sem.run_bind,h2,Result.andThen_ok,h1]
 rfl
end
end Go.Fw
