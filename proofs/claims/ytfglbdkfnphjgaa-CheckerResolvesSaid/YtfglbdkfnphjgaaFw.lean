/- A small calculus of weakest preconditions in which a frame is a function from slots to values; nothing in it speaks of a given program. -/
import Derived.OrdersHeld
import Derived.Tactics
import Derived.Below
import Derived.KernelRfl
set_option linter.unusedVariables false
namespace Go.Fw
open Go.RowKit
abbrev Fr:=Nat→Value
theorem beq_ne {t k:Nat} (h:t≠k):Nat.beq t k=false:=by
 cases hb:Nat.beq t k with
 | false=>rfl
 | true=>exact absurd (Nat.eq_of_beq_eq_true hb) h
def upd (f:Fr) (d:Nat) (v:Value):Fr:=fun t=>bif Nat.beq t d then v else f t
def updO (f:Fr) (d:Option Nat) (v:Value):Fr:=match d with | some d=>upd f d v | none=>f
def ev (f:Fr):Operand→Value
 | .tmp t=>f t
 | .const v=>v
 | .global g=>.pointer (some ⟨g,0,none⟩)
 | .func k=>.func (.func k) #[] #[]
structure Rep (N:Nat) (f:Fr) (a:Act):Prop where
 size:a.tmps.size=N
 get:∀ t,a.tmps.getD t undef=f t
 dfr:a.defers=[]
theorem Rep.ev_eq {N:Nat} {f:Fr} {a:Act} (h:Rep N f a):a.eval=ev f:=by
 funext x
 cases x with
 | tmp t=>exact h.get t
 | const v=>rfl
 | global g=>rfl
 | func k=>rfl
theorem Rep.put {N:Nat} {f:Fr} {a:Act} (h:Rep N f a) (d:Option Nat) (hd:∀ k,d=some k→k < N) (v:Value):Rep N (updO f d v) (a.put d v):=by
 cases d with
 | none=>exact h
 | some k=>
  have hk:=hd k rfl
  refine ⟨by simp [Act.put,h.size],fun t=>?_,h.dfr⟩
  simp only [Act.put,updO,upd]
  have hs:k < a.tmps.size:=by rw [h.size];exact hk
  by_cases htk:t=k
  · subst htk
    simp [hs]
  · rw [beq_ne htk]
    have:=h.get t
    simp only [Array.getD_eq_getD_getElem?] at this ⊢
    rw [Array.getElem?_setIfInBounds_ne (Ne.symm htk)]
    exact this
def gv (ops:Array Oper) (f:Fr) (j:Nat):Option Bool:=
 match (ops[j]?).bind (·.dst) with
 | some t=>match f t with | .bool b=>some b | _=>none
 | none=>none
theorem gv_eq {N:Nat} {ops:Array Oper} {f:Fr} {a:Act} (h:Rep N f a) (j:Nat):yielded ops a.tmps j=gv ops f j:=by
 unfold yielded gv
 cases hd:(ops[j]?).bind (·.dst) with
 | none=>rfl
 | some t=>
  simp only [Option.bind_some]
  have hg:=h.get t
  rw [Array.getD_eq_getD_getElem?] at hg
  cases hc:a.tmps[t]? with
  | some v=>
   rw [hc] at hg
   have hg':v=f t:=hg
   rw [hg']
   cases f t <;> rfl
  | none=>
   rw [hc] at hg
   have hg':undef=f t:=hg
   rw [← hg']
   rfl
def wantF (ops:Array Oper) (f:Fr):Option (Nat × Bool)→Bool
 | none=>true
 | some (j,b)=>gv ops f j == some b
theorem wanted_eq {N:Nat} {ops:Array Oper} {f:Fr} {a:Act} (h:Rep N f a) (o:Oper):Region.wanted o (yielded ops a.tmps)=wantF ops f o.guard:=by
 unfold Region.wanted wantF
 cases o.guard with
 | none=>rfl
 | some p=>obtain ⟨j,b⟩:=p;simp only [gv_eq h]
structure Post where
 n:Fr→World→Prop
 x:Nat→Fr→World→Prop
 r:Fr→World→Prop
def lift (N:Nat) (Q:Post):Exit→Act→World→Prop
 | .normal,a,w=>∃ f,Rep N f a∧Q.n f w
 | .exit i,a,w=>∃ f,Rep N f a∧Q.x i f w
 | .ret,a,w=>∃ f,Rep N f a∧Q.r f w
 | _,_,_=>False
def liftN (N:Nat) (K:Fr→World→Prop):Exit→Act→World→Prop
 | .normal,a,w=>∃ f,Rep N f a∧K f w
 | _,_,_=>False
def dstOk (N:Nat) (o:Oper):Bool:=match o.dst with | some d=>Nat.blt d N | none=>true
def okc (N:Nat):Code→Bool
 | .region _ ops _=>ops.all (dstOk N)
 | .seq a b=>okc N a && okc N b
 | .cond _ a b=>okc N a && okc N b
 | .block _ c=>okc N c
 | .loop c=>okc N c
 | .scope c=>okc N c
 | _=>true
def WP (P:Program) (N:Nat) (c:Code) (Q:Post) (f:Fr) (w:World):Prop:=
 okc N c=true→∀ a,Rep N f a→c.wp P (lift N Q) a w
def WPs (P:Program) (N:Nat) (ops:Array Oper) (K:Fr→World→Prop) (l:List Oper) (f:Fr) (w:World):Prop:=
 (∀ o ∈ l,dstOk N o=true)→∀ a,Rep N f a→wpList P ops (liftN N K) l a w
theorem dstOk_lt {N:Nat} {o:Oper} (h:dstOk N o=true):∀ k,o.dst=some k→k < N:=by
 intro k hk
 simp only [dstOk,hk] at h
 exact Nat.blt_eq.mp h
section
variable {P:Program} {N:Nat} {Q:Post} {f:Fr} {w:World}
theorem WP.mono {c:Code} {Q':Post} (h:WP P N c Q f w) (hn:∀ f w,Q.n f w→Q'.n f w) (hx:∀ i f w,Q.x i f w→Q'.x i f w) (hr:∀ f w,Q.r f w→Q'.r f w):WP P N c Q' f w:=
 fun hok a ha=>Code.wp_mono (fun e a w q=>by
  cases e with
  | normal=>obtain ⟨f,h1,h2⟩:=q;exact ⟨f,h1,hn _ _ h2⟩
  | exit i=>obtain ⟨f,h1,h2⟩:=q;exact ⟨f,h1,hx _ _ _ h2⟩
  | ret=>obtain ⟨f,h1,h2⟩:=q;exact ⟨f,h1,hr _ _ h2⟩
  | _=>exact q) (h hok a ha)
theorem wSeq {x y:Code} (h:WP P N x { Q with n:=fun f w=>WP P N y Q f w } f w):WP P N (.seq x y) Q f w:=by
 intro hok a ha
 simp only [okc,Bool.and_eq_true] at hok
 refine wp_seq (Code.wp_mono (fun e a w q=>?_) (h hok.1 a ha))
 cases e with
 | normal=>obtain ⟨f,h1,h2⟩:=q;exact h2 hok.2 a h1
 | _=>exact q
theorem wSkip (h:Q.n f w):WP P N .skip Q f w:=fun _ _ ha=>wp_skip ⟨f,ha,h⟩
theorem wExit {i:Nat} (h:Q.x i f w):WP P N (.exit i) Q f w:=fun _ _ ha=>wp_exit ⟨f,ha,h⟩
theorem wRet (h:Q.r f w):WP P N .ret Q f w:=fun _ _ ha=>wp_ret ⟨f,ha,h⟩
theorem wIf {c:Operand} {x y:Code} (b:Bool) (hc:ev f c=.bool b) (ht:b=true→WP P N x Q f w) (hf:b=false→WP P N y Q f w):WP P N (.cond c x y) Q f w:=by
 intro hok a ha
 simp only [okc,Bool.and_eq_true] at hok
 refine wp_cond_split (t:=b) (by rw [ha.ev_eq];exact hc) (fun h=>ht h hok.1 a ha) (fun h=>hf h hok.2 a ha)
theorem wIfT {c:Operand} {x y:Code} (hc:ev f c=.bool true) (h:WP P N x Q f w):WP P N (.cond c x y) Q f w:=
 wIf true hc (fun _=>h) (fun h=>by cases h)
theorem wIfF {c:Operand} {x y:Code} (hc:ev f c=.bool false) (h:WP P N y Q f w):WP P N (.cond c x y) Q f w:=
 wIf false hc (fun h=>by cases h) (fun _=>h)
theorem wBlock {i:Nat} {c:Code} (h:WP P N c { n:=Q.n,x:=fun j=>bif Nat.beq j i then Q.n else Q.x j,r:=Q.r } f w):WP P N (.block i c) Q f w:=by
 intro hok a ha
 refine wp_block (Code.wp_mono (fun e a w q=>?_) (h hok a ha))
 cases e with
 | exit j=>
  obtain ⟨f,h1,h2⟩:=q
  simp only [Exit.inBlock]
  by_cases hji:j=i
  · subst hji
    simp only [if_true]
    refine ⟨f,h1,?_⟩
    have:Nat.beq j j=true:=Nat.beq_refl j
    simp only [this] at h2
    exact h2
  · rw [if_neg hji]
    refine ⟨f,h1,?_⟩
    have:Nat.beq j i=false:=beq_ne hji
    simp only [this] at h2
    exact h2
 | _=>exact q
theorem wp_loopG {P:Program} {c:Code} {Q:Exit→Act→World→Prop} {a:Act} {w:World} (I:Nat→Act→World→Prop) (n0:Nat) (h0:I n0 a w)
  (round:∀ n a w,I n a w→c.wp P (Exit.then (fun a' w'=>∃ n',n' < n∧I n' a' w') Q) a w):(Code.loop c).wp P Q a w:=by
 intro b k cs
 have key:∀ n a w,I n a w→∃ e a' w',Q e a' w'∧Arrives P (lone (b.at a (.code c :: .inLoop c :: k)) cs w) b k cs e a' w':=by
  intro n
  induction n using Nat.strongRecOn with
  | _ n ih=>
   intro a w hI
   obtain ⟨e,a1,w1,hq,harr⟩:=round n a w hI b (.inLoop c :: k) cs
   cases e with
   | normal=>
    obtain ⟨n',hlt,hI1⟩:=hq
    obtain ⟨e2,a2,w2,hq2,harr2⟩:=ih n' hlt a1 w1 hI1
    exact ⟨e2,a2,w2,hq2,.of_steps (Steps.trans harr (.one step_inLoop)) harr2⟩
   | exit id=>exact ⟨_,a1,w1,hq,.pass (x:=.inLoop c) rfl (fun _ _=>.inl (by simp)) harr⟩
   | goto l=>exact ⟨_,a1,w1,hq,.pass (x:=.inLoop c) rfl (fun _ _=>.inl (by simp)) harr⟩
   | ret=>exact ⟨_,a1,w1,hq,.pass (x:=.inLoop c) rfl (fun _ _=>.inl (by simp)) harr⟩
   | panic ch=>exact ⟨_,a1,w1,hq,.pass (x:=.inLoop c) rfl (fun _ _=>.inl (by simp)) harr⟩
   | outgrown=>exact ⟨_,a1,w1,hq,.pass (x:=.inLoop c) rfl (fun _ _=>.inl (by simp)) harr⟩
 obtain ⟨e,a',w',hq,harr⟩:=key n0 a w h0
 exact ⟨e,a',w',hq,.of_steps (.one step_loop) harr⟩
theorem wLoopG {c:Code} (I:Nat→Fr→World→Prop) (n0:Nat) (h0:I n0 f w)
  (hr:∀ n f w,I n f w→WP P N c { Q with n:=fun f' w'=>∃ n',n' < n∧I n' f' w' } f w):WP P N (.loop c) Q f w:=by
 intro hok a ha
 have hokc:okc N c=true:=hok
 refine wp_loopG (fun n a w=>∃ f,Rep N f a∧I n f w) n0 ⟨f,ha,h0⟩ ?_
 rintro n a w ⟨f,ha,hI⟩
 refine Code.wp_mono (fun e a' w' q=>?_) (hr n f w hI hokc a ha)
 cases e with
 | normal=>
  obtain ⟨f',h1,n',h2,h3⟩:=q
  exact ⟨n',h2,f',h1,h3⟩
 | _=>exact q
theorem wReg {i:Nat} {l:List Oper} (h:WPs P N l.toArray Q.n l f w):WP P N (.region i l.toArray false) Q f w:=by
 intro hok a ha
 have hl:∀ o ∈ l,dstOk N o=true:=by
  simpa [okc,Array.all_eq_true_iff_forall_mem] using hok
 refine Code.wp_mono (fun e a w q=>?_) (wp_region_lit (h hl a ha))
 cases e with
 | normal=>exact q
 | _=>exact q.elim
def Has (f:Fr):List (Nat × Value)→Prop
 | []=>True
 | (d,v) :: l=>f d=v∧Has f l
def updL (g:Fr):List (Nat × Value)→Fr
 | []=>g
 | (d,v) :: l=>upd (updL g l) d v
theorem updL_has {f:Fr}:∀ {l:List (Nat × Value)},Has f l→updL f l=f
 | [],_=>rfl
 | (d,v) :: l,h=>by
  simp only [updL]
  rw [updL_has h.2]
  funext t
  unfold upd
  cases hb:Nat.beq t d with
  | true=>rw [Nat.eq_of_beq_eq_true hb];exact h.1.symm
  | false=>rfl
theorem has_updL (l:List (Nat × Value)) (f:Fr) (h:Has f l):∃ g,f=updL g l:=⟨f,(updL_has h).symm⟩
theorem wCut (l:List (Nat × Value)) {c:Code} (h:Has f l) (k:∀ g,WP P N c Q (updL g l) w):WP P N c Q f w:=by
 rw [← updL_has h];exact k f
end
section
variable {P:Program} {N:Nat} {ops:Array Oper} {K:Fr→World→Prop} {rest:List Oper} {f:Fr} {w:World}
theorem sNil (h:K f w):WPs P N ops K [] f w:=fun _ _ ha=>wpList_nil ⟨f,ha,h⟩
theorem sRun {d:Option Nat} {op:Op} {ty:TypeId} {pos:String} {af:Array Edge} {v:Value} {w':World}
  (h:(execOp (ev f) ⟨d,op,ty,pos,af,none⟩).run P w=.ok (.value v) w') (k:WPs P N ops K rest (updO f d v) w') :
  WPs P N ops K (⟨d,op,ty,pos,af,none⟩ :: rest) f w:=by
 intro hok a ha
 have h1:=hok _ (List.mem_cons_self ..)
 refine wpList_plain rfl fun K' hK=>?_
 unfold Oper.wp
 rw [ha.ev_eq,h]
 exact hK _ _ (k (fun o ho=>hok o (List.mem_cons_of_mem _ ho)) _ (ha.put d (dstOk_lt h1) v))
theorem sDo {d:Option Nat} {op:Op} {ty:TypeId} {pos:String} {af:Array Edge} {w':World}
  (h:(execOp (ev f) ⟨d,op,ty,pos,af,none⟩).run P w=.ok .skip w') (k:WPs P N ops K rest (updO f d undef) w') :
  WPs P N ops K (⟨d,op,ty,pos,af,none⟩ :: rest) f w:=by
 intro hok a ha
 have h1:=hok _ (List.mem_cons_self ..)
 refine wpList_plain rfl fun K' hK=>?_
 unfold Oper.wp
 rw [ha.ev_eq,h]
 exact hK _ _ (k (fun o ho=>hok o (List.mem_cons_of_mem _ ho)) _ (ha.put d (dstOk_lt h1) undef))
def Ret (R:Value→World→Prop):Ending→World→Prop:=fun e w=>∃ v,e=.returned v∧R v w
theorem sCall {d:Option Nat} {op:Op} {ty:TypeId} {pos:String} {af:Array Edge} {w':World} {g:FuncId} {args:Array Value} {R:Value→World→Prop}
  (h:(execOp (ev f) ⟨d,op,ty,pos,af,none⟩).run P w=.ok (.enter g args) w') (hc:Calls P g args w' (Ret R))
  (k:∀ v w'',R v w''→WPs P N ops K rest (updO f d v) w'') :
  WPs P N ops K (⟨d,op,ty,pos,af,none⟩ :: rest) f w:=by
 intro hok a ha
 have h1:=hok _ (List.mem_cons_self ..)
 refine wpList_plain rfl fun K' hK=>?_
 unfold Oper.wp
 rw [ha.ev_eq,h]
 refine hc.mono fun e w'' he=>?_
 obtain ⟨v,rfl,hR⟩:=he
 exact hK _ _ (k v w'' hR (fun o ho=>hok o (List.mem_cons_of_mem _ ho)) _ (ha.put d (dstOk_lt h1) v))
theorem sGo {d:Option Nat} {op:Op} {ty:TypeId} {pos:String} {af:Array Edge} {g:Option (Nat × Bool)}
  (h:wantF ops f g=true) (k:WPs P N ops K (⟨d,op,ty,pos,af,none⟩ :: rest) f w):WPs P N ops K (⟨d,op,ty,pos,af,g⟩ :: rest) f w:=by
 intro hok a ha
 have h2:=k (by
  intro o ho
  rcases List.mem_cons.1 ho with rfl | ho
  · exact hok ⟨d,op,ty,pos,af,g⟩ (List.mem_cons_self ..)
  · exact hok o (List.mem_cons_of_mem _ ho)) a ha
 unfold wpList at h2 ⊢
 rw [if_pos (by rw [wanted_eq ha];exact h)]
 rw [if_pos (by rw [wanted_eq ha];rfl)] at h2
 exact h2
theorem sNo {d:Option Nat} {op:Op} {ty:TypeId} {pos:String} {af:Array Edge} {g:Option (Nat × Bool)}
  (h:wantF ops f g=false) (k:WPs P N ops K rest (updO f d undef) w):WPs P N ops K (⟨d,op,ty,pos,af,g⟩ :: rest) f w:=by
 intro hok a ha
 have h1:=hok _ (List.mem_cons_self ..)
 unfold wpList
 rw [if_neg (by rw [wanted_eq ha,h];simp)]
 exact k (fun o ho=>hok o (List.mem_cons_of_mem _ ho)) _ (ha.put d (dstOk_lt h1) undef)
end
def Closed (ops:Array Oper) (L:Array Bool):Prop:=∀ j o,ops[j]?=some o→L.getD j false=true→∀ e ∈ o.after,Region.binds .any e=true→L.getD e.on false=true
def anc (ops:Array Oper):Nat→Nat→Nat→Bool
 | 0,_,_=>false
 | n+1,t,i=>match ops[t]? with
  | some o=>o.after.any fun e=>Region.binds .any e && (Nat.beq e.on i || anc ops n e.on i)
  | none=>false
theorem Closed.anc {ops:Array Oper} {L:Array Bool} (h:Closed ops L) (i:Nat):∀ n t,anc ops n t i=true→L.getD t false=true→L.getD i false=true
 | 0,t,ha,_=>by simp [Fw.anc] at ha
 | n+1,t,ha,ht=>by
  unfold Fw.anc at ha
  cases ho:ops[t]? with
  | none=>rw [ho] at ha;simp at ha
  | some o=>
   rw [ho] at ha
   obtain ⟨e,he,hb⟩:=Array.any_eq_true'.1 ha
   simp only [Bool.and_eq_true,Bool.or_eq_true] at hb
   have h1:=h t o ho ht e he hb.1
   rcases hb.2 with h2 | h2
   · rw [Nat.eq_of_beq_eq_true h2] at h1;exact h1
   · exact Closed.anc h i n e.on h2 h1
theorem getD_set_any {L:Array Bool} {i j:Nat} (d:Bool) (h:i≠j):(L.setIfInBounds i true).getD j d=L.getD j d:=by
 simp [Array.getElem?_setIfInBounds_ne h]
theorem Closed.step {ops:Array Oper} {L:Array Bool} (h:Closed ops L) {j:Nat} (hj:j ∈ Region.ready .any ops L):Closed ops (L.setIfInBounds j true):=by
 intro k o hk hl e he hb
 by_cases hjk:j=k
 · subst hjk
   obtain ⟨_,o',ho',hall⟩:=mem_ready.1 hj
   rw [hk] at ho'
   injection ho' with ho'
   subst ho'
   exact getD_set_true (hall e he hb)
 · rw [getD_set_any false hjk] at hl
   exact getD_set_true (h k o hk hl e he hb)
theorem Closed.start (ops:Array Oper) (n:Nat):Closed ops (Array.replicate n false):=by
 intro j o _ hl
 simp [Array.getD_eq_getD_getElem?,Array.getElem?_replicate] at hl
 split at hl <;> simp at hl
def SL (T:List Nat) (S:World→Prop) (L:Array Bool) (w:World):Prop:=(∀ t ∈ T,L.getD t false=false)→S w
def anyT (P:Program) (ops:Array Oper) (Q:Exit→Act→World→Prop) (S:World→Prop) (T:List Nat):Nat→Array Bool→Act→World→Prop
 | 0,L,a,w=>Region.ready .any ops L=[]∧Q .normal a w
 | n+1,L,a,w=>(Region.ready .any ops L=[]→Q .normal a w)∧
  ∀ i ∈ Region.ready .any ops L,wpOp P ops Q i (fun a' w'=>SL T S (L.setIfInBounds i true) w'∧anyT P ops Q S T n (L.setIfInBounds i true) a' w') a w
def WPh (P:Program) (N:Nat) (ops:Array Oper) (S:World→Prop) (T:List Nat) (K:Fr→World→Prop) (n:Nat) (L:Array Bool) (f:Fr) (w:World):Prop:=
 (∀ o ∈ ops.toList,dstOk N o=true)→Closed ops L→∀ a,Rep N f a→anyT P ops (liftN N K) S T n L a w
section
variable {P:Program} {N:Nat} {ops:Array Oper} {S:World→Prop} {T:List Nat} {K:Fr→World→Prop} {f:Fr} {w:World} {n:Nat} {L:Array Bool}
def may (ops:Array Oper) (T:List Nat) (L:Array Bool) (i:Nat):Bool:=Region.noSelect ops && Region.free .any ops L i && (Region.ready .any ops L).contains i && !T.contains i
def One (P:Program) (N:Nat) (ops:Array Oper) (S:World→Prop) (T:List Nat) (K:Fr→World→Prop) (n:Nat) (L:Array Bool) (f:Fr) (w:World) (i:Nat):Prop:=
 (∀ o ∈ ops.toList,dstOk N o=true)→Closed ops (L.setIfInBounds i true)→∀ a,Rep N f a→wpOp P ops (liftN N K) i (fun a' w'=>SL T S (L.setIfInBounds i true) w'∧anyT P ops (liftN N K) S T n (L.setIfInBounds i true) a' w') a w
end
def frame0 (args:Array Value) (t:Nat):Value:=args.getD t undef
def Reads (P:Program) (fn:Func) (R:Value→World→Prop) (f:Fr) (w:World):Prop:=∀ a:Array Value,(∀ t,a.getD t undef=f t)→∃ v,(results fn a).run P w=.ok v w∧R v w
theorem calls_of {P:Program} {g:FuncId} {fn:Func} {c:Code} {args:Array Value} {w:World} {R:Value→World→Prop}
   (hf:P.funcs[g]?=some fn) (hb:fn.body=some c) (hs:args.size≤fn.ntmps) (hok:okc fn.ntmps c=true)
   (h:WP P fn.ntmps c { n:=Reads P fn R,x:=fun _ _ _=>False,r:=Reads P fn R } (frame0 args) w):Calls P g args w (Ret R):=by
 refine calls_of_wp hf hb (Code.wp_mono (fun e a w q=>?_) (h hok _ ⟨by simp;omega,fun t=>?_,rfl⟩))
 · cases e with
   | normal=>
     obtain ⟨f,h1,h2⟩:=q
     obtain ⟨v,hv,hR⟩:=h2 a.tmps h1.get
     exact ⟨h1.dfr,v,hv,v,rfl,hR⟩
   | ret=>
     obtain ⟨f,h1,h2⟩:=q
     obtain ⟨v,hv,hR⟩:=h2 a.tmps h1.get
     exact ⟨h1.dfr,v,hv,v,rfl,hR⟩
   | exit i=>obtain ⟨f,h1,h2⟩:=q;exact h2.elim
   | _=>exact q.elim
 · unfold frame0
   simp only [Array.getD_eq_getD_getElem?]
   rw [Array.getElem?_append]
   split
   · rfl
   · rename_i hlt
     rw [Array.getElem?_replicate]
     split
     · rw [Array.getElem?_eq_none (by omega)];rfl
     · rw [Array.getElem?_eq_none (by omega)]
theorem res0 {P:Program} {fn:Func} {R:Value→World→Prop} {f:Fr} {w:World} (hr:fn.results=#[]) (h:R (.tuple #[]) w):Reads P fn R f w:=
 fun a _=>⟨_,results_none hr a P w,h⟩
attribute [irreducible] Reads WP WPs WPh One
end Go.Fw
