/- Lemmas. -/
import Derived.OrdersHeld
import Derived.Tactics
import Derived.Below
import Derived.KernelRfl
import Derived.Laws.AppendOwn
import Derived.Laws.OwnMore
import Derived.IntWalk
import Derived.Maps.AppendAt
import Derived.Laws.Tables
import Derived.WalkSpells
import Derived.Lib.SliceRun
import Derived.Laws.BytesString
import Derived.Laws.StructEq
set_option linter.all false
namespace Go.Fw
open Go.RowKit
theorem nD:type_of% @Nat.le_refl:=@Nat.le_refl
theorem vS:type_of% @List.mem_of_getElem?:=@List.mem_of_getElem?
theorem yO:type_of% @List.mem_cons_of_mem:=@List.mem_cons_of_mem
theorem uM:type_of% @List.length_cons:=@List.length_cons
theorem yG:type_of% @List.length_nil:=@List.length_nil
theorem Kj:type_of% @Option.some.inj:=@Option.some.inj
theorem Ca:type_of% @List.mem_cons_self:=@List.mem_cons_self
theorem uL:type_of% @Nat.zero_le:=@Nat.zero_le
theorem F9:type_of% @List.length_append:=@List.length_append
theorem FP:type_of% @Nat.lt_succ_self:=@Nat.lt_succ_self
theorem sO:type_of% @Nat.le_trans:=@Nat.le_trans
theorem EW:type_of% @List.append_nil:=@List.append_nil
theorem ET:type_of% @Int.toNat_natCast:=@Int.toNat_natCast
theorem wR:type_of% @List.length_set:=@List.length_set
theorem zM:type_of% @List.length_take:=@List.length_take
theorem Dg:type_of% @List.length_map:=@List.length_map
theorem aaP:type_of% @Prod.mk.inj:=@Prod.mk.inj
theorem Jw:type_of% @List.mem_or_eq_of_mem_set:=@List.mem_or_eq_of_mem_set
theorem EX:type_of% @List.getElem?_append_right:=@List.getElem?_append_right
theorem ag8:type_of% @List.getD_eq_getElem?_getD:=@List.getD_eq_getElem?_getD
theorem zZ:type_of% @List.getElem?_map:=@List.getElem?_map
theorem EC:type_of% @List.getElem?_cons_zero:=@List.getElem?_cons_zero
theorem Bh:type_of% @List.flatten_cons:=@List.flatten_cons
theorem zV:type_of% @List.getElem?_set_ne:=@List.getElem?_set_ne
theorem Dl:type_of% @List.not_mem_nil:=@List.not_mem_nil
theorem zQ:type_of% @List.getElem?_append_left:=@List.getElem?_append_left
theorem DJ:type_of% @List.getElem?_set_self:=@List.getElem?_set_self
theorem vP:type_of% @Int.le_refl:=@Int.le_refl
theorem xw:type_of% @Nat.lt_or_ge:=@Nat.lt_or_ge
theorem RY:type_of% @List.prefix_rfl:=@List.prefix_rfl
theorem Dk:type_of% @Option.some.injEq:=@Option.some.injEq
theorem ES:type_of% @List.append_assoc:=@List.append_assoc
theorem Ei:type_of% @Bool.and_eq_true:=@Bool.and_eq_true
theorem agu:type_of% @List.length_singleton:=@List.length_singleton
theorem DV:type_of% @Nat.zero_add:=@Nat.zero_add
theorem nM:type_of% @List.mem_cons:=@List.mem_cons
theorem GV:type_of% @List.length_drop:=@List.length_drop
theorem BZ:type_of% @List.nil_append:=@List.nil_append
theorem QK:type_of% @List.getElem?_of_mem:=@List.getElem?_of_mem
theorem qg:type_of% @List.mem_append:=@List.mem_append
theorem Cr:type_of% @List.pairwise_cons:=@List.pairwise_cons
theorem lF:type_of% @if_pos:=@if_pos
theorem kQ:type_of% @if_neg:=@if_neg
theorem sP:type_of% @decide_eq_true:=@decide_eq_true
theorem sS:type_of% @decide_eq_false:=@decide_eq_false
theorem Dh:type_of% @of_decide_eq_true:=@of_decide_eq_true
theorem kE:True:=trivial
abbrev Fr:=Nat->Value
theorem Xk {t k:Nat}(h:t≠k):Nat.beq t k=false:=by
 cases hb:Nat.beq t k with
 | false=>rfl
 | true=>exact absurd (Nat.eq_of_beq_eq_true hb) h
def upd (f:Fr)(d:Nat)(v:Value):Fr:=fun t=>bif Nat.beq t d then v else f t
def lD (f:Fr)(d:Option Nat)(v:Value):Fr:=match d with | some d=>upd f d v | none=>f
def ev (f:Fr):Operand→Value
 | .tmp t=>f t
 | .const v=>v
 | .global g=>.pointer (some ⟨g,0,none⟩)
 | .func k=>.func (.func k) #[] #[]
abbrev Fz:=Nat × List Deferred
structure Nb (N:Fz)(f:Fr)(a:Act):Prop where
 size:a.tmps.size=N.1
 get:∀ t,a.tmps.getD t undef=f t
 dfr:a.defers=N.2
theorem Nb.BR {N:Fz}{f:Fr}{a:Act}(h:Nb N f a):a.eval=ev f:=by
 funext x;cases x with
 | tmp t=>exact h.get t
 | const v=>rfl
 | global g=>rfl
 | func k=>rfl
theorem Nb.put {N:Fz}{f:Fr}{a:Act}(h:Nb N f a)(d:Option Nat)(hd:∀ k,d=some k->k < N.1)(v:Value):Nb N (lD f d v) (a.put d v):=by
 cases d with
 | none=>exact h
 | some k=>
  have hk:=hd k rfl;refine ⟨by simp [Act.put,h.size],fun t=>?_,h.dfr⟩;simp only [Act.put,lD,upd];have hs:k < a.tmps.size:=by rw [h.size];exact hk
  by_cases htk:t=k
  · subst htk;simp [hs]
  · rw [Xk htk];have:=h.get t;simp only [Array.getD_eq_getD_getElem?] at this ⊢;rw [Array.getElem?_setIfInBounds_ne (Ne.symm htk)];exact this
def gv (ops:Array Oper)(f:Fr)(j:Nat):Option Bool:=
 match (ops[j]?).bind (·.dst) with
 | some t=>match f t with | .bool b=>some b | _=>none
 | none=>none
theorem afU {N:Fz}{ops:Array Oper}{f:Fr}{a:Act}(h:Nb N f a)(j:Nat):yielded ops a.tmps j=gv ops f j:=by
 unfold yielded gv;cases hd:(ops[j]?).bind (·.dst) with
 | none=>rfl
 | some t=>
  simp only [Option.bind_some];have hg:=h.get t;rw [Array.getD_eq_getD_getElem?] at hg;cases hc:a.tmps[t]? with
  | some v=>
   rw [hc] at hg;have hg':v=f t:=hg;rw [hg'];cases f t <;> rfl
  | none=>
   rw [hc] at hg;have hg':undef=f t:=hg;rw [<-hg'];rfl
def rZ (ops:Array Oper)(f:Fr):Option (Nat × Bool)→Bool
 | none=>true
 | some (j,b)=>gv ops f j == some b
theorem vK {N:Fz}{ops:Array Oper}{f:Fr}{a:Act}(h:Nb N f a)(o:Oper):Region.wanted o (yielded ops a.tmps)=rZ ops f o.guard:=by
 unfold Region.wanted rZ;cases o.guard with
 | none=>rfl
 | some p=>obtain ⟨j,b⟩:=p;simp only [afU h]
structure KK where
 n:Fr->World->Prop
 p:Fr->List PanicEntry->World->Prop
structure Post where
 n:Fr->World->Prop
 x:Nat->Fr->World->Prop
 r:Fr->World->Prop
 p:Fr->List PanicEntry->World->Prop
def lift (N:Fz)(Q:Post):Exit→Act→World→Prop
 | .normal,a,w=>∃ f,Nb N f a/\Q.n f w
 | .exit i,a,w=>∃ f,Nb N f a/\Q.x i f w
 | .ret,a,w=>∃ f,Nb N f a/\Q.r f w
 | .panic c,a,w=>∃ f,Nb N f a/\Q.p f c w
 | _,_,_=>False
def UW (N:Fz)(K:KK):Exit→Act→World→Prop
 | .normal,a,w=>∃ f,Nb N f a/\K.n f w
 | .panic c,a,w=>∃ f,Nb N f a/\K.p f c w
 | _,_,_=>False
def KK.i (K:KK):KK:=⟨K.n,fun _ c w=>∀ f,K.p f c w⟩
def BF (N:Fz)(o:Oper):Bool:=match o.dst with | some d=>Nat.blt d N.1 | none=>true
def Kr (N:Fz):Code→Bool
 | .region _ ops _=>ops.all (BF N)
 | .seq a b=>Kr N a && Kr N b
 | .cond _ a b=>Kr N a && Kr N b
 | .block _ c=>Kr N c
 | .loop c=>Kr N c
 | .scope c=>Kr N c
 | _=>true
def WP (P:Program)(N:Fz)(c:Code)(Q:Post)(f:Fr)(w:World):Prop:=Kr N c=true->∀ a,Nb N f a->c.wp P (lift N Q) a w
def pq (P:Program)(N:Fz)(ops:Array Oper)(K:KK)(l:List Oper)(f:Fr)(w:World):Prop:=(∀ o ∈ l,BF N o=true)->∀ a,Nb N f a->wpList P ops (UW N K) l a w
theorem uz {N:Fz}{o:Oper}(h:BF N o=true):∀ k,o.dst=some k->k < N.1:=by intro k hk;simp only [BF,hk] at h;exact Nat.blt_eq.mp h
section
variable {P:Program}{N:Fz}{Q:Post}{f:Fr}{w:World}
theorem WP.mono {c:Code}{Q':Post}(h:WP P N c Q f w)(hn:∀ f w,Q.n f w->Q'.n f w)(hx:∀ i f w,Q.x i f w->Q'.x i f w)(hr:∀ f w,Q.r f w->Q'.r f w)(hp:∀ f c w,Q.p f c w->Q'.p f c w):WP P N c Q' f w:=
 fun hok a ha=>Code.wp_mono (fun e a w q=>by
  cases e with
  | normal=>obtain ⟨f,h1,h2⟩:=q;exact ⟨f,h1,hn _ _ h2⟩
  | exit i=>obtain ⟨f,h1,h2⟩:=q;exact ⟨f,h1,hx _ _ _ h2⟩
  | ret=>obtain ⟨f,h1,h2⟩:=q;exact ⟨f,h1,hr _ _ h2⟩
  | panic c=>obtain ⟨f,h1,h2⟩:=q;exact ⟨f,h1,hp _ _ _ h2⟩
  | _=>exact q) (h hok a ha)
theorem ag6 {x y:Code}(h:WP P N x { Q with n:=fun f w=>WP P N y Q f w } f w):WP P N (.seq x y) Q f w:=by
 intro hok a ha;simp only [Kr,Ei] at hok;refine wp_seq (Code.wp_mono (fun e a w q=>?_) (h hok.1 a ha));cases e with
 | normal=>obtain ⟨f,h1,h2⟩:=q;exact h2 hok.2 a h1
 | _=>exact q
theorem CW (h:Q.n f w):WP P N .skip Q f w:=fun _ _ ha=>wp_skip ⟨f,ha,h⟩
theorem afi {i:Nat}(h:Q.x i f w):WP P N (.exit i) Q f w:=fun _ _ ha=>wp_exit ⟨f,ha,h⟩
theorem agI (h:Q.r f w):WP P N .ret Q f w:=fun _ _ ha=>wp_ret ⟨f,ha,h⟩
theorem wIf {c:Operand}{x y:Code}(b:Bool)(hc:ev f c=.bool b)(ht:b=true->WP P N x Q f w)(hf:b=false->WP P N y Q f w):WP P N (.cond c x y) Q f w:=by intro hok a ha;simp only [Kr,Ei] at hok;refine wp_cond_split (t:=b) (by rw [ha.BR];exact hc) (fun h=>ht h hok.1 a ha) (fun h=>hf h hok.2 a ha)
theorem jQ {c:Operand}{x y:Code}(hc:ev f c=.bool true)(h:WP P N x Q f w):WP P N (.cond c x y) Q f w:=
 wIf true hc (fun _=>h) (fun h=>by cases h)
theorem jM {c:Operand}{x y:Code}(hc:ev f c=.bool false)(h:WP P N y Q f w):WP P N (.cond c x y) Q f w:=
 wIf false hc (fun h=>by cases h) (fun _=>h)
theorem adP {i:Nat}{c:Code}(h:WP P N c { n:=Q.n,x:=fun j=>bif Nat.beq j i then Q.n else Q.x j,r:=Q.r,p:=Q.p } f w):WP P N (.block i c) Q f w:=by
 intro hok a ha;refine wp_block (Code.wp_mono (fun e a w q=>?_) (h hok a ha));cases e with
 | exit j=>
  obtain ⟨f,h1,h2⟩:=q;simp only [Exit.inBlock];by_cases hji:j=i
  · subst hji;simp only [if_true];refine ⟨f,h1,?_⟩;have:Nat.beq j j=true:=Nat.beq_refl j;simp only [this] at h2;exact h2
  · rw [kQ hji];refine ⟨f,h1,?_⟩;have:Nat.beq j i=false:=Xk hji;simp only [this] at h2;exact h2
 | _=>exact q
theorem XZ {P:Program}{c:Code}{Q:Exit->Act->World->Prop}{a:Act}{w:World}(I:Nat->Act->World->Prop)(n0:Nat)(h0:I n0 a w)(round:∀ n a w,I n a w->c.wp P (Exit.then (fun a' w'=>∃ n',n' < n/\I n' a' w') Q) a w):(Code.loop c).wp P Q a w:=by
 intro b k cs;have key:∀ n a w,I n a w->∃ e a' w',Q e a' w'/\Arrives P (lone (b.at a (.code c :: .inLoop c :: k)) cs w) b k cs e a' w':=by
  intro n
  induction n using Nat.strongRecOn with
  | _ n ih=>
   intro a w hI;obtain ⟨e,a1,w1,hq,harr⟩:=round n a w hI b (.inLoop c :: k) cs;cases e with
   | normal=>
    obtain ⟨n',hlt,hI1⟩:=hq;obtain ⟨e2,a2,w2,hq2,harr2⟩:=ih n' hlt a1 w1 hI1;exact ⟨e2,a2,w2,hq2,.of_steps (Steps.trans harr (.one step_inLoop)) harr2⟩
   | exit id=>exact ⟨_,a1,w1,hq,.pass (x:=.inLoop c) rfl (fun _ _=>.inl (by simp)) harr⟩
   | goto l=>exact ⟨_,a1,w1,hq,.pass (x:=.inLoop c) rfl (fun _ _=>.inl (by simp)) harr⟩
   | ret=>exact ⟨_,a1,w1,hq,.pass (x:=.inLoop c) rfl (fun _ _=>.inl (by simp)) harr⟩
   | panic ch=>exact ⟨_,a1,w1,hq,.pass (x:=.inLoop c) rfl (fun _ _=>.inl (by simp)) harr⟩
   | outgrown=>exact ⟨_,a1,w1,hq,.pass (x:=.inLoop c) rfl (fun _ _=>.inl (by simp)) harr⟩
 obtain ⟨e,a',w',hq,harr⟩:=key n0 a w h0;exact ⟨e,a',w',hq,.of_steps (.one step_loop) harr⟩
theorem acT {c:Code}(I:Nat->Fr->World->Prop)(n0:Nat)(h0:I n0 f w)(hr:∀ n f w,I n f w->WP P N c { Q with n:=fun f' w'=>∃ n',n' < n/\I n' f' w' } f w):WP P N (.loop c) Q f w:=by
 intro hok a ha;have hokc:Kr N c=true:=hok;refine XZ (fun n a w=>∃ f,Nb N f a/\I n f w) n0 ⟨f,ha,h0⟩ ?_;rintro n a w ⟨f,ha,hI⟩;refine Code.wp_mono (fun e a' w' q=>?_) (hr n f w hI hokc a ha);cases e with
 | normal=>
  obtain ⟨f',h1,n',h2,h3⟩:=q;exact ⟨n',h2,f',h1,h3⟩
 | _=>exact q
theorem nU {i:Nat}{l:List Oper}(h:pq P N l.toArray ⟨Q.n,Q.p⟩ l f w):WP P N (.region i l.toArray false) Q f w:=by
 intro hok a ha;have hl:∀ o ∈ l,BF N o=true:=by simpa [Kr,Array.all_eq_true_iff_forall_mem] using hok
 refine Code.wp_mono (fun e a w q=>?_) (wp_region_lit (h hl a ha));cases e with
 | normal=>exact q
 | panic c=>exact q
 | _=>exact q.elim
def Has (f:Fr):List (Nat × Value)→Prop
 | []=>True
 | (d,v) :: l=>f d=v/\Has f l
theorem jA {f:Fr}{l:List (Nat × Value)}(h:Has f l:=by repeat (first | exact trivial | refine ⟨rfl,?_⟩)):Has f l:=h
def NJ (g:Fr):List (Nat × Value)→Fr
 | []=>g
 | (d,v) :: l=>upd (NJ g l) d v
theorem Ij {f:Fr}:∀ {l:List (Nat × Value)},Has f l→NJ f l=f
 | [],_=>rfl
 | (d,v) :: l,h=>by
  simp only [NJ];rw [Ij h.2];funext t;unfold upd;cases hb:Nat.beq t d with
  | true=>rw [Nat.eq_of_beq_eq_true hb];exact h.1.symm
  | false=>rfl
theorem lg (l:List (Nat × Value))(f:Fr)(h:Has f l):∃ g,f=NJ g l:=⟨f,(Ij h).symm⟩
theorem uN (l:List (Nat × Value)){c:Code}(h:Has f l)(k:∀ g,WP P N c Q (NJ g l) w):WP P N c Q f w:=by rw [<-Ij h];exact k f
end
section
variable {P:Program}{N:Fz}{ops:Array Oper}{K:KK}{rest:List Oper}{f:Fr}{w:World}
theorem sN (h:K.n f w):pq P N ops K [] f w:=fun _ _ ha=>wpList_nil ⟨f,ha,h⟩
theorem jJ {d:Option Nat}{op:Op}{ty:TypeId}{pos:String}{af:Array Edge}{v:Value}{w':World}(h:(execOp (ev f) ⟨d,op,ty,pos,af,none⟩).run P w=.ok (.value v) w')(k:pq P N ops K rest (lD f d v) w') :pq P N ops K (⟨d,op,ty,pos,af,none⟩ :: rest) f w:=by intro hok a ha;have h1:=hok _ (Ca ..);refine wpList_plain rfl fun K' hK=>?_;unfold Oper.wp;rw [ha.BR,h];exact hK _ _ (k (fun o ho=>hok o (yO _ ho)) _ (ha.put d (uz h1) v))
theorem sDo {d:Option Nat}{op:Op}{ty:TypeId}{pos:String}{af:Array Edge}{w':World}(h:(execOp (ev f) ⟨d,op,ty,pos,af,none⟩).run P w=.ok .skip w')(k:pq P N ops K rest (lD f d undef) w') :pq P N ops K (⟨d,op,ty,pos,af,none⟩ :: rest) f w:=by intro hok a ha;have h1:=hok _ (Ca ..);refine wpList_plain rfl fun K' hK=>?_;unfold Oper.wp;rw [ha.BR,h];exact hK _ _ (k (fun o ho=>hok o (yO _ ho)) _ (ha.put d (uz h1) undef))
def rV (R:Value->World->Prop):Ending->World->Prop:=fun e w=>∃ v,e=.returned v/\R v w
theorem BN {d:Option Nat}{op:Op}{ty:TypeId}{pos:String}{af:Array Edge}{w':World}{g:FuncId}{args:Array Value}{R:Value->World->Prop}(h:(execOp (ev f) ⟨d,op,ty,pos,af,none⟩).run P w=.ok (.enter g args) w')(hc:Calls P g args w' (rV R))(k:∀ v w'',R v w''->pq P N ops K rest (lD f d v) w'') :pq P N ops K (⟨d,op,ty,pos,af,none⟩ :: rest) f w:=by intro hok a ha;have h1:=hok _ (Ca ..);refine wpList_plain rfl fun K' hK=>?_;unfold Oper.wp;rw [ha.BR,h];refine hc.mono fun e w'' he=>?_;obtain ⟨v,rfl,hR⟩:=he;exact hK _ _ (k v w'' hR (fun o ho=>hok o (yO _ ho)) _ (ha.put d (uz h1) v))
theorem kY {d:Option Nat}{op:Op}{ty:TypeId}{pos:String}{af:Array Edge}{g:Option (Nat × Bool)}(h:rZ ops f g=true)(k:pq P N ops K (⟨d,op,ty,pos,af,none⟩ :: rest) f w):pq P N ops K (⟨d,op,ty,pos,af,g⟩ :: rest) f w:=by
 intro hok a ha;have h2:=k (by
  intro o ho;obtain rfl | ho:=nM.1 ho
  · exact hok ⟨d,op,ty,pos,af,g⟩ (Ca ..)
  · exact hok o (yO _ ho)) a ha
 unfold wpList at h2 ⊢;rw [lF (by rw [vK ha];exact h)];rw [lF (by rw [vK ha];rfl)] at h2;exact h2
theorem kX {d:Option Nat}{op:Op}{ty:TypeId}{pos:String}{af:Array Edge}{g:Option (Nat × Bool)}(h:rZ ops f g=false)(k:pq P N ops K rest (lD f d undef) w):pq P N ops K (⟨d,op,ty,pos,af,g⟩ :: rest) f w:=by intro hok a ha;have h1:=hok _ (Ca ..);unfold wpList;rw [kQ (by rw [vK ha,h];simp)];exact k (fun o ho=>hok o (yO _ ho)) _ (ha.put d (uz h1) undef)
end
def Closed (ops:Array Oper)(L:Array Bool):Prop:=∀ j o,ops[j]?=some o->L.getD j false=true->∀ e ∈ o.after,Region.binds .any e=true->L.getD e.on false=true
def Tt (ops:Array Oper):Nat→Nat→Nat→Bool
 | 0,_,_=>false
 | n+1,t,i=>match ops[t]? with
  | some o=>o.after.any fun e=>Region.binds .any e && (Nat.beq e.on i || Tt ops n e.on i)
  | none=>false
theorem Closed.Tt {ops:Array Oper}{L:Array Bool}(h:Closed ops L)(i:Nat):∀ n t,Tt ops n t i=true→L.getD t false=true→L.getD i false=true
 | 0,t,ha,_=>by simp [Fw.Tt] at ha
 | n+1,t,ha,ht=>by
  unfold Fw.Tt at ha;cases ho:ops[t]? with
  | none=>rw [ho] at ha;simp at ha
  | some o=>
   rw [ho] at ha;obtain ⟨e,he,hb⟩:=Array.any_eq_true'.1 ha;simp only [Ei,Bool.or_eq_true] at hb;have h1:=h t o ho ht e he hb.1;obtain h2 | h2:=hb.2
   · rw [Nat.eq_of_beq_eq_true h2] at h1;exact h1
   · exact Closed.Tt h i n e.on h2 h1
theorem BU {L:Array Bool}{i j:Nat}(d:Bool)(h:i≠j):(L.setIfInBounds i true).getD j d=L.getD j d:=by simp [Array.getElem?_setIfInBounds_ne h]
theorem Closed.step {ops:Array Oper}{L:Array Bool}(h:Closed ops L){j:Nat}(hj:j ∈ Region.ready .any ops L):Closed ops (L.setIfInBounds j true):=by
 intro k o hk hl e he hb;by_cases hjk:j=k
 · subst hjk;obtain ⟨_,o',ho',hall⟩:=mem_ready.1 hj;rw [hk] at ho';injection ho' with ho';subst ho';exact getD_set_true (hall e he hb)
 · rw [BU false hjk] at hl;exact getD_set_true (h k o hk hl e he hb)
theorem Closed.start (ops:Array Oper)(n:Nat):Closed ops (Array.replicate n false):=by intro j o _ hl;simp [Array.getD_eq_getD_getElem?,Array.getElem?_replicate] at hl;split at hl <;> simp at hl
def may (ops:Array Oper)(T:List Nat)(L:Array Bool)(i:Nat):Bool:=Region.noSelect ops && Region.free .any ops L i && (Region.ready .any ops L).contains i && !T.contains i
def Ct (args:Array Value)(t:Nat):Value:=args.getD t undef
def Reads (P:Program)(fn:Func)(R:Value->World->Prop)(f:Fr)(w:World):Prop:=∀ a:Array Value,(∀ t,a.getD t undef=f t)->∃ v,(results fn a).run P w=.ok v w/\R v w
theorem QY {P:Program}{g:FuncId}{fn:Func}{c:Code}{args:Array Value}{w:World}{R:Value->World->Prop}(hf:P.funcs[g]?=some fn)(hb:fn.body=some c)(hs:args.size<=fn.ntmps)(hok:Kr (fn.ntmps,[]) c=true)(h:WP P (fn.ntmps,[]) c { n:=Reads P fn R,x:=fun _ _ _=>False,r:=Reads P fn R,p:=fun _ _ _=>False } (Ct args) w):Calls P g args w (rV R):=by
 refine calls_of_wp hf hb (Code.wp_mono (fun e a w q=>?_) (h hok _ ⟨by simp;omega,fun t=>?_,rfl⟩))
 · cases e with
   | normal=>
     obtain ⟨f,h1,h2⟩:=q;obtain ⟨v,hv,hR⟩:=h2 a.tmps h1.get;exact ⟨h1.dfr,v,hv,v,rfl,hR⟩
   | ret=>
     obtain ⟨f,h1,h2⟩:=q;obtain ⟨v,hv,hR⟩:=h2 a.tmps h1.get;exact ⟨h1.dfr,v,hv,v,rfl,hR⟩
   | exit i=>obtain ⟨f,h1,h2⟩:=q;exact h2.elim
   | panic i=>obtain ⟨f,h1,h2⟩:=q;exact h2.elim
   | _=>exact q.elim
 · unfold Ct;simp only [Array.getD_eq_getD_getElem?];rw [Array.getElem?_append];split
   · rfl
   · rename_i hlt;rw [Array.getElem?_replicate];split
     · rw [Array.getElem?_eq_none (by omega)];rfl
     · rw [Array.getElem?_eq_none (by omega)]
theorem nR {P:Program}{fn:Func}{R:Value->World->Prop}{f:Fr}{w:World}(hr:fn.results=#[])(h:R (.tuple #[]) w):Reads P fn R f w:=
 fun a _=>⟨_,results_none hr a P w,h⟩
attribute [irreducible] Reads WP pq
section
variable {P:Program}{w:World}{ρ:Operand->Value}{d:Option Nat}{ty:TypeId}{pos:String}{af:Array Edge}{g:Option (Nat × Bool)}
abbrev Yl (P:Program)(ρ:Operand->Value)(op:Op)(d:Option Nat)(ty:TypeId)(pos:String)(af:Array Edge)(g:Option (Nat × Bool))(w:World)(v:Value):Prop:=
 (execOp ρ ⟨d,op,ty,pos,af,g⟩).run P w=.ok (.value v) w
theorem wY {x:Operand}:Yl P ρ (.move x) d ty pos af g w (ρ x):=rfl
theorem acZ {c x y:Operand}(hc:ρ c=.bool true):Yl P ρ (.pick c x y) d ty pos af g w (ρ x):=by simp [Yl,execOp,hc,asBool]
theorem acj {c x y:Operand}(hc:ρ c=.bool false):Yl P ρ (.pick c x y) d ty pos af g w (ρ y):=by simp [Yl,execOp,hc,asBool]
theorem E9 {x:Operand}{k:IntKind}{a:Int}(h:ρ x=.int k a):Yl P ρ (.move x) d ty pos af g w (.int k a):=by rw [<-h];rfl
theorem KY {x:Operand}{k:IntKind}{a:Int}(h:ρ x=.int k a):Yl P ρ (.assign x) d ty pos af g w (.int k a):=by rw [<-h];rfl
theorem vR {x:Operand}{A:Option Addr}{n c:Nat}(h:ρ x=.slice A n c):Yl P ρ (.move x) d ty pos af g w (.slice A n c):=by rw [<-h];rfl
theorem q9 {x:Operand}{A:Option Addr}{n c:Nat}(h:ρ x=.slice A n c):Yl P ρ (.assign x) d ty pos af g w (.slice A n c):=by rw [<-h];rfl
theorem mh {x:Operand}{b:Bool}(h:ρ x=.bool b):Yl P ρ (.move x) d ty pos af g w (.bool b):=by rw [<-h];rfl
theorem lM {x:Operand}{b:Bool}(h:ρ x=.bool b):Yl P ρ (.assign x) d ty pos af g w (.bool b):=by rw [<-h];rfl
theorem mK {c' x y:Operand}{b:Bool}(hc:ρ c'=.bool true)(h:ρ x=.bool b):Yl P ρ (.pick c' x y) d ty pos af g w (.bool b):=by rw [<-h];exact acZ hc
theorem lu {c' x y:Operand}{b:Bool}(hc:ρ c'=.bool false)(h:ρ y=.bool b):Yl P ρ (.pick c' x y) d ty pos af g w (.bool b):=by rw [<-h];exact acj hc
theorem Xa {x:Operand}{p:Option Addr}(h:ρ x=.pointer p):Yl P ρ (.move x) d ty pos af g w (.pointer p):=by rw [<-h];rfl
theorem WA {x:Operand}{p:Option Addr}(h:ρ x=.pointer p):Yl P ρ (.assign x) d ty pos af g w (.pointer p):=by rw [<-h];rfl
theorem nW {x:Operand}{s:ByteArray}(h:ρ x=.string s):Yl P ρ (.move x) d ty pos af g w (.string s):=by rw [<-h];rfl
theorem pz {x:Operand}{s:ByteArray}(h:ρ x=.string s):Yl P ρ (.assign x) d ty pos af g w (.string s):=by rw [<-h];rfl
section ints
variable {t t':TypeId}{x y:Operand}{k:IntKind}{a b:Int}
theorem afv (hx:ρ x=.int k a)(hy:ρ y=.int k b):Yl P ρ (.binOp .add t x y t') d ty pos af g w (.int k (k.wrap (a+b))):=by simp [Yl,execOp,hx,hy,binOp,eqGuard,Op.intArith]
theorem afX (hx:ρ x=.int k a)(hy:ρ y=.int k b):Yl P ρ (.binOp .sub t x y t') d ty pos af g w (.int k (k.wrap (a - b))):=by simp [Yl,execOp,hx,hy,binOp,eqGuard,Op.intArith]
theorem ahm (hx:ρ x=.int k a)(hy:ρ y=.int k b):Yl P ρ (.binOp .mul t x y t') d ty pos af g w (.int k (k.wrap (a * b))):=by simp [Yl,execOp,hx,hy,binOp,eqGuard,Op.intArith]
theorem agQ (hx:ρ x=.int k a)(hy:ρ y=.int k b)(h0:b≠0):Yl P ρ (.binOp .quo t x y t') d ty pos af g w (.int k (k.wrap (a.tdiv b))):=by simp [Yl,execOp,hx,hy,binOp,eqGuard,Op.intDiv,h0]
theorem agq (hx:ρ x=.int k a)(hy:ρ y=.int k b)(h0:b≠0):Yl P ρ (.binOp .rem t x y t') d ty pos af g w (.int k (a.tmod b)):=by simp [Yl,execOp,hx,hy,binOp,eqGuard,Op.intDiv,h0]
theorem Tp {n:Int}(h1:-9223372036854775808<=n)(h2:n<=9223372036854775807):IntKind.i64.wrap n=n:=IntWalk.i64_in n ⟨h1,h2⟩
theorem lT (hx:ρ x=.int .i64 a)(hy:ρ y=.int .i64 b)(h1:-9223372036854775808<=a+b:=by omega)(h2:a+b<=9223372036854775807:=by omega):Yl P ρ (.binOp .add t x y t') d ty pos af g w (.int .i64 (a+b)):=by
 have:=afv (P:=P) (w:=w) (d:=d) (ty:=ty) (pos:=pos) (af:=af) (g:=g) (t:=t) (t':=t') hx hy
 rwa [Tp h1 h2] at this
theorem sU (hx:ρ x=.int k a)(hy:ρ y=.int k b):Yl P ρ (.binOp .lss t x y t') d ty pos af g w (.bool (decide (a < b))):=by simp [Yl,execOp,hx,hy,binOp,eqGuard,Op.intCmp]
theorem Ns (hx:ρ x=.int k a)(hy:ρ y=.int k b):Yl P ρ (.binOp .leq t x y t') d ty pos af g w (.bool (decide (a<=b))):=by simp [Yl,execOp,hx,hy,binOp,eqGuard,Op.intCmp]
theorem xH (hx:ρ x=.int k a)(hy:ρ y=.int k b):Yl P ρ (.binOp .gtr t x y t') d ty pos af g w (.bool (decide (b < a))):=by simp [Yl,execOp,hx,hy,binOp,eqGuard,Op.intCmp]
theorem FI (hx:ρ x=.int k a)(hy:ρ y=.int k b):Yl P ρ (.binOp .geq t x y t') d ty pos af g w (.bool (decide (b<=a))):=by simp [Yl,execOp,hx,hy,binOp,eqGuard,Op.intCmp]
theorem agP (hx:ρ x=.int k a)(hy:ρ y=.int k b):Yl P ρ (.binOp .eql t x y t') d ty pos af g w (.bool (a == b)):=by simp [Yl,execOp,hx,hy,binOp,eqGuard,Op.intCmp]
theorem agB (hx:ρ x=.int k a)(hy:ρ y=.int k b):Yl P ρ (.binOp .neq t x y t') d ty pos af g w (.bool (a != b)):=by simp [Yl,execOp,hx,hy,binOp,eqGuard,Op.intCmp]
theorem kI (hx:ρ x=.int k a)(hy:ρ y=.int k b):Yl P ρ (.binOp .eql t x y t') d ty pos af g w (.bool (decide (a=b))):=by
 have:=agP (P:=P) (w:=w) (d:=d) (ty:=ty) (pos:=pos) (af:=af) (g:=g) (t:=t) (t':=t') hx hy
 rwa [show (a == b)=decide (a=b) from rfl] at this
theorem rQ (hx:ρ x=.int k a)(hy:ρ y=.int k b):Yl P ρ (.binOp .neq t x y t') d ty pos af g w (.bool (decide (a≠b))):=by
 have:=agB (P:=P) (w:=w) (d:=d) (ty:=ty) (pos:=pos) (af:=af) (g:=g) (t:=t) (t':=t') hx hy;have e:(a != b)=decide (a≠b):=by by_cases h:a=b <;> simp [h]
 rwa [e] at this
theorem vC (hx:ρ x=.int k a)(hy:ρ y=.int k b)(h:a < b:=by omega):Yl P ρ (.binOp .lss t x y t') d ty pos af g w (.bool true):=by have:=sU (P:=P) (w:=w) (d:=d) (ty:=ty) (pos:=pos) (af:=af) (g:=g) (t:=t) (t':=t') hx hy;rwa [sP h] at this
theorem u6 (hx:ρ x=.int k a)(hy:ρ y=.int k b)(h:¬ a < b:=by omega):Yl P ρ (.binOp .lss t x y t') d ty pos af g w (.bool false):=by have:=sU (P:=P) (w:=w) (d:=d) (ty:=ty) (pos:=pos) (af:=af) (g:=g) (t:=t) (t':=t') hx hy;rwa [sS h] at this
theorem abK {s t:TypeId}{k':IntKind}(x:Operand)(hs:∃ dsc,P.underlying s=some dsc)(ht:P.underlying t=some (.int k'))(hx:ρ x=.int k a):Yl P ρ (.convert s t x) d ty pos af g w (.int k' (k'.wrap a)):=by obtain ⟨dsc,hs⟩:=hs;simp [Yl,execOp,hx,convert,run_underlying hs,run_underlying ht,Conv.intToInt]
theorem EY {x:Operand}{b:Bool}(hx:ρ x=.bool b):Yl P ρ (.unOp .not t x) d ty pos af g w (.bool (!b)):=by simp [Yl,execOp,hx,Op.unary]
end ints
theorem agp {t e:TypeId}{x:Operand}{A:Option Addr}{n c:Nat}(ht:P.underlying t=some (.slice e))(hx:ρ x=.slice A n c) :Yl P ρ (.call { callee:=.builtin .len,args:=#[x],argTypes:=#[t] }) d ty pos af g w (.int .i64 n):=by simp [Yl,execOp,resolve,invoke,builtin,Builtin.len_,run_underlying ht,hx,goInt]
theorem GA {t:TypeId}{x:Operand}{s:ByteArray}(ht:P.underlying t=some .string)(hx:ρ x=.string s) :Yl P ρ (.call { callee:=.builtin .len,args:=#[x],argTypes:=#[t] }) d ty pos af g w (.int .i64 s.size):=by simp [Yl,execOp,resolve,invoke,builtin,Builtin.len_,run_underlying ht,hx,goInt]
theorem kL {x:Operand}{vs:Array Value}{i:Nat}{v:Value}(hx:ρ x=.tuple vs)(hv:vs[i]?=some v):Yl P ρ (.extract x i) d ty pos af g w v:=by simp [Yl,execOp,hx,Instr.extract,hv]
def jH (P : Program) (k : FuncId) : Prop := ∃ fn, P.funcs[k]? = some fn /\ (fn.name == "runtime.NumGoroutine") = false /\ fn.body.isNone = false
theorem Pm {k:FuncId}(h:jH P k)(args:Array Value):(callFunc k args).run P w=.ok (.enter k args) w:=by
 obtain ⟨fn,h1,h2,h3⟩:=h;have h4 : ¬ fn.name = "runtime.NumGoroutine" := by simpa using h2
 have h5:¬ fn.body=none:=by intro e;rw [e] at h3;cases h3
 simp [callFunc,h1,h4,h5]
abbrev En (P:Program)(ρ:Operand->Value)(op:Op)(d:Option Nat)(ty:TypeId)(pos:String)(af:Array Edge)(g:Option (Nat × Bool))(w:World)(k:FuncId)(args:Array Value):Prop:=
 (execOp ρ ⟨d,op,ty,pos,af,g⟩).run P w=.ok (.enter k args) w
theorem jO {k:FuncId}{xs:List Operand}{ts:Array TypeId}(h:jH P k)(hf:ρ (.func k)=.func (.func k) #[] #[]) :En P ρ (.call { callee:=.value (.func k),args:=xs.toArray,argTypes:=ts }) d ty pos af g w k (xs.map ρ).toArray:=by simp [En,execOp,resolve,hf,Deferred.ofValue,invoke,Pm h]
end
def TI (P:Program)(t:TypeId)(z:Value)(s b:Nat):Prop:=∃ i,P.info? t=some i/\i.zero=some z/\i.size=s/\i.bytes=b
theorem nY {P:Program}{t:TypeId}{z:Value}{s b:Nat}(h:(P.info? t).map (fun i=>(i.zero,i.size,i.bytes))=some (some z,s,b)):TI P t z s b:=by
 cases hi:P.info? t with
 | none=>rw [hi] at h;cases h
 | some i=>
  rw [hi] at h;simp only [Option.map_some,Dk,Prod.mk.injEq] at h;exact ⟨i,hi,h.1,h.2.1,h.2.2⟩
def MU:TypeDesc→Bool
 | .struct _ | .array _ _=>true
 | _=>false
def Ext (w w':World):Prop:=Below w.heap.size w w'
theorem Ext.refl (w:World):Ext w w:=Below.refl _ _
theorem Ext.trans {a b c:World}(h:Ext a b)(k:Ext b c):Ext a c:=Below.trans h (Below.mono k h.size)
theorem Ext.alloc {a w:World}(h:Ext a w)(o:Obj):Ext a (w.alloc o):=Below.alloc h h.size o
theorem Ext.drew {a w:World}(h:Ext a w):Ext a w.drew:=Below.drew h
theorem Ext.cell {w w':World}(h:Ext w w'){b o:Nat}(hb:b < w.heap.size):w'.cell? ⟨b,o,none⟩=w.cell? ⟨b,o,none⟩:=Below.cell h hb
theorem Ext.cellS {w w':World}(h:Ext w w'){a:Addr}{v:Value}(hc:w.cell? a=some v):w'.cell? a=some v:=by rw [Below.cell h (World.block_lt_of_cell? w a hc)];exact hc
theorem Ext.blk {w w':World}(h:Ext w w'){b:Nat}{o:Obj}(hb:w.heap[b]?=some o):w'.heap[b]?=some o:=by rw [Below.block h b (Array.getElem?_eq_some_iff.1 hb).1];exact hb
theorem Ext.le {w w':World}(h:Ext w w'):w.heap.size<=w'.heap.size:=h.size
def HZ (b:Nat)(w w':World):Prop:=w.grownBy w' (some b)
theorem HZ.refl (b:Nat)(w:World):HZ b w w:=⟨rfl,rfl,rfl,nD _,fun _ _ _=>rfl⟩
theorem HZ.trans {b:Nat}{w1 w2 w3:World}(h:HZ b w1 w2)(k:HZ b w2 w3):HZ b w1 w3:=
 ⟨k.os.trans h.os,k.tape.trans h.tape,k.output.trans h.output,sO h.size k.size,fun i hi hne=>(k.block i (Nat.lt_of_lt_of_le hi h.size) hne).trans (h.block i hi hne)⟩
theorem Ext.uo {b:Nat}{w w':World}(h:Ext w w'):HZ b w w':=⟨h.os,h.tape,h.output,h.size,fun i hi _=>h.block i hi⟩
theorem HZ.blk {w w':World}{b k:Nat}{o:Obj}(h:HZ b w w')(hb:w.heap[k]?=some o)(hne:k≠b):w'.heap[k]?=some o:=by rw [h.block k (Array.getElem?_eq_some_iff.1 hb).1 (by simpa using hne)];exact hb
theorem HZ.cell {w w':World}{b:Nat}{a:Addr}{v:Value}(h:HZ b w w')(hc:w.cell? a=some v)(hne:a.block≠b):w'.cell? a=some v:=
 World.grownBy.cell h hc (by simpa using hne)
theorem HZ.ext {a w w':World}{b:Nat}(h:Ext a w)(k:HZ b w w')(hb:a.heap.size<=b):Ext a w':=
 Below.grown h k h.size (fun i hi=>by simp at hi;omega)
theorem HZ.setCell (w:World)(b o:Nat)(v:Value):HZ b w (w.setCell ⟨b,o,none⟩ v):=
 ⟨rfl,rfl,rfl,by simp,fun k hk hne=>Below.heap_setCell w _ v k (by simpa using hne)⟩
theorem HZ.setRow (w:World)(b:Nat)(cs:Array Value):HZ b w (w.setRow b cs):=
 ⟨rfl,rfl,rfl,by simp,fun k hk hne=>setRow_other w b k cs (by simpa using hne)⟩
def yA (w:World)(b:Nat)(t:TypeId)(cs:Array Value):Prop:=w.heap[b]?=some (.cells cs t (0,0))
theorem yA.lt {w:World}{b:Nat}{t:TypeId}{cs:Array Value}(h:yA w b t cs):b < w.heap.size:=(Array.getElem?_eq_some_iff.1 h).1
theorem yA.cell {w:World}{b:Nat}{t:TypeId}{cs:Array Value}(h:yA w b t cs){i:Nat}{v:Value}(hv:cs[i]?=some v):w.cell? ⟨b,i,none⟩=some v:=by rw [cell_of_row w b i cs t (0,0) h];exact hv
theorem yA.frozen {w:World}{b:Nat}{t:TypeId}{cs:Array Value}(h:yA w b t cs)(i:Nat):w.frozen? ⟨b,i,none⟩=false:=by unfold yA at h;simp [World.frozen?,h]
theorem yA.new (w:World)(t:TypeId)(cs:Array Value):yA (w.alloc (.cells cs t)) w.heap.size t cs:=heap_alloc_new w _
theorem yA.ext {w w':World}{b:Nat}{t:TypeId}{cs:Array Value}(h:yA w b t cs)(e:Ext w w'):yA w' b t cs:=Ext.blk e h
theorem yA.uo {w w':World}{b k:Nat}{t:TypeId}{cs:Array Value}(h:yA w b t cs)(e:HZ k w w')(hne:b≠k):yA w' b t cs:=HZ.blk e h hne
theorem yA.set {w:World}{b:Nat}{t:TypeId}{cs:Array Value}(h:yA w b t cs)(i:Nat)(v:Value):yA (w.setCell ⟨b,i,none⟩ v) b t (cs.setIfInBounds i v):=by unfold yA at h ⊢;simp [World.setCell,Array.getElem?_modify,h]
theorem yA.setRow {w:World}{b:Nat}{t:TypeId}{cs:Array Value}(h:yA w b t cs)(ns:Array Value):yA (w.setRow b ns) b t ns:=setRow_heap w b cs ns t (0,0) h
theorem yA.ne {w:World}{b k:Nat}{t u:TypeId}{cs ds:Array Value}(h:yA w b t cs)(h':yA w k u ds)(hne:t≠u):b≠k:=by rintro rfl;unfold yA at h h';rw [h] at h';injection h' with h';injection h' with _ ht;exact hne ht
section
variable {P:Program}{w:World}{ρ:Operand->Value}{d:Option Nat}{ty:TypeId}{pos:String}{af:Array Edge}{g:Option (Nat × Bool)}
theorem kH {t:TypeId}{x:Operand}{D:TypeDesc}{a:Addr}{v:Value}(hu:P.underlying t=some D)(hD:MU D=false)(hx:ρ x=.pointer (some a))(hc:w.cell? a=some v) :Yl P ρ (.load t x) d ty pos af g w v:=by
 have hagg:(isAgg t).run P w=.ok false w:=by unfold isAgg;rw [Sem.run_bind,run_underlying hu w];cases D <;> simp_all [MU]
 simp [Yl,execOp,hx,Instr.loadAt,Instr.sureAddr,loadVar,Sem.run_bind,hagg,hc]
theorem lK {t:TypeId}{x:Operand}{D:TypeDesc}{b o:Nat}{z:Value}{s by_:Nat}(cs:List Value)(hu:P.underlying t=some D)(hD:MU D=true)(hi:TI P t z s by_)(hs:s=cs.length)(hx:ρ x=.pointer (some ⟨b,o,none⟩))(hc:∀ j v,cs[j]?=some v->w.cell? ⟨b,o+j,none⟩=some v):Yl P ρ (.load t x) d ty pos af g w (.agg cs.toArray):=by
 have hagg:(isAgg t).run P w=.ok true w:=by unfold isAgg;rw [Sem.run_bind,run_underlying hu w];cases D <;> simp_all [MU]
 obtain ⟨i,hi1,hi2,hi3,hi4⟩:=hi;have hl:(loadCells ⟨b,o,none⟩ cs.length).run P w=.ok cs.toArray w:=
  run_loadCells_list (P:=P) w ⟨b,o,none⟩ cs (fun j v hv=>by rw [Addr.add_lit];exact hc j v hv)
 simp [Yl,execOp,hx,Instr.loadAt,Instr.sureAddr,loadVar,Sem.run_bind,hagg,sizeOf,typeInfo,hi1,hi3,hs,hl]
theorem xIdx {t e:TypeId}{x y:Operand}{b o n c:Nat}{k:IntKind}{i:Int}{z:Value}{s by_:Nat}(j:Nat)(ht:P.underlying t=some (.slice e))(he:TI P e z s by_)(hx:ρ x=.slice (some ⟨b,o,none⟩) n c)(hy:ρ y=.int k i)(hi:i=(j:Int))(hj:j < n):Yl P ρ (.indexAddr t x y) d ty pos af g w (.pointer (some ⟨b,o+j * s,none⟩)):=by
 subst hi;obtain ⟨i,hi1,hi2,hi3,hi4⟩:=he;have h2:(0:Int)<=j/\(j:Int) < n:=by omega
 simp [Yl,execOp,hx,hy,Instr.indexAt,run_underlying ht,asIntOf,sizeOf,typeInfo,hi1,hi3,Addr.add_lit,hj]
theorem adG {t:TypeId}{x:Operand}{fs:Array Field}{n b o k:Nat}{f:Field}{z:Value}{s by_:Nat}(ht:P.underlying t=some (.struct fs))(hf:fs[n]?=some f)(hk:f.offset=k)(hi:TI P f.type z s by_)(hs:s≠0)(hx:ρ x=.pointer (some ⟨b,o,none⟩)):Yl P ρ (.fieldAddr t x n) d ty pos af g w (.pointer (some ⟨b,o+k,none⟩)):=by obtain ⟨i,hi1,hi2,hi3,hi4⟩:=hi;simp [Yl,execOp,hx,Instr.fieldAt,run_underlying ht,hf,Instr.sureAddr,fieldPlace,sizeOf,typeInfo,hi1,hi3,hs,Addr.add_lit,hk]
theorem aft {t:TypeId}{x:Operand}{fs:Array Field}{n b o:Nat}{f:Field}{z:Value}{s by_:Nat}(ht:P.underlying t=some (.struct fs))(hf:fs[n]?=some f)(hk:f.offset=0)(hi:TI P f.type z s by_)(hs:s≠0)(hx:ρ x=.pointer (some ⟨b,o,none⟩)):Yl P ρ (.fieldAddr t x n) d ty pos af g w (.pointer (some ⟨b,o,none⟩)):=
 adG (P:=P) (w:=w) (d:=d) (ty:=ty) (pos:=pos) (af:=af) (g:=g) ht hf hk hi hs hx
abbrev Mk (P:Program)(ρ:Operand->Value)(op:Op)(d:Option Nat)(ty:TypeId)(pos:String)(af:Array Edge)(g:Option (Nat × Bool))(w:World)(v:Value)(o:Obj):Prop:=
 (execOp ρ ⟨d,op,ty,pos,af,g⟩).run P w=.ok (.value v) (w.alloc o)
theorem jN {t:TypeId}{z:Value}{s by_:Nat}(hi:TI P t z s by_):Mk P ρ (.alloc t) d ty pos af g w (.pointer (some ⟨w.heap.size,0,none⟩)) (.cells z.cells t):=by obtain ⟨i,hi1,hi2,hi3,hi4⟩:=hi;simp [Mk,execOp,Instr.alloc,zeroValue,typeInfo,hi1,hi2,newVar,newRow]
theorem rD {t:TypeId}{x:Operand}{v:Value}(hx:ρ x=v):Mk P ρ (.box t x) d ty pos af g w (.pointer (some ⟨w.heap.size,0,none⟩)) (.cells v.cells t):=by simp [Mk,execOp,Instr.box,newVar,newRow,hx]
abbrev St (P:Program)(ρ:Operand->Value)(op:Op)(d:Option Nat)(ty:TypeId)(pos:String)(af:Array Edge)(g:Option (Nat × Bool))(w w':World):Prop:=
 (execOp ρ ⟨d,op,ty,pos,af,g⟩).run P w=.ok .skip w'
theorem abZ {t:TypeId}{x y:Operand}{z v u:Value}{by_:Nat}{a:Addr}(hi:TI P t z 1 by_)(hx:ρ x=.pointer (some a))(hy:ρ y=v)(hv:v.oneCell'=true)(hc:w.cell? a=some u)(hf:w.frozen? a=false) :St P ρ (.store t x y) d ty pos af g w (w.setCell a v):=by
 obtain ⟨i,hi1,hi2,hi3,hi4⟩:=hi;have hcs:v.cells=#[v]:=by cases v <;> first | rfl | simp [Value.oneCell'] at hv
 simp [St,execOp,hx,hy,Instr.storeAt,Instr.sureAddr,storeVar,sizeOf,typeInfo,hi1,hi3,hcs,storeCells,Addr.add_zero',run_store P w a v .plain hv,hc,hf]
end
def Cells (w:World)(b o:Nat)(xs:List Value):Prop:=∀ j v,xs[j]?=some v->w.cell? ⟨b,o+j,none⟩=some v
theorem Cells.ext {w w':World}{b o:Nat}{xs:List Value}(h:Cells w b o xs)(e:Ext w w'):Cells w' b o xs:=fun j v hv=>e.cellS (h j v hv)
theorem Cells.uo {w w':World}{b o k:Nat}{xs:List Value}(h:Cells w b o xs)(e:HZ k w w')(hne:b≠k):Cells w' b o xs:=fun j v hv=>e.cell (h j v hv) hne
def Sl (w:World)(B size:Nat)(A:Option Addr)(n:Nat)(xs:List Value):Prop:=xs.length=n * size/\(0 < n->∃ b o,A=some ⟨b,o,none⟩/\b < B/\Cells w b o xs)
theorem Sl.ext {w w':World}{B size n:Nat}{A:Option Addr}{xs:List Value}(h:Sl w B size A n xs)(e:Ext w w'):Sl w' B size A n xs:=
 ⟨h.1,fun hn=>by obtain ⟨b,o,h1,h2,h3⟩:=h.2 hn;exact ⟨b,o,h1,h2,h3.ext e⟩⟩
theorem Sl.uo {w w':World}{B size n k:Nat}{A:Option Addr}{xs:List Value}(h:Sl w B size A n xs)(e:HZ k w w')(hk:B<=k):Sl w' B size A n xs:=
 ⟨h.1,fun hn=>by obtain ⟨b,o,h1,h2,h3⟩:=h.2 hn;exact ⟨b,o,h1,h2,h3.uo e (by omega)⟩⟩
theorem Sl.up {w:World}{B B' size n:Nat}{A:Option Addr}{xs:List Value}(h:Sl w B size A n xs)(hB:B<=B'):Sl w B' size A n xs:=
 ⟨h.1,fun hn=>by obtain ⟨b,o,h1,h2,h3⟩:=h.2 hn;exact ⟨b,o,h1,by omega,h3⟩⟩
theorem Sl.nil {w:World}{B size:Nat}{A:Option Addr}:Sl w B size A 0 []:=⟨by simp,fun h=>by omega⟩
def Own (w:World)(base:Nat)(e:TypeId)(size:Nat)(A:Option Addr)(n c:Nat)(xs:List Value):Prop:=w.ownsRow base e size (.slice A n c) n xs
theorem Own.nil (w:World)(base:Nat)(e:TypeId)(size:Nat):Own w base e size none 0 0 []:=World.ownsRow_nil w base e size
theorem Own.blk {w:World}{base:Nat}{e:TypeId}{size:Nat}{A:Option Addr}{n c:Nat}{xs:List Value}(h:Own w base e size A n c xs) :(A=none/\n=0/\c=0/\xs=[])\/∃ g cur,A=some ⟨g,0,none⟩/\base<=g/\yA w g e cur/\n<=c/\c<=maxLen/\cur.size=c * size/\cur.toList.take (n * size)=xs:=by
 obtain ⟨h1,h2 | ⟨g,cap,cur,h3,h4,h5,h6,h7,h8,h9⟩⟩:=h
 · obtain ⟨h2,hn⟩:=h2;injection h2 with a b cc;subst hn;exact .inl ⟨a,rfl,cc,List.eq_nil_of_length_eq_zero (by simpa using h1)⟩
 · injection h3 with a b cc;subst cc;exact .inr ⟨g,cur,a,h4,h5,h6,h7,h8,h9⟩
theorem Own.len {w:World}{base:Nat}{e:TypeId}{size:Nat}{A:Option Addr}{n c:Nat}{xs:List Value}(h:Own w base e size A n c xs):xs.length=n * size:=h.1
theorem Own.sl {w:World}{base:Nat}{e:TypeId}{size:Nat}{A:Option Addr}{n c:Nat}{xs:List Value}(h:Own w base e size A n c xs):Sl w w.heap.size size A n xs:=by
 refine ⟨h.1,fun hn=>?_⟩;obtain ⟨_,h0,_,_⟩|⟨g,cur,h1,h2,h3,h4,h5,h6,h7⟩:=h.blk
 · omega
 · refine ⟨g,0,h1,h3.lt,fun j v hv=>?_⟩;rw [DV];refine h3.cell ?_;subst h7;rw [List.getElem?_take] at hv;split at hv
   · simpa using hv
   · cases hv
theorem Own.ext {w w':World}{base:Nat}{e:TypeId}{size:Nat}{A:Option Addr}{n c:Nat}{xs:List Value}(h:Own w base e size A n c xs)(k:Ext w w'):Own w' base e size A n c xs:=
 World.ownsRow.kept (row:=none) h ⟨k.os,k.tape,k.output,k.size,fun i hi _=>k.block i hi⟩ (by
  cases hb:(Value.slice A n c).ownBlock with
  | none=>exact .inl rfl
  | some b=>exact .inr (by simp))
def rowOf (A:Option Addr):Option Nat:=A.map (·.block)
theorem Ce (A:Option Addr)(n c:Nat):(Value.slice A n c).ownBlock=rowOf A:=by cases A <;> rfl
theorem Own.kept {w w':World}{base:Nat}{e:TypeId}{size:Nat}{A:Option Addr}{n c:Nat}{xs:List Value}{row:Option Nat}(h:Own w base e size A n c xs)(k:w.grownBy w' row)(hne:rowOf A=none\/rowOf A≠row):Own w' base e size A n c xs:=
 World.ownsRow.kept h k (by rw [Ce];exact hne)
theorem Own.mono {w:World}{base base':Nat}{e:TypeId}{size:Nat}{A:Option Addr}{n c:Nat}{xs:List Value}(h:Own w base e size A n c xs)(hb:base'<=base):Own w base' e size A n c xs:=
 ⟨h.1,h.2.imp id fun ⟨g,cap,cur,h3,h4,r⟩=>⟨g,cap,cur,h3,by omega,r⟩⟩
theorem Own.row {w:World}{base:Nat}{e:TypeId}{size:Nat}{A:Option Addr}{n c:Nat}{xs:List Value}(h:Own w base e size A n c xs):∀ k,rowOf A=some k->base<=k/\k < w.heap.size:=by have:=World.ownsRow.lt h;rw [Ce] at this;exact this
theorem Own.apart {w:World}{base base':Nat}{e e':TypeId}{size size':Nat}{A A':Option Addr}{n n' c c':Nat}{xs xs':List Value}(h:Own w base e size A n c xs)(h':Own w base' e' size' A' n' c' xs')(hne:e≠e') :rowOf A=none\/rowOf A≠rowOf A':=by
 obtain ⟨h1,_⟩|⟨g,cur,h1,h2,h3,_⟩:=h.blk
 · subst h1;exact .inl rfl
 · obtain ⟨h1',_⟩|⟨g',cur',h1',h2',h3',_⟩:=h'.blk
   · subst h1 h1';exact .inr (by simp [rowOf])
   · subst h1 h1';refine .inr ?_;simp only [rowOf,Option.map_some,ne_eq,Dk];exact h3.ne h3' hne
theorem Own.cell {w:World}{base:Nat}{e:TypeId}{size g n c:Nat}{xs:List Value}{j:Nat}{v:Value}(h:Own w base e size (some ⟨g,0,none⟩) n c xs)(hv:xs[j]?=some v):w.cell? ⟨g,j,none⟩=some v:=by
 have hj:j < n * size:=by
  rw [<-h.1];obtain h' | h':=xw j xs.length
  · exact h'
  · rw [List.getElem?_eq_none h'] at hv;cases hv
 rw [World.ownsRow.cellAt h j hj];exact hv
theorem Own.frozen {w:World}{base:Nat}{e:TypeId}{size g n c:Nat}{xs:List Value}(h:Own w base e size (some ⟨g,0,none⟩) n c xs)(j:Nat):w.frozen? ⟨g,j,none⟩=false:=World.ownsRow.frozenAt h j
theorem Own.set {w:World}{base:Nat}{e:TypeId}{size g n c:Nat}{xs:List Value}(h:Own w base e size (some ⟨g,0,none⟩) n c xs)(j:Nat)(u:Value):Own (w.setCell ⟨g,j,none⟩ u) base e size (some ⟨g,0,none⟩) n c (xs.set j u):=(World.ownsRow.stored h j u).1
theorem Own.VP {w:World}{base:Nat}{e:TypeId}{size n c:Nat}{A:Option Addr}{xs:List Value}(h:Own w base e size A n c xs)(hn:0 < n):∃ g,A=some ⟨g,0,none⟩:=by
 obtain ⟨_,h0,_⟩|⟨g,_,hA,_⟩:=h.blk
 · omega
 · exact ⟨g,hA⟩
theorem Own.cap {w:World}{base:Nat}{e:TypeId}{size n c:Nat}{A:Option Addr}{xs:List Value}(h:Own w base e size A n c xs):n<=c/\c<=maxLen:=by
 obtain ⟨_,h0,h1,_⟩|⟨g,_,hA,_,_,h2,h3,_⟩:=h.blk
 · subst h0 h1;exact ⟨nD _,uL _⟩
 · exact ⟨h2,h3⟩
def To (P:Program)(ρ:Operand->Value)(o:Oper)(w:World)(R:Value->World->Prop):Prop:=∃ v w',(execOp ρ o).run P w=.ok (.value v) w'/\R v w'
theorem o7 {P:Program}{N:Fz}{ops:Array Oper}{K:KK}{rest:List Oper}{f:Fr}{w:World}{d:Option Nat}{op:Op}{ty:TypeId}{pos:String}{af:Array Edge}{R:Value->World->Prop}(h:To P (ev f) ⟨d,op,ty,pos,af,none⟩ w R)(k:∀ v w',R v w'->pq P N ops K rest (lD f d v) w'):pq P N ops K (⟨d,op,ty,pos,af,none⟩ :: rest) f w:=by obtain ⟨v,w',h1,h2⟩:=h;exact jJ h1 (k v w' h2)
section
variable {P:Program}{w:World}{ρ:Operand->Value}{d:Option Nat}{ty:TypeId}{pos:String}{af:Array Edge}{g:Option (Nat × Bool)}
theorem Hq (base:Nat)(t ty e:TypeId)(i:TypeInfo)(size:Nat)(ht:P.underlying t=some (.slice e))(hi:P.info? e=some i)(v:Value)(n:Nat)(xs:List Value)(hown:w.ownsRow base e size v n xs)(c:Nat):(Builtin.append_ #[t,t] ty #[v,.slice none 0 c]).run P w=.ok v w:=by
 obtain ⟨rfl,rfl⟩|⟨g,cap,cur,rfl,_,_,hnc,_⟩:=hown.2
 · simp [Builtin.append_,run_underlying ht,sizeOf,typeInfo,hi,Builtin.lenOf,Builtin.firstCells]
 · simp [Builtin.append_,run_underlying ht,sizeOf,typeInfo,hi,Builtin.lenOf,Builtin.firstCells,hnc,storeCells]
theorem U1 {t e:TypeId}{s x:Operand}{z:Value}{size by_:Nat}(base k:Nat){A:Option Addr}{n c:Nat}{xs:List Value}{A':Option Addr}{m c' B:Nat}{ys:List Value}(ht:P.underlying t=some (.slice e))(hi:TI P e z size by_)(hz:z.cells.size=size)(h0:0 < size)(hs:ρ s=.slice A n c)(hx:ρ x=.slice A' m c')(ho:Own w base e size A n c xs)(hy:Sl w B size A' m ys)(h1:∀ u ∈ ys,u.oneCell'=true)(hb:base<=w.heap.size)(hm:n+m<=9223372036854775807)(hby:(n+m) * by_<=140737488355328)(hk:n+m=k) :To P ρ ⟨d,.call { callee:=.builtin .append,args:=#[s,x],argTypes:=#[t,t] },ty,pos,af,g⟩ w fun v w'=>∃ A2 c2,v=.slice A2 k c2/\Own w' base e size A2 k c2 (xs ++ ys)/\w.grownBy w' (rowOf A)/\(rowOf A2=rowOf A\/rowOf A2=some w.heap.size):=by
 subst hk;obtain ⟨i,hi1,hi2,hi3,hi4⟩:=hi;have key:∃ v' w',(Builtin.append_ #[t,t] ty #[.slice A n c,.slice A' m c']).run P w=.ok v' w'/\w'.ownsRow base e size v' (n+m) (xs ++ ys)/\w.grownBy w' (rowOf A)/\(v'.ownBlock=rowOf A\/v'.ownBlock=some w.heap.size):=by
  have hm63:n+m<=maxLen:=by simp only [maxLen];omega
  obtain hm0 | hm0:=Nat.eq_zero_or_pos m
  · subst hm0;have hy0:ys=[]:=List.eq_nil_of_length_eq_zero (by simpa using hy.1);subst hy0;cases A' with
    | none=>exact ⟨_,w,Hq base t ty e i size ht hi1 _ n xs ho c',by unfold Own at ho;simpa using ho,⟨rfl,rfl,rfl,nD _,fun _ _ _=>rfl⟩,.inl (Ce ..)⟩
    | some a=>
     obtain ⟨v',w',h2,h3,h4,_,h5⟩:=run_append_own_at (P:=P) w base t ty e i z size by_ ht hi1 hi2 hi3 hi4 hz h0 _ n xs ho a 0 c' [] (by simp) (by simp) (by simp) hm63 hby hb;rw [Ce] at h4 h5;exact ⟨v',w',h2,h3,h4,h5⟩
  · obtain ⟨b,o,rfl,_,hc⟩:=hy.2 hm0;obtain ⟨v',w',h2,h3,h4,_,h5⟩:=run_append_own_at (P:=P) w base t ty e i z size by_ ht hi1 hi2 hi3 hi4 hz h0 _ n xs ho ⟨b,o,none⟩ m c' ys hy.1 (fun j u hu=>by rw [Addr.add_lit];exact hc j u hu) h1 hm63 hby hb;rw [Ce] at h4 h5;exact ⟨v',w',h2,h3,h4,h5⟩
 obtain ⟨v',w',h2,h3,h4,h5⟩:=key;have hsl:∃ A2 c2,v'=.slice A2 (n+m) c2:=by
  obtain ⟨h6,h7⟩|⟨g',cap,cur,h6,_⟩:=h3.2
  · exact ⟨none,0,by rw [h6,h7]⟩
  · exact ⟨_,_,h6⟩
 obtain ⟨A2,c2,rfl⟩:=hsl;rw [Ce] at h5;exact ⟨_,w',by simp [execOp,resolve,invoke,builtin,hs,hx,h2],A2,c2,rfl,h3,h4,h5⟩
end
theorem yA.sl {w:World}{b n size:Nat}{t:TypeId}{cs:Array Value}(h:yA w b t cs)(hs:cs.size=n * size):Sl w w.heap.size size (some ⟨b,0,none⟩) n cs.toList:=
 ⟨by simpa using hs,fun _=>⟨b,0,rfl,h.lt,fun j v hv=>by rw [DV];exact h.cell (by simpa using hv)⟩⟩
theorem yA.own {w:World}{b n size base:Nat}{t:TypeId}{cs:Array Value}(h:yA w b t cs)(hb:base<=b)(hn:n<=maxLen)(hs:cs.size=n * size):Own w base t size (some ⟨b,0,none⟩) n n cs.toList:=
 ⟨by simpa using hs,.inr ⟨b,n,cs,rfl,hb,h,nD _,hn,hs,by rw [<-hs];simp [List.take_of_length_le]⟩⟩
section
variable {P:Program}{N:Fz}{ops:Array Oper}{K:KK}{rest:List Oper}{f:Fr}{w:World}{d:Option Nat}{ty:TypeId}{pos:String}{af:Array Edge}
end
theorem yA.cells {w:World}{b:Nat}{t:TypeId}{cs:Array Value}(h:yA w b t cs):Cells w b 0 cs.toList:=fun j v hv=>by rw [DV];exact h.cell (by simpa using hv)
def strOf (bs:List Int):ByteArray:=bs.foldl (fun r n=>r.push (UInt8.ofNat n.toNat)) ByteArray.empty
section
variable {P:Program}{w:World}{ρ:Operand->Value}{d:Option Nat}{ty:TypeId}{pos:String}{af:Array Edge}{g:Option (Nat × Bool)}
theorem agA {t s e:TypeId}{x:Operand}{A:Option Addr}{n c B:Nat}{bs:List Int}(ht:P.underlying t=some (.slice e))(he:P.underlying e=some (.int .u8))(hs:P.underlying s=some .string)(hx:ρ x=.slice A n c)(h:Sl w B 1 A n (bs.map (Value.int .u8))) :Yl P ρ (.convert t s x) d ty pos af g w (.string (strOf bs)):=by
 have hl:bs.length=n:=by have:=h.1;simpa using this
 have key:(Conv.bytesToString (.slice A n c)).run P w=.ok (.string (strOf bs)) w:=by
  cases A with
  | none=>
   have hn:n=0:=by
    obtain h0 | h0:=Nat.eq_zero_or_pos n
    · exact h0
    · obtain ⟨b,o,h1,_⟩:=h.2 h0;cases h1
   have hb:bs=[]:=List.eq_nil_of_length_eq_zero (by omega);subst hb;simp [Conv.bytesToString,strOf]
  | some a=>
   subst hl;have hc:∀ j v,(bs.map (Value.int .u8))[j]?=some v->w.cell? (a.add j)=some v:=by
    intro j v hv;have hj:j < bs.length:=by
      obtain h0 | h0:=xw j bs.length
      · exact h0
      · rw [List.getElem?_eq_none (by simpa using h0)] at hv;cases hv
    obtain ⟨b,o,h1,_,h3⟩:=h.2 (by omega);injection h1 with h1;subst h1;rw [Addr.add_lit];exact h3 j v hv
   exact run_bytesToString w a bs.length c bs (by
    have:=run_loadCells_list (P:=P) w a (bs.map (Value.int .u8)) hc;simpa using this)
 have hcv:=run_convert_bytes_string (P:=P) w t s e A n c ht he hs;rw [key] at hcv;simp [Yl,execOp,hx,hcv]
end
section
variable {P:Program}{N:Fz}{ops:Array Oper}{S:World->Prop}{T:List Nat}{K:KK}{f:Fr}{w:World}{n:Nat}{L:Array Bool}
end
section
variable {P:Program}{w:World}{ρ:Operand->Value}{d:Option Nat}{ty:TypeId}{pos:String}{af:Array Edge}{g:Option (Nat × Bool)}
theorem add0 (A:Option Addr):A.map (·.add 0)=A:=by cases A with
 | none=>rfl
 | some a=>simp [Addr.add_zero']
theorem BJ {t e:TypeId}{x y:Operand}{A:Option Addr}{n c:Nat}{k:IntKind}{i:Int}{z:Value}{s by_:Nat}(j:Nat)(ht:P.underlying t=some (.slice e))(he:TI P e z s by_)(hx:ρ x=.slice A n c)(hy:ρ y=.int k i)(hi:i=(j:Int))(hj:j<=c) :Yl P ρ (.slice t x none (some y) none) d ty pos af g w (.slice A j c):=by
 subst hi;obtain ⟨i,hi1,hi2,hi3,hi4⟩:=he;have h0:(0:Int)<=j/\(j:Int)<=c:=by omega
 simp [Yl,execOp,hx,hy,Instr.sliceAt,Instr.slice,run_underlying ht,Instr.sliceBounds,Instr.sliceBound,asIntOf,sizeOf,typeInfo,hi1,h0,add0];omega
theorem afJ {t e:TypeId}{x y:Operand}{A:Option Addr}{n c:Nat}{k:IntKind}{i:Int}{z:Value}{s by_:Nat}(j:Nat)(ht:P.underlying t=some (.slice e))(he:TI P e z s by_)(hx:ρ x=.slice A n c)(hy:ρ y=.int k i)(hi:i=(j:Int))(hj:j<=n) :Yl P ρ (.slice t x (some y) none none) d ty pos af g w (.slice (if c=j then A else A.map (·.add (j * s))) (n - j) (c - j)):=by
 subst hi;obtain ⟨i,hi1,hi2,hi3,hi4⟩:=he;have h0:(0:Int)<=j/\(j:Int)<=n:=by omega
 simp [Yl,execOp,hx,hy,Instr.sliceAt,Instr.slice,run_underlying ht,Instr.sliceBounds,Instr.sliceBound,asIntOf,sizeOf,typeInfo,hi1,hi3,h0];omega
end
theorem Sl.take {w:World}{B s n:Nat}{A:Option Addr}{xs:List Value}(h:Sl w B s A n xs){j:Nat}(hj:j<=n):Sl w B s A j (xs.take (j * s)):=by
 refine ⟨?_,fun h0=>?_⟩
 · rw [zM,h.1,Nat.min_eq_left (Nat.mul_le_mul_right s hj)]
 · obtain ⟨b,o,h1,h2,h3⟩:=h.2 (by omega);refine ⟨b,o,h1,h2,fun i v hv=>h3 i v ?_⟩;rw [List.getElem?_take] at hv;split at hv
   · exact hv
   · cases hv
theorem Sl.drop {w:World}{B s n c:Nat}{A:Option Addr}{xs:List Value}(h:Sl w B s A n xs)(hc:n<=c){j:Nat}(hj:j<=n):Sl w B s (if c=j then A else A.map (·.add (j * s))) (n - j) (xs.drop (j * s)):=by
 refine ⟨?_,fun h0=>?_⟩
 · rw [GV,h.1,Nat.sub_mul]
 · obtain ⟨b,o,h1,h2,h3⟩:=h.2 (by omega);rw [kQ (by omega)];subst h1;refine ⟨b,o+j * s,by simp [Addr.add_lit],h2,fun i v hv=>?_⟩;rw [List.getElem?_drop] at hv;rw [Nat.add_assoc];exact h3 _ v hv
section
variable {P:Program}{w:World}{ρ:Operand->Value}{d:Option Nat}{ty:TypeId}{pos:String}{af:Array Edge}{g:Option (Nat × Bool)}
end
section
variable {P:Program}{N:Fz}{ops:Array Oper}{S:World->Prop}{T:List Nat}{K:KK}{f:Fr}{w:World}{n:Nat}{L:Array Bool}
end
theorem bs {α β:Type}{o:Option α}{f:α->Option β}{X:β}(h:o.bind f=some X):∃ x,o=some x/\f x=some X:=Option.bind_eq_some_iff.1 h
theorem jI {α:Type}{c:Prop}[Decidable c]{a b X:α}(h:(if c then a else b)=X):c/\a=X\/¬ c/\b=X:=by
 by_cases hc:c
 · exact .inl ⟨hc,by rwa [lF hc] at h⟩
 · exact .inr ⟨hc,by rwa [kQ hc] at h⟩
theorem sm {α:Type}{a b:α}(h:some a=some b):a=b:=Kj h
theorem nn {α:Type}{b:α}{p:Prop}(h:none=some b):p:=by cases h
def jB {α β:Type}{γ:Sort _}:α × β→(α→β→γ)→γ
 | (a,b),f=>f a b
theorem nH {α β:Type}{a:α}{b:β}{f:α->β->Prop}(h:f a b):jB (a,b) f:=h
inductive Ld (σ ρ:Type) where
 | go (s:σ)
 | out (r:ρ)
def Ld.el {σ ρ τ:Type}:Ld σ ρ→(σ→τ)→(ρ→τ)→τ
 | .go s,f,_=>f s
 | .out r,_,g=>g r
theorem gi {σ ρ τ:Type}{f:σ->τ}{g:ρ->τ}{s:σ}{X:τ}(h:(Ld.go s:Ld σ ρ).el f g=X):f s=X:=h
theorem oi {σ ρ τ:Type}{f:σ->τ}{g:ρ->τ}{r:ρ}{X:τ}(h:(Ld.out r:Ld σ ρ).el f g=X):g r=X:=h
theorem pi {α β γ:Type}{a:α}{b:β}{f:α->β->γ}{X:γ}(h:jB (a,b) f=X):f a b=X:=h
def app {α:Type}(l m:List α):Option (List α):=if l.length+m.length<=1000000000 then some (l ++ m) else none
theorem pY {α:Type}{l m r:List α}(h:app l m=some r):l.length+m.length<=1000000000/\l ++ m=r:=by
 unfold app at h;split at h
 · exact ⟨by assumption,sm h⟩
 · cases h
def cat (s t:ByteArray):Option ByteArray:=if s.size+t.size<=1000000000 then some (s ++ t) else none
theorem ZW {s t r:ByteArray}(h:cat s t=some r):s.size+t.size<=1000000000/\s ++ t=r:=by
 unfold cat at h;split at h
 · exact ⟨by assumption,sm h⟩
 · cases h
def ix {α:Type}(l:List α)(i:Int):Option α:=if i < 0 then none else l[i.toNat]?
theorem kU {α:Type}{l:List α}{i:Int}{x:α}(h:ix l i=some x):∃ k:Nat,i=(k:Int)/\l[k]?=some x:=by
 unfold ix at h;split at h
 · cases h
 · exact ⟨i.toNat,by omega,h⟩
def sl {α:Type}(l:List α)(a b:Int):Option (List α):=if 0<=a/\a<=b/\b<=l.length then some ((l.drop a.toNat).take (b - a).toNat) else none
theorem DU {α:Type}{l r:List α}{a b:Int}(h:sl l a b=some r):∃ i j:Nat,a=(i:Int)/\b=(j:Int)/\i<=j/\j<=l.length/\(l.drop i).take (j - i)=r:=by
 unfold sl at h;split at h
 · rename_i hc;exact ⟨a.toNat,b.toNat,by omega,by omega,by omega,by omega,by rw [<-sm h];congr 1;omega⟩
 · cases h
def st {α:Type}(l:List α)(i:Int)(x:α):Option (List α):=if 0<=i/\i < l.length then some (l.set i.toNat x) else none
theorem sQ {α:Type}{l r:List α}{i:Int}{x:α}(h:st l i x=some r):∃ k:Nat,i=(k:Int)/\k < l.length/\l.set k x=r:=by
 unfold st at h;split at h
 · rename_i hc;exact ⟨i.toNat,by omega,by omega,sm h⟩
 · cases h
theorem ku {α:Type}{l:List α}{x:α}{i:Nat}(h:l[i]?=some x):i < l.length:=(List.getElem?_eq_some_iff.1 h).1
theorem lZ {α:Type}{l:List α}{k:Nat}(h:k < l.length):∃ x,l[k]?=some x:=⟨_,List.getElem?_eq_getElem h⟩
theorem mV {α:Type}{l:List α}{x:α}{k:Nat}(h:l[k]?=some x):l.drop k=x :: l.drop (k+1):=by obtain ⟨hk,rfl⟩:=List.getElem?_eq_some_iff.1 h;exact List.drop_eq_getElem_cons hk
theorem mF {α:Type}{l:List α}:l.drop l.length=[]:=List.drop_length
structure TH (G:Nat->Prop)(w w':World):Prop where
 os:w'.os=w.os
 tape:w'.tape=w.tape
 output:w'.output=w.output
 size:w.heap.size<=w'.heap.size
 block:∀ b,b < w.heap.size->¬ G b->w'.heap[b]?=w.heap[b]?
theorem Ext.Hf {w w':World}(e:Ext w w')(G:Nat->Prop):TH G w w':=⟨e.os,e.tape,e.output,e.size,fun b hb _=>e.block b hb⟩
theorem TH.ext {w w':World}(h:TH (fun _=>False) w w'):Ext w w':=⟨h.os,h.tape,h.output,h.size,fun b hb=>h.block b hb (fun h=>h)⟩
theorem Wn {w w':World}{b o:Nat}(h:w'.heap[b]?=w.heap[b]?):w'.cell? ⟨b,o,none⟩=w.cell? ⟨b,o,none⟩:=by simp only [World.cell?,h]
theorem Cells.same {w w':World}{b o:Nat}{xs:List Value}(h:Cells w b o xs)(e:w'.heap[b]?=w.heap[b]?):Cells w' b o xs:=fun j v hv=>by rw [Wn e];exact h j v hv
theorem Cells.part {w:World}{b o o2:Nat}{cs xs:List Value}(h:Cells w b o cs)(hx:(cs.drop o2).take xs.length=xs):Cells w b (o+o2) xs:=fun j v hv=>by
 rw [Nat.add_assoc];refine h (o2+j) v ?_;rw [<-hx,List.getElem?_take] at hv;split at hv
 · rw [List.getElem?_drop] at hv;exact hv
 · cases hv
def oH (a:Option Addr):Nat:=match a with | some a=>a.block | none=>0
def qo (a:Option Addr):Nat:=match a with | some a=>a.off | none=>0
def Mv (F G:Nat->Prop)(w w':World):Prop:=(∀ b,F b->b < w.heap.size->G b/\w'.heap[b]?=w.heap[b]?)/\w.heap.size<=w'.heap.size
class Rp (α:Type) where
 sz:Nat
 bs:Nat
 rep:(Nat->Prop)->World->List Value->α->Prop
 len:∀ {F:Nat->Prop}{w:World}{cs:List Value}{x:α},rep F w cs x->cs.length=sz
 one:∀ {F:Nat->Prop}{w:World}{cs:List Value}{x:α},rep F w cs x->cs.all (fun v=>v.oneCell')=true
 mv:∀ {F G:Nat->Prop}{w w':World}{cs:List Value}{x:α},rep F w cs x->Mv F G w w'->rep G w' cs x
def l5 {α:Type}[Rp α](F:Nat->Prop)(w:World)(a:Option Addr)(c:Nat)(l:List α):Prop:=l.length<=c/\c<=maxLen/\(0 < l.length->a=some ⟨oH a,qo a,none⟩/\F (oH a)/\oH a < w.heap.size/\ ∀ i x,l[i]?=some x->∃ cs,Cells w (oH a) (qo a+i * Rp.sz α) cs/\Rp.rep F w cs x)
theorem l5.mv {α:Type}[Rp α]{F G:Nat->Prop}{w w':World}{a:Option Addr}{c:Nat}{l:List α}(h:l5 F w a c l)(k:Mv F G w w'):l5 G w' a c l:=by refine ⟨h.1,h.2.1,fun h0=>?_⟩;obtain ⟨h1,h2,h3,h4⟩:=h.2.2 h0;refine ⟨h1,(k.1 _ h2 h3).1,Nat.lt_of_lt_of_le h3 k.2,fun i x hx=>?_⟩;obtain ⟨cs,h5,h6⟩:=h4 i x hx;exact ⟨cs,h5.same (k.1 _ h2 h3).2,Rp.mv h6 k⟩
theorem l5.nil {α:Type}[Rp α]{F:Nat->Prop}{w:World}{a:Option Addr}:l5 F w a 0 ([]:List α):=⟨nD _,uL _,fun h=>by simp at h⟩
section
variable {α:Type}[Rp α]{F:Nat->Prop}{w:World}{a:Option Addr}{c:Nat}{l:List α}{x:α}{i:Nat}
theorem l5.cap (h:l5 F w a c l):l.length<=c:=h.1
theorem l5.bd (h:l5 F w a c l):l.length<=9223372036854775807:=by have:=h.1;have:=h.2.1;simp only [maxLen] at *;omega
theorem l5.VP (h:l5 F w a c l)(hx:l[i]?=some x):a=some ⟨oH a,qo a,none⟩:=(h.2.2 (by have:=ku hx;omega)).1
theorem l5.fb (h:l5 F w a c l)(hx:l[i]?=some x):F (oH a)/\oH a < w.heap.size:=⟨(h.2.2 (by have:=ku hx;omega)).2.1,(h.2.2 (by have:=ku hx;omega)).2.2.1⟩
theorem l5.el (h:l5 F w a c l)(hx:l[i]?=some x):∃ cs,Cells w (oH a) (qo a+i * Rp.sz α) cs/\Rp.rep F w cs x:=(h.2.2 (by have:=ku hx;omega)).2.2.2 i x hx
end
instance:Rp Int:=⟨1,8,fun _ _ cs n=>cs=[.int .i64 n],fun h=>by rw [h];rfl,fun h=>by rw [h];rfl,fun h _=>h⟩
instance:Rp Bool:=⟨1,1,fun _ _ cs n=>cs=[.bool n],fun h=>by rw [h];rfl,fun h=>by rw [h];rfl,fun h _=>h⟩
instance:Rp ByteArray:=⟨1,16,fun _ _ cs n=>cs=[.string n],fun h=>by rw [h];rfl,fun h=>by rw [h];rfl,fun h _=>h⟩
instance {α:Type}[Rp α]:Rp (List α):=⟨1,24,fun F w cs l=>∃ a c,cs=[.slice a l.length c]/\l5 F w a c l,fun ⟨_,_,h,_⟩=>by rw [h];rfl,fun ⟨_,_,h,_⟩=>by rw [h];rfl,fun ⟨a,c,h,k⟩ m=>⟨a,c,h,k.mv m⟩⟩
def xC {α:Type}[Rp α](F:Nat→Prop)(w:World):List (List Value)→List α→Prop
 | [],[]=>True
 | c :: cs,x :: l=>Rp.rep F w c x/\xC F w cs l
 | _,_=>False
section
variable {α:Type}[Rp α]{F G:Nat->Prop}{w w':World}
theorem xC.mv:∀ {cs:List (List Value)}{l:List α},xC F w cs l→Mv F G w w'→xC G w' cs l
 | [],[],_,_=>trivial
 | _ :: _,_ :: _,h,k=>⟨Rp.mv h.1 k,xC.mv h.2 k⟩
 | [],_ :: _,h,_=>h.elim
 | _ :: _,[],h,_=>h.elim
theorem xC.len:∀ {cs:List (List Value)}{l:List α},xC F w cs l→cs.length=l.length
 | [],[],_=>rfl
 | _ :: _,_ :: _,h=>congrArg (·+1) (xC.len h.2)
 | [],_ :: _,h=>h.elim
 | _ :: _,[],h=>h.elim
theorem xC.app:∀ {cs:List (List Value)}{l:List α}{ds:List (List Value)}{m:List α},xC F w cs l→xC F w ds m→xC F w (cs ++ ds) (l ++ m)
 | [],[],_,_,_,k=>k
 | _ :: _,_ :: _,_,_,h,k=>⟨h.1,xC.app h.2 k⟩
 | [],_ :: _,_,_,h,_=>h.elim
 | _ :: _,[],_,_,h,_=>h.elim
theorem xC.take:∀ {cs:List (List Value)}{l:List α}(n:Nat),xC F w cs l→xC F w (cs.take n) (l.take n)
 | _,_,0,_=>by simp [xC]
 | [],[],n+1,_=>by simp [xC]
 | _ :: _,_ :: _,n+1,h=>⟨h.1,xC.take n h.2⟩
 | [],_ :: _,_+1,h=>h.elim
 | _ :: _,[],_+1,h=>h.elim
theorem xC.set:∀ {cs:List (List Value)}{l:List α}(n:Nat){d:List Value}{y:α},xC F w cs l→Rp.rep F w d y→xC F w (cs.set n d) (l.set n y)
 | [],[],_,_,_,_,_=>trivial
 | _ :: _,_ :: _,0,_,_,h,k=>⟨k,h.2⟩
 | _ :: _,_ :: _,n+1,_,_,h,k=>⟨h.1,xC.set n h.2 k⟩
 | [],_ :: _,_,_,_,h,_=>h.elim
 | _ :: _,[],_,_,_,h,_=>h.elim
theorem xC.get:∀ {cs:List (List Value)}{l:List α}{k:Nat}{x:α},xC F w cs l→l[k]?=some x→∃ c,cs[k]?=some c∧Rp.rep F w c x
 | c :: _,_ :: _,0,_,h,hx=>by simp only [EC,Dk] at hx;subst hx;exact ⟨c,rfl,h.1⟩
 | _ :: _,_ :: _,k+1,_,h,hx=>xC.get (k:=k) h.2 (by simpa using hx)
 | [],[],_,_,_,hx=>by simp at hx
 | [],_ :: _,_,_,h,_=>h.elim
 | _ :: _,[],_,_,h,_=>h.elim
theorem xC.YK:∀ {cs:List (List Value)}{l:List α},xC F w cs l→cs.flatten.length=l.length * Rp.sz α
 | [],[],_=>by simp
 | c :: cs,x :: l,h=>by rw [Bh,F9,xC.YK h.2,Rp.len h.1,uM,Nat.succ_mul,Nat.add_comm]
 | [],_ :: _,h=>h.elim
 | _ :: _,[],h=>h.elim
theorem xC.one:∀ {cs:List (List Value)}{l:List α},xC F w cs l→∀ v ∈ cs.flatten,v.oneCell'=true
 | [],[],_,v,hv=>by simp at hv
 | c :: cs,x :: l,h,v,hv=>by
  rw [Bh,qg] at hv;obtain hv | hv:=hv
  · exact List.all_eq_true.1 (Rp.one h.1) v hv
  · exact xC.one h.2 v hv
 | [],_ :: _,h,_,_=>h.elim
 | _ :: _,[],h,_,_=>h.elim
theorem xC.cells:∀ {cs:List (List Value)}{l:List α}{k:Nat}{c:List Value},xC F w cs l→cs[k]?=some c→∀ j v,c[j]?=some v→cs.flatten[k * Rp.sz α+j]?=some v
 | c :: _,_ :: _,0,_,h,hx,j,v,hv=>by simp only [EC,Dk] at hx;subst hx;rw [Bh,Nat.zero_mul,DV,zQ (ku hv)];exact hv
 | c :: _,_ :: _,k+1,_,h,hx,j,v,hv=>by rw [Bh,EX (by rw [Rp.len h.1,Nat.succ_mul];omega),Rp.len h.1,show (k+1) * Rp.sz α+j - Rp.sz α=k * Rp.sz α+j by rw [Nat.succ_mul];omega];exact xC.cells (k:=k) h.2 (by simpa using hx) j v hv
 | [],[],_,_,_,hx,_,_,_=>by simp at hx
 | [],_ :: _,_,_,h,_,_,_,_=>h.elim
 | _ :: _,[],_,_,h,_,_,_,_=>h.elim
theorem l5.els {a:Option Addr}{c:Nat}{l:List α}(h:l5 F w a c l):∃ cs,xC F w cs l/\Sl w w.heap.size (Rp.sz α) a l.length cs.flatten:=by
 have key:∀ (m:List α)(o:Nat),(∀ i x,m[i]?=some x->∃ cs,Cells w (oH a) (o+i * Rp.sz α) cs/\Rp.rep F w cs x)->∃ cs,xC F w cs m/\Cells w (oH a) o cs.flatten:=by
   intro m
   induction m with
   | nil=>intro o _;exact ⟨[],kE,fun j v hv=>by simp at hv⟩
   | cons x m ih=>
    intro o hm;obtain ⟨c0,h0,h1⟩:=hm 0 x rfl;obtain ⟨cs,h2,h3⟩:=ih (o+Rp.sz α) (fun i y hy=>by
      have:=hm (i+1) y (by simpa using hy)
      rwa [show o+(i+1) * Rp.sz α=o+Rp.sz α+i * Rp.sz α by rw [Nat.succ_mul];omega] at this)
    refine ⟨c0 :: cs,⟨h1,h2⟩,fun j v hv=>?_⟩;rw [Bh] at hv;obtain hj | hj:=xw j c0.length
    · rw [zQ hj] at hv;have:=h0 j v hv
      rwa [Nat.zero_mul,Nat.add_zero] at this
    · rw [EX hj] at hv;have:=h3 _ v hv
      rwa [Rp.len h1,show o+Rp.sz α+(j - Rp.sz α)=o+j by rw [Rp.len h1] at hj;omega] at this
 obtain h0 | h0:=Nat.eq_zero_or_pos l.length
 · have:l=[]:=List.eq_nil_of_length_eq_zero h0;subst this;exact ⟨[],kE,⟨by simp,fun h=>by simp at h⟩⟩
 · obtain ⟨h1,h2,h3,h4⟩:=h.2.2 h0;obtain ⟨cs,h5,h6⟩:=key l (qo a) h4;exact ⟨cs,h5,⟨h5.YK,fun _=>⟨_,_,h1,h3,h6⟩⟩⟩
end
def nth {α:Type}:List α→Nat→List α
 | a :: _,0=>[a]
 | _ :: l,n+1=>nth l n
 | [],_=>[]
def pick {α:Type}(L:List α):List Nat→List α
 | []=>[]
 | i :: l=>nth L i ++ pick L l
theorem P5 {α : Type}{x : α} : ∀ {L : List α}{i : Nat}, x ∈ nth L i → L[i]? = some x
  | a :: _, 0, h => by have : x = a := by simpa [nth] using h
                       rw [this]; rfl
  | _ :: l,n + 1,h=>P5 (L:=l) h
  | [],_,h=>by cases h
theorem YA {α:Type}{R:α→α→Prop}:∀ {L:List α}{i:Nat},(nth L i).Pairwise R
 | a :: _,0=>by simp [nth]
 | _ :: l,n+1=>YA (L:=l)
 | [],_=>List.Pairwise.nil
structure It where
 F:Nat->Prop
 p:World->Prop
 bd:∀ w,p w->∀ b,F b->b < w.heap.size
 st:∀ w w',p w->(∀ b,F b->w'.heap[b]?=w.heap[b]?)->w.heap.size<=w'.heap.size->p w'
def It.box (b:Nat)(t:TypeId)(cs:Array Value):It where
 F k:=k=b
 p w:=yA w b t cs
 bd w h k hk:=by subst hk;exact h.lt
 st w w' h k _:=by unfold yA at h ⊢;rw [k b rfl];exact h
def It.own (base:Nat)(A:Option Addr)(c:Nat)(e:TypeId)(sz:Nat)(cs:List (List Value)):It where
 F k:=rowOf A=some k
 p w:=Own w base e sz A cs.length c cs.flatten
 bd w h k hk:=(h.row k hk).2
 st w w' h k hs:=by
  refine ⟨h.1,?_⟩;obtain h1 | ⟨g,cap,cur,h3,h4,h5,h6⟩:=h.2
  · exact .inl h1
  · refine .inr ⟨g,cap,cur,h3,h4,?_,h6⟩;injection h3 with h3 _ _;rw [k g (by rw [h3];rfl)];exact h5
structure Da where
 ok:(Nat->Prop)->World->Prop
 mv:∀ {F G:Nat->Prop}{w w':World},ok F w->Mv F G w w'->ok G w'
def Da.l {α:Type}[Rp α](a:Option Addr)(c:Nat)(l:List α):Da:=⟨fun F w=>l5 F w a c l,l5.mv⟩
def Da.els {α:Type}[Rp α](cs:List (List Value))(l:List α):Da:=⟨fun F w=>xC F w cs l,xC.mv⟩
def Da.at (b o:Nat)(cs:List Value):Da:=⟨fun F w=>F b/\b < w.heap.size/\Cells w b o cs,fun h k=>⟨(k.1 _ h.1 h.2.1).1,Nat.lt_of_lt_of_le h.2.1 k.2,h.2.2.same (k.1 _ h.1 h.2.1).2⟩⟩
def mD (L:List It):Nat->Prop:=fun b=>∃ it ∈ L,it.F b
def IU (w0:World)(Z:Nat->Prop)(L:List It):Nat->Prop:=fun b=>(b < w0.heap.size->Z b)/\∀ it ∈ L,¬ it.F b
def Ap (a c:It):Prop:=∀ b,a.F b->¬ c.F b
structure Bx (w0 w:World)(Z G:Nat->Prop)(L:List It)(D:List Da):Prop where
 uo:TH G w0 w
 it:∀ it ∈ L,it.p w/\∀ b,it.F b->b < w0.heap.size->G b
 pw:L.Pairwise Ap
 da:∀ d ∈ D,d.ok (IU w0 Z L) w
structure Pre (w0:World)(Z:Nat->Prop)(L:List It)(D:List Da):Prop where
 it:∀ it ∈ L,it.p w0
 z:∀ it ∈ L,∀ b,it.F b->¬ Z b
 pw:L.Pairwise Ap
 da:∀ d ∈ D,d.ok Z w0
theorem Mv.same {F G:Nat->Prop}{w:World}(h:∀ b,F b->b < w.heap.size->G b):Mv F G w w:=⟨fun b hb hl=>⟨h b hb hl,rfl⟩,nD _⟩
theorem Pre.bx {w0:World}{Z:Nat->Prop}{L:List It}{D:List Da}(h:Pre w0 Z L D):Bx w0 w0 Z (mD L) L D:=
 ⟨(Ext.refl w0).Hf _,fun it hi=>⟨h.it it hi,fun b hb _=>⟨it,hi,hb⟩⟩,h.pw,fun d hd=>d.mv (h.da d hd) (.same fun b hz _=>⟨fun _=>hz,fun it hi hb=>h.z it hi b hb hz⟩)⟩
section
variable {w0 w w':World}{Z G:Nat->Prop}{L:List It}{D:List Da}{it it':It}{i:Nat}
theorem Bx.at (h:Bx w0 w Z G L D)(i:Nat)(hi:L[i]?=some it):it.p w:=(h.it it (vS hi)).1
theorem Bx.bk (h:Bx w0 w Z G L D)(i:Nat){b:Nat}{t:TypeId}{cs:Array Value}(hi:L[i]?=some (.box b t cs)):yA w b t cs:=h.at i hi
theorem Bx.bo (h:Bx w0 w Z G L D)(i:Nat){base:Nat}{A:Option Addr}{c:Nat}{e:TypeId}{sz:Nat}{cs:List (List Value)}(hi:L[i]?=some (.own base A c e sz cs)):Own w base e sz A cs.length c cs.flatten:=h.at i hi
theorem Bx.d (h:Bx w0 w Z G L D)(i:Nat){d:Da}(hi:D[i]?=some d):d.ok (IU w0 Z L) w:=h.da d (vS hi)
theorem Bx.dl (h:Bx w0 w Z G L D)(i:Nat){α:Type}[Rp α]{a:Option Addr}{c:Nat}{l:List α}(hi:D[i]?=some (.l a c l)):l5 (IU w0 Z L) w a c l:=h.d i hi
theorem Bx.de (h:Bx w0 w Z G L D)(i:Nat){α:Type}[Rp α]{cs:List (List Value)}{l:List α}(hi:D[i]?=some (.els cs l)):xC (IU w0 Z L) w cs l:=h.d i hi
theorem Bx.dc (h:Bx w0 w Z G L D)(i:Nat){b o:Nat}{cs:List Value}(hi:D[i]?=some (.at b o cs)):Cells w b o cs:=(h.d i hi).2.2
theorem Ur {R:It→It→Prop}:∀ {L:List It}{i j:Nat}{x y:It},L.Pairwise R→i < j→L[i]?=some x→L[j]?=some y→R x y
 | a :: L,0,j+1,x,y,h,_,hx,hy=>by simp only [EC,Dk] at hx;subst hx;exact (Cr.1 h).1 y (vS (by simpa using hy))
 | a :: L,i+1,j+1,x,y,h,hij,hx,hy=>Ur (i:=i) (j:=j) (Cr.1 h).2 (by omega) (by simpa using hx) (by simpa using hy)
theorem Bx.apart (h:Bx w0 w Z G L D){j:Nat}{x y:It}(hij:i≠j)(hx:L[i]?=some x)(hy:L[j]?=some y):∀ b,x.F b->¬ y.F b:=by
 obtain h1 | h1:=Nat.lt_or_gt_of_ne hij
 · exact Ur h.pw h1 hx hy
 · exact fun b hb hc=>Ur h.pw h1 hy hx b hc hb
theorem TM {R:It→It→Prop}:∀ {L:List It}{i:Nat}{y:It},L.Pairwise R→(∀ j x,j≠i→L[j]?=some x→R x y∧R y x)→(L.set i y).Pairwise R
 | [],i,y,_,_=>by simp
 | a :: L,0,y,h,k=>by rw [List.set_cons_zero];refine Cr.2 ⟨fun x hx=>?_,(Cr.1 h).2⟩;obtain ⟨j,hj⟩:=QK hx;exact (k (j+1) x (by omega) (by simpa using hj)).2
 | a :: L,i+1,y,h,k=>by
  rw [List.set_cons_succ];refine Cr.2 ⟨fun x hx=>?_,TM (Cr.1 h).2 fun j x hj hx=>k (j+1) x (by omega) (by simpa using hx)⟩;obtain hx | rfl:=Jw hx
  · exact (Cr.1 h).1 x hx
  · exact (k 0 a (by omega) (by simp)).1
theorem Bx.step (h:Bx w0 w Z G L D){X:Nat->Prop}{L':List It}(hc:TH X w w')(hX:∀ b,X b->b < w.heap.size->∃ it ∈ L,it.F b)(hp:∀ it ∈ L',it.p w')(hF:∀ it ∈ L',∀ b,it.F b->b < w.heap.size->∃ x ∈ L,x.F b)(hpw:L'.Pairwise Ap):Bx w0 w' Z G L' D:=by
 have hs:=h.uo.size;refine ⟨⟨hc.os.trans h.uo.os,hc.tape.trans h.uo.tape,hc.output.trans h.uo.output,sO hs hc.size,fun b hb hg=>?_⟩,fun it hi=>⟨hp it hi,fun b hb hl=>?_⟩,hpw,fun d hd=>d.mv (h.da d hd) ⟨fun b hf hl=>⟨⟨hf.1,fun it hi hb=>?_⟩,?_⟩,hc.size⟩⟩
 · rw [hc.block b (Nat.lt_of_lt_of_le hb hs) (fun hx=>?_)]
   · exact h.uo.block b hb hg
   · obtain ⟨it,hi,hb'⟩:=hX b hx (Nat.lt_of_lt_of_le hb hs);exact hg ((h.it it hi).2 b hb' hb)
 · obtain ⟨x,hx,hxb⟩:=hF it hi b hb (Nat.lt_of_lt_of_le hl hs);exact (h.it x hx).2 b hxb hl
 · obtain ⟨x,hx,hxb⟩:=hF it hi b hb hl;exact hf.2 x hx hxb
 · refine hc.block b hl fun hx=>?_;obtain ⟨x,hx,hxb⟩:=hX b hx hl;exact hf.2 x hx hxb
theorem Bx.ext (h:Bx w0 w Z G L D)(e:Ext w w'):Bx w0 w' Z G L D:=
 h.step (X:=fun _=>False) (e.Hf _) (fun _ hx=>hx.elim) (fun it hi=>it.st w w' (h.it it hi).1 (fun b hb=>e.block b (it.bd w (h.it it hi).1 b hb)) e.size) (fun it hi b hb _=>⟨it,hi,hb⟩) h.pw
theorem Bx.drew (h:Bx w0 w Z G L D):Bx w0 w.drew Z G L D:=h.ext (Ext.refl w).drew
theorem Bx.push (h:Bx w0 w Z G L D)(e:Ext w w')(hp:it.p w')(hn:∀ b,it.F b->w.heap.size<=b):Bx w0 w' Z G (it :: L) D:=by
 refine h.step (X:=fun _=>False) (e.Hf _) (fun _ hx=>hx.elim) (fun x hx=>?_) (fun x hx b hb hl=>?_) (Cr.2 ⟨fun x hx b hb hc=>?_,h.pw⟩)
 · obtain rfl | hx:=nM.1 hx
   · exact hp
   · exact ((h.ext e).it x hx).1
 · obtain rfl | hx:=nM.1 hx
   · have:=hn b hb;omega
   · exact ⟨x,hx,hb⟩
 · have h1:=x.bd w (h.it x hx).1 b hc;have h2:=hn b hb;omega
theorem Bx.put (h:Bx w0 w Z G L D)(i:Nat)(hi:L[i]?=some it)(hc:TH it.F w w')(hp:it'.p w')(hF:∀ b,it'.F b->it.F b\/w.heap.size<=b):Bx w0 w' Z G (L.set i it') D:=by
 have hm:=vS hi;have hel:∀ j x,j≠i->L[j]?=some x->x.p w':=fun j x hj hx=>
   x.st w w' (h.at j hx) (fun b hb'=>hc.block b (x.bd w (h.at j hx) b hb') (fun hc=>h.apart hj hx hi b hb' hc)) hc.size
 have hcase:∀ x ∈ L.set i it',x=it'\/∃ j,j≠i/\L[j]?=some x:=fun x hx=>by
   obtain ⟨j,hj⟩:=QK hx;by_cases hji:j=i
   · subst hji;rw [DJ (by exact (List.getElem?_eq_some_iff.1 hi).1)] at hj;cases hj;exact .inl rfl
   · rw [zV (Ne.symm hji)] at hj;exact .inr ⟨j,hji,hj⟩
 refine h.step hc (fun b hx _=>⟨it,hm,hx⟩) (fun x hx=>?_) (fun x hx b hb hl=>?_) (TM h.pw fun j x hj hx=>?_)
 · obtain rfl | ⟨j,hj,hx⟩:=hcase x hx
   · exact hp
   · exact hel j x hj hx
 · obtain rfl | ⟨j,hj,hx⟩:=hcase x hx
   · obtain h1 | h1:=hF b hb
     · exact ⟨it,hm,h1⟩
     · omega
   · exact ⟨x,vS hx,hb⟩
 · have key:∀ b,x.F b->¬ it'.F b:=fun b hb1 hb2=>by
     obtain h1 | h1:=hF b hb2
     · exact h.apart hj hx hi b hb1 h1
     · have:=x.bd w (h.at j hx) b hb1;omega
   exact ⟨key,fun b h1 h2=>key b h2 h1⟩
theorem Bx.perm {L':List It}(h:Bx w0 w Z G L D)(hp:L.Perm L'):Bx w0 w Z G L' D:=
 h.step (X:=fun _=>False) ((Ext.refl w).Hf _) (fun _ hx=>hx.elim) (fun it hi=>(h.it it (hp.mem_iff.2 hi)).1) (fun it hi b hb _=>⟨it,hp.mem_iff.2 hi,hb⟩) ((hp.pairwise_iff (fun {a c} r b hb hc=>r b hc hb)).1 h.pw)
theorem Bx.sub {L':List It}(h:Bx w0 w Z G L D)(hs:L'.Sublist L):Bx w0 w Z G L' D:=
 h.step (X:=fun _=>False) ((Ext.refl w).Hf _) (fun _ hx=>hx.elim) (fun it hi=>(h.it it (hs.subset hi)).1) (fun it hi b hb _=>⟨it,hs.subset hi,hb⟩) (h.pw.sublist hs)
theorem Bx.tl (h:Bx w0 w Z G (it :: L) D):Bx w0 w Z G L D:=h.sub (List.sublist_cons_self it L)
theorem Es:∀ {L:List It}{i:Nat}{it:It},L[i]?=some it→L.Perm (it :: L.eraseIdx i)
 | a :: L,0,it,h=>by simp only [EC,Dk] at h;subst h;exact List.Perm.refl _
 | a :: L,i+1,it,h=>(List.Perm.cons a (Es (i:=i) (by simpa using h))).trans (List.Perm.swap _ _ _)
theorem Bx.fr (h:Bx w0 w Z G L D)(i:Nat)(hi:L[i]?=some it):Bx w0 w Z G (it :: L.eraseIdx i) D:=h.perm (Es hi)
theorem Bx.er (h:Bx w0 w Z G L D)(i:Nat):Bx w0 w Z G (L.eraseIdx i) D:=h.sub (List.eraseIdx_sublist L i)
theorem Bx.ko (h:Bx w0 w Z G L D){d:Da}(hd:d.ok (IU w0 Z L) w):Bx w0 w Z G L (d :: D):=
 ⟨h.uo,h.it,h.pw,fun x hx=>by
  obtain rfl | hx:=nM.1 hx
  · exact hd
  · exact h.da x hx⟩
theorem Bx.Bl (h:Bx w0 w Z G L D){D':List Da}(hs:∀ d ∈ D',d ∈ D):Bx w0 w Z G L D':=⟨h.uo,h.it,h.pw,fun d hd=>h.da d (hs d hd)⟩
theorem Bx.KD (h:Bx w0 w Z G L D)(i:Nat){d:Da}(hd:d.ok (IU w0 Z L) w):Bx w0 w Z G L (D.set i d):=
 ⟨h.uo,h.it,h.pw,fun x hx=>by
  obtain hx | rfl:=Jw hx
  · exact h.da x hx
  · exact hd⟩
theorem D7 {α:Type}{L:List α}:∀ {l:List Nat}{x:α},x ∈ pick L l→∃ i ∈ l,L[i]?=some x
 | i :: l,x,h=>by
  unfold pick at h;obtain h | h:=qg.1 h
  · exact ⟨i,Ca ..,P5 h⟩
  · obtain ⟨j,h1,h2⟩:=D7 h;exact ⟨j,yO _ h1,h2⟩
theorem Bx.dp (h:Bx w0 w Z G L D)(l:List Nat):Bx w0 w Z G L (pick D l):=h.Bl fun _ hd=>by obtain ⟨i,_,hi⟩:=D7 hd;exact vS hi
theorem Bx.new (h:Bx w0 w Z G L D){b:Nat}{t:TypeId}{cs:Array Value}(hge:w.heap.size<=b)(hB:yA w' b t cs)(he:Ext w w'):Bx w0 w' Z G (.box b t cs :: L) D:=
 h.push he hB (fun k hk=>by have hk:k=b:=hk;omega)
theorem Bx.wr (h:Bx w0 w Z G L D)(i:Nat){b:Nat}{t t':TypeId}{cs cs':Array Value}(hi:L[i]?=some (.box b t cs))(hc:HZ b w w')(hB:yA w' b t' cs'):Bx w0 w' Z G (L.set i (.box b t' cs')) D:=
 h.put i hi ⟨hc.os,hc.tape,hc.output,hc.size,fun k hk hn=>hc.block k hk (by intro e;injection e with e;exact hn (show k=b from e))⟩ hB (fun k hk=>.inl hk)
theorem Bx.owN (h:Bx w0 w Z G L D)(e:TypeId)(sz:Nat):Bx w0 w Z G (.own w0.heap.size none 0 e sz [] :: L) D:=
 h.push (Ext.refl w) (Own.nil w _ e sz) (fun k hk=>by (cases hk))
theorem Bx.Gf (h:Bx w0 w Z G L D)(α:Type)[Rp α](e:TypeId):Bx w0 w Z G (.own w0.heap.size none 0 e (Rp.sz α) [] :: L) (.els [] ([]:List α) :: D):=
 (h.owN e (Rp.sz α)).ko kE
theorem Bx.U2 (h:Bx w0 w Z G L D)(i:Nat){base:Nat}{A A2:Option Addr}{c c2 n2 sz:Nat}{e:TypeId}{cs ds:List (List Value)}{ys:List Value}(hi:L[i]?=some (.own base A c e sz cs))(ho:Own w' base e sz A2 n2 c2 ys)(hn:n2=ds.length)(hy:ys=ds.flatten)(hg:w.grownBy w' (rowOf A))(hr:rowOf A2=rowOf A\/rowOf A2=some w.heap.size):Bx w0 w' Z G (L.set i (.own base A2 c2 e sz ds)) D:=
 h.put i hi ⟨hg.os,hg.tape,hg.output,hg.size,fun k hk hn=>hg.block k hk (fun e=>hn e.symm)⟩ (by subst hn hy;exact ho) (fun k hk=>by
  have hk:rowOf A2=some k:=hk;obtain hr | hr:=hr
  · exact .inl (show rowOf A=some k by rw [<-hr];exact hk)
  · rw [hk] at hr;injection hr with hr;exact .inr (by omega))
theorem Bx.reb (h:Bx w0 w Z G L D)(i:Nat){base:Nat}{A:Option Addr}{c sz:Nat}{e:TypeId}{cs:List (List Value)}(base':Nat)(hi:L[i]?=some (.own base A c e sz cs))(hb:base'<=base):Bx w0 w Z G (L.set i (.own base' A c e sz cs)) D:=
 h.put i hi ((Ext.refl w).Hf _) (Own.mono (h.bo i hi) hb) (fun k hk=>.inl hk)
theorem Own.WO {α:Type}[Rp α]{F:Nat->Prop}{w:World}{e:TypeId}{base:Nat}{A:Option Addr}{c:Nat}{cs:List (List Value)}{l:List α}(h:Own w base e (Rp.sz α) A cs.length c cs.flatten)(he:xC F w cs l)(hF:∀ b,rowOf A=some b->F b):l5 F w A c l:=by have hc:=h.cap;rw [he.len] at h hc;refine ⟨hc.1,hc.2,fun h0=>?_⟩;obtain ⟨g,rfl⟩:=h.VP h0;refine ⟨rfl,hF g rfl,(h.row g rfl).2,fun i x hx=>?_⟩;obtain ⟨d,hd,hr⟩:=he.get hx;refine ⟨d,fun j v hv=>?_,hr⟩;show w.cell? ⟨g,0+i * Rp.sz α+j,none⟩=some v;rw [DV];exact h.cell (he.cells hd j v hv)
theorem Bx.frz (h:Bx w0 w Z G L D)(i j:Nat){α:Type}[Rp α]{e:TypeId}{A:Option Addr}{c:Nat}{cs:List (List Value)}{l:List α}(hi:L[i]?=some (.own w0.heap.size A c e (Rp.sz α) cs))(hj:D[j]?=some (.els cs l)) :Bx w0 w Z G (L.eraseIdx i) (.l A c l :: D.eraseIdx j):=by
 have h1:Bx w0 w Z G (L.eraseIdx i) (D.eraseIdx j):=(h.er i).Bl fun d hd=>(List.eraseIdx_sublist D j).subset hd;have h2:=(h.er i).de j hj;refine h1.ko (d:=.l A c l) ((h.bo i hi).WO h2 fun b hb=>⟨fun hl=>?_,fun it hit hb'=>?_⟩)
 · have:=((h.bo i hi).row b hb).1;omega
 · have hp:=(Es hi).pairwise_iff (R:=Ap) (fun {a c} r b hb hc=>r b hc hb);have:=hp.1 h.pw;exact (Cr.1 this).1 it hit b hb hb'
def nodup:List Nat→Bool
 | []=>true
 | i :: l=>!l.contains i && nodup l
theorem Bx.arr (h:Bx w0 w Z G L D)(l:List Nat)(hn:nodup l=true):Bx w0 w Z G (pick L l) D:=by
 have hm:∀ x ∈ pick L l,x ∈ L:=fun x hx=>by obtain ⟨i,_,hi⟩:=D7 hx;exact vS hi
 refine h.step (X:=fun _=>False) ((Ext.refl w).Hf _) (fun _ hx=>hx.elim) (fun it hi=>(h.it it (hm it hi)).1) (fun it hi b hb _=>⟨it,hm it hi,hb⟩) ?_;clear hm
 induction l with
 | nil=>exact List.Pairwise.nil
 | cons i l ih=>
  simp only [nodup,Ei,Bool.not_eq_true',List.contains_eq_mem] at hn;unfold pick;refine List.pairwise_append.2 ⟨YA,ih hn.2,fun x hx y hy=>?_⟩;obtain ⟨j,h1,h2⟩:=D7 hy;refine h.apart (fun e=>?_) (P5 hx) h2;subst e;simp [h1] at hn
theorem Bx.dr (h:Bx w0 w Z G L D)(n m:Nat):Bx w0 w Z G (L.drop n) (D.drop m):=(h.sub (List.drop_sublist n L)).Bl fun d hd=>List.mem_of_mem_drop hd
theorem l5.fn {α:Type}[Rp α]{F:Nat->Prop}{w:World}{a:Option Addr}{c:Nat}{l:List α}(h:l5 F w a c l):∃ C:Nat->List Value,(∀ i y,l[i]?=some y->Cells w (oH a) (qo a+i * Rp.sz α) (C i))/\∀ i y,l[i]?=some y->Rp.rep F w (C i) y:=by
 have h1:∀ i:Nat,∃ cs,∀ y,l[i]?=some y->Cells w (oH a) (qo a+i * Rp.sz α) cs/\Rp.rep F w cs y:=fun i=>by
  cases hi:l[i]? with
  | none=>exact ⟨[],fun y hy=>by cases hy⟩
  | some x=>obtain ⟨cs,h2,h3⟩:=h.el hi;exact ⟨cs,fun y hy=>by cases hy;exact ⟨h2,h3⟩⟩
 exact ⟨fun i=>Classical.choose (h1 i),fun i y hy=>(Classical.choose_spec (h1 i) y hy).1,fun i y hy=>(Classical.choose_spec (h1 i) y hy).2⟩
theorem Js {F:Nat->Prop}{w:World}:∀ d ∈ ([]:List Da),d.ok F w:=fun _ h=>by cases h
theorem vv {F:Nat->Prop}{w:World}{d:Da}{D:List Da}(h:d.ok F w)(k:∀ d ∈ D,d.ok F w):∀ x ∈ d :: D,x.ok F w:=fun x hx=>by
 obtain rfl | hx:=nM.1 hx
 · exact h
 · exact k x hx
theorem Bx.pre {Lc Lr:List It}(h:Bx w0 w Z G (Lc ++ Lr) D){Dc:List Da}(hD:∀ d ∈ Dc,d.ok (IU w0 Z (Lc ++ Lr)) w):Pre w (IU w0 Z (Lc ++ Lr)) Lc Dc:=
 ⟨fun it hi=>(h.it it (List.mem_append_left _ hi)).1,fun it hi b hb hz=>hz.2 it (List.mem_append_left _ hi) hb,(List.pairwise_append.1 h.pw).1,hD⟩
theorem Bx.call {Lc Lr L1:List It}{D1:List Da}(h:Bx w0 w Z G (Lc ++ Lr) D)(k:Bx w w' (IU w0 Z (Lc ++ Lr)) (mD Lc) L1 D1):Bx w0 w' Z G (L1 ++ Lr) (D1 ++ D):=by
 have hpw:=List.pairwise_append.1 h.pw;have hb:Bx w0 w' Z G (L1 ++ Lr) D:=by
   refine h.step k.uo (fun b ⟨it,hi,hb⟩ _=>⟨it,List.mem_append_left _ hi,hb⟩) (fun it hi=>?_) (fun it hi b hb hl=>?_) (List.pairwise_append.2 ⟨k.pw,hpw.2.1,fun x hx y hy b hb hc=>?_⟩)
   · obtain hi | hi:=qg.1 hi
     · exact (k.it it hi).1
     · have h1:=(h.it it (List.mem_append_right _ hi)).1;exact it.st w w' h1 (fun b hb=>k.uo.block b (it.bd w h1 b hb) fun ⟨x,hx,hxb⟩=>hpw.2.2 x hx it hi b hxb hb) k.uo.size
   · obtain hi | hi:=qg.1 hi
     · obtain ⟨x,hx,hxb⟩:=(k.it it hi).2 b hb hl;exact ⟨x,List.mem_append_left _ hx,hxb⟩
     · exact ⟨it,List.mem_append_right _ hi,hb⟩
   · have h1:=y.bd w (h.it y (List.mem_append_right _ hy)).1 b hc;obtain ⟨z,hz,hzb⟩:=(k.it x hx).2 b hb h1;exact hpw.2.2 z hz y hy b hzb hc
 refine ⟨hb.uo,hb.it,hb.pw,fun d hd=>?_⟩;obtain hd | hd:=qg.1 hd
 · refine d.mv (k.da d hd) (.same fun b hf hl=>⟨fun h0=>?_,fun it hi hb'=>?_⟩)
   · exact (hf.1 (Nat.lt_of_lt_of_le h0 h.uo.size)).1 h0
   · obtain hi | hi:=qg.1 hi
     · exact hf.2 it hi hb'
     · have h1:=it.bd w (h.it it (List.mem_append_right _ hi)).1 b hb';exact (hf.1 h1).2 it (List.mem_append_right _ hi) hb'
 · exact hb.da d hd
end
theorem mD.nil:mD []=fun _=>False:=funext fun b=>propext (Iff.intro (fun h=>by obtain ⟨_,h,_⟩:=h;cases h) (fun h=>h.elim))
theorem Bx.ex {w0 w:World}{Z:Nat->Prop}{L:List It}{D:List Da}(h:Bx w0 w Z (mD []) L D):Ext w0 w:=TH.ext (by have:=h.uo;rwa [mD.nil] at this)
end Go.Fw
