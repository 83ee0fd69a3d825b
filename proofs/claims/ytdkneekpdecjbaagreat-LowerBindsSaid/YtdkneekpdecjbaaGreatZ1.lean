/- A small calculus of weakest preconditions in which a frame is a function from slots to values; nothing in it speaks of a given program. -/
import Derived.OrdersHeld
import Derived.Tactics
import Derived.Below
import Derived.KernelRfl
import Derived.Laws.AppendOwn
import Derived.Laws.OwnMore
import Derived.IntWalk
import Derived.Maps.AppendAt
import Derived.Laws.Tables
import Derived.WalkSpells
import Derived.Lib.SliceRun
import Derived.Laws.BytesString
set_option linter.unusedVariables false
namespace Go.Fw
open Go.RowKit
theorem mO:type_of% @Nat.le_refl:=@Nat.le_refl
theorem vM:type_of% @List.mem_of_getElem?:=@List.mem_of_getElem?
theorem yw:type_of% @List.mem_cons_of_mem:=@List.mem_cons_of_mem
theorem uK:type_of% @List.length_cons:=@List.length_cons
theorem xX:type_of% @List.length_nil:=@List.length_nil
theorem JD:type_of% @Option.some.inj:=@Option.some.inj
theorem Bl:type_of% @List.mem_cons_self:=@List.mem_cons_self
theorem uN:type_of% @Nat.zero_le:=@Nat.zero_le
theorem Ij:type_of% @List.length_append:=@List.length_append
theorem Es:type_of% @Nat.lt_succ_self:=@Nat.lt_succ_self
theorem rE:type_of% @Nat.le_trans:=@Nat.le_trans
theorem ER:type_of% @List.append_nil:=@List.append_nil
theorem FJ:type_of% @Int.toNat_natCast:=@Int.toNat_natCast
theorem wU:type_of% @List.length_set:=@List.length_set
theorem wI:type_of% @List.length_take:=@List.length_take
theorem Dy:type_of% @List.length_map:=@List.length_map
theorem Zc:type_of% @Prod.mk.inj:=@Prod.mk.inj
theorem Ie:type_of% @List.mem_or_eq_of_mem_set:=@List.mem_or_eq_of_mem_set
theorem Du:type_of% @List.getElem?_append_right:=@List.getElem?_append_right
theorem aeW:type_of% @List.getD_eq_getElem?_getD:=@List.getD_eq_getElem?_getD
theorem BF:type_of% @List.getElem?_map:=@List.getElem?_map
theorem Eu:type_of% @List.getElem?_cons_zero:=@List.getElem?_cons_zero
theorem Ay:type_of% @List.flatten_cons:=@List.flatten_cons
theorem zu:type_of% @List.getElem?_set_ne:=@List.getElem?_set_ne
theorem CF:type_of% @List.not_mem_nil:=@List.not_mem_nil
theorem AL:type_of% @List.getElem?_append_left:=@List.getElem?_append_left
theorem Bz:type_of% @List.getElem?_set_self:=@List.getElem?_set_self
theorem vk:type_of% @Int.le_refl:=@Int.le_refl
theorem wz:type_of% @Nat.lt_or_ge:=@Nat.lt_or_ge
theorem Qk:type_of% @List.prefix_rfl:=@List.prefix_rfl
theorem Dz:type_of% @Option.some.injEq:=@Option.some.injEq
theorem Fh:type_of% @List.append_assoc:=@List.append_assoc
theorem Ep:type_of% @Bool.and_eq_true:=@Bool.and_eq_true
theorem DV:type_of% @Nat.zero_add:=@Nat.zero_add
theorem oM:type_of% @List.mem_cons:=@List.mem_cons
theorem Cy:type_of% @List.length_drop:=@List.length_drop
theorem DI:type_of% @List.nil_append:=@List.nil_append
theorem QY:type_of% @List.getElem?_of_mem:=@List.getElem?_of_mem
theorem pX:type_of% @List.mem_append:=@List.mem_append
theorem Bu:type_of% @List.pairwise_cons:=@List.pairwise_cons
theorem lG:type_of% @if_pos:=@if_pos
theorem lD:type_of% @if_neg:=@if_neg
theorem IX:type_of% @decide_eq_true:=@decide_eq_true
theorem Ja:type_of% @decide_eq_false:=@decide_eq_false
theorem Ey:type_of% @of_decide_eq_true:=@of_decide_eq_true
theorem kL:True:=trivial
abbrev Fr:=Nat->Value
theorem XF {t k:Nat}(h:t≠k):Nat.beq t k=false:=by
 cases hb:Nat.beq t k with
 | false=>rfl
 | true=>exact absurd (Nat.eq_of_beq_eq_true hb) h
def upd (f:Fr)(d:Nat)(v:Value):Fr:=fun t=>bif Nat.beq t d then v else f t
def lH (f:Fr)(d:Option Nat)(v:Value):Fr:=match d with | some d=>upd f d v | none=>f
def ev (f:Fr):Operand→Value
 | .tmp t=>f t
 | .const v=>v
 | .global g=>.pointer (some ⟨g,0,none⟩)
 | .func k=>.func (.func k) #[] #[]
abbrev Fz:=Nat × List Deferred
structure L6 (N:Fz)(f:Fr)(a:Act):Prop where
 size:a.tmps.size=N.1
 get:∀ t,a.tmps.getD t undef=f t
 dfr:a.defers=N.2
theorem L6.Bp {N:Fz}{f:Fr}{a:Act}(h:L6 N f a):a.eval=ev f:=by
 funext x;cases x with
 | tmp t=>exact h.get t
 | const v=>rfl
 | global g=>rfl
 | func k=>rfl
theorem L6.put {N:Fz}{f:Fr}{a:Act}(h:L6 N f a)(d:Option Nat)(hd:∀ k,d=some k->k < N.1)(v:Value):L6 N (lH f d v) (a.put d v):=by
 cases d with
 | none=>exact h
 | some k=>
  have hk:=hd k rfl;refine ⟨by simp [Act.put,h.size],fun t=>?_,h.dfr⟩;simp only [Act.put,lH,upd];have hs:k < a.tmps.size:=by rw [h.size];exact hk
  by_cases htk:t=k
  · subst htk;simp [hs]
  · rw [XF htk];have:=h.get t;simp only [Array.getD_eq_getD_getElem?] at this ⊢;rw [Array.getElem?_setIfInBounds_ne (Ne.symm htk)];exact this
def gv (ops:Array Oper)(f:Fr)(j:Nat):Option Bool:=
 match (ops[j]?).bind (·.dst) with
 | some t=>match f t with | .bool b=>some b | _=>none
 | none=>none
theorem aev {N:Fz}{ops:Array Oper}{f:Fr}{a:Act}(h:L6 N f a)(j:Nat):yielded ops a.tmps j=gv ops f j:=by
 unfold yielded gv;cases hd:(ops[j]?).bind (·.dst) with
 | none=>rfl
 | some t=>
  simp only [Option.bind_some];have hg:=h.get t;rw [Array.getD_eq_getD_getElem?] at hg;cases hc:a.tmps[t]? with
  | some v=>
   rw [hc] at hg;have hg':v=f t:=hg;rw [hg'];cases f t <;> rfl
  | none=>
   rw [hc] at hg;have hg':undef=f t:=hg;rw [<-hg'];rfl
def uL (ops:Array Oper)(f:Fr):Option (Nat × Bool)→Bool
 | none=>true
 | some (j,b)=>gv ops f j == some b
theorem uY {N:Fz}{ops:Array Oper}{f:Fr}{a:Act}(h:L6 N f a)(o:Oper):Region.wanted o (yielded ops a.tmps)=uL ops f o.guard:=by
 unfold Region.wanted uL;cases o.guard with
 | none=>rfl
 | some p=>obtain ⟨j,b⟩:=p;simp only [aev h]
structure KK where
 n:Fr->World->Prop
 p:Fr->List PanicEntry->World->Prop
structure Post where
 n:Fr->World->Prop
 x:Nat->Fr->World->Prop
 r:Fr->World->Prop
 p:Fr->List PanicEntry->World->Prop
def lift (N:Fz)(Q:Post):Exit→Act→World→Prop
 | .normal,a,w=>∃ f,L6 N f a/\Q.n f w
 | .exit i,a,w=>∃ f,L6 N f a/\Q.x i f w
 | .ret,a,w=>∃ f,L6 N f a/\Q.r f w
 | .panic c,a,w=>∃ f,L6 N f a/\Q.p f c w
 | _,_,_=>False
def Uf (N:Fz)(K:KK):Exit→Act→World→Prop
 | .normal,a,w=>∃ f,L6 N f a/\K.n f w
 | .panic c,a,w=>∃ f,L6 N f a/\K.p f c w
 | _,_,_=>False
def KK.i (K:KK):KK:=⟨K.n,fun _ c w=>∀ f,K.p f c w⟩
def Az (N:Fz)(o:Oper):Bool:=match o.dst with | some d=>Nat.blt d N.1 | none=>true
def JK (N:Fz):Code→Bool
 | .region _ ops _=>ops.all (Az N)
 | .seq a b=>JK N a && JK N b
 | .cond _ a b=>JK N a && JK N b
 | .block _ c=>JK N c
 | .loop c=>JK N c
 | .scope c=>JK N c
 | _=>true
def WP (P:Program)(N:Fz)(c:Code)(Q:Post)(f:Fr)(w:World):Prop:=JK N c=true->∀ a,L6 N f a->c.wp P (lift N Q) a w
def o8 (P:Program)(N:Fz)(ops:Array Oper)(K:KK)(l:List Oper)(f:Fr)(w:World):Prop:=(∀ o ∈ l,Az N o=true)->∀ a,L6 N f a->wpList P ops (Uf N K) l a w
theorem tZ {N:Fz}{o:Oper}(h:Az N o=true):∀ k,o.dst=some k->k < N.1:=by intro k hk;simp only [Az,hk] at h;exact Nat.blt_eq.mp h
section
variable {P:Program}{N:Fz}{Q:Post}{f:Fr}{w:World}
theorem WP.mono {c:Code}{Q':Post}(h:WP P N c Q f w)(hn:∀ f w,Q.n f w->Q'.n f w)(hx:∀ i f w,Q.x i f w->Q'.x i f w)(hr:∀ f w,Q.r f w->Q'.r f w)(hp:∀ f c w,Q.p f c w->Q'.p f c w):WP P N c Q' f w:=
 fun hok a ha=>Code.wp_mono (fun e a w q=>by
  cases e with
  | normal=>obtain ⟨f,h1,h2⟩:=q;exact ⟨f,h1,hn _ _ h2⟩
  | exit i=>obtain ⟨f,h1,h2⟩:=q;exact ⟨f,h1,hx _ _ _ h2⟩
  | ret=>obtain ⟨f,h1,h2⟩:=q;exact ⟨f,h1,hr _ _ h2⟩
  | panic c=>obtain ⟨f,h1,h2⟩:=q;exact ⟨f,h1,hp _ _ _ h2⟩
  | _=>exact q) (h hok a ha)
theorem afR {x y:Code}(h:WP P N x { Q with n:=fun f w=>WP P N y Q f w } f w):WP P N (.seq x y) Q f w:=by
 intro hok a ha;simp only [JK,Ep] at hok;refine wp_seq (Code.wp_mono (fun e a w q=>?_) (h hok.1 a ha));cases e with
 | normal=>obtain ⟨f,h1,h2⟩:=q;exact h2 hok.2 a h1
 | _=>exact q
theorem Rl (h:Q.n f w):WP P N .skip Q f w:=fun _ _ ha=>wp_skip ⟨f,ha,h⟩
theorem aep {i:Nat}(h:Q.x i f w):WP P N (.exit i) Q f w:=fun _ _ ha=>wp_exit ⟨f,ha,h⟩
theorem afi (h:Q.r f w):WP P N .ret Q f w:=fun _ _ ha=>wp_ret ⟨f,ha,h⟩
theorem wIf {c:Operand}{x y:Code}(b:Bool)(hc:ev f c=.bool b)(ht:b=true->WP P N x Q f w)(hf:b=false->WP P N y Q f w):WP P N (.cond c x y) Q f w:=by intro hok a ha;simp only [JK,Ep] at hok;refine wp_cond_split (t:=b) (by rw [ha.Bp];exact hc) (fun h=>ht h hok.1 a ha) (fun h=>hf h hok.2 a ha)
theorem jM {c:Operand}{x y:Code}(hc:ev f c=.bool true)(h:WP P N x Q f w):WP P N (.cond c x y) Q f w:=
 wIf true hc (fun _=>h) (fun h=>by cases h)
theorem jD {c:Operand}{x y:Code}(hc:ev f c=.bool false)(h:WP P N y Q f w):WP P N (.cond c x y) Q f w:=
 wIf false hc (fun h=>by cases h) (fun _=>h)
theorem aa9 {i:Nat}{c:Code}(h:WP P N c { n:=Q.n,x:=fun j=>bif Nat.beq j i then Q.n else Q.x j,r:=Q.r,p:=Q.p } f w):WP P N (.block i c) Q f w:=by
 intro hok a ha;refine wp_block (Code.wp_mono (fun e a w q=>?_) (h hok a ha));cases e with
 | exit j=>
  obtain ⟨f,h1,h2⟩:=q;simp only [Exit.inBlock];by_cases hji:j=i
  · subst hji;simp only [if_true];refine ⟨f,h1,?_⟩;have:Nat.beq j j=true:=Nat.beq_refl j;simp only [this] at h2;exact h2
  · rw [lD hji];refine ⟨f,h1,?_⟩;have:Nat.beq j i=false:=XF hji;simp only [this] at h2;exact h2
 | _=>exact q
theorem X5 {P:Program}{c:Code}{Q:Exit->Act->World->Prop}{a:Act}{w:World}(I:Nat->Act->World->Prop)(n0:Nat)(h0:I n0 a w)(round:∀ n a w,I n a w->c.wp P (Exit.then (fun a' w'=>∃ n',n' < n/\I n' a' w') Q) a w):(Code.loop c).wp P Q a w:=by
 intro b k cs;have key:∀ n a w,I n a w->∃ e a' w',Q e a' w'/\Arrives P (lone (b.at a (.code c :: .inLoop c :: k)) cs w) b k cs e a' w':=by
  intro n
  induction n using Nat.strongRecOn with
  | _ n ih=>
   intro a w hI;obtain ⟨e,a1,w1,hq,harr⟩:=round n a w hI b (.inLoop c :: k) cs;cases e with
   | normal=>
    obtain ⟨n',hlt,hI1⟩:=hq;obtain ⟨e2,a2,w2,hq2,harr2⟩:=ih n' hlt a1 w1 hI1;exact ⟨e2,a2,w2,hq2,.of_steps (Steps.trans harr (.one step_inLoop)) harr2⟩
   | exit id=>exact ⟨_,a1,w1,hq,.pass (x:=.inLoop c) rfl (fun _ _=>.inl (by simp)) harr⟩
   | goto l=>exact ⟨_,a1,w1,hq,.pass (x:=.inLoop c) rfl (fun _ _=>.inl (by simp)) harr⟩
   | ret=>exact ⟨_,a1,w1,hq,.pass (x:=.inLoop c) rfl (fun _ _=>.inl (by simp)) harr⟩
   | panic ch=>exact ⟨_,a1,w1,hq,.pass (x:=.inLoop c) rfl (fun _ _=>.inl (by simp)) harr⟩
   | outgrown=>exact ⟨_,a1,w1,hq,.pass (x:=.inLoop c) rfl (fun _ _=>.inl (by simp)) harr⟩
 obtain ⟨e,a',w',hq,harr⟩:=key n0 a w h0;exact ⟨e,a',w',hq,.of_steps (.one step_loop) harr⟩
theorem abN {c:Code}(I:Nat->Fr->World->Prop)(n0:Nat)(h0:I n0 f w)(hr:∀ n f w,I n f w->WP P N c { Q with n:=fun f' w'=>∃ n',n' < n/\I n' f' w' } f w):WP P N (.loop c) Q f w:=by
 intro hok a ha;have hokc:JK N c=true:=hok;refine X5 (fun n a w=>∃ f,L6 N f a/\I n f w) n0 ⟨f,ha,h0⟩ ?_;rintro n a w ⟨f,ha,hI⟩;refine Code.wp_mono (fun e a' w' q=>?_) (hr n f w hI hokc a ha);cases e with
 | normal=>
  obtain ⟨f',h1,n',h2,h3⟩:=q;exact ⟨n',h2,f',h1,h3⟩
 | _=>exact q
theorem yj {i:Nat}{l:List Oper}(h:o8 P N l.toArray ⟨Q.n,Q.p⟩ l f w):WP P N (.region i l.toArray false) Q f w:=by
 intro hok a ha;have hl:∀ o ∈ l,Az N o=true:=by simpa [JK,Array.all_eq_true_iff_forall_mem] using hok
 refine Code.wp_mono (fun e a w q=>?_) (wp_region_lit (h hl a ha));cases e with
 | normal=>exact q
 | panic c=>exact q
 | _=>exact q.elim
def Has (f:Fr):List (Nat × Value)→Prop
 | []=>True
 | (d,v) :: l=>f d=v/\Has f l
def SY (g:Fr):List (Nat × Value)→Fr
 | []=>g
 | (d,v) :: l=>upd (SY g l) d v
theorem GY {f:Fr}:∀ {l:List (Nat × Value)},Has f l→SY f l=f
 | [],_=>rfl
 | (d,v) :: l,h=>by
  simp only [SY];rw [GY h.2];funext t;unfold upd;cases hb:Nat.beq t d with
  | true=>rw [Nat.eq_of_beq_eq_true hb];exact h.1.symm
  | false=>rfl
theorem lu (l:List (Nat × Value))(f:Fr)(h:Has f l):∃ g,f=SY g l:=⟨f,(GY h).symm⟩
theorem lK (l:List (Nat × Value)){c:Code}(h:Has f l)(k:∀ g,WP P N c Q (SY g l) w):WP P N c Q f w:=by rw [<-GY h];exact k f
end
section
variable {P:Program}{N:Fz}{ops:Array Oper}{K:KK}{rest:List Oper}{f:Fr}{w:World}
theorem Og (h:K.n f w):o8 P N ops K [] f w:=fun _ _ ha=>wpList_nil ⟨f,ha,h⟩
theorem kU {d:Option Nat}{op:Op}{ty:TypeId}{pos:String}{af:Array Edge}{v:Value}{w':World}(h:(execOp (ev f) ⟨d,op,ty,pos,af,none⟩).run P w=.ok (.value v) w')(k:o8 P N ops K rest (lH f d v) w') :o8 P N ops K (⟨d,op,ty,pos,af,none⟩ :: rest) f w:=by intro hok a ha;have h1:=hok _ (Bl ..);refine wpList_plain rfl fun K' hK=>?_;unfold Oper.wp;rw [ha.Bp,h];exact hK _ _ (k (fun o ho=>hok o (yw _ ho)) _ (ha.put d (tZ h1) v))
theorem sDo {d:Option Nat}{op:Op}{ty:TypeId}{pos:String}{af:Array Edge}{w':World}(h:(execOp (ev f) ⟨d,op,ty,pos,af,none⟩).run P w=.ok .skip w')(k:o8 P N ops K rest (lH f d undef) w') :o8 P N ops K (⟨d,op,ty,pos,af,none⟩ :: rest) f w:=by intro hok a ha;have h1:=hok _ (Bl ..);refine wpList_plain rfl fun K' hK=>?_;unfold Oper.wp;rw [ha.Bp,h];exact hK _ _ (k (fun o ho=>hok o (yw _ ho)) _ (ha.put d (tZ h1) undef))
def tV (R:Value->World->Prop):Ending->World->Prop:=fun e w=>∃ v,e=.returned v/\R v w
theorem FQ {d:Option Nat}{op:Op}{ty:TypeId}{pos:String}{af:Array Edge}{w':World}{g:FuncId}{args:Array Value}{R:Value->World->Prop}(h:(execOp (ev f) ⟨d,op,ty,pos,af,none⟩).run P w=.ok (.enter g args) w')(hc:Calls P g args w' (tV R))(k:∀ v w'',R v w''->o8 P N ops K rest (lH f d v) w'') :o8 P N ops K (⟨d,op,ty,pos,af,none⟩ :: rest) f w:=by intro hok a ha;have h1:=hok _ (Bl ..);refine wpList_plain rfl fun K' hK=>?_;unfold Oper.wp;rw [ha.Bp,h];refine hc.mono fun e w'' he=>?_;obtain ⟨v,rfl,hR⟩:=he;exact hK _ _ (k v w'' hR (fun o ho=>hok o (yw _ ho)) _ (ha.put d (tZ h1) v))
theorem kI {d:Option Nat}{op:Op}{ty:TypeId}{pos:String}{af:Array Edge}{g:Option (Nat × Bool)}(h:uL ops f g=true)(k:o8 P N ops K (⟨d,op,ty,pos,af,none⟩ :: rest) f w):o8 P N ops K (⟨d,op,ty,pos,af,g⟩ :: rest) f w:=by
 intro hok a ha;have h2:=k (by
  intro o ho;rcases oM.1 ho with rfl | ho
  · exact hok ⟨d,op,ty,pos,af,g⟩ (Bl ..)
  · exact hok o (yw _ ho)) a ha
 unfold wpList at h2 ⊢;rw [lG (by rw [uY ha];exact h)];rw [lG (by rw [uY ha];rfl)] at h2;exact h2
theorem jZ {d:Option Nat}{op:Op}{ty:TypeId}{pos:String}{af:Array Edge}{g:Option (Nat × Bool)}(h:uL ops f g=false)(k:o8 P N ops K rest (lH f d undef) w):o8 P N ops K (⟨d,op,ty,pos,af,g⟩ :: rest) f w:=by intro hok a ha;have h1:=hok _ (Bl ..);unfold wpList;rw [lD (by rw [uY ha,h];simp)];exact k (fun o ho=>hok o (yw _ ho)) _ (ha.put d (tZ h1) undef)
end
def Closed (ops:Array Oper)(L:Array Bool):Prop:=∀ j o,ops[j]?=some o->L.getD j false=true->∀ e ∈ o.after,Region.binds .any e=true->L.getD e.on false=true
def SH (ops:Array Oper):Nat→Nat→Nat→Bool
 | 0,_,_=>false
 | n+1,t,i=>match ops[t]? with
  | some o=>o.after.any fun e=>Region.binds .any e && (Nat.beq e.on i || SH ops n e.on i)
  | none=>false
theorem Closed.SH {ops:Array Oper}{L:Array Bool}(h:Closed ops L)(i:Nat):∀ n t,SH ops n t i=true→L.getD t false=true→L.getD i false=true
 | 0,t,ha,_=>by simp [Fw.SH] at ha
 | n+1,t,ha,ht=>by
  unfold Fw.SH at ha;cases ho:ops[t]? with
  | none=>rw [ho] at ha;simp at ha
  | some o=>
   rw [ho] at ha;obtain ⟨e,he,hb⟩:=Array.any_eq_true'.1 ha;simp only [Ep,Bool.or_eq_true] at hb;have h1:=h t o ho ht e he hb.1;rcases hb.2 with h2 | h2
   · rw [Nat.eq_of_beq_eq_true h2] at h1;exact h1
   · exact Closed.SH h i n e.on h2 h1
theorem Bw {L:Array Bool}{i j:Nat}(d:Bool)(h:i≠j):(L.setIfInBounds i true).getD j d=L.getD j d:=by simp [Array.getElem?_setIfInBounds_ne h]
theorem Closed.step {ops:Array Oper}{L:Array Bool}(h:Closed ops L){j:Nat}(hj:j ∈ Region.ready .any ops L):Closed ops (L.setIfInBounds j true):=by
 intro k o hk hl e he hb;by_cases hjk:j=k
 · subst hjk;obtain ⟨_,o',ho',hall⟩:=mem_ready.1 hj;rw [hk] at ho';injection ho' with ho';subst ho';exact getD_set_true (hall e he hb)
 · rw [Bw false hjk] at hl;exact getD_set_true (h k o hk hl e he hb)
theorem Closed.start (ops:Array Oper)(n:Nat):Closed ops (Array.replicate n false):=by intro j o _ hl;simp [Array.getD_eq_getD_getElem?,Array.getElem?_replicate] at hl;split at hl <;> simp at hl
def may (ops:Array Oper)(T:List Nat)(L:Array Bool)(i:Nat):Bool:=Region.noSelect ops && Region.free .any ops L i && (Region.ready .any ops L).contains i && !T.contains i
def Ct (args:Array Value)(t:Nat):Value:=args.getD t undef
def Reads (P:Program)(fn:Func)(R:Value->World->Prop)(f:Fr)(w:World):Prop:=∀ a:Array Value,(∀ t,a.getD t undef=f t)->∃ v,(results fn a).run P w=.ok v w/\R v w
theorem Xg {P:Program}{g:FuncId}{fn:Func}{c:Code}{args:Array Value}{w:World}{R:Value->World->Prop}(hf:P.funcs[g]?=some fn)(hb:fn.body=some c)(hs:args.size<=fn.ntmps)(hok:JK (fn.ntmps,[]) c=true)(h:WP P (fn.ntmps,[]) c { n:=Reads P fn R,x:=fun _ _ _=>False,r:=Reads P fn R,p:=fun _ _ _=>False } (Ct args) w):Calls P g args w (tV R):=by
 refine calls_of_wp hf hb (Code.wp_mono (fun e a w q=>?_) (h hok _ ⟨by simp;omega,fun t=>?_,rfl⟩))
 · cases e with
   | normal=>
     obtain ⟨f,h1,h2⟩:=q;obtain ⟨v,hv,hR⟩:=h2 a.tmps h1.get;exact ⟨h1.dfr,v,hv,v,rfl,hR⟩
   | ret=>
     obtain ⟨f,h1,h2⟩:=q;obtain ⟨v,hv,hR⟩:=h2 a.tmps h1.get;exact ⟨h1.dfr,v,hv,v,rfl,hR⟩
   | exit i=>obtain ⟨f,h1,h2⟩:=q;exact h2.elim
   | panic i=>obtain ⟨f,h1,h2⟩:=q;exact h2.elim
   | _=>exact q.elim
 · unfold Ct;simp only [Array.getD_eq_getD_getElem?];rw [Array.getElem?_append];split
   · rfl
   · rename_i hlt;rw [Array.getElem?_replicate];split
     · rw [Array.getElem?_eq_none (by omega)];rfl
     · rw [Array.getElem?_eq_none (by omega)]
theorem nO {P:Program}{fn:Func}{R:Value->World->Prop}{f:Fr}{w:World}(hr:fn.results=#[])(h:R (.tuple #[]) w):Reads P fn R f w:=
 fun a _=>⟨_,results_none hr a P w,h⟩
attribute [irreducible] Reads WP o8
section
variable {P:Program}{w:World}{ρ:Operand->Value}{d:Option Nat}{ty:TypeId}{pos:String}{af:Array Edge}{g:Option (Nat × Bool)}
abbrev Yl (P:Program)(ρ:Operand->Value)(op:Op)(d:Option Nat)(ty:TypeId)(pos:String)(af:Array Edge)(g:Option (Nat × Bool))(w:World)(v:Value):Prop:=
 (execOp ρ ⟨d,op,ty,pos,af,g⟩).run P w=.ok (.value v) w
theorem wQ {x:Operand}:Yl P ρ (.move x) d ty pos af g w (ρ x):=rfl
theorem abr {c x y:Operand}(hc:ρ c=.bool true):Yl P ρ (.pick c x y) d ty pos af g w (ρ x):=by simp [Yl,execOp,hc,asBool]
theorem abf {c x y:Operand}(hc:ρ c=.bool false):Yl P ρ (.pick c x y) d ty pos af g w (ρ y):=by simp [Yl,execOp,hc,asBool]
theorem Zz {x:Operand}{k:IntKind}{a:Int}(h:ρ x=.int k a):Yl P ρ (.move x) d ty pos af g w (.int k a):=by rw [<-h];rfl
theorem Xx {x:Operand}{k:IntKind}{a:Int}(h:ρ x=.int k a):Yl P ρ (.assign x) d ty pos af g w (.int k a):=by rw [<-h];rfl
theorem oF {x:Operand}{A:Option Addr}{n c:Nat}(h:ρ x=.slice A n c):Yl P ρ (.move x) d ty pos af g w (.slice A n c):=by rw [<-h];rfl
theorem nA {x:Operand}{A:Option Addr}{n c:Nat}(h:ρ x=.slice A n c):Yl P ρ (.assign x) d ty pos af g w (.slice A n c):=by rw [<-h];rfl
theorem lJ {x:Operand}{b:Bool}(h:ρ x=.bool b):Yl P ρ (.move x) d ty pos af g w (.bool b):=by rw [<-h];rfl
theorem kH {x:Operand}{b:Bool}(h:ρ x=.bool b):Yl P ρ (.assign x) d ty pos af g w (.bool b):=by rw [<-h];rfl
theorem kT {c' x y:Operand}{b:Bool}(hc:ρ c'=.bool true)(h:ρ x=.bool b):Yl P ρ (.pick c' x y) d ty pos af g w (.bool b):=by rw [<-h];exact abr hc
theorem kK {c' x y:Operand}{b:Bool}(hc:ρ c'=.bool false)(h:ρ y=.bool b):Yl P ρ (.pick c' x y) d ty pos af g w (.bool b):=by rw [<-h];exact abf hc
theorem YK {x:Operand}{p:Option Addr}(h:ρ x=.pointer p):Yl P ρ (.move x) d ty pos af g w (.pointer p):=by rw [<-h];rfl
theorem U4 {x:Operand}{p:Option Addr}(h:ρ x=.pointer p):Yl P ρ (.assign x) d ty pos af g w (.pointer p):=by rw [<-h];rfl
theorem lN {x:Operand}{s:ByteArray}(h:ρ x=.string s):Yl P ρ (.move x) d ty pos af g w (.string s):=by rw [<-h];rfl
theorem ny {x:Operand}{s:ByteArray}(h:ρ x=.string s):Yl P ρ (.assign x) d ty pos af g w (.string s):=by rw [<-h];rfl
section ints
variable {t t':TypeId}{x y:Operand}{k:IntKind}{a b:Int}
theorem aeo (hx:ρ x=.int k a)(hy:ρ y=.int k b):Yl P ρ (.binOp .add t x y t') d ty pos af g w (.int k (k.wrap (a+b))):=by simp [Yl,execOp,hx,hy,binOp,eqGuard,Op.intArith]
theorem adq (hx:ρ x=.int k a)(hy:ρ y=.int k b):Yl P ρ (.binOp .sub t x y t') d ty pos af g w (.int k (k.wrap (a - b))):=by simp [Yl,execOp,hx,hy,binOp,eqGuard,Op.intArith]
theorem afu (hx:ρ x=.int k a)(hy:ρ y=.int k b):Yl P ρ (.binOp .mul t x y t') d ty pos af g w (.int k (k.wrap (a * b))):=by simp [Yl,execOp,hx,hy,binOp,eqGuard,Op.intArith]
theorem afv (hx:ρ x=.int k a)(hy:ρ y=.int k b)(h0:b≠0):Yl P ρ (.binOp .quo t x y t') d ty pos af g w (.int k (k.wrap (a.tdiv b))):=by simp [Yl,execOp,hx,hy,binOp,eqGuard,Op.intDiv,h0]
theorem aeY (hx:ρ x=.int k a)(hy:ρ y=.int k b)(h0:b≠0):Yl P ρ (.binOp .rem t x y t') d ty pos af g w (.int k (a.tmod b)):=by simp [Yl,execOp,hx,hy,binOp,eqGuard,Op.intDiv,h0]
theorem Ru {n:Int}(h1:-9223372036854775808<=n)(h2:n<=9223372036854775807):IntKind.i64.wrap n=n:=IntWalk.i64_in n ⟨h1,h2⟩
theorem l7 (hx:ρ x=.int .i64 a)(hy:ρ y=.int .i64 b)(h1:-9223372036854775808<=a+b)(h2:a+b<=9223372036854775807):Yl P ρ (.binOp .add t x y t') d ty pos af g w (.int .i64 (a+b)):=by
 have:=aeo (P:=P) (w:=w) (d:=d) (ty:=ty) (pos:=pos) (af:=af) (g:=g) (t:=t) (t':=t') hx hy
 rwa [Ru h1 h2] at this
theorem qV (hx:ρ x=.int k a)(hy:ρ y=.int k b):Yl P ρ (.binOp .lss t x y t') d ty pos af g w (.bool (decide (a < b))):=by simp [Yl,execOp,hx,hy,binOp,eqGuard,Op.intCmp]
theorem O7 (hx:ρ x=.int k a)(hy:ρ y=.int k b):Yl P ρ (.binOp .leq t x y t') d ty pos af g w (.bool (decide (a<=b))):=by simp [Yl,execOp,hx,hy,binOp,eqGuard,Op.intCmp]
theorem wV (hx:ρ x=.int k a)(hy:ρ y=.int k b):Yl P ρ (.binOp .gtr t x y t') d ty pos af g w (.bool (decide (b < a))):=by simp [Yl,execOp,hx,hy,binOp,eqGuard,Op.intCmp]
theorem GI (hx:ρ x=.int k a)(hy:ρ y=.int k b):Yl P ρ (.binOp .geq t x y t') d ty pos af g w (.bool (decide (b<=a))):=by simp [Yl,execOp,hx,hy,binOp,eqGuard,Op.intCmp]
theorem afO (hx:ρ x=.int k a)(hy:ρ y=.int k b):Yl P ρ (.binOp .eql t x y t') d ty pos af g w (.bool (a == b)):=by simp [Yl,execOp,hx,hy,binOp,eqGuard,Op.intCmp]
theorem afp (hx:ρ x=.int k a)(hy:ρ y=.int k b):Yl P ρ (.binOp .neq t x y t') d ty pos af g w (.bool (a != b)):=by simp [Yl,execOp,hx,hy,binOp,eqGuard,Op.intCmp]
theorem kM (hx:ρ x=.int k a)(hy:ρ y=.int k b):Yl P ρ (.binOp .eql t x y t') d ty pos af g w (.bool (decide (a=b))):=by
 have:=afO (P:=P) (w:=w) (d:=d) (ty:=ty) (pos:=pos) (af:=af) (g:=g) (t:=t) (t':=t') hx hy
 rwa [show (a == b)=decide (a=b) from rfl] at this
theorem sj (hx:ρ x=.int k a)(hy:ρ y=.int k b):Yl P ρ (.binOp .neq t x y t') d ty pos af g w (.bool (decide (a≠b))):=by
 have:=afp (P:=P) (w:=w) (d:=d) (ty:=ty) (pos:=pos) (af:=af) (g:=g) (t:=t) (t':=t') hx hy;have e:(a != b)=decide (a≠b):=by by_cases h:a=b <;> simp [h]
 rwa [e] at this
theorem sD (hx:ρ x=.int k a)(hy:ρ y=.int k b)(h:a < b):Yl P ρ (.binOp .lss t x y t') d ty pos af g w (.bool true):=by have:=qV (P:=P) (w:=w) (d:=d) (ty:=ty) (pos:=pos) (af:=af) (g:=g) (t:=t) (t':=t') hx hy;rwa [IX h] at this
theorem su (hx:ρ x=.int k a)(hy:ρ y=.int k b)(h:¬ a < b):Yl P ρ (.binOp .lss t x y t') d ty pos af g w (.bool false):=by have:=qV (P:=P) (w:=w) (d:=d) (ty:=ty) (pos:=pos) (af:=af) (g:=g) (t:=t) (t':=t') hx hy;rwa [Ja h] at this
theorem aan {s t:TypeId}{k':IntKind}(x:Operand)(hs:∃ dsc,P.underlying s=some dsc)(ht:P.underlying t=some (.int k'))(hx:ρ x=.int k a):Yl P ρ (.convert s t x) d ty pos af g w (.int k' (k'.wrap a)):=by obtain ⟨dsc,hs⟩:=hs;simp [Yl,execOp,hx,convert,run_underlying hs,run_underlying ht,Conv.intToInt]
theorem Er {x:Operand}{b:Bool}(hx:ρ x=.bool b):Yl P ρ (.unOp .not t x) d ty pos af g w (.bool (!b)):=by simp [Yl,execOp,hx,Op.unary]
end ints
theorem afj {t e:TypeId}{x:Operand}{A:Option Addr}{n c:Nat}(ht:P.underlying t=some (.slice e))(hx:ρ x=.slice A n c) :Yl P ρ (.call { callee:=.builtin .len,args:=#[x],argTypes:=#[t] }) d ty pos af g w (.int .i64 n):=by simp [Yl,execOp,resolve,invoke,builtin,Builtin.len_,run_underlying ht,hx,goInt]
theorem FR {t:TypeId}{x:Operand}{s:ByteArray}(ht:P.underlying t=some .string)(hx:ρ x=.string s) :Yl P ρ (.call { callee:=.builtin .len,args:=#[x],argTypes:=#[t] }) d ty pos af g w (.int .i64 s.size):=by simp [Yl,execOp,resolve,invoke,builtin,Builtin.len_,run_underlying ht,hx,goInt]
theorem kE {x:Operand}{vs:Array Value}{i:Nat}{v:Value}(hx:ρ x=.tuple vs)(hv:vs[i]?=some v):Yl P ρ (.extract x i) d ty pos af g w v:=by simp [Yl,execOp,hx,Instr.extract,hv]
def jC (P : Program) (k : FuncId) : Prop := ∃ fn, P.funcs[k]? = some fn /\ (fn.name == "runtime.NumGoroutine") = false /\ fn.body.isNone = false
theorem O8 {k:FuncId}(h:jC P k)(args:Array Value):(callFunc k args).run P w=.ok (.enter k args) w:=by
 obtain ⟨fn,h1,h2,h3⟩:=h;have h4 : ¬ fn.name = "runtime.NumGoroutine" := by simpa using h2
 have h5:¬ fn.body=none:=by intro e;rw [e] at h3;cases h3
 simp [callFunc,h1,h4,h5]
abbrev En (P:Program)(ρ:Operand->Value)(op:Op)(d:Option Nat)(ty:TypeId)(pos:String)(af:Array Edge)(g:Option (Nat × Bool))(w:World)(k:FuncId)(args:Array Value):Prop:=
 (execOp ρ ⟨d,op,ty,pos,af,g⟩).run P w=.ok (.enter k args) w
theorem jO {k:FuncId}{xs:List Operand}{ts:Array TypeId}(h:jC P k)(hf:ρ (.func k)=.func (.func k) #[] #[]) :En P ρ (.call { callee:=.value (.func k),args:=xs.toArray,argTypes:=ts }) d ty pos af g w k (xs.map ρ).toArray:=by simp [En,execOp,resolve,hf,Deferred.ofValue,invoke,O8 h]
end
def TI (P:Program)(t:TypeId)(z:Value)(s b:Nat):Prop:=∃ i,P.info? t=some i/\i.zero=some z/\i.size=s/\i.bytes=b
theorem oq {P:Program}{t:TypeId}{z:Value}{s b:Nat}(h:(P.info? t).map (fun i=>(i.zero,i.size,i.bytes))=some (some z,s,b)):TI P t z s b:=by
 cases hi:P.info? t with
 | none=>rw [hi] at h;cases h
 | some i=>
  rw [hi] at h;simp only [Option.map_some,Dz,Prod.mk.injEq] at h;exact ⟨i,hi,h.1,h.2.1,h.2.2⟩
def MK:TypeDesc→Bool
 | .struct _ | .array _ _=>true
 | _=>false
def Ext (w w':World):Prop:=Below w.heap.size w w'
theorem Ext.refl (w:World):Ext w w:=Below.refl _ _
theorem Ext.trans {a b c:World}(h:Ext a b)(k:Ext b c):Ext a c:=Below.trans h (Below.mono k h.size)
theorem Ext.alloc {a w:World}(h:Ext a w)(o:Obj):Ext a (w.alloc o):=Below.alloc h h.size o
theorem Ext.drew {a w:World}(h:Ext a w):Ext a w.drew:=Below.drew h
theorem Ext.cell {w w':World}(h:Ext w w'){b o:Nat}(hb:b < w.heap.size):w'.cell? ⟨b,o,none⟩=w.cell? ⟨b,o,none⟩:=Below.cell h hb
theorem Ext.cellS {w w':World}(h:Ext w w'){a:Addr}{v:Value}(hc:w.cell? a=some v):w'.cell? a=some v:=by rw [Below.cell h (World.block_lt_of_cell? w a hc)];exact hc
theorem Ext.blk {w w':World}(h:Ext w w'){b:Nat}{o:Obj}(hb:w.heap[b]?=some o):w'.heap[b]?=some o:=by rw [Below.block h b (Array.getElem?_eq_some_iff.1 hb).1];exact hb
theorem Ext.le {w w':World}(h:Ext w w'):w.heap.size<=w'.heap.size:=h.size
def Gc (b:Nat)(w w':World):Prop:=w.grownBy w' (some b)
theorem Gc.refl (b:Nat)(w:World):Gc b w w:=⟨rfl,rfl,rfl,mO _,fun _ _ _=>rfl⟩
theorem Gc.trans {b:Nat}{w1 w2 w3:World}(h:Gc b w1 w2)(k:Gc b w2 w3):Gc b w1 w3:=
 ⟨k.os.trans h.os,k.tape.trans h.tape,k.output.trans h.output,rE h.size k.size,fun i hi hne=>(k.block i (Nat.lt_of_lt_of_le hi h.size) hne).trans (h.block i hi hne)⟩
theorem Ext.tQ {b:Nat}{w w':World}(h:Ext w w'):Gc b w w':=⟨h.os,h.tape,h.output,h.size,fun i hi _=>h.block i hi⟩
theorem Gc.blk {w w':World}{b k:Nat}{o:Obj}(h:Gc b w w')(hb:w.heap[k]?=some o)(hne:k≠b):w'.heap[k]?=some o:=by rw [h.block k (Array.getElem?_eq_some_iff.1 hb).1 (by simpa using hne)];exact hb
theorem Gc.cell {w w':World}{b:Nat}{a:Addr}{v:Value}(h:Gc b w w')(hc:w.cell? a=some v)(hne:a.block≠b):w'.cell? a=some v:=
 World.grownBy.cell h hc (by simpa using hne)
theorem Gc.ext {a w w':World}{b:Nat}(h:Ext a w)(k:Gc b w w')(hb:a.heap.size<=b):Ext a w':=
 Below.grown h k h.size (fun i hi=>by simp at hi;omega)
theorem Gc.setCell (w:World)(b o:Nat)(v:Value):Gc b w (w.setCell ⟨b,o,none⟩ v):=
 ⟨rfl,rfl,rfl,by simp,fun k hk hne=>Below.heap_setCell w _ v k (by simpa using hne)⟩
theorem Gc.setRow (w:World)(b:Nat)(cs:Array Value):Gc b w (w.setRow b cs):=
 ⟨rfl,rfl,rfl,by simp,fun k hk hne=>setRow_other w b k cs (by simpa using hne)⟩
def uO (w:World)(b:Nat)(t:TypeId)(cs:Array Value):Prop:=w.heap[b]?=some (.cells cs t (0,0))
theorem uO.lt {w:World}{b:Nat}{t:TypeId}{cs:Array Value}(h:uO w b t cs):b < w.heap.size:=(Array.getElem?_eq_some_iff.1 h).1
theorem uO.cell {w:World}{b:Nat}{t:TypeId}{cs:Array Value}(h:uO w b t cs){i:Nat}{v:Value}(hv:cs[i]?=some v):w.cell? ⟨b,i,none⟩=some v:=by rw [cell_of_row w b i cs t (0,0) h];exact hv
theorem uO.frozen {w:World}{b:Nat}{t:TypeId}{cs:Array Value}(h:uO w b t cs)(i:Nat):w.frozen? ⟨b,i,none⟩=false:=by unfold uO at h;simp [World.frozen?,h]
theorem uO.new (w:World)(t:TypeId)(cs:Array Value):uO (w.alloc (.cells cs t)) w.heap.size t cs:=heap_alloc_new w _
theorem uO.ext {w w':World}{b:Nat}{t:TypeId}{cs:Array Value}(h:uO w b t cs)(e:Ext w w'):uO w' b t cs:=Ext.blk e h
theorem uO.tQ {w w':World}{b k:Nat}{t:TypeId}{cs:Array Value}(h:uO w b t cs)(e:Gc k w w')(hne:b≠k):uO w' b t cs:=Gc.blk e h hne
theorem uO.set {w:World}{b:Nat}{t:TypeId}{cs:Array Value}(h:uO w b t cs)(i:Nat)(v:Value):uO (w.setCell ⟨b,i,none⟩ v) b t (cs.setIfInBounds i v):=by unfold uO at h ⊢;simp [World.setCell,Array.getElem?_modify,h]
theorem uO.setRow {w:World}{b:Nat}{t:TypeId}{cs:Array Value}(h:uO w b t cs)(ns:Array Value):uO (w.setRow b ns) b t ns:=setRow_heap w b cs ns t (0,0) h
theorem uO.ne {w:World}{b k:Nat}{t u:TypeId}{cs ds:Array Value}(h:uO w b t cs)(h':uO w k u ds)(hne:t≠u):b≠k:=by rintro rfl;unfold uO at h h';rw [h] at h';injection h' with h';injection h' with _ ht;exact hne ht
section
variable {P:Program}{w:World}{ρ:Operand->Value}{d:Option Nat}{ty:TypeId}{pos:String}{af:Array Edge}{g:Option (Nat × Bool)}
theorem kC {t:TypeId}{x:Operand}{D:TypeDesc}{a:Addr}{v:Value}(hu:P.underlying t=some D)(hD:MK D=false)(hx:ρ x=.pointer (some a))(hc:w.cell? a=some v) :Yl P ρ (.load t x) d ty pos af g w v:=by
 have hagg:(isAgg t).run P w=.ok false w:=by unfold isAgg;rw [Sem.run_bind,run_underlying hu w];cases D <;> simp_all [MK]
 simp [Yl,execOp,hx,Instr.loadAt,Instr.sureAddr,loadVar,Sem.run_bind,hagg,hc]
theorem nT {t:TypeId}{x:Operand}{D:TypeDesc}{b o:Nat}{z:Value}{s by_:Nat}(cs:List Value)(hu:P.underlying t=some D)(hD:MK D=true)(hi:TI P t z s by_)(hs:s=cs.length)(hx:ρ x=.pointer (some ⟨b,o,none⟩))(hc:∀ j v,cs[j]?=some v->w.cell? ⟨b,o+j,none⟩=some v):Yl P ρ (.load t x) d ty pos af g w (.agg cs.toArray):=by
 have hagg:(isAgg t).run P w=.ok true w:=by unfold isAgg;rw [Sem.run_bind,run_underlying hu w];cases D <;> simp_all [MK]
 obtain ⟨i,hi1,hi2,hi3,hi4⟩:=hi;have hl:(loadCells ⟨b,o,none⟩ cs.length).run P w=.ok cs.toArray w:=
  run_loadCells_list (P:=P) w ⟨b,o,none⟩ cs (fun j v hv=>by rw [Addr.add_lit];exact hc j v hv)
 simp [Yl,execOp,hx,Instr.loadAt,Instr.sureAddr,loadVar,Sem.run_bind,hagg,sizeOf,typeInfo,hi1,hi3,hs,hl]
theorem xIdx {t e:TypeId}{x y:Operand}{b o n c:Nat}{k:IntKind}{i:Int}{z:Value}{s by_:Nat}(j:Nat)(ht:P.underlying t=some (.slice e))(he:TI P e z s by_)(hx:ρ x=.slice (some ⟨b,o,none⟩) n c)(hy:ρ y=.int k i)(hi:i=(j:Int))(hj:j < n):Yl P ρ (.indexAddr t x y) d ty pos af g w (.pointer (some ⟨b,o+j * s,none⟩)):=by
 subst hi;obtain ⟨i,hi1,hi2,hi3,hi4⟩:=he;have h2:(0:Int)<=j/\(j:Int) < n:=by omega
 simp [Yl,execOp,hx,hy,Instr.indexAt,run_underlying ht,asIntOf,sizeOf,typeInfo,hi1,hi3,Addr.add_lit,hj]
theorem qj {t:TypeId}{x:Operand}{fs:Array Field}{n b o k:Nat}{f:Field}{z:Value}{s by_:Nat}(ht:P.underlying t=some (.struct fs))(hf:fs[n]?=some f)(hk:f.offset=k)(hi:TI P f.type z s by_)(hs:s≠0)(hx:ρ x=.pointer (some ⟨b,o,none⟩)):Yl P ρ (.fieldAddr t x n) d ty pos af g w (.pointer (some ⟨b,o+k,none⟩)):=by obtain ⟨i,hi1,hi2,hi3,hi4⟩:=hi;simp [Yl,execOp,hx,Instr.fieldAt,run_underlying ht,hf,Instr.sureAddr,fieldPlace,sizeOf,typeInfo,hi1,hi3,hs,Addr.add_lit,hk]
theorem CW {t:TypeId}{x:Operand}{fs:Array Field}{n b o:Nat}{f:Field}{z:Value}{s by_:Nat}(ht:P.underlying t=some (.struct fs))(hf:fs[n]?=some f)(hk:f.offset=0)(hi:TI P f.type z s by_)(hs:s≠0)(hx:ρ x=.pointer (some ⟨b,o,none⟩)):Yl P ρ (.fieldAddr t x n) d ty pos af g w (.pointer (some ⟨b,o,none⟩)):=
 qj (P:=P) (w:=w) (d:=d) (ty:=ty) (pos:=pos) (af:=af) (g:=g) ht hf hk hi hs hx
abbrev Mk (P:Program)(ρ:Operand->Value)(op:Op)(d:Option Nat)(ty:TypeId)(pos:String)(af:Array Edge)(g:Option (Nat × Bool))(w:World)(v:Value)(o:Obj):Prop:=
 (execOp ρ ⟨d,op,ty,pos,af,g⟩).run P w=.ok (.value v) (w.alloc o)
theorem jQ {t:TypeId}{z:Value}{s by_:Nat}(hi:TI P t z s by_):Mk P ρ (.alloc t) d ty pos af g w (.pointer (some ⟨w.heap.size,0,none⟩)) (.cells z.cells t):=by obtain ⟨i,hi1,hi2,hi3,hi4⟩:=hi;simp [Mk,execOp,Instr.alloc,zeroValue,typeInfo,hi1,hi2,newVar,newRow]
theorem uZ {t:TypeId}{x:Operand}{v:Value}(hx:ρ x=v):Mk P ρ (.box t x) d ty pos af g w (.pointer (some ⟨w.heap.size,0,none⟩)) (.cells v.cells t):=by simp [Mk,execOp,Instr.box,newVar,newRow,hx]
abbrev St (P:Program)(ρ:Operand->Value)(op:Op)(d:Option Nat)(ty:TypeId)(pos:String)(af:Array Edge)(g:Option (Nat × Bool))(w w':World):Prop:=
 (execOp ρ ⟨d,op,ty,pos,af,g⟩).run P w=.ok .skip w'
theorem aay {t:TypeId}{x y:Operand}{z v u:Value}{by_:Nat}{a:Addr}(hi:TI P t z 1 by_)(hx:ρ x=.pointer (some a))(hy:ρ y=v)(hv:v.oneCell'=true)(hc:w.cell? a=some u)(hf:w.frozen? a=false) :St P ρ (.store t x y) d ty pos af g w (w.setCell a v):=by
 obtain ⟨i,hi1,hi2,hi3,hi4⟩:=hi;have hcs:v.cells=#[v]:=by cases v <;> first | rfl | simp [Value.oneCell'] at hv
 simp [St,execOp,hx,hy,Instr.storeAt,Instr.sureAddr,storeVar,sizeOf,typeInfo,hi1,hi3,hcs,storeCells,Addr.add_zero',run_store P w a v .plain hv,hc,hf]
end
def Cells (w:World)(b o:Nat)(xs:List Value):Prop:=∀ j v,xs[j]?=some v->w.cell? ⟨b,o+j,none⟩=some v
theorem Cells.ext {w w':World}{b o:Nat}{xs:List Value}(h:Cells w b o xs)(e:Ext w w'):Cells w' b o xs:=fun j v hv=>e.cellS (h j v hv)
theorem Cells.tQ {w w':World}{b o k:Nat}{xs:List Value}(h:Cells w b o xs)(e:Gc k w w')(hne:b≠k):Cells w' b o xs:=fun j v hv=>e.cell (h j v hv) hne
def Sl (w:World)(B size:Nat)(A:Option Addr)(n:Nat)(xs:List Value):Prop:=xs.length=n * size/\(0 < n->∃ b o,A=some ⟨b,o,none⟩/\b < B/\Cells w b o xs)
theorem Sl.ext {w w':World}{B size n:Nat}{A:Option Addr}{xs:List Value}(h:Sl w B size A n xs)(e:Ext w w'):Sl w' B size A n xs:=
 ⟨h.1,fun hn=>by obtain ⟨b,o,h1,h2,h3⟩:=h.2 hn;exact ⟨b,o,h1,h2,h3.ext e⟩⟩
theorem Sl.tQ {w w':World}{B size n k:Nat}{A:Option Addr}{xs:List Value}(h:Sl w B size A n xs)(e:Gc k w w')(hk:B<=k):Sl w' B size A n xs:=
 ⟨h.1,fun hn=>by obtain ⟨b,o,h1,h2,h3⟩:=h.2 hn;exact ⟨b,o,h1,h2,h3.tQ e (by omega)⟩⟩
theorem Sl.up {w:World}{B B' size n:Nat}{A:Option Addr}{xs:List Value}(h:Sl w B size A n xs)(hB:B<=B'):Sl w B' size A n xs:=
 ⟨h.1,fun hn=>by obtain ⟨b,o,h1,h2,h3⟩:=h.2 hn;exact ⟨b,o,h1,by omega,h3⟩⟩
theorem Sl.nil {w:World}{B size:Nat}{A:Option Addr}:Sl w B size A 0 []:=⟨by simp,fun h=>by omega⟩
def Own (w:World)(base:Nat)(e:TypeId)(size:Nat)(A:Option Addr)(n c:Nat)(xs:List Value):Prop:=w.ownsRow base e size (.slice A n c) n xs
theorem Own.nil (w:World)(base:Nat)(e:TypeId)(size:Nat):Own w base e size none 0 0 []:=World.ownsRow_nil w base e size
theorem Own.blk {w:World}{base:Nat}{e:TypeId}{size:Nat}{A:Option Addr}{n c:Nat}{xs:List Value}(h:Own w base e size A n c xs) :(A=none/\n=0/\c=0/\xs=[])\/∃ g cur,A=some ⟨g,0,none⟩/\base<=g/\uO w g e cur/\n<=c/\c<=maxLen/\cur.size=c * size/\cur.toList.take (n * size)=xs:=by
 obtain ⟨h1,h2 | ⟨g,cap,cur,h3,h4,h5,h6,h7,h8,h9⟩⟩:=h
 · obtain ⟨h2,hn⟩:=h2;injection h2 with a b cc;subst hn;exact .inl ⟨a,rfl,cc,List.eq_nil_of_length_eq_zero (by simpa using h1)⟩
 · injection h3 with a b cc;subst cc;exact .inr ⟨g,cur,a,h4,h5,h6,h7,h8,h9⟩
theorem Own.len {w:World}{base:Nat}{e:TypeId}{size:Nat}{A:Option Addr}{n c:Nat}{xs:List Value}(h:Own w base e size A n c xs):xs.length=n * size:=h.1
theorem Own.sl {w:World}{base:Nat}{e:TypeId}{size:Nat}{A:Option Addr}{n c:Nat}{xs:List Value}(h:Own w base e size A n c xs):Sl w w.heap.size size A n xs:=by
 refine ⟨h.1,fun hn=>?_⟩;rcases h.blk with ⟨_,h0,_,_⟩|⟨g,cur,h1,h2,h3,h4,h5,h6,h7⟩
 · omega
 · refine ⟨g,0,h1,h3.lt,fun j v hv=>?_⟩;rw [DV];refine h3.cell ?_;subst h7;rw [List.getElem?_take] at hv;split at hv
   · simpa using hv
   · cases hv
theorem Own.ext {w w':World}{base:Nat}{e:TypeId}{size:Nat}{A:Option Addr}{n c:Nat}{xs:List Value}(h:Own w base e size A n c xs)(k:Ext w w'):Own w' base e size A n c xs:=
 World.ownsRow.kept (row:=none) h ⟨k.os,k.tape,k.output,k.size,fun i hi _=>k.block i hi⟩ (by
  cases hb:(Value.slice A n c).ownBlock with
  | none=>exact .inl rfl
  | some b=>exact .inr (by simp))
def rowOf (A:Option Addr):Option Nat:=A.map (·.block)
theorem BL (A:Option Addr)(n c:Nat):(Value.slice A n c).ownBlock=rowOf A:=by cases A <;> rfl
theorem Own.kept {w w':World}{base:Nat}{e:TypeId}{size:Nat}{A:Option Addr}{n c:Nat}{xs:List Value}{row:Option Nat}(h:Own w base e size A n c xs)(k:w.grownBy w' row)(hne:rowOf A=none\/rowOf A≠row):Own w' base e size A n c xs:=
 World.ownsRow.kept h k (by rw [BL];exact hne)
theorem Own.mono {w:World}{base base':Nat}{e:TypeId}{size:Nat}{A:Option Addr}{n c:Nat}{xs:List Value}(h:Own w base e size A n c xs)(hb:base'<=base):Own w base' e size A n c xs:=
 ⟨h.1,h.2.imp id fun ⟨g,cap,cur,h3,h4,r⟩=>⟨g,cap,cur,h3,by omega,r⟩⟩
theorem Own.row {w:World}{base:Nat}{e:TypeId}{size:Nat}{A:Option Addr}{n c:Nat}{xs:List Value}(h:Own w base e size A n c xs):∀ k,rowOf A=some k->base<=k/\k < w.heap.size:=by have:=World.ownsRow.lt h;rw [BL] at this;exact this
theorem Own.apart {w:World}{base base':Nat}{e e':TypeId}{size size':Nat}{A A':Option Addr}{n n' c c':Nat}{xs xs':List Value}(h:Own w base e size A n c xs)(h':Own w base' e' size' A' n' c' xs')(hne:e≠e') :rowOf A=none\/rowOf A≠rowOf A':=by
 rcases h.blk with ⟨h1,_⟩|⟨g,cur,h1,h2,h3,_⟩
 · subst h1;exact .inl rfl
 · rcases h'.blk with ⟨h1',_⟩|⟨g',cur',h1',h2',h3',_⟩
   · subst h1 h1';exact .inr (by simp [rowOf])
   · subst h1 h1';refine .inr ?_;simp only [rowOf,Option.map_some,ne_eq,Dz];exact h3.ne h3' hne
theorem Own.cell {w:World}{base:Nat}{e:TypeId}{size g n c:Nat}{xs:List Value}{j:Nat}{v:Value}(h:Own w base e size (some ⟨g,0,none⟩) n c xs)(hv:xs[j]?=some v):w.cell? ⟨g,j,none⟩=some v:=by
 have hj:j < n * size:=by
  rw [<-h.1];rcases wz j xs.length with h' | h'
  · exact h'
  · rw [List.getElem?_eq_none h'] at hv;cases hv
 rw [World.ownsRow.cellAt h j hj];exact hv
theorem Own.frozen {w:World}{base:Nat}{e:TypeId}{size g n c:Nat}{xs:List Value}(h:Own w base e size (some ⟨g,0,none⟩) n c xs)(j:Nat):w.frozen? ⟨g,j,none⟩=false:=World.ownsRow.frozenAt h j
theorem Own.set {w:World}{base:Nat}{e:TypeId}{size g n c:Nat}{xs:List Value}(h:Own w base e size (some ⟨g,0,none⟩) n c xs)(j:Nat)(u:Value):Own (w.setCell ⟨g,j,none⟩ u) base e size (some ⟨g,0,none⟩) n c (xs.set j u):=(World.ownsRow.stored h j u).1
theorem Own.UO {w:World}{base:Nat}{e:TypeId}{size n c:Nat}{A:Option Addr}{xs:List Value}(h:Own w base e size A n c xs)(hn:0 < n):∃ g,A=some ⟨g,0,none⟩:=by
 rcases h.blk with ⟨_,h0,_⟩|⟨g,_,hA,_⟩
 · omega
 · exact ⟨g,hA⟩
theorem Own.cap {w:World}{base:Nat}{e:TypeId}{size n c:Nat}{A:Option Addr}{xs:List Value}(h:Own w base e size A n c xs):n<=c/\c<=maxLen:=by
 rcases h.blk with ⟨_,h0,h1,_⟩|⟨g,_,hA,_,_,h2,h3,_⟩
 · subst h0 h1;exact ⟨mO _,uN _⟩
 · exact ⟨h2,h3⟩
def To (P:Program)(ρ:Operand->Value)(o:Oper)(w:World)(R:Value->World->Prop):Prop:=∃ v w',(execOp ρ o).run P w=.ok (.value v) w'/\R v w'
theorem qd {P:Program}{N:Fz}{ops:Array Oper}{K:KK}{rest:List Oper}{f:Fr}{w:World}{d:Option Nat}{op:Op}{ty:TypeId}{pos:String}{af:Array Edge}{R:Value->World->Prop}(h:To P (ev f) ⟨d,op,ty,pos,af,none⟩ w R)(k:∀ v w',R v w'->o8 P N ops K rest (lH f d v) w'):o8 P N ops K (⟨d,op,ty,pos,af,none⟩ :: rest) f w:=by obtain ⟨v,w',h1,h2⟩:=h;exact kU h1 (k v w' h2)
section
variable {P:Program}{w:World}{ρ:Operand->Value}{d:Option Nat}{ty:TypeId}{pos:String}{af:Array Edge}{g:Option (Nat × Bool)}
theorem F6 (base:Nat)(t ty e:TypeId)(i:TypeInfo)(size:Nat)(ht:P.underlying t=some (.slice e))(hi:P.info? e=some i)(v:Value)(n:Nat)(xs:List Value)(hown:w.ownsRow base e size v n xs)(c:Nat):(Builtin.append_ #[t,t] ty #[v,.slice none 0 c]).run P w=.ok v w:=by
 rcases hown.2 with ⟨rfl,rfl⟩|⟨g,cap,cur,rfl,_,_,hnc,_⟩
 · simp [Builtin.append_,run_underlying ht,sizeOf,typeInfo,hi,Builtin.lenOf,Builtin.firstCells]
 · simp [Builtin.append_,run_underlying ht,sizeOf,typeInfo,hi,Builtin.lenOf,Builtin.firstCells,hnc,storeCells]
theorem TR {t e:TypeId}{s x:Operand}{z:Value}{size by_:Nat}(base k:Nat){A:Option Addr}{n c:Nat}{xs:List Value}{A':Option Addr}{m c' B:Nat}{ys:List Value}(ht:P.underlying t=some (.slice e))(hi:TI P e z size by_)(hz:z.cells.size=size)(h0:0 < size)(hs:ρ s=.slice A n c)(hx:ρ x=.slice A' m c')(ho:Own w base e size A n c xs)(hy:Sl w B size A' m ys)(h1:∀ u ∈ ys,u.oneCell'=true)(hb:base<=w.heap.size)(hm:n+m<=9223372036854775807)(hby:(n+m) * by_<=140737488355328)(hk:n+m=k) :To P ρ ⟨d,.call { callee:=.builtin .append,args:=#[s,x],argTypes:=#[t,t] },ty,pos,af,g⟩ w fun v w'=>∃ A2 c2,v=.slice A2 k c2/\Own w' base e size A2 k c2 (xs ++ ys)/\w.grownBy w' (rowOf A)/\(rowOf A2=rowOf A\/rowOf A2=some w.heap.size):=by
 subst hk;obtain ⟨i,hi1,hi2,hi3,hi4⟩:=hi;have key:∃ v' w',(Builtin.append_ #[t,t] ty #[.slice A n c,.slice A' m c']).run P w=.ok v' w'/\w'.ownsRow base e size v' (n+m) (xs ++ ys)/\w.grownBy w' (rowOf A)/\(v'.ownBlock=rowOf A\/v'.ownBlock=some w.heap.size):=by
  have hm63:n+m<=maxLen:=by simp only [maxLen];omega
  rcases Nat.eq_zero_or_pos m with hm0 | hm0
  · subst hm0;have hy0:ys=[]:=List.eq_nil_of_length_eq_zero (by simpa using hy.1);subst hy0;cases A' with
    | none=>exact ⟨_,w,F6 base t ty e i size ht hi1 _ n xs ho c',by unfold Own at ho;simpa using ho,⟨rfl,rfl,rfl,mO _,fun _ _ _=>rfl⟩,.inl (BL ..)⟩
    | some a=>
     obtain ⟨v',w',h2,h3,h4,_,h5⟩:=run_append_own_at (P:=P) w base t ty e i z size by_ ht hi1 hi2 hi3 hi4 hz h0 _ n xs ho a 0 c' [] (by simp) (by simp) (by simp) hm63 hby hb;rw [BL] at h4 h5;exact ⟨v',w',h2,h3,h4,h5⟩
  · obtain ⟨b,o,rfl,_,hc⟩:=hy.2 hm0;obtain ⟨v',w',h2,h3,h4,_,h5⟩:=run_append_own_at (P:=P) w base t ty e i z size by_ ht hi1 hi2 hi3 hi4 hz h0 _ n xs ho ⟨b,o,none⟩ m c' ys hy.1 (fun j u hu=>by rw [Addr.add_lit];exact hc j u hu) h1 hm63 hby hb;rw [BL] at h4 h5;exact ⟨v',w',h2,h3,h4,h5⟩
 obtain ⟨v',w',h2,h3,h4,h5⟩:=key;have hsl:∃ A2 c2,v'=.slice A2 (n+m) c2:=by
  rcases h3.2 with ⟨h6,h7⟩|⟨g',cap,cur,h6,_⟩
  · exact ⟨none,0,by rw [h6,h7]⟩
  · exact ⟨_,_,h6⟩
 obtain ⟨A2,c2,rfl⟩:=hsl;rw [BL] at h5;exact ⟨_,w',by simp [execOp,resolve,invoke,builtin,hs,hx,h2],A2,c2,rfl,h3,h4,h5⟩
end
theorem uO.sl {w:World}{b n size:Nat}{t:TypeId}{cs:Array Value}(h:uO w b t cs)(hs:cs.size=n * size):Sl w w.heap.size size (some ⟨b,0,none⟩) n cs.toList:=
 ⟨by simpa using hs,fun _=>⟨b,0,rfl,h.lt,fun j v hv=>by rw [DV];exact h.cell (by simpa using hv)⟩⟩
theorem uO.own {w:World}{b n size base:Nat}{t:TypeId}{cs:Array Value}(h:uO w b t cs)(hb:base<=b)(hn:n<=maxLen)(hs:cs.size=n * size):Own w base t size (some ⟨b,0,none⟩) n n cs.toList:=
 ⟨by simpa using hs,.inr ⟨b,n,cs,rfl,hb,h,mO _,hn,hs,by rw [<-hs];simp [List.take_of_length_le]⟩⟩
section
variable {P:Program}{N:Fz}{ops:Array Oper}{K:KK}{rest:List Oper}{f:Fr}{w:World}{d:Option Nat}{ty:TypeId}{pos:String}{af:Array Edge}
end
theorem uO.cells {w:World}{b:Nat}{t:TypeId}{cs:Array Value}(h:uO w b t cs):Cells w b 0 cs.toList:=fun j v hv=>by rw [DV];exact h.cell (by simpa using hv)
def strOf (bs:List Int):ByteArray:=bs.foldl (fun r n=>r.push (UInt8.ofNat n.toNat)) ByteArray.empty
section
variable {P:Program}{w:World}{ρ:Operand->Value}{d:Option Nat}{ty:TypeId}{pos:String}{af:Array Edge}{g:Option (Nat × Bool)}
theorem afN {t s e:TypeId}{x:Operand}{A:Option Addr}{n c B:Nat}{bs:List Int}(ht:P.underlying t=some (.slice e))(he:P.underlying e=some (.int .u8))(hs:P.underlying s=some .string)(hx:ρ x=.slice A n c)(h:Sl w B 1 A n (bs.map (Value.int .u8))) :Yl P ρ (.convert t s x) d ty pos af g w (.string (strOf bs)):=by
 have hl:bs.length=n:=by have:=h.1;simpa using this
 have key:(Conv.bytesToString (.slice A n c)).run P w=.ok (.string (strOf bs)) w:=by
  cases A with
  | none=>
   have hn:n=0:=by
    rcases Nat.eq_zero_or_pos n with h0 | h0
    · exact h0
    · obtain ⟨b,o,h1,_⟩:=h.2 h0;cases h1
   have hb:bs=[]:=List.eq_nil_of_length_eq_zero (by omega);subst hb;simp [Conv.bytesToString,strOf]
  | some a=>
   subst hl;have hc:∀ j v,(bs.map (Value.int .u8))[j]?=some v->w.cell? (a.add j)=some v:=by
    intro j v hv;have hj:j < bs.length:=by
      rcases wz j bs.length with h0 | h0
      · exact h0
      · rw [List.getElem?_eq_none (by simpa using h0)] at hv;cases hv
    obtain ⟨b,o,h1,_,h3⟩:=h.2 (by omega);injection h1 with h1;subst h1;rw [Addr.add_lit];exact h3 j v hv
   exact run_bytesToString w a bs.length c bs (by
    have:=run_loadCells_list (P:=P) w a (bs.map (Value.int .u8)) hc;simpa using this)
 have hcv:=run_convert_bytes_string (P:=P) w t s e A n c ht he hs;rw [key] at hcv;simp [Yl,execOp,hx,hcv]
end
section
variable {P:Program}{N:Fz}{ops:Array Oper}{S:World->Prop}{T:List Nat}{K:KK}{f:Fr}{w:World}{n:Nat}{L:Array Bool}
end
section
variable {P:Program}{w:World}{ρ:Operand->Value}{d:Option Nat}{ty:TypeId}{pos:String}{af:Array Edge}{g:Option (Nat × Bool)}
theorem add0 (A:Option Addr):A.map (·.add 0)=A:=by cases A with
 | none=>rfl
 | some a=>simp [Addr.add_zero']
theorem xU {t e:TypeId}{x y:Operand}{A:Option Addr}{n c:Nat}{k:IntKind}{i:Int}{z:Value}{s by_:Nat}(j:Nat)(ht:P.underlying t=some (.slice e))(he:TI P e z s by_)(hx:ρ x=.slice A n c)(hy:ρ y=.int k i)(hi:i=(j:Int))(hj:j<=c) :Yl P ρ (.slice t x none (some y) none) d ty pos af g w (.slice A j c):=by
 subst hi;obtain ⟨i,hi1,hi2,hi3,hi4⟩:=he;have h0:(0:Int)<=j/\(j:Int)<=c:=by omega
 simp [Yl,execOp,hx,hy,Instr.sliceAt,Instr.slice,run_underlying ht,Instr.sliceBounds,Instr.sliceBound,asIntOf,sizeOf,typeInfo,hi1,h0,add0];omega
theorem Ur {t e:TypeId}{x y:Operand}{A:Option Addr}{n c:Nat}{k:IntKind}{i:Int}{z:Value}{s by_:Nat}(j:Nat)(ht:P.underlying t=some (.slice e))(he:TI P e z s by_)(hx:ρ x=.slice A n c)(hy:ρ y=.int k i)(hi:i=(j:Int))(hj:j<=n) :Yl P ρ (.slice t x (some y) none none) d ty pos af g w (.slice (if c=j then A else A.map (·.add (j * s))) (n - j) (c - j)):=by
 subst hi;obtain ⟨i,hi1,hi2,hi3,hi4⟩:=he;have h0:(0:Int)<=j/\(j:Int)<=n:=by omega
 simp [Yl,execOp,hx,hy,Instr.sliceAt,Instr.slice,run_underlying ht,Instr.sliceBounds,Instr.sliceBound,asIntOf,sizeOf,typeInfo,hi1,hi3,h0];omega
end
theorem Sl.take {w:World}{B s n:Nat}{A:Option Addr}{xs:List Value}(h:Sl w B s A n xs){j:Nat}(hj:j<=n):Sl w B s A j (xs.take (j * s)):=by
 refine ⟨?_,fun h0=>?_⟩
 · rw [wI,h.1,Nat.min_eq_left (Nat.mul_le_mul_right s hj)]
 · obtain ⟨b,o,h1,h2,h3⟩:=h.2 (by omega);refine ⟨b,o,h1,h2,fun i v hv=>h3 i v ?_⟩;rw [List.getElem?_take] at hv;split at hv
   · exact hv
   · cases hv
theorem Sl.drop {w:World}{B s n c:Nat}{A:Option Addr}{xs:List Value}(h:Sl w B s A n xs)(hc:n<=c){j:Nat}(hj:j<=n):Sl w B s (if c=j then A else A.map (·.add (j * s))) (n - j) (xs.drop (j * s)):=by
 refine ⟨?_,fun h0=>?_⟩
 · rw [Cy,h.1,Nat.sub_mul]
 · obtain ⟨b,o,h1,h2,h3⟩:=h.2 (by omega);rw [lD (by omega)];subst h1;refine ⟨b,o+j * s,by simp [Addr.add_lit],h2,fun i v hv=>?_⟩;rw [List.getElem?_drop] at hv;rw [Nat.add_assoc];exact h3 _ v hv
section
variable {P:Program}{w:World}{ρ:Operand->Value}{d:Option Nat}{ty:TypeId}{pos:String}{af:Array Edge}{g:Option (Nat × Bool)}
end
section
variable {P:Program}{N:Fz}{ops:Array Oper}{S:World->Prop}{T:List Nat}{K:KK}{f:Fr}{w:World}{n:Nat}{L:Array Bool}
end
end Go.Fw
