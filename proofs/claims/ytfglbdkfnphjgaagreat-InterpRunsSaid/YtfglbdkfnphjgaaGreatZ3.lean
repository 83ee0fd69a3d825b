/- Texts and lists of bytes. Over any program. -/
import Derived.Test.YtfglbdkfnphjgaaGreatZ2
import Derived.Lib.ConvBytes
set_option linter.unusedVariables false
namespace Go.Fw
open Go.RowKit
structure FM where
 n:Int
deriving DecidableEq
instance:Rp FM:=⟨1,1,fun _ _ cs x=>cs=[.int .u8 x.n],fun h=>by rw [h];rfl,fun h=>by rw [h];rfl,fun h _=>h⟩
def bst (l:List FM):ByteArray:=strOf (l.map FM.n)
section
variable {P:Program}{w0 w:World}{Z G:Nat->Prop}{L:List It}{D:List Da}{ρ:Operand->Value}{d:Option Nat}{ty:TypeId}{pos:String}{af:Array Edge}{g:Option (Nat × Bool)}
theorem aah {F:Nat→Prop}:∀ {cs:List (List Value)}{l:List FM},xH F w cs l→cs.flatten=(l.map FM.n).map (Value.int .u8)
 | [],[],_=>rfl
 | c :: cs,x :: l,h=>by have h1:c=[.int .u8 x.n]:=h.1;rw [Cv,h1,aah h.2];rfl
 | [],_ :: _,h=>h.elim
 | _ :: _,[],h=>h.elim
theorem ade {F:Nat->Prop}{t s e:TypeId}{x:Operand}{a:Option Addr}{c:Nat}{l:List FM}(ht:P.underlying t=some (.slice e))(he:P.underlying e=some (.int .u8))(hs:P.underlying s=some .string)(hx:ρ x=.slice a l.length c)(h:kX F w a c l) :Yl P ρ (.convert t s x) d ty pos af g w (.string (bst l)):=by obtain ⟨cs,h1,h2⟩:=h.els;rw [aah h1] at h2;exact adk (bs:=l.map FM.n) ht he hs hx h2
end
def It.nil:It:=⟨fun _=>False,fun _=>True,fun _ _ _ h=>h.elim,fun _ _ _ _ _=>trivial⟩
theorem kX.same {α:Type}[Rp α]{F:Nat->Prop}{w w':World}{a:Option Addr}{c:Nat}{l:List α}(h:kX F w a c l)(hs:w.heap.size<=w'.heap.size)(hc:∀ o,w'.cell? ⟨nE a,o,none⟩=w.cell? ⟨nE a,o,none⟩)(hm:Mv F F w w'\/∀ {cs:List Value} {x:α},Rp.rep F w cs x->Rp.rep F w' cs x):kX F w' a c l:=by
 refine ⟨h.1,h.2.1,fun h0=>?_⟩;obtain ⟨h1,h2,h3,h4⟩:=h.2.2 h0;refine ⟨h1,h2,Nat.lt_of_lt_of_le h3 hs,fun i x hx=>?_⟩;obtain ⟨cs,h5,h6⟩:=h4 i x hx;refine ⟨cs,fun j v hv=>by rw [hc];exact h5 j v hv,?_⟩;rcases hm with hm | hm
 · exact Rp.mv h6 hm
 · exact hm h6
theorem run_mark {P:Program}{w:World}{t e tt:TypeId}{b o n c:Nat}{cs:Array Value}(ht:P.underlying t=some (.slice e))(he:P.underlying e=some (.int .u8))(hb:w.heap[b]?=some (.cells cs tt (0,0))) :(convert t t (.slice (some ⟨b,o,none⟩) n c)).run P w=.ok (.slice (some ⟨b,o,none⟩) n c) (w.freeze ⟨b,cs.size,none⟩ 1):=by
 have hsh:w.shape? b=some (tt,cs.size):=by simp [World.shape?,hb]
 simp [convert,run_underlying ht,run_underlying he,markStringish,hsh]
theorem acR {P:Program}{w0 w:World}{Z G:Nat->Prop}{L:List It}{D:List Da}{ρ:Operand->Value}{d:Option Nat}{ty:TypeId}{pos:String}{af:Array Edge}{g:Option (Nat × Bool)}(hL:Bx w0 w Z G L D)(i j:Nat){t e:TypeId}{x:Operand}{b c:Nat}{cs:List (List Value)}{l:List FM}(hi:L[i]?=some (.own w0.heap.size (some ⟨b,0,none⟩) c e (Rp.sz FM) cs))(hj:D[j]?=some (.els cs l))(ht:P.underlying t=some (.slice e))(he:P.underlying e=some (.int .u8))(hx:ρ x=.slice (some ⟨b,0,none⟩) l.length c) :To P ρ ⟨d,.convert t t x,ty,pos,af,g⟩ w fun v w'=>v=.slice (some ⟨b,0,none⟩) l.length c/\Bx w0 w' Z G (L.eraseIdx i) (.l (some ⟨b,0,none⟩) c l :: D.eraseIdx j):=by
 have ho:=hL.bo i hi;rcases ho.blk with ⟨h1,_⟩|⟨q,cur,h1,h2,h3,_⟩
 · cases h1
 · injection h1 with h1;injection h1 with h1;subst h1;have hrun:=run_mark (P:=P) (w:=w) (o:=0) (n:=l.length) (c:=c) ht he h3;have hfa:(w.freeze ⟨b,cur.size,none⟩ 1).heap[b]?=some (.cells cur e (cur.size,cur.size+1)):=by unfold World.freeze;rw [jR (by decide)];have h3':w.heap[b]?=some (.cells cur e (0,0)):=h3;simp [Array.getElem?_modify,h3']
   have hch:Gu b w (w.freeze ⟨b,cur.size,none⟩ 1):=by unfold World.freeze;rw [jR (by decide)];exact ⟨rfl,rfl,rfl,by simp,fun i hi hne=>by simp [Array.getElem?_modify];intro e;subst e;exact absurd rfl hne⟩
   refine ⟨_,w.freeze ⟨b,cur.size,none⟩ 1,by simp [execOp,hx,hrun],rfl,?_⟩;have hfz:=hL.Ob i j hi hj;have hl0:=hfz.dl 0 rfl;have h5:=hL.put (it':=It.nil) i hi ⟨hch.os,hch.tape,hch.output,hch.size,fun k hk hn=>hch.block k hk (by intro e;injection e with e;exact hn (show rowOf (some ⟨b,0,none⟩)=some k by rw [e];rfl))⟩ lF (fun k hk=>hk.elim);have h6:=h5.er i;rw [List.eraseIdx_set_eq] at h6;have h7:=h6.NK (D':=D.eraseIdx j) fun d hd=>(List.eraseIdx_sublist D j).subset hd;refine h7.kF (d:=.l _ _ _) (hl0.same hch.size (fun o=>?_) (.inr fun h=>h));have h3':w.heap[b]?=some (.cells cur e (0,0)):=h3;simp [nE,World.cell?,hfa,h3']
theorem Pf {sz:Nat}:∀ {cs:List (List Value)}{k:Nat}{d d':List Value},(∀ c ∈ cs,c.length=sz)→cs[k]?=some d→d'.length=sz→(cs.set k d').flatten=cs.flatten.take (k * sz) ++ d' ++ cs.flatten.drop ((k+1) * sz)
 | c :: cs,0,d,d',h,hd,hl=>by have hc:=h c (Bn ..);rw [List.set_cons_zero,Cv,Cv,Nat.zero_mul,List.take_zero,Gg,Bh,Nat.one_mul,<-hc,List.drop_left]
 | c :: cs,k+1,d,d',h,hd,hl=>by
  have hc:=h c (Bn ..);have ih:=Pf (k:=k) (fun c hc=>h c (wI _ hc)) (by simpa using hd) hl;have e1:(k+1) * sz=c.length+k * sz:=by rw [hc,Nat.succ_mul,Nat.add_comm]
  have e2:(k+1+1) * sz=c.length+(k+1) * sz:=by rw [hc,Nat.succ_mul (k+1),Nat.add_comm]
  rw [List.set_cons_succ,Cv,Cv,ih,e2,<-List.drop_drop,List.drop_left,e1,List.take_length_add_append,Em,Em,Em]
theorem splice {β:Type}(cur F vs q:List β)(N ks sz off:Nat)(hF:cur.take N=F)(hN:N<=cur.length)(hk:ks + sz<=N)(hl:off + vs.length<=sz)(hq:q=(F.drop ks).take sz) :
    (cur.take (ks + off) ++ vs ++ cur.drop (ks + off + vs.length)).take N=F.take ks ++ (q.take off ++ vs ++ q.drop (off + vs.length)) ++ F.drop (ks + sz):=by
  have h1:F.take ks ++ q.take off=F.take (ks + off):=by
    rw [hq,List.take_take,Nat.min_eq_left (by omega),List.take_add]
  have h2:q.drop (off + vs.length) ++ F.drop (ks + sz)=F.drop (ks + off + vs.length):=by
    rw [hq,List.drop_take,List.drop_drop,show ks + (off + vs.length)=ks + off + vs.length by omega];have:F.drop (ks + sz)=(F.drop (ks + off + vs.length)).drop (sz - (off + vs.length)):=by rw [List.drop_drop]; congr 1; omega
    rw [this,List.take_append_drop]
  have h3:F.take (ks + off)=cur.take (ks + off):=by rw [<-hF,List.take_take,Nat.min_eq_left (by omega)]
  have h4:F.drop (ks + off + vs.length)=(cur.drop (ks + off + vs.length)).take (N - (ks + off + vs.length)):=by rw [<-hF,List.drop_take]
  have hlen:(cur.take (ks + off) ++ vs).length=ks + off + vs.length:=by rw [Dk,yM]; omega
  calc (cur.take (ks + off) ++ vs ++ cur.drop (ks + off + vs.length)).take N
      = cur.take (ks + off) ++ vs ++ (cur.drop (ks + off + vs.length)).take (N - (ks + off + vs.length)):=by
        rw [List.take_append,hlen,List.take_of_length_le (by rw [hlen]; omega)]
    _=F.take (ks + off) ++ vs ++ F.drop (ks + off + vs.length):=by rw [h3,h4]
    _=_:=by rw [<-h1,<- h2]; simp only [Em]
theorem xH.lens {α:Type}[Rp α]{F:Nat→Prop}{w:World}:∀ {cs:List (List Value)}{l:List α},xH F w cs l→∀ c ∈ cs,c.length=Rp.sz α
 | [],[],_,c,hc=>by cases hc
 | d :: cs,x :: l,h,c,hc=>by
  rcases qK.1 hc with rfl | hc
  · exact Rp.len h.1
  · exact xH.lens h.2 c hc
 | [],_ :: _,h,_,_=>h.elim
 | _ :: _,[],h,_,_=>h.elim
theorem Nn {P:Program}{w0 w:World}{Z G:Nat->Prop}{L:List It}{D:List Da}{ρ:Operand->Value}{d:Option Nat}{ty:TypeId}{pos:String}{af:Array Edge}{g:Option (Nat × Bool)}(hL:Bx w0 w Z G L D){α:Type}[Rp α](i j k off:Nat){t e:TypeId}{x y:Operand}{z:Value}{s by_ base c:Nat}{A:Option Addr}{cs:List (List Value)}{l l2:List α}{q q':List Value}{v':α}(vs:List Value)(hi:L[i]?=some (.own base A c e (Rp.sz α) cs))(hj:D[j]?=some (.els cs l))(hq:cs[k]?=some q)(ht:TI P t z s by_)(hs:s=vs.length)(hx:ρ x=.pointer (some ⟨nE A,ow A+k * Rp.sz α+off,none⟩))(hy:(ρ y).cells=vs.toArray)(h1:vs.all (fun v=>v.oneCell')=true)(hl:Nat.ble (off+vs.length) (Rp.sz α)=true)(hq':q.take off ++ vs ++ q.drop (off+vs.length)=q')(hr:Rp.rep (Ei w0 Z L) w q' v')(hst:l.set k v'=l2) :TV P ρ ⟨d,.store t x y,ty,pos,af,g⟩ w fun w'=>∃ cs2,Bx w0 w' Z G (L.set i (.own base A c e (Rp.sz α) cs2)) (D.set j (.els cs2 l2)):=by
 subst hs;have hl:=Nat.le_of_ble_eq_true hl;have hE:=hL.de j hj;have ho:=hL.bo i hi;have hk:=jU hq;have hlen:=hE.lens;have hql:q.length=Rp.sz α:=hlen q (wC hq);have hq'l:q'.length=Rp.sz α:=Rp.len hr;obtain ⟨g0,rfl⟩:=ho.VL (by omega);rcases ho.blk with ⟨h0,_⟩|⟨b,cur,hA,hb,hB,hn,hc,hsz,htk⟩
 · cases h0
 · injection hA with hA;injection hA with hA;subst hA;obtain ⟨ti,hi1,hi2,hi3,hi4⟩:=ht;have hsz':cs.length * Rp.sz α<=cur.size:=by rw [hsz];exact Nat.mul_le_mul_right _ hn
   have hpos:(k+1) * Rp.sz α<=cs.length * Rp.sz α:=Nat.mul_le_mul_right _ hk;have hpk:(k+1) * Rp.sz α=k * Rp.sz α+Rp.sz α:=Nat.succ_mul k _;have hst':=run_storeCells_at (P:=P) g0 (k * Rp.sz α+off) e vs 0 cur w hB (by omega) (fun v hv=>List.all_eq_true.1 h1 v hv);rw [Nat.add_zero] at hst';have hx':ρ x=.pointer (some ⟨g0,k * Rp.sz α+off,none⟩):=by rw [hx];simp [nE,ow]
   refine ⟨_,by simp [execOp,hx',Instr.storeAt,Instr.sureAddr,storeVar,sizeOf,typeInfo,hi1,hi3,hy,hst'];rfl,cs.set k q',?_⟩;have hfl:(cs.set k q').flatten=cs.flatten.take (k * Rp.sz α) ++ q' ++ cs.flatten.drop ((k+1) * Rp.sz α):=Pf hlen hq hq'l;have hels:xH (Ei w0 Z L) w (cs.set k q') l2:=by rw [<-hst];exact hE.set k hr
   have h6:Bx w0 w Z G L (D.set j (.els (cs.set k q') l2)):=hL.Wm j hels;have hlf:cs.flatten.length=cs.length * Rp.sz α:=by rw [hE.Ur,hE.len]
   have hcells:q=(cs.flatten.drop (k * Rp.sz α)).take (Rp.sz α):=by
     have key:∀ {cs:List (List Value)}{k:Nat},(∀ c ∈ cs,c.length=Rp.sz α)->cs[k]?=some q->q=(cs.flatten.drop (k * Rp.sz α)).take (Rp.sz α):=by
      intro cs
      induction cs with
      | nil=>intro k _ h;simp at h
      | cons c cs ih=>
       intro k hlen h;have hc:=hlen c (Bn ..);cases k with
       | zero=>
        simp only [EW,DT] at h;subst h;rw [Nat.zero_mul,List.drop_zero,Cv,<-hc,List.take_left]
       | succ k=>
        rw [Cv,show (k+1) * Rp.sz α=c.length+k * Rp.sz α by rw [hc,Nat.succ_mul,Nat.add_comm],<-List.drop_drop,List.drop_left];exact ih (fun c hc=>hlen c (wI _ hc)) (by simpa using h)
     exact key hlen hq
   have htake:∀ n,n<=cs.length * Rp.sz α->cs.flatten.take n=cur.toList.take n:=fun n hn=>by rw [<-htk,List.take_take,Nat.min_eq_left hn]
   refine h6.Rm (n2:=cs.length) (ys:=(cs.set k q').flatten) i hi ⟨by rw [hfl];simp only [Dk,yM,Er,hlf,hq'l];omega,.inr ⟨g0,c,_,rfl,hb,hB.setRow _,hn,hc,?_,?_⟩⟩ (by simp) rfl (Gu.setRow w g0 _) (.inl rfl)
   · simp only [List.size_toArray,Dk,yM,Er,Array.length_toList];omega
   · rw [hfl,<-hq',hpk];have hsp:=splice cur.toList cs.flatten vs q _ _ _ off htk (by rw [Array.length_toList];exact hsz') (by omega) hl hcells;rw [Em] at hsp;simpa using hsp
def GN (S1:World->Prop)(T:List Nat)(S:World->Prop)(L:Array Bool)(w:World):Prop:=S1 w/\((∀ t ∈ T,L.getD t false=false)->S w)
def I8 (P:Program)(ops:Array Oper)(Q:Exit→Act→World→Prop)(S1 S:World→Prop)(T:List Nat):Nat→Array Bool→Act→World→Prop
 | 0,L,a,w=>Region.ready .any ops L=[]/\Q .normal a w
 | n+1,L,a,w=>(Region.ready .any ops L=[]→Q .normal a w)∧
  ∀ i ∈ Region.ready .any ops L,wpOp P ops Q i (fun a' w'=>GN S1 T S (L.setIfInBounds i true) w'/\I8 P ops Q S1 S T n (L.setIfInBounds i true) a' w') a w
theorem Lp {P:Program}{ops:Array Oper}{Q:Exit→Act→World→Prop}{S1 S:World→Prop}{T:List Nat}:∀ (n:Nat)(L:Array Bool)(a:Act)(w:World),I8 P ops Q S1 S T n L a w→wpAny P .any ops Q n L a w
 | 0,_,_,_,h=>h
 | n+1,_,_,_,h=>⟨h.1,fun i hi=>wpOp_mono (fun a' w' h'=>Lp n _ a' w' h'.2) (h.2 i hi)⟩
theorem NM {P:Program}{ops:Array Oper}{Q:Exit->Act->World->Prop}{S1 S S2:World->Prop}{T:List Nat}{i:Nat}{oi:Oper}{v:Value}(hi:ops[i]?=some oi)(hsel:∀ (j:Nat) (o:Oper) cs b,ops[j]?=some o->o.op≠.select cs b)(hQ:∀ c a w,Q (.panic c) (a.put oi.dst v) w->Q (.panic c) a w)(hT:i ∉ T)(hS2:∀ L w,Closed ops L->L.getD i false=false->GN S1 T S L w->S2 w) :∀ (n:Nat)(L:Array Bool)(a:Act)(w:World),Closed ops L->(∀ j oj,ops[j]?=some oj->j≠i->L.getD j true=false->(∀ e ∈ oj.after,Region.binds .any e=true->e.on≠i)->oi.apart ops oj=true)->i ∈ Region.ready .any ops L->YieldsIf P ops S2 oi v a->GN S1 T S L w->I8 P ops Q S1 S T n (L.setIfInBounds i true) (a.put oi.dst v) w->I8 P ops Q S1 S T (n+1) L a w:=by
 have unl:∀ L,i ∈ Region.ready .any ops L->L.getD i false=false:=by
  intro L hr;have h0:=(mem_ready.1 hr).1;rcases yZ i L.size with h' | h'
  · simp [h'] at h0 ⊢;exact h0
  · simp [Array.getElem?_eq_none h']
 have sl:∀ L w,GN S1 T S (L.setIfInBounds i true) w->GN S1 T S L w:=by intro L w h;refine ⟨h.1,fun ht=>h.2 fun t hm=>?_⟩;rw [Bd false (fun e=>hT (by rw [e];exact hm))];exact ht t hm
 have sl':∀ L w,GN S1 T S L w->GN S1 T S (L.setIfInBounds i true) w:=by
  intro L w h;refine ⟨h.1,fun ht=>h.2 fun t hm=>?_⟩;have:=ht t hm
  rwa [Bd false (fun e=>hT (by rw [e];exact hm))] at this
 intro n
 induction n with
 | zero=>
  intro L a w hcl _ hr hy hS H;refine ⟨fun h=>(by rw [h] at hr;cases hr),fun j hj=>?_⟩;by_cases hji:j=i
  · subst hji;exact hy.wpOp hi (hS2 L w hcl (unl L hr) hS) ⟨sl' L w hS,H⟩
  · have:=ready_mono hj hji;rw [H.1] at this;cases this
 | succ n ih=>
  intro L a w hcl hfree hr hy hS H;refine ⟨fun h=>(by rw [h] at hr;cases hr),fun j hj=>?_⟩;by_cases hji:j=i
  · subst hji;exact hy.wpOp hi (hS2 L w hcl (unl L hr) hS) ⟨sl' L w hS,H⟩
  · have h1:=H.2 j (ready_mono hj hji);obtain ⟨hjun,oj,hoj,hall⟩:=mem_ready.1 hj;have hnot:∀ e ∈ oj.after,Region.binds .any e=true->e.on≠i:=fun e he hb heq=>by have h1:=hall e he hb;have h0:=unl L hr;rw [heq,h0] at h1;cases h1
    have h2:=wpOp_putIf hoj (hfree j oj hoj hji hjun hnot) (fun cs b=>hsel i oi cs b hi) (fun cs b=>hsel j oj cs b hoj) hQ hy h1
    have hfree':∀ k ok,ops[k]?=some ok→k≠i→(L.setIfInBounds j true).getD k true=false→
       (∀ e ∈ ok.after,Region.binds .any e=true->e.on≠i)->oi.apart ops ok=true:=fun k ok hk hki hun hno=>by
     refine hfree k ok hk hki ?_ hno;by_cases hjk:j=k
     · subst hjk;exact hjun
     · rw [Bd true hjk] at hun;exact hun
    have hcomm:(L.setIfInBounds i true).setIfInBounds j true=(L.setIfInBounds j true).setIfInBounds i true:=Array.setIfInBounds_comm _ _ (Ne.symm hji);refine wpOp_mono (fun a' w' h3=>?_) h2;have h4:=h3.2.1;rw [hcomm] at h4;have h5:=sl _ _ h4;refine ⟨h5,ih (L.setIfInBounds j true) a' w' (hcl.step hj) hfree' (ready_mono hr (Ne.symm hji)) h3.1 h5 ?_⟩;rw [<-hcomm];exact h3.2.2
def tK (P:Program)(N:Fz)(ops:Array Oper)(S1 S:World->Prop)(T:List Nat)(K:KK)(n:Nat)(L:Array Bool)(f:Fr)(w:World):Prop:=(∀ o ∈ ops.toList,wL N o=true)->Closed ops L->∀ a,Fg N f a->I8 P ops (EI N K.i) S1 S T n L a w
section
variable {P:Program}{N:Fz}{ops:Array Oper}{S1 S:World->Prop}{T:List Nat}{K:KK}{f:Fr}{w:World}{n:Nat}{L:Array Bool}
theorem ql {Q:Post}{i:Nat}(S1 S:World->Prop)(T:List Nat)(hm:P.follows .mixedOrders=true)(h:tK P N ops S1 S T ⟨Q.n,Q.p⟩ ops.size (Array.replicate ops.size false) f w.drew):WP P N (.region i ops true) Q f w:=by
 unfold WP;intro hok a ha;have hl:∀ o ∈ ops.toList,wL N o=true:=by intro o ho;have:=Array.all_eq_true_iff_forall_mem.1 (show ops.all (wL N)=true from hok);exact this o (by simpa using ho)
 refine Code.wp_mono (fun e a w q=>?_) (wp_region_any hm (Lp _ _ _ _ (h hl (Closed.start ops _) a ha)));cases e with
 | normal=>exact q
 | panic c=>obtain ⟨f,h1,h2⟩:=q;exact ⟨f,h1,h2 f⟩
 | _=>exact q.elim
theorem ZL (hr:Region.ready .any ops L=[])(h:K.n f w):tK P N ops S1 S T K n L f w:=by
 intro _ _ a ha;cases n with
 | zero=>exact ⟨hr,f,ha,h⟩
 | succ n=>exact ⟨fun _=>⟨f,ha,h⟩,by rw [hr];simp⟩
theorem Il (S2:World->Prop)(i:Nat){oi:Oper}{v:Value}(hi:ops[i]?=some oi)(hc:may ops T L i=true)(hS2:∀ L w,Closed ops L->L.getD i false=false->GN S1 T S L w->S2 w)(hw:(uV ops f oi.guard=true/\∀ w,S2 w->(execOp (ev f) oi).run P w=.ok (.value v) w)\/(uV ops f oi.guard=false/\v=undef))(hS:GN S1 T S L w)(k:tK P N ops S1 S T K n (L.setIfInBounds i true) (nU f oi.dst v) w):tK P N ops S1 S T K (n+1) L f w:=by
 intro hok hcl a ha;simp only [may,Dx,Bool.not_eq_true',List.contains_eq_mem] at hc;have hd:wL N oi=true:=hok oi (by have:=Array.mem_of_getElem? hi;simpa using this);have hr:i ∈ Region.ready .any ops L:=by simpa using hc.1.2
 have hT:i ∉ T:=by simpa using hc.2
 refine NM (S2:=S2) (v:=v) hi (Region.noSelect_spec hc.1.1.1) (fun c a w h=>by
  obtain ⟨f,h1,h2⟩:=h;refine ⟨_,⟨?_,fun t=>rfl,?_⟩,fun f=>h2 f⟩
  · have:=h1.size;cases hd:oi.dst <;> simpa [Act.put,hd] using this
  · have:=h1.dfr;cases hd:oi.dst <;> simpa [Act.put,hd] using this) hT hS2 n L a w hcl (Region.free_spec hi hc.1.1.2) hr ?_ hS (k hok (hcl.step hr) _ (ha.put _ (rX hd) v))
 rcases hw with ⟨h1,h2⟩|⟨h1,h2⟩
 · exact .inl ⟨by rw [u6 ha];exact h1,fun w hw=>by rw [ha.yT];exact h2 w hw⟩
 · exact .inr ⟨by rw [u6 ha];exact h1,h2⟩
theorem YM (i:Nat){oi:Oper}{v:Value}(hi:ops[i]?=some oi)(hc:may ops T L i=true)(hw:uV ops f oi.guard=true)(hy:∀ w,(execOp (ev f) oi).run P w=.ok (.value v) w)(hS:GN S1 T S L w)(k:tK P N ops S1 S T K n (L.setIfInBounds i true) (nU f oi.dst v) w):tK P N ops S1 S T K (n+1) L f w:=
 Il (fun _=>True) i hi hc (fun _ _ _ _ _=>trivial) (.inl ⟨hw,fun w _=>hy w⟩) hS k
theorem VR (dp i:Nat){oi:Oper}{v:Value}(hi:ops[i]?=some oi)(hc:may ops T L i=true)(hT:(T.all fun t=>Wi ops dp t i)=true)(hw:uV ops f oi.guard=true)(hy:∀ w,S w->(execOp (ev f) oi).run P w=.ok (.value v) w)(hS:GN S1 T S L w)(k:tK P N ops S1 S T K n (L.setIfInBounds i true) (nU f oi.dst v) w):tK P N ops S1 S T K (n+1) L f w:=
 Il S i hi hc (fun L w hcl hu hs=>hs.2 fun t ht=>by
  have h1:=List.all_eq_true.1 hT t ht;cases hl:L.getD t false with
  | false=>rfl
  | true=>rw [hcl.Wi i dp t h1 hl] at hu;cases hu) (.inl ⟨hw,hy⟩) hS k
theorem jY (i:Nat){oi:Oper}(hi:ops[i]?=some oi)(hc:may ops T L i=true)(hw:uV ops f oi.guard=false)(hS:GN S1 T S L w)(k:tK P N ops S1 S T K n (L.setIfInBounds i true) (nU f oi.dst undef) w):tK P N ops S1 S T K (n+1) L f w:=
 Il (fun _=>True) i hi hc (fun _ _ _ _ _=>trivial) (.inr ⟨hw,rfl⟩) hS k
def CS (P:Program)(N:Fz)(ops:Array Oper)(S1 S:World->Prop)(T:List Nat)(K:KK)(n:Nat)(L:Array Bool)(f:Fr)(w:World)(i:Nat):Prop:=(∀ o ∈ ops.toList,wL N o=true)->Closed ops (L.setIfInBounds i true)->∀ a,Fg N f a->wpOp P ops (EI N K.i) i (fun a' w'=>GN S1 T S (L.setIfInBounds i true) w'/\I8 P ops (EI N K.i) S1 S T n (L.setIfInBounds i true) a' w') a w
theorem abW (i:Nat)(hr:Region.ready .any ops L=[i])(h:CS P N ops S1 S T K n L f w i):tK P N ops S1 S T K (n+1) L f w:=fun hok hcl a ha=>
 ⟨fun h0=>(by rw [hr] at h0;cases h0),fun j hj=>by
  have hcl':=hcl.step hj;rw [hr] at hj;have hj':j=i:=by simpa using hj
  subst hj';exact h hok hcl' a ha⟩
theorem wh {i:Nat}{oi:Oper}{v:Value}{w':World}(hi:ops[i]?=some oi)(hw:uV ops f oi.guard=true)(h:(execOp (ev f) oi).run P w=.ok (.value v) w')(hS:GN S1 T S (L.setIfInBounds i true) w')(k:tK P N ops S1 S T K n (L.setIfInBounds i true) (nU f oi.dst v) w'):CS P N ops S1 S T K n L f w i:=by intro hok hcl a ha;have hd:wL N oi=true:=hok oi (by have:=Array.mem_of_getElem? hi;simpa using this);unfold wpOp;simp only [hi];rw [kg (by rw [u6 ha];exact hw)];left;unfold Oper.wp;rw [ha.yT,h];exact ⟨hS,k hok hcl _ (ha.put _ (rX hd) v)⟩
theorem adn {i:Nat}{oi:Oper}{w':World}(hi:ops[i]?=some oi)(hw:uV ops f oi.guard=true)(h:(execOp (ev f) oi).run P w=.ok .skip w')(hS:GN S1 T S (L.setIfInBounds i true) w')(k:tK P N ops S1 S T K n (L.setIfInBounds i true) (nU f oi.dst undef) w'):CS P N ops S1 S T K n L f w i:=by intro hok hcl a ha;have hd:wL N oi=true:=hok oi (by have:=Array.mem_of_getElem? hi;simpa using this);unfold wpOp;simp only [hi];rw [kg (by rw [u6 ha];exact hw)];left;unfold Oper.wp;rw [ha.yT,h];exact ⟨hS,k hok hcl _ (ha.put _ (rX hd) undef)⟩
theorem Uw {i:Nat}{oi:Oper}{w':World}{g:FuncId}{args:Array Value}{R:Value->World->Prop}(hi:ops[i]?=some oi)(hw:uV ops f oi.guard=true)(h:(execOp (ev f) oi).run P w=.ok (.enter g args) w')(hc:Calls P g args w' (pU R))(k:∀ v w'',R v w''->GN S1 T S (L.setIfInBounds i true) w''/\tK P N ops S1 S T K n (L.setIfInBounds i true) (nU f oi.dst v) w''):CS P N ops S1 S T K n L f w i:=by intro hok hcl a ha;have hd:wL N oi=true:=hok oi (by have:=Array.mem_of_getElem? hi;simpa using this);unfold wpOp;simp only [hi];rw [kg (by rw [u6 ha];exact hw)];left;unfold Oper.wp;rw [ha.yT,h];refine hc.mono fun e w'' he=>?_;obtain ⟨v,rfl,hR⟩:=he;exact ⟨(k v w'' hR).1,(k v w'' hR).2 hok hcl _ (ha.put _ (rX hd) v)⟩
theorem kJ {w:World}(h1:S1 w)(h:S w):GN S1 T S L w:=⟨h1,fun _=>h⟩
theorem Ui (t:Nat){w:World}(h1:S1 w)(h:(T.contains t && L.getD t false)=true):GN S1 T S L w:=⟨h1,fun ht=>by
 simp only [Dx,List.contains_eq_mem] at h;have:=ht t (by simpa using h.1);rw [this] at h;cases h.2⟩
theorem ZG (i:Nat){oi:Oper}{v:Value}(hi:ops[i]?=some oi)(hc:may ops T L i=true)(hw:uV ops f oi.guard=true)(hy:∀ w,S1 w->(execOp (ev f) oi).run P w=.ok (.value v) w)(hS:GN S1 T S L w)(k:tK P N ops S1 S T K n (L.setIfInBounds i true) (nU f oi.dst v) w):tK P N ops S1 S T K (n+1) L f w:=
 Il S1 i hi hc (fun _ _ _ _ h=>h.1) (.inl ⟨hw,hy⟩) hS k
theorem acH {i:Nat}{oi:Oper}{R:Value->World->Prop}(hi:ops[i]?=some oi)(hw:uV ops f oi.guard=true)(h:To P (ev f) oi w R)(k:∀ v w',R v w'->GN S1 T S (L.setIfInBounds i true) w'/\tK P N ops S1 S T K n (L.setIfInBounds i true) (nU f oi.dst v) w'):CS P N ops S1 S T K n L f w i:=by obtain ⟨v,w',h1,h2⟩:=h;exact wh hi hw h1 (k v w' h2).1 (k v w' h2).2
theorem ace {i:Nat}{oi:Oper}{R:World->Prop}(hi:ops[i]?=some oi)(hw:uV ops f oi.guard=true)(h:TV P (ev f) oi w R)(k:∀ w',R w'->GN S1 T S (L.setIfInBounds i true) w'/\tK P N ops S1 S T K n (L.setIfInBounds i true) (nU f oi.dst undef) w'):CS P N ops S1 S T K n L f w i:=by obtain ⟨w',h1,h2⟩:=h;exact adn hi hw h1 (k w' h2).1 (k w' h2).2
theorem mI (i:Nat)(l:List Nat)(hr:Region.ready .any ops L=i :: l)(h:∀ j ∈ i :: l,CS P N ops S1 S T K n L f w j):tK P N ops S1 S T K (n+1) L f w:=by
 unfold tK;intro hok hcl a ha;refine ⟨fun h0=>?_,fun j hj=>?_⟩
 · rw [hr] at h0;cases h0
 · have hcl':=hcl.step hj;rw [hr] at hj;have:=h j hj;unfold CS at this;exact this hok hcl' a ha
theorem lK:∀ i ∈ ([]:List Nat),CS P N ops S1 S T K n L f w i:=fun _ h=>by cases h
theorem jJ {i:Nat}{l:List Nat}(h:CS P N ops S1 S T K n L f w i)(k:∀ j ∈ l,CS P N ops S1 S T K n L f w j):∀ j ∈ i :: l,CS P N ops S1 S T K n L f w j:=fun j hj=>by
 rcases qK.1 hj with rfl | hj
 · exact h
 · exact k j hj
end
attribute [irreducible] tK CS
structure Rw where
 a:Option Addr
 c:Nat
 cs:List (List Value)
def Rw.hdr (r:Rw):List Value:=[.slice r.a r.cs.length r.c]
section
variable {α:Type}[Rp α]{F G:Nat->Prop}{w w':World}
def Bc (F:Nat→Prop)(w:World):List Rw→List (List α)→Prop
 | [],[]=>True
 | r :: R,l :: m=>xH F w r.cs l/\Bc F w R m
 | _,_=>False
theorem Bc.mv:∀ {R:List Rw}{m:List (List α)},Bc F w R m→Mv F G w w'→Bc G w' R m
 | [],[],_,_=>trivial
 | _ :: _,_ :: _,h,k=>⟨h.1.mv k,Bc.mv h.2 k⟩
 | [],_ :: _,h,_=>h.elim
 | _ :: _,[],h,_=>h.elim
theorem Bc.len:∀ {R:List Rw}{m:List (List α)},Bc F w R m→R.length=m.length
 | [],[],_=>rfl
 | _ :: _,_ :: _,h=>congrArg (·+1) (Bc.len h.2)
 | [],_ :: _,h=>h.elim
 | _ :: _,[],h=>h.elim
theorem Bc.get:∀ {R:List Rw}{m:List (List α)}{k:Nat}{x:List α},Bc F w R m→m[k]?=some x→∃ r,R[k]?=some r∧xH F w r.cs x
 | r :: _,_ :: _,0,x,h,hx=>by simp only [EW,DT] at hx;subst hx;exact ⟨r,rfl,h.1⟩
 | _ :: _,_ :: _,k+1,x,h,hx=>Bc.get (k:=k) h.2 (by simpa using hx)
 | [],[],_,_,_,hx=>by simp at hx
 | [],_ :: _,_,_,h,_=>h.elim
 | _ :: _,[],_,_,h,_=>h.elim
theorem Bc.set:∀ {R:List Rw}{m:List (List α)}(k:Nat){r:Rw}{x:List α},Bc F w R m→xH F w r.cs x→Bc F w (R.set k r) (m.set k x)
 | [],[],_,_,_,_,_=>trivial
 | _ :: _,_ :: _,0,_,_,h,k=>⟨k,h.2⟩
 | _ :: _,_ :: _,n+1,_,_,h,k=>⟨h.1,Bc.set n h.2 k⟩
 | [],_ :: _,_,_,_,h,_=>h.elim
 | _ :: _,[],_,_,_,h,_=>h.elim
theorem Bc.app:∀ {R:List Rw}{m:List (List α)}{S:List Rw}{n:List (List α)},Bc F w R m→Bc F w S n→Bc F w (R ++ S) (m ++ n)
 | [],[],_,_,_,k=>k
 | _ :: _,_ :: _,_,_,h,k=>⟨h.1,Bc.app h.2 k⟩
 | [],_ :: _,_,_,h,_=>h.elim
 | _ :: _,[],_,_,h,_=>h.elim
end
def Da.nV {α:Type}[Rp α](R:List Rw)(m:List (List α)):Da:=⟨fun F w=>Bc F w R m,Bc.mv⟩
theorem Own.same {w w':World}{base:Nat}{e:TypeId}{sz n c:Nat}{A:Option Addr}{xs:List Value}(h:Own w base e sz A n c xs)(k:∀ b,rowOf A=some b->w'.heap[b]?=w.heap[b]?):Own w' base e sz A n c xs:=by
 refine ⟨h.1,?_⟩;rcases h.2 with h1 | ⟨g,cap,cur,h3,h4,h5,h6⟩
 · exact .inl h1
 · refine .inr ⟨g,cap,cur,h3,h4,?_,h6⟩;injection h3 with h3 _ _;rw [k g (by rw [h3];rfl)];exact h5
def It.uU (base:Nat)(e:TypeId)(sz:Nat)(R:List Rw)(x:Option Nat):It where
 F k:=∃ (i:Nat)(r:Rw),R[i]?=some r/\some i≠x/\rowOf r.a=some k
 p w:=(∀ (i:Nat)(r:Rw),R[i]?=some r->some i≠x->Own w base e sz r.a r.cs.length r.c r.cs.flatten)/\∀ (i j:Nat)(r s:Rw)(b:Nat),R[i]?=some r->R[j]?=some s->some i≠x->some j≠x->rowOf r.a=some b->rowOf s.a=some b->i=j
 bd w h k hk:=by obtain ⟨i,r,h1,h2,h3⟩:=hk;exact ((h.1 i r h1 h2).row k h3).2
 st w w' h k hs:=⟨fun i r h1 h2=>Own.same (h.1 i r h1 h2) (fun b hb=>k b ⟨i,r,h1,h2,hb⟩),h.2⟩
section
variable {α:Type}[Rp α]{w0 w w':World}{Z G:Nat->Prop}{L Lr:List It}{D:List Da}{base e sz:Nat}{R:List Rw}{m:List (List α)}{k:Nat}{x:List α}
theorem Bx.d2 (h:Bx w0 w Z G L D)(j:Nat)(hj:D[j]?=some (.nV R m)):Bc (Ei w0 Z L) w R m:=h.d j hj
theorem Bx.Zn (h:Bx w0 w Z G (.uU base e sz R none :: Lr) D)(j:Nat)(hj:D[j]?=some (.nV R m))(hx:m[k]?=some x) :∃ a c cs,R[k]?=some ⟨a,c,cs⟩/\cs.length=x.length/\Bx w0 w Z G (.own base a c e sz cs :: .uU base e sz R (some k) :: Lr) (.els cs x :: D):=by
 obtain ⟨⟨a,c,cs⟩,hr,hE⟩:=(h.d2 j hj).get hx;have hf:=(h.it _ (Bn ..)).1;have hpw:=Aq.1 h.pw;refine ⟨a,c,cs,hr,hE.len,?_⟩;have h1:Bx w0 w Z G (.own base a c e sz cs :: .uU base e sz R (some k) :: Lr) D:=by
  refine h.step (X:=fun _=>False) ((Ext.refl w).EN _) (fun _ hx=>hx.elim) (fun it hi=>?_) (fun it hi b hb hl=>?_) (Aq.2 ⟨fun y hy b hb hc=>?_,Aq.2 ⟨fun y hy b hb=>?_,hpw.2⟩⟩)
  · rcases qK.1 hi with rfl | hi
    · exact hf.1 k _ hr (by simp)
    · rcases qK.1 hi with rfl | hi
      · exact ⟨fun i r h1 h2=>hf.1 i r h1 (by simp),fun i j r s b h1 h2 _ _ h3 h4=>hf.2 i j r s b h1 h2 (by simp) (by simp) h3 h4⟩
      · exact (h.it it (wI _ hi)).1
  · rcases qK.1 hi with rfl | hi
    · exact ⟨_,Bn ..,k,_,hr,by simp,hb⟩
    · rcases qK.1 hi with rfl | hi
      · obtain ⟨i,r,h1,h2,h3⟩:=hb;exact ⟨_,Bn ..,i,r,h1,by simp,h3⟩
      · exact ⟨it,wI _ hi,hb⟩
  · rcases qK.1 hy with rfl | hy
    · obtain ⟨i,r,h1,h2,h3⟩:=hc;have:=hf.2 i k r _ b h1 hr (by simp) (by simp) h3 hb;subst this;exact h2 rfl
    · exact hpw.1 y hy b ⟨k,_,hr,by simp,hb⟩ hc
  · obtain ⟨i,r,h1,h2,h3⟩:=hb;exact hpw.1 y hy b ⟨i,r,h1,by simp,h3⟩
 refine h1.kF (d:=.els cs x) ?_;obtain ⟨r',hr',hE'⟩:=(h1.d2 j hj).get hx;rw [hr] at hr';injection hr' with hr';subst hr';exact hE'
theorem Bx.unf {a:Option Addr}{c:Nat}{cs:List (List Value)}(h:Bx w0 w Z G (.own base a c e sz cs :: .uU base e sz R (some k) :: Lr) D)(j p:Nat)(hj:D[j]?=some (.nV R m))(hp:D[p]?=some (.els cs x)) :Bx w0 w Z G (.uU base e sz (R.set k ⟨a,c,cs⟩) none :: Lr) (D.set j (.nV (R.set k ⟨a,c,cs⟩) (m.set k x))):=by
 have ho:=(h.it _ (Bn ..)).1;have hf:=(h.it _ (wI _ (Bn ..))).1;have hpw:=Aq.1 h.pw;have hpw2:=Aq.1 hpw.2;have hget:∀ {i:Nat}{r:Rw},(R.set k ⟨a,c,cs⟩)[i]?=some r->i=k/\r=⟨a,c,cs⟩\/i≠k/\R[i]?=some r:=by
  intro i r hi;rw [List.getElem?_set] at hi;split at hi
  · rename_i hki;split at hi
    · injection hi with hi;exact .inl ⟨hki.symm,hi.symm⟩
    · cases hi
  · rename_i hki;exact .inr ⟨fun e=>hki e.symm,hi⟩
 have hap:∀ {i:Nat}{r:Rw}{b:Nat},i≠k->R[i]?=some r->rowOf r.a=some b->rowOf a≠some b:=fun {i r b} hne hi hb hc=>
  hpw.1 _ (Bn ..) b hc ⟨i,r,hi,by simpa using hne,hb⟩
 have h1:Bx w0 w Z G (.uU base e sz (R.set k ⟨a,c,cs⟩) none :: Lr) D:=by
  refine h.step (X:=fun _=>False) ((Ext.refl w).EN _) (fun _ hx=>hx.elim) (fun it hi=>?_) (fun it hi b hb hl=>?_) (Aq.2 ⟨fun y hy b hb=>?_,hpw2.2⟩)
  · rcases qK.1 hi with rfl | hi
    · refine ⟨fun i r h1 _=>?_,fun i j r s b h1 h2 _ _ h3 h4=>?_⟩
      · rcases hget h1 with ⟨_,rfl⟩|⟨hne,h1⟩
        · exact ho
        · exact hf.1 i r h1 (by simpa using hne)
      · rcases hget h1 with ⟨e1,er⟩|⟨hne,h1⟩
        · rcases hget h2 with ⟨e2,es⟩|⟨hne2,h2⟩
          · rw [e1,e2]
          · rw [er] at h3;exact absurd h3 (hap hne2 h2 h4)
        · rcases hget h2 with ⟨e2,es⟩|⟨hne2,h2⟩
          · rw [es] at h4;exact absurd h4 (hap hne h1 h3)
          · exact hf.2 i j r s b h1 h2 (by simpa using hne) (by simpa using hne2) h3 h4
    · exact (h.it it (wI _ (wI _ hi))).1
  · rcases qK.1 hi with rfl | hi
    · obtain ⟨i,r,h1,_,h3⟩:=hb;rcases hget h1 with ⟨rfl,rfl⟩|⟨hne,h1⟩
      · exact ⟨_,Bn ..,h3⟩
      · exact ⟨_,wI _ (Bn ..),i,r,h1,by simpa using hne,h3⟩
    · exact ⟨it,wI _ (wI _ hi),hb⟩
  · obtain ⟨i,r,h1,_,h3⟩:=hb;rcases hget h1 with ⟨rfl,rfl⟩|⟨hne,h1⟩
    · exact hpw.1 y (wI _ hy) b h3
    · exact hpw2.1 y hy b ⟨i,r,h1,by simpa using hne,h3⟩
 exact h1.Wm j (d:=.nV _ _) ((h1.d2 j hj).set k (h1.de p hp))
theorem Bx.hd (h:Bx w0 w Z G L D)(i:Nat){A:Option Addr}{c:Nat}{H H':List (List Value)}(hi:L[i]?=some (.own base A c e sz H))(hH:H=H'):Bx w0 w Z G (L.set i (.own base A c e sz H')) D:=by subst hH;exact h.put i hi ((Ext.refl w).EN _) (h.bo i hi) (fun k hk=>.inl hk)
theorem Zu {R:List Rw}{k:Nat}{a:Option Addr}{c:Nat}{cs cs':List (List Value)}(hr:R[k]?=some ⟨a,c,cs⟩)(hl:cs'.length=cs.length):R.map Rw.hdr=(R.set k ⟨a,c,cs'⟩).map Rw.hdr:=by
 refine List.ext_getElem? fun i=>?_;rw [BR,BR,List.getElem?_set];split
 · rename_i hki;subst hki;rw [hr];split
   · simp [Rw.hdr,hl]
   · have:=jU hr;omega
 · rfl
theorem adw {R:List Rw}{k:Nat}{a:Option Addr}{c n:Nat}{cs':List (List Value)}(hl:cs'.length=n):(R.map Rw.hdr).set k [.slice a n c]=(R.set k ⟨a,c,cs'⟩).map Rw.hdr:=by rw [List.map_set,Rw.hdr,hl]
theorem JA (R:List Rw):(R.map Rw.hdr).flatten=R.map fun r=>Value.slice r.a r.cs.length r.c:=by
 induction R with
 | nil=>rfl
 | cons r R ih=>rw [List.map_cons,Cv,ih];rfl
theorem Bx.hc (h:Bx w0 w Z G L D)(i:Nat){A a:Option Addr}{c' c n:Nat}{cs:List (List Value)}(hi:L[i]?=some (.own base A c' e (Rp.sz (List α)) (R.map Rw.hdr)))(hr:R[k]?=some ⟨a,c,cs⟩)(hn:cs.length=n):Cells w (nE A) (ow A+k * Rp.sz (List α)) [.slice a n c]:=by
 have ho:=h.bo i hi;have hk:=jU hr;obtain ⟨g,rfl⟩:=ho.VL (by simp;omega);rw [JA] at ho;intro j v hv;rcases j with _ | j
 · simp only [EW,DT] at hv;subst hv;show w.cell? ⟨g,0+k * 1+0,none⟩=_;rw [show 0+k * 1+0=k by omega];exact ho.cell (by rw [BR,hr];simp [hn])
 · simp at hv
theorem NC {P:Program}{w w1:World}{ρ:Operand->Value}{d:Option Nat}{ty:TypeId}{pos:String}{af:Array Edge}{g:Option (Nat × Bool)}{α:Type}[Rp α]{base et:Nat}{A:Option Addr}{c n:Nat}{R:List Rw}{r:Rw}{t e:TypeId}{x y:Operand}{kk:IntKind}{i:Int}{z:Value}{by_ k:Nat}(ht:P.underlying t=some (.slice e))(he:TI P e z (Rp.sz (List α)) by_)(hx:ρ x=.slice A n c)(hy:ρ y=.int kk i)(hi:i=(k:Int))(ho:Own w1 base et (Rp.sz (List α)) A (R.map Rw.hdr).length c (R.map Rw.hdr).flatten)(hr:R[k]?=some r)(hn:R.length=n):Yl P ρ (.indexAddr t x y) d ty pos af g w (.pointer (some ⟨nE A,ow A+k * Rp.sz (List α),none⟩)):=by have hk:=jU hr;obtain ⟨g0,rfl⟩:=ho.VL (by simp;omega);exact xIdx (P:=P) (w:=w) (d:=d) (ty:=ty) (pos:=pos) (af:=af) (g:=g) k ht he hx hy hi (by omega)
theorem ac8 {P:Program}{ρ:Operand->Value}{d:Option Nat}{ty:TypeId}{pos:String}{af:Array Edge}{g:Option (Nat × Bool)}(hL:Bx w0 w Z G L D)(i:Nat){t:TypeId}{x y:Operand}{z:Value}{by_:Nat}{A a:Option Addr}{c' c n:Nat}{r:Rw}(hi:L[i]?=some (.own base A c' e (Rp.sz (List α)) (R.map Rw.hdr)))(hr:R[k]?=some r)(ht:TI P t z 1 by_)(hx:ρ x=.pointer (some ⟨nE A,ow A+k * Rp.sz (List α),none⟩))(hy:ρ y=.slice a n c):TV P ρ ⟨d,.store t x y,ty,pos,af,g⟩ w fun w'=>Bx w0 w' Z G (L.set i (.own base A c' e (Rp.sz (List α)) ((R.map Rw.hdr).set k [.slice a n c]))) D:=by
 have ho:=hL.bo i hi;have hk:=jU hr;obtain ⟨g0,rfl⟩:=ho.VL (by simp;omega);have hx':ρ x=.pointer (some ⟨g0,k,none⟩):=by rw [hx];simp [nE,ow,Rp.sz]
 have hcell:w.cell? ⟨g0,k,none⟩=some (.slice r.a r.cs.length r.c):=ho.cell (by rw [JA,BR,hr];rfl);refine ⟨_,VB ht hx' hy rfl hcell (ho.frozen k),?_⟩;have h1:=ho.set k (.slice a n c);have hfl:(R.map Rw.hdr).flatten.set k (.slice a n c)=((R.map Rw.hdr).set k [.slice a n c]).flatten:=by
  clear hi ho hr hk hcell h1 hx hx'
  induction R generalizing k with
  | nil=>simp
  | cons q R ih=>
   cases k with
   | zero=>rw [List.map_cons,List.set_cons_zero,Cv,Cv];rfl
   | succ k=>
    rw [List.map_cons,List.set_cons_succ,Cv,Cv,<-ih];rfl
 rw [hfl] at h1;refine hL.Rm i hi h1 (by simp) rfl (Gu.setCell w g0 k _) (.inl rfl)
theorem ZQ {P:Program}{ρ:Operand->Value}{d:Option Nat}{ty:TypeId}{pos:String}{af:Array Edge}{g:Option (Nat × Bool)}{b1 e1:Nat}{t:TypeId}{s y:Operand}{z:Value}{by_:Nat}{A A':Option Addr}{c c' b' cy:Nat}{r:List (List α)}(q i j:Nat)(hL:Bx w0 w Z G L D)(hq:L[q]?=some (.own b1 A c e1 (Rp.sz (List α)) (R.map Rw.hdr)))(hi:L[i]?=some (.uU base e sz R none))(hqi:q≠i)(hj:D[j]?=some (.nV R m))(ht:P.underlying t=some (.slice e1))(hti:TI P e1 z (Rp.sz (List α)) by_)(hz:z.cells.size=Rp.sz (List α))(hb:by_<=100000)(hbase:b1<=w0.heap.size)(hs:ρ s=.slice A m.length c)(hx:ρ y=.slice A' 1 c'){iy:Nat}(hy:L[iy]?=some (.own b' A' cy e1 (Rp.sz (List α)) [[.slice none 0 0]]))(hr:Fw.app m [[]]=some r) :To P ρ ⟨d,.call { callee:=.builtin .append,args:=#[s,y],argTypes:=#[t,t] },ty,pos,af,g⟩ w fun v w'=>∃ A2 c2 R2,v=.slice A2 r.length c2/\Bx w0 w' Z G ((L.set q (.own b1 A2 c2 e1 (Rp.sz (List α)) (R2.map Rw.hdr))).set i (.uU base e sz R2 none)) (D.set j (.nV R2 r)):=by
 obtain ⟨hm,rfl⟩:=qG hr;have hE:=hL.d2 j hj;have ho:=hL.bo q hq;have hlen:(R.map Rw.hdr).length=m.length:=by rw [xR,hE.len]
 rw [hlen] at ho;have hbb:(m.length+1) * by_<=140737488355328:=q9 (Nat.mul_le_mul hm hb) (by decide);have hsl:=(hL.bo iy hy).sl;obtain ⟨v,w',h1,A2,c2,rfl,h2,h3,h4⟩:=QN (P:=P) (ρ:=ρ) (w:=w) (d:=d) (ty:=ty) (pos:=pos) (af:=af) (g:=g) b1 (m ++ [[]]).length ht hti hz (show 0 < 1 by decide) hs hx ho hsl (by simp [Value.oneCell']) (q9 hbase hL.rM.size) (by simp at hm;omega) hbb (by simp);refine ⟨_,w',h1,A2,c2,R ++ [⟨none,0,[]⟩],rfl,?_⟩;have hgetn:∀ {i:Nat}{r:Rw},(R ++ [(⟨none,0,[]⟩:Rw)])[i]?=some r->R[i]?=some r\/r=⟨none,0,[]⟩:=by
   intro i r hi;rw [List.getElem?_append] at hi;split at hi
   · exact .inl hi
   · right;rcases Nat.eq_zero_or_pos (i - R.length) with h0 | h0
     · rw [h0] at hi;simpa using hi.symm
     · rw [List.getElem?_eq_none (by simp;omega)] at hi;cases hi
 have h5:Bx w0 w Z G L (D.set j (.nV (R ++ [⟨none,0,[]⟩]) (m ++ [[]]))):=hL.Wm j (d:=.nV _ _) (hE.app ⟨lF,lF⟩);have h6:=h5.Rm (ds:=(R ++ [(⟨none,0,[]⟩:Rw)]).map Rw.hdr) q hq h2 (by rw [xR,Dk,Dk,hE.len];rfl) (by rw [List.map_append,List.flatten_append];rfl) h3 h4;have hi':(L.set q (.own b1 A2 c2 e1 (Rp.sz (List α)) ((R ++ [(⟨none,0,[]⟩:Rw)]).map Rw.hdr)))[i]?=some (.uU base e sz R none):=by rw [DZ hqi];exact hi
 have hfam:=h6.at i hi';refine h6.put i hi' ((Ext.refl w').EN _) ⟨fun i r h1 _=>?_,fun i j r s b h1 h2 _ _ h3 h4=>?_⟩ (fun b ⟨i,r,h1,_,h3⟩=>?_)
 · rcases hgetn h1 with h1 | rfl
   · exact hfam.1 i r h1 (by simp)
   · exact Own.nil w' base e sz
 · rcases hgetn h1 with h1 | rfl
   · rcases hgetn h2 with h2 | rfl
     · exact hfam.2 i j r s b h1 h2 (by simp) (by simp) h3 h4
     · cases h4
   · cases h3
 · rcases hgetn h1 with h1 | rfl
   · exact .inl ⟨i,r,h1,by simp,h3⟩
   · cases h3
theorem Xv {F:Nat->Prop}{A:Option Addr}{c b1 e1:Nat}(ho:Own w b1 e1 (Rp.sz (List α)) A (R.map Rw.hdr).length c (R.map Rw.hdr).flatten)(hf:(It.uU base e (Rp.sz α) R none).p w)(hE:Bc F w R m)(hA:∀ b,rowOf A=some b->F b)(hR:∀ b,(It.uU base e (Rp.sz α) R none).F b->F b):kX F w A c m:=by
 have hc:=ho.cap;rw [xR,hE.len] at hc;refine ⟨hc.1,hc.2,fun h0=>?_⟩;obtain ⟨g,rfl⟩:=ho.VL (by rw [xR,hE.len];exact h0);refine ⟨rfl,hA g rfl,(ho.row g rfl).2,fun i x hx=>?_⟩;obtain ⟨r,hr,hEx⟩:=hE.get hx;have hor:=hf.1 i r hr (by simp);refine ⟨[.slice r.a x.length r.c],fun j v hv=>?_,r.a,r.c,rfl,hor.ZK hEx fun b hb=>hR b ⟨i,r,hr,by simp,hb⟩⟩;rcases j with _ | j
 · simp only [EW,DT] at hv;subst hv;show w.cell? ⟨g,0+i * 1+0,none⟩=_;rw [show 0+i * 1+0=i by omega];exact ho.cell (by rw [JA,BR,hr];simp [hEx.len])
 · simp at hv
theorem Bx.vw2 (h:Bx w0 w Z G L D)(q i j:Nat){A:Option Addr}{c b1 e1:Nat}(hq:L[q]?=some (.own b1 A c e1 (Rp.sz (List α)) (R.map Rw.hdr)))(hi:L[i]?=some (.uU base e (Rp.sz α) R none))(hj:D[j]?=some (.nV R m)):kX (fun _=>True) w A c m:=
 Xv (h.bo q hq) (h.at i hi) ((h.d2 j hj).mv (.same fun _ _ _=>trivial)) (fun _ _=>trivial) (fun _ _=>trivial)
theorem Bx.adJ {A:Option Addr}{c e1:Nat}(h:Bx w0 w Z G (.own w0.heap.size A c e1 (Rp.sz (List α)) (R.map Rw.hdr) :: .uU w0.heap.size e (Rp.sz α) R none :: Lr) D)(j:Nat)(hj:D[j]?=some (.nV R m)):Bx w0 w Z G Lr (.l A c m :: D.eraseIdx j):=by
 have hpw:=Aq.1 h.pw;have hpw2:=Aq.1 hpw.2;have h1:Bx w0 w Z G Lr (D.eraseIdx j):=(h.tl.tl).NK fun d hd=>(List.eraseIdx_sublist D j).subset hd;have ho:=(h.it _ (Bn ..)).1;have hf:=(h.it _ (wI _ (Bn ..))).1;refine h1.kF (d:=.l A c m) (Xv ho hf ((h.tl.tl).d2 j hj) (fun b hb=>⟨fun hl=>?_,fun it hi=>hpw.1 it (wI _ hi) b hb⟩) (fun b hb=>⟨fun hl=>?_,fun it hi=>hpw2.1 it hi b hb⟩))
 · have:=(ho.row b hb).1;omega
 · obtain ⟨i,r,h1,h2,h3⟩:=hb;have:=((hf.1 i r h1 h2).row b h3).1;omega
end
theorem Pre.all {w:World}{Dc:List Da}(hD:∀ d ∈ Dc,d.ok (fun _=>True) w):Pre w (fun _=>True) [] Dc:={ it:=fun _ h=>(BS h).elim,z:=fun _ h=>(BS h).elim,pw:=List.Pairwise.nil,da:=hD }
theorem kX.all {α:Type}[Rp α]{F:Nat->Prop}{w:World}{a:Option Addr}{c:Nat}{l:List α}(h:kX F w a c l):kX (fun _=>True) w a c l:=h.mv (.same fun _ _ _=>trivial)
section
variable {α:Type}[Rp α]{w0 w w':World}{Z G:Nat->Prop}{L Lr:List It}{D:List Da}{base e sz:Nat}{R:List Rw}{m:List (List α)}{k:Nat}{x:List α}
theorem set_self {β:Type}{l:List β}{k:Nat}{x:β}(h:l[k]?=some x):l.set k x=l:=by
 refine List.ext_getElem? fun i=>?_;rw [List.getElem?_set];split
 · rename_i hki;subst hki;rw [h];split
   · rfl
   · have:=jU h;omega
 · rfl
theorem Bx.Zg {a:Option Addr}{c:Nat}{cs:List (List Value)}(h:Bx w0 w Z G (.own base a c e sz cs :: .uU base e sz R (some k) :: Lr) D)(j p:Nat)(hj:D[j]?=some (.nV R m))(hp:D[p]?=some (.els cs x))(hR:R[k]?=some ⟨a,c,cs⟩) :Bx w0 w Z G (.uU base e sz R none :: Lr) D:=by
 have h1:=h.unf j p hj hp;rw [set_self hR] at h1;have h2:Bx w0 w Z G (.uU base e sz R none :: Lr) D:=⟨h1.rM,h1.zg,h1.it,h1.pw,fun d hd=>by
  obtain ⟨i,hi⟩:=Ik hd;by_cases hij:i=j
  · subst hij;rw [hj] at hi;injection hi with hi;subst hi;have h3:=h.d2 i hj;exact h3.mv (.same fun b hb _=>⟨hb.1,fun it hit=>by
     rcases qK.1 hit with rfl | hit
     · intro hf;obtain ⟨q,r,h4,_,h5⟩:=hf;by_cases hqk:q=k
       · subst hqk;rw [hR] at h4;injection h4 with h4;subst h4;exact hb.2 _ (Bn ..) h5
       · exact hb.2 _ (wI _ (Bn ..)) ⟨q,r,h4,by simpa using hqk,h5⟩
     · exact hb.2 it (wI _ (wI _ hit))⟩)
  · refine h1.da d (wC (i:=i) ?_);rw [DZ (fun e=>hij e.symm)];exact hi⟩
 exact h2
theorem Bx.aas (h:Bx w0 w Z G L D)(α:Type)[Rp α](e1 e:TypeId):Bx w0 w Z G (.own w0.heap.size none 0 e1 (Rp.sz (List α)) (([]:List Rw).map Rw.hdr) :: .uU w0.heap.size e (Rp.sz α) [] none :: L) (.nV ([]:List Rw) ([]:List (List α)) :: D):=by have h1:Bx w0 w Z G (.uU w0.heap.size e (Rp.sz α) [] none :: L) D:=h.push (Ext.refl w) ⟨fun i r hi _=>by simp at hi,fun i j r s b hi=>by simp at hi⟩ (fun k ⟨i,r,hi,_⟩=>by simp at hi);exact (h1.owN e1 (Rp.sz (List α))).kF (d:=.nV [] []) lF
theorem kX.Uv {F:Nat->Prop}{a A:Option Addr}{c C:Nat}{l r:List α}{i j:Nat}(h:kX F w a c l)(hij:i<=j)(hj:j<=l.length)(hr:(l.drop i).take (j - i)=r)(hA:(if c=i then a else a.map (·.add (i * Rp.sz α)))=A)(hC:c - i=C):kX F w A C r:=by subst hr hA hC;exact h.part hij hj
end
section
variable {w0 w w':World}{Z G:Nat->Prop}{L:List It}{D:List Da}
theorem Ot {α:Type}(L:List α)(a b:List Nat):pick L (a ++ b)=pick L a ++ pick L b:=by
 induction a with
 | nil=>rfl
 | cons i a ih=>rw [List.cons_append,pick,pick,ih,Em]
theorem Bx.pr (h:Bx w0 w Z G L D)(i r d:List Nat)(hn:nodup (i ++ r)=true):Pre w (Ei w0 Z (pick L i ++ pick L r)) (pick L i) (pick D d):=by have h2:=(h.arr (i ++ r) hn).dp d;rw [Ot] at h2;exact h2.pre h2.da
theorem Bx.cl (h:Bx w0 w Z G L D)(i r:List Nat)(hn:nodup (i ++ r)=true){Lc L1:List It}{D1:List Da}(k:Bx w w' (Ei w0 Z (pick L i ++ pick L r)) (lH Lc) L1 D1)(e:pick L i=Lc):Bx w0 w' Z G (L1 ++ pick L r) (D1 ++ D):=by subst e;have h2:=h.arr (i ++ r) hn;rw [Ot] at h2;exact h2.call k
end
section
variable {P:Program}{N:Fz}{ops:Array Oper}{f:Fr}{w w0:World}{n:Nat}{K:KK}{Lb:Array Bool}{T:List Nat}{Z G:Nat->Prop}{L:List It}{D:List Da}{S1 S:World->Prop}
theorem OC {Q:Post}{i:Nat}(h:Bx w0 w Z G L D)(i1 d1 i2 d2 T:List Nat)(hm:P.follows .mixedOrders=true)(k:tK P N ops (fun u=>Bx w0 u Z G (pick L i1) (pick D d1)) (fun u=>Bx w0 u Z G (pick L i2) (pick D d2)) T ⟨Q.n,Q.p⟩ ops.size (Array.replicate ops.size false) f w.drew):WP P N (.region i ops true) Q f w:=
 ql _ _ T hm k
theorem qA {Q:Post}{i:Nat}(h:Bx w0 w Z G L D)(i1 d1 T:List Nat)(hm:P.follows .mixedOrders=true)(k:tK P N ops (fun u=>Bx w0 u Z G (pick L i1) (pick D d1)) (fun _=>True) T ⟨Q.n,Q.p⟩ ops.size (Array.replicate ops.size false) f w.drew):WP P N (.region i ops true) Q f w:=
 ql _ _ T hm k
theorem sF {w:World}(h:S1 w):GN S1 T (fun _=>True) Lb w:=⟨h,fun _=>trivial⟩
theorem tP (i:Nat){oi:Oper}{v:Value}(hi:ops[i]?=some oi)(hy:∀ w,(execOp (ev f) oi).run P w=.ok (.value v) w)(hS:GN S1 T S Lb w)
 (k:tK P N ops S1 S T K n (Lb.setIfInBounds i true) (nU f oi.dst v) w) (hw:uV ops f oi.guard=true:=by exact rfl) (hc:may ops T Lb i=true:=by kernel_rfl):tK P N ops S1 S T K (n+1) Lb f w:=YM i hi hc hw hy hS k
theorem tU (i:Nat){oi:Oper}{v:Value}(hi:ops[i]?=some oi)(hy:∀ w,S1 w→(execOp (ev f) oi).run P w=.ok (.value v) w)(hS:GN S1 T S Lb w)
 (k:tK P N ops S1 S T K n (Lb.setIfInBounds i true) (nU f oi.dst v) w) (hw:uV ops f oi.guard=true:=by exact rfl) (hc:may ops T Lb i=true:=by kernel_rfl):tK P N ops S1 S T K (n+1) Lb f w:=ZG i hi hc hw hy hS k
theorem tS (dp i:Nat){oi:Oper}{v:Value}(hi:ops[i]?=some oi)(hy:∀ w,S w→(execOp (ev f) oi).run P w=.ok (.value v) w)(hS:GN S1 T S Lb w)
 (k:tK P N ops S1 S T K n (Lb.setIfInBounds i true) (nU f oi.dst v) w) (hw:uV ops f oi.guard=true:=by exact rfl) (hc:may ops T Lb i=true:=by kernel_rfl) (hT:(T.all fun t=>Wi ops dp t i)=true:=by kernel_rfl):tK P N ops S1 S T K (n+1) Lb f w:=VR dp i hi hc hT hw hy hS k
end
abbrev Vi (n:Int):Value:=Value.int IntKind.i64 n
abbrev Vt (s:ByteArray):Value:=Value.string s
abbrev Pt (b:Nat):Value:=Value.pointer (some ⟨b,0,none⟩)
abbrev ad (b:Nat):Option Addr:=some ⟨b,0,none⟩
abbrev sn:Value:=Value.slice none 0 0
abbrev be:ByteArray:=ByteArray.empty
section
variable {P:Program}{N:Fz}{n R:Fr->World->Prop}{X:Nat->Fr->World->Prop}{V:Fr->List PanicEntry->World->Prop}{f:Fr}{w:World}
theorem Im {x y:Code}(h:WP P N x ⟨fun f w=>WP P N y ⟨n,X,R,V⟩ f w,X,R,V⟩ f w):WP P N (.seq x y) ⟨n,X,R,V⟩ f w:=adE h
theorem pG {i:Nat}{c:Code}(h:WP P N c ⟨n,fun j=>bif Nat.beq j i then n else X j,R,V⟩ f w):WP P N (.block i c) ⟨n,X,R,V⟩ f w:=Yx h
theorem qR {x:Code}(J:Fr->World->Prop)(h:∀ J':Fr->World->Prop,(∀ f w,J f w->J' f w)->WP P N x ⟨J',X,R,V⟩ f w)(k:∀ f w,J f w->n f w):WP P N x ⟨n,X,R,V⟩ f w:=
 wJ J (h J fun _ _ h=>h) k
theorem kK {c:Code}(I:Nat->Fr->World->Prop)(n0:Nat)(h0:I n0 f w)(hr:∀ n f w,I n f w->∀ J':Fr->World->Prop,(∀ m f w,m < n->I m f w->J' f w)->WP P N c ⟨J',X,R,V⟩ f w):WP P N (.loop c) ⟨n,X,R,V⟩ f w:=
 ZF I n0 h0 fun n f w h=>hr n f w h _ fun m f w hm hi=>⟨m,hm,hi⟩
theorem uS {i:Nat}(h:X i f w):WP P N (.exit i) ⟨n,X,R,V⟩ f w:=aax h
theorem kH (h:R f w):WP P N .ret ⟨n,X,R,V⟩ f w:=ada h
theorem YE {ρ:Operand->Value}{d:Option Nat}{ty:TypeId}{pos:String}{af:Array Edge}{g:Option (Nat × Bool)}{t t' e:TypeId}{x y:Operand}{a:Option Addr}{m c:Nat}(ht:P.underlying t=some (.slice e))(hx:ρ x=.slice a m c)(hy:ρ y=.slice none 0 0) :Yl P ρ (.binOp .eql t x y t') d ty pos af g w (.bool (decide (a=none))):=by
 have h:=Go.Lib.run_eql_slice_nil (P:=P) w t e a m c 0 0 ht;have e:a.isNone=decide (a=none):=by cases a <;> simp
 rw [e] at h;simp [Yl,execOp,hx,hy,eqGuard,h]
end
theorem kX.YK {α:Type}[Rp α]{F:Nat->Prop}{w:World}{a:Option Addr}{c:Nat}{l:List α}(h:kX F w a c l)(ha:a=none):l=[]:=by
 cases l with
 | nil=>rfl
 | cons x l=>have:=(h.2.2 (by simp)).1;rw [ha] at this;cases this
theorem Own.shr {w:World}{base:Nat}{e:TypeId}{sz n c:Nat}{A:Option Addr}{xs:List Value}(h:Own w base e sz A n c xs)(m:Nat)(hm:m<=n):Own w base e sz A m c (xs.take (m * sz)):=by
 refine ⟨by rw [yM,h.len];exact Nat.min_eq_left (Nat.mul_le_mul_right _ hm),?_⟩;rcases h.2 with ⟨h2,hn⟩|⟨b,cap,cur,h3,h4,h5,h6,h7,h8,h9⟩
 · subst hn;obtain rfl:m=0:=by omega
   exact .inl ⟨h2,rfl⟩
 · injection h3 with h3a h3b h3c;refine .inr ⟨b,cap,cur,by rw [h3a,h3c],h4,h5,by omega,h7,h8,?_⟩;rw [<-h9,List.take_take,Nat.min_eq_left (Nat.mul_le_mul_right _ hm)]
theorem xH.abY {α:Type}[Rp α]{F:Nat->Prop}{w:World}{cs:List (List Value)}{l:List α}(h:xH F w cs l)(m:Nat)(hm:m<=l.length):(cs.take m).flatten=cs.flatten.take (m * Rp.sz α):=by
 have h1:=(h.take m).Ur;rw [yM,Nat.min_eq_left hm] at h1;have h2:cs.flatten=(cs.take m).flatten ++ (cs.drop m).flatten:=by rw [<-List.flatten_append,List.take_append_drop]
 rw [<-h1,h2,List.take_append_of_le_length (oH _),List.take_length]
theorem Bx.shr {α:Type}[Rp α]{w0 w:World}{Z G:Nat->Prop}{L:List It}{D:List Da}(h:Bx w0 w Z G L D)(i j:Nat){base:Nat}{A:Option Addr}{c:Nat}{e:TypeId}{cs:List (List Value)}{l r:List α}{m:Nat}(hi:L[i]?=some (.own base A c e (Rp.sz α) cs))(hj:D[j]?=some (.els cs l))(hm:m<=l.length)(hr:(l.drop 0).take (m - 0)=r):Bx w0 w Z G (L.set i (.own base A c e (Rp.sz α) (cs.take m))) (D.set j (.els (cs.take m) r)):=by
 have he:=h.de j hj;have hr':l.take m=r:=by rw [<-hr,List.drop_zero,Nat.sub_zero]
 have h1:Bx w0 w Z G L (.els (cs.take m) r :: D):=h.kF (by rw [<-hr'];exact he.take m);have h2:Bx w0 w Z G L (D.set j (.els (cs.take m) r)):=h1.NK fun d hd=>by
  rcases EO hd with hd | hd
  · exact wI _ hd
  · rw [hd];exact Bn
 refine h2.put i hi ((Ext.refl w).EN _) ?_ (fun k hk=>.inl hk);have ho:=(h.bo i hi).shr m (by rw [he.len];exact hm);rw [<-he.abY m hm] at ho;have hl:(cs.take m).length=m:=by rw [yM,he.len,Nat.min_eq_left hm]
 show Own w base e (Rp.sz α) A (cs.take m).length c (cs.take m).flatten;rw [hl];exact ho
inductive Lf where
 | i (n:Int)
 | t (s:ByteArray)
 | b (x:Bool)
deriving DecidableEq
def Lf.v:Lf→Value
 | .i n=>.int .i64 n
 | .t s=>.string s
 | .b x=>.bool x
def Lf.k:Lf→Nat
 | .i _=>0
 | .t _=>1
 | .b _=>2
section
variable {P:Program}{w:World}{ρ:Operand->Value}{d:Option Nat}{ty:TypeId}{pos:String}{af:Array Edge}{g:Option (Nat × Bool)}
end
end Go.Fw
