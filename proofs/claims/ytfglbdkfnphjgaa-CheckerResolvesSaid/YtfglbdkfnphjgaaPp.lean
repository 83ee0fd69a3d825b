/- The parser of the specification answers for any list of tokens that ends with the end's token; what it answers, if there is no error, has the shape of a program. -/
import Derived.Test.YtfglbdkfnphjgaaLb
import Derived.Test.YtfglbdkfnphjgaaPt
set_option linter.unusedVariables false
set_option linter.unusedSimpArgs false
namespace Go.Proofs.Ytfglbdkfnphjgaa
open Go.RowKit Go.Fw
structure TL (l:List GToken):Prop where
 len:l.length≤5000
 last:∀ (k:Nat) (t:GToken),k+1=l.length→l[k]?=some t→t.Kind=0
 name:∀ (k:Nat) (t:GToken),l[k]?=some t→t.Kind=1→t.Text≠(⟨#[]⟩:ByteArray)
structure PS (S:GState):Prop where
 tl:TL S.l
 lo:0≤S.at_
 hi:S.at_ < S.l.length
structure Nx (S S':GState):Prop where
 l:S'.l=S.l
 lo:S.at_≤S'.at_
 hi:S'.at_ < S.l.length
 e:S'.e=0→S.e=0
theorem Nx.ps {S S':GState} (h:PS S) (k:Nx S S'):PS S':=⟨by rw [k.l];exact h.tl,by have:=h.lo;have:=k.lo;omega,by rw [k.l];exact k.hi⟩
theorem Nx.rfl' {S:GState} (h:PS S):Nx S S:=⟨rfl,Int.le_refl _,h.hi,id⟩
theorem Nx.trans {S S' S2:GState} (h:Nx S S') (k:Nx S' S2):Nx S S2:=⟨k.l.trans h.l,Int.le_trans h.lo k.lo,by rw [← h.l];exact k.hi,fun z=>h.e (k.e z)⟩
theorem Nx.step {S:GState} (h:PS S) (k:S.at_+1 < S.l.length):Nx S ⟨S.l,wr (S.at_+1),S.line,S.e⟩:=by
 have:=h.lo;have:=h.tl.len
 have hw:wr (S.at_+1)=S.at_+1:=wr_id (by omega) (by omega)
 exact ⟨rfl,by dsimp only;omega,by dsimp only;omega,id⟩
theorem PS.wr1 {S:GState} (h:PS S):wr (S.at_+1)=S.at_+1:=by
 have:=h.lo;have:=h.tl.len;have:=h.hi
 exact wr_id (by omega) (by omega)
theorem PS.more {S:GState} (h:PS S) {t:GToken} (ht:S.l[S.at_.toNat]?=some t) (hk:t.Kind≠0):S.at_+1 < S.l.length:=by
 have:=h.lo;have:=h.hi
 by_cases hc:S.at_.toNat+1=S.l.length
 · exact absurd (h.tl.last _ t hc ht) hk
 · omega
theorem t_fail {S:GState} {fu:Nat} {e:Int} (h:PS S) (he:e≠0):Tot (m_r03_fail fu S e) (fun S'=>Nx S S'∧S'.e≠0∧S'.at_=S.at_):=by
 unfold m_r03_fail
 refine .ite (fun c=>?_) (fun c=>?_)
 · refine .bd (.ix h.lo h.hi) fun t ht=>.mk ⟨⟨rfl,Int.le_refl _,h.hi,fun z=>absurd z he⟩,he,rfl⟩
 · exact .mk ⟨Nx.rfl' h,c,rfl⟩
theorem t_is {S:GState} {fu:Nat} {s:ByteArray} (h:PS S):Tot (m_r03_is fu S 0 s) (fun b=>b=true→S.at_+1 < S.l.length):=by
 unfold m_r03_is
 have hw:wr (S.at_+0)=S.at_:=by have:=h.lo;have:=h.hi;have:=h.tl.len;rw [Int.add_zero];exact wr_id (by omega) (by omega)
 rw [hw]
 refine .ite (fun c=>.mk fun z=>by cases z) (fun c=>?_)
 refine .bd (.ix h.lo h.hi) fun t ht=>?_
 refine .ite (fun c=>.mk fun _=>h.more ht (by omega)) (fun c=>?_)
 exact .ite (fun c=>.mk fun _=>h.more ht (by omega)) (fun c=>.mk fun z=>by cases z)
theorem t_is1 {S:GState} {fu:Nat} {s:ByteArray} (h:PS S):Tot (m_r03_is fu S 1 s) (fun b=>True):=by
 unfold m_r03_is
 rw [h.wr1]
 refine .ite (fun c=>.mk trivial) (fun c=>?_)
 have:=h.lo
 refine .bd (.ix (by omega) (by omega)) fun t ht=>?_
 refine .ite (fun c=>.mk trivial) (fun c=>?_)
 exact .ite (fun c=>.mk trivial) (fun c=>.mk trivial)
theorem t_kind {S:GState} {fu:Nat} {k:Int} (h:PS S):Tot (m_r03_kind fu S 0 k) (fun b=>∃ t,S.l[S.at_.toNat]?=some t∧(b=true→t.Kind=k)∧(t.Kind=k→b=true)∧(b=true→k≠0→S.at_+1 < S.l.length)):=by
 unfold m_r03_kind
 have hw:wr (S.at_+0)=S.at_:=by have:=h.lo;have:=h.hi;have:=h.tl.len;rw [Int.add_zero];exact wr_id (by omega) (by omega)
 rw [hw]
 refine .ite (fun c=>?_) (fun c=>absurd h.hi c)
 refine .bd (.ix h.lo h.hi) fun t ht=>.mk ⟨t,ht,fun z=>of_decide_eq_true z,fun z=>decide_eq_true z,fun z hk=>h.more ht (by have:=of_decide_eq_true z;omega)⟩
def Tk (S S':GState):Prop:=Nx S S'∧(S'.e=0→S'.at_=S.at_+1)
theorem t_take {S:GState} {fu:Nat} {s:ByteArray} (h:PS S):Tot (m_r03_take fu S s) (Tk S):=by
 unfold m_r03_take
 refine .ite (fun c=>.mk ⟨Nx.rfl' h,fun z=>absurd z c⟩) (fun c=>?_)
 refine .bd (t_is h) fun b hb=>?_
 refine .ite (fun d=>?_) (fun d=>?_)
 · refine .bd (t_fail h (by decide)) fun S' hS=>.mk ⟨hS.1,fun z=>absurd z hS.2.1⟩
 · exact .mk ⟨Nx.step h (hb (by simpa using d)),fun _=>h.wr1⟩
theorem t_name {S:GState} {fu:Nat} (h:PS S):Tot (m_r03_name fu S) (fun r=>pel r fun n S'=>Tk S S'∧(S'.e=0→n≠(⟨#[]⟩:ByteArray))∧(S.e=0→(∃ t,S.l[S.at_.toNat]?=some t∧t.Kind=1)→S'.e=0)):=by
 unfold m_r03_name
 refine .ite (fun c=>.mk ⟨⟨Nx.rfl' h,fun z=>absurd z c⟩,fun z=>absurd z c,fun z=>absurd z c⟩) (fun c=>?_)
 refine .bd (t_kind h) fun b hb=>?_
 obtain ⟨t,ht,hb1,hb3,hb2⟩:=hb
 refine .ite (fun d=>?_) (fun d=>?_)
 · refine .bd (t_fail h (by decide)) fun S' hS=>.mk ⟨⟨hS.1,fun z=>absurd z hS.2.1⟩,fun z=>absurd z hS.2.1,fun _ ⟨t2,ht2,hk⟩=>?_⟩
   rw [ht] at ht2
   obtain rfl:=Option.some.inj ht2
   rw [hb3 hk] at d
   cases d
 · have hw:wr (wr (S.at_+1) - 1)=S.at_:=by rw [h.wr1];have:=h.lo;have:=h.hi;have:=h.tl.len;rw [wr_id (by omega) (by omega)];omega
   rw [hw]
   refine .bd (.ix h.lo h.hi) fun t2 ht2=>.mk ⟨⟨Nx.step h (hb2 (by simpa using d) (by decide)),fun _=>h.wr1⟩,fun _=>?_,fun z _=>z⟩
   rw [ht] at ht2
   obtain rfl:=Option.some.inj ht2
   exact h.tl.name _ _ ht (hb1 (by simpa using d))
theorem t_names_L0 {fu:Nat} {O:List ByteArray × GState→Prop}:∀ (n:Nat) (out:List ByteArray) (S:GState),PS S→S.l.length+1≤n+S.at_→(S.e=0→(out.length:Int)≤S.at_)→
  Tot (m_r03_names_L0 fu n out S.l S.at_ S.line S.e) (LdP (fun r=>pel r fun o r=>pel r fun a r=>pel r fun b r=>pel r fun c d=>Nx S ⟨a,b,c,d⟩∧(d=0→(o.length:Int)≤b)) O)
 | 0,out,S,h,hn,ho=>by have:=h.hi;omega
 | n+1,out,S,h,hn,ho=>by
  rw [m_r03_names_L0]
  refine .ite (fun c=>?_) (fun c=>.go ⟨Nx.rfl' h,ho⟩)
  refine .bd (t_is h) fun b hb=>?_
  refine .ite (fun d=>?_) (fun d=>.go ⟨Nx.rfl' h,ho⟩)
  refine .bd (t_take h) fun S1 h1=>?_
  refine .bp (t_name (h1.1.ps h)) fun nm S2 h2=>?_
  have hl:=h.tl.len;have:=h.hi
  refine .bd (.app (by have:=ho c;simp only [List.length_cons,List.length_nil];omega)) fun r hr=>?_
  have k:=h1.1.trans h2.1.1
  by_cases z:S2.e=0
  · have z1:S1.at_=S.at_+1:=h1.2 (h2.1.1.e z)
    have z2:=h2.1.2 z
    refine (t_names_L0 (O:=O) n r S2 (k.ps h) (by rw [k.l];dsimp only;omega) fun _=>?_).imp fun v hv=>?_
    · subst hr;have:=ho c;simp only [List.length_append,List.length_cons,List.length_nil];omega
    · obtain v | v:=v
      · obtain ⟨o,a,b,c,d⟩:=v
        exact ⟨k.trans hv.1,hv.2⟩
      · exact hv
  · cases n with
    | zero=>have:S.at_≤S1.at_:=h1.1.lo;have:=h2.1.1.lo;omega
    | succ n=>
      rw [m_r03_names_L0,if_neg z]
      exact .go ⟨k,fun y=>absurd y z⟩
theorem t_names {fu:Nat} {S:GState} (h:PS S) (hf:S.l.length+1≤fu):Tot (m_r03_names fu S) (fun r=>pel r fun n S'=>Nx S S'∧(S'.e=0→n.length≤5000∧S.at_ < S'.at_)):=by
 unfold m_r03_names
 refine .bp (t_name h) fun n S1 h1=>?_
 have h2:=h1.1.1.ps h
 have h3:=h2.lo;have h4:=h.lo;have h5:=h2.tl.len
 refine .eo (t_names_L0 fu [n] S1 h2 (by rw [h1.1.1.l];omega) fun z=>?_) fun s hs=>?_
 · have:=h1.1.2 z;simp only [List.length_cons,List.length_nil];omega
 · refine .pp hs fun o r hs=>.pp hs fun a r hs=>.pp hs fun b r hs=>.pp hs fun c d hs=>.mk ⟨h1.1.1.trans hs.1,fun z=>?_⟩
   have k1:=hs.2 z;have k2:=hs.1.hi;have k3:=hs.1.lo
   have k4:=h1.1.2 (hs.1.e z)
   dsimp only at k2 k3 ⊢
   omega
theorem t_starts {fu:Nat} {S:GState} (h:PS S):Tot (m_r03_starts fu S) (fun b=>b=true→S.at_+1 < S.l.length):=by
 unfold m_r03_starts
 refine .bd (t_kind h) fun b ⟨t,ht,hb,_,hb2⟩=>.ite (fun c=>.mk fun _=>hb2 c (by decide)) fun c=>?_
 refine .bd (t_kind h) fun b ⟨t,ht,hb,_,hb2⟩=>.ite (fun c=>.mk fun _=>hb2 c (by decide)) fun c=>?_
 refine .bd (t_is h) fun b hb=>.ite (fun c=>.mk fun _=>hb c) fun c=>?_
 refine .bd (t_is h) fun b hb=>.ite (fun c=>.mk fun _=>hb c) fun c=>?_
 exact .bd (t_is h) fun b hb=>.mk hb
theorem t_level_L0 {fu:Nat} {S:GState} (h:PS S):∀ (l:List ByteArray) (k:Nat),k+l.length≤12→Tot (m_r03_level_L0 fu S l k) (LdP (fun _=>True) (fun r=>pel r fun n op=>S.at_+1 < S.l.length))
 | [],_,_=>.go trivial
 | u :: r,k,hk=>by
  rw [m_r03_level_L0]
  rw [List.length_cons] at hk
  refine .bd (t_is h) fun b hb=>.ite (fun c=>?_) fun c=>t_level_L0 h r (k+1) (by omega)
  refine .bd (.ix (by omega) (by simp only [List.length_cons,List.length_nil];omega)) fun e he=>.out (hb c)
theorem t_level {fu:Nat} {S:GState} (h:PS S):Tot (m_r03_level fu S) (fun r=>pel r fun n op=>n≠0→S.at_+1 < S.l.length):=by
 unfold m_r03_level
 refine .el (t_level_L0 h _ 0 (by decide)) (fun _ _=>.mk fun z=>absurd rfl z) fun o ho=>.mk ?_
 obtain ⟨n,op⟩:=o
 exact fun _=>ho
theorem t_call {fu:Nat} {S:GState} (h:PS S):Tot (m_r03_call fu S) (fun b=>b=true→∃ t,S.l[S.at_.toNat]?=some t∧t.Kind=1):=by
 unfold m_r03_call
 refine .bd (t_kind h) fun b ⟨t,ht,hb,_,hb2⟩=>.ite (fun c=>?_) fun c=>.mk fun z=>by cases z
 exact .bd (t_is1 h) fun b2 _=>.mk fun _=>⟨t,ht,hb c⟩
theorem t_begins_L0 {fu:Nat} {S:GState} (h:PS S):∀ (l:List ByteArray) (k:Nat),Tot (m_r03_begins_L0 fu S l k) (LdP (fun _=>True) (fun r=>S.at_+1 < S.l.length))
 | [],_=>.go trivial
 | u :: r,k=>by
  rw [m_r03_begins_L0]
  exact .bd (t_is h) fun b hb=>.ite (fun c=>.out (hb c)) fun c=>t_begins_L0 h r (k+1)
theorem t_begins {fu:Nat} {S:GState} (h:PS S):Tot (m_r03_begins fu S) (fun b=>b=true→S.at_+1 < S.l.length):=by
 unfold m_r03_begins
 refine .el (t_begins_L0 h _ 0) (fun _ _=>?_) fun o ho=>.mk fun _=>ho
 exact .bd (t_kind h) fun b ⟨t,ht,hb,_,hb2⟩=>.mk fun c=>hb2 c (by decide)
def EOk:Nat→GExpr→Prop
 | 0,_=>False
 | n+1,x=>x.Args.length≤5000∧∀ y ∈ x.Args,EOk n y
theorem EOk.mono:∀ {n m:Nat} {x:GExpr},EOk n x→n≤m→EOk m x
 | 0,_,_,h,_=>h.elim
 | n+1,0,_,h,k=>by omega
 | n+1,m+1,x,h,k=>⟨h.1,fun y hy=>EOk.mono (h.2 y hy) (by omega)⟩
theorem EOk.leaf {x:GExpr} (h:x.Args=[]):EOk 1 x:=⟨by rw [h];decide,fun y hy=>by rw [h] at hy;cases hy⟩
theorem EOk.two {n:Nat} {x y z:GExpr} (hx:EOk n x) (hy:EOk n y) (h:z.Args=[x,y]):EOk (n+1) z:=⟨by rw [h];exact (by decide:2≤5000),fun q hq=>by
 rw [h] at hq
 simp only [List.mem_cons,List.not_mem_nil,or_false] at hq
 rcases hq with rfl | rfl
 · exact hx
 · exact hy⟩
theorem EOk.one {n:Nat} {x z:GExpr} (hx:EOk n x) (h:z.Args=[x]):EOk (n+1) z:=⟨by rw [h];exact (by decide:1≤5000),fun q hq=>by
 rw [h] at hq
 simp only [List.mem_cons,List.not_mem_nil,or_false] at hq
 subst hq
 exact hx⟩
def EP (S:GState) (x:GExpr) (S':GState):Prop:=Nx S S'∧(S'.e=0→S.at_ < S'.at_∧∃ n:Nat,(n:Int)≤S'.at_ - S.at_∧EOk n x)
theorem EP.eta {S S1:GState} {x:GExpr} (h:EP S x S1):EP S ⟨x.Op,x.Number,x.Var,x.Name,x.Field,x.Args⟩ ⟨S1.l,S1.at_,S1.line,S1.e⟩:=by cases x;cases S1;exact h
def Texp (f:GState→Int→Int→Option (GExpr × GState)) (fu:Nat):Prop:=∀ S least nest,PS S→1≤least→least≤5→0≤nest→nest≤9→S.l.length+10 * (10 - nest)+(6 - least)≤(fu:Int)→Tot (f S least nest) (fun r=>pel r (EP S))
def Tun (f:GState→Int→Option (GExpr × GState)) (fu:Nat):Prop:=∀ S nest,PS S→0≤nest→nest≤9→S.l.length+10 * (10 - nest)≤(fu:Int)→Tot (f S nest) (fun r=>pel r (EP S))
def Ttg (f:GState→Int→Option (GExpr × GState)) (fu:Nat):Prop:=∀ S nest,PS S→0≤nest→nest≤8→S.l.length+10 * (10 - nest)≤(fu:Int)+1→Tot (f S nest) (fun r=>pel r fun x S'=>EP S x S'∧1≤x.Op∧x.Op≤3)
section
variable {fu:Nat} {f:GState→Int→Int→Option (GExpr × GState)} {g t:GState→Int→Option (GExpr × GState)}
theorem t_expr_L1 (hf:Texp f fu) {least nest:Int} (h1:1≤least) (h2:least≤5) (h3:0≤nest) (h4:nest≤9) {S0:GState} (h0:PS S0) (hb:S0.l.length+10 * (10 - nest)+(6 - least)≤(fu:Int)+1) :
  ∀ (n:Nat) (x:GExpr) (S:GState),S0.l.length+1≤n+S.at_→EP S0 ⟨x.Op,x.Number,x.Var,x.Name,x.Field,x.Args⟩ ⟨S.l,S.at_,S.line,S.e⟩→
  Tot (F_r03_expression_L1 fu f g t least nest n x.Op x.Number x.Var x.Name x.Field x.Args S.l S.at_ S.line S.e)
   (LdP (fun r=>pel r fun a r=>pel r fun b r=>pel r fun c r=>pel r fun d r=>pel r fun e r=>pel r fun f r=>pel r fun g r=>pel r fun h r=>pel r fun i j=>EP S0 ⟨a,b,c,d,e,f⟩ ⟨g,h,i,j⟩) (fun r=>pel r (EP S0)))
 | 0,x,S,hn,hx=>by have:=hx.1.hi;dsimp only at this;omega
 | n+1,x,S,hn,hx=>by
  rw [F_r03_expression_L1]
  have hS:=hx.1.ps h0
  refine .ite (fun c=>?_) (fun c=>.go hx)
  refine .ite (fun c2=>?_) (fun c=>.go hx)
  refine .bp (t_level hS) fun lv op hl=>?_
  refine .ite (fun d=>.out hx) (fun d=>?_)
  have hl:=hl (by omega)
  have hs:=Nx.step hS hl
  have hw:wr (least+1)=least+1:=wr_id (by omega) (by omega)
  rw [hw]
  refine .bp (hf _ _ _ (hs.ps hS) (by omega) (by omega) h3 h4 (by rw [hs.l,hx.1.l];omega)) fun y S1 hy=>?_
  have hx':EP S0 ⟨op,0,0,be,be,[⟨x.Op,x.Number,x.Var,x.Name,x.Field,x.Args⟩,y]⟩ S1:=by
   refine ⟨(hx.1.trans hs).trans hy.1,fun z=>?_⟩
   obtain ⟨a1,n1,a2,a3⟩:=hy.2 z
   obtain ⟨b1,n2,b2,b3⟩:=hx.2 c
   have hw:wr (S.at_+1)=S.at_+1:=hS.wr1
   dsimp only at a1 a2
   rw [hw] at a1 a2
   dsimp only at b1 b2
   exact ⟨by omega,max n1 n2+1,by omega,EOk.two (b3.mono (by omega)) (a3.mono (by omega)) rfl⟩
  refine .ite (fun c3=>.out hx') fun c3=>?_
  refine t_expr_L1 hf h1 h2 h3 h4 h0 hb n ⟨op,0,0,be,be,_⟩ S1 ?_ hx'
  have:=hy.1.lo
  have hw:wr (S.at_+1)=S.at_+1:=hS.wr1
  dsimp only at this
  omega
theorem t_expr (hf:Texp f fu) (hg:Tun g fu):Texp (F_r03_expression fu f g t) (fu+1):=by
 intro S least nest h h1 h2 h3 h4 hb
 unfold F_r03_expression
 have hA:Tot (F_r03_expression_J0 fu f g t S least nest) (LdP (fun r=>pel r fun a r=>pel r fun b r=>pel r fun c r=>pel r fun d r=>pel r fun e r=>pel r fun f r=>pel r fun g r=>pel r fun h r=>pel r fun i j=>EP S ⟨a,b,c,d,e,f⟩ ⟨g,h,i,j⟩) (fun r=>pel r (EP S))):=by
  unfold F_r03_expression_J0
  refine .ite (fun c=>?_) (fun c=>?_)
  · exact .bp (hg S nest h h3 h4 (by omega)) fun x S1 hx=>.go hx.eta
  · have hw:wr (least+1)=least+1:=wr_id (by omega) (by omega)
    rw [hw]
    exact .bp (hf S _ nest h (by omega) (by omega) h3 h4 (by omega)) fun x S1 hx=>.go hx.eta
 refine .eo hA fun s hs=>?_
 refine .pp hs fun a r hs=>.pp hs fun b r hs=>.pp hs fun c r hs=>.pp hs fun d r hs=>.pp hs fun e r hs=>.pp hs fun f' r hs=>.pp hs fun g' r hs=>.pp hs fun h' r hs=>.pp hs fun i j hs=>?_
 have:=h.lo;have:=hs.1.lo
 dsimp only at this
 refine .eo (t_expr_L1 hf h1 h2 h3 h4 h (by omega) fu ⟨a,b,c,d,e,f'⟩ ⟨g',h',i,j⟩ (by dsimp only;omega) hs) fun s hs=>?_
 exact .pp hs fun a r hs=>.pp hs fun b r hs=>.pp hs fun c r hs=>.pp hs fun d r hs=>.pp hs fun e r hs=>.pp hs fun f' r hs=>.pp hs fun g' r hs=>.pp hs fun h' r hs=>.pp hs fun i j hs=>.mk hs
theorem t_unary_L0 (hg:Tun g fu) {S:GState} {nest:Int} (h:PS S) (h3:0≤nest) (h4:nest≤8) (hb:S.l.length+10 * (9 - nest)≤(fu:Int)):∀ (l:List ByteArray) (k:Nat),
  Tot (F_r03_unary_L0 fu f g t S nest l k) (LdP (fun _=>True) (fun r=>pel r (EP S)))
 | [],_=>.go trivial
 | u :: r,k=>by
  rw [F_r03_unary_L0]
  refine .bd (t_is h) fun b hb2=>.ite (fun c=>?_) fun c=>t_unary_L0 hg h h3 h4 hb r (k+1)
  have hs:=Nx.step h (hb2 c)
  have hw:wr (nest+1)=nest+1:=wr_id (by omega) (by omega)
  rw [hw]
  refine .bp (hg _ _ (hs.ps h) (by omega) (by omega) (by dsimp only;omega)) fun x S1 hx=>.out ⟨hs.trans hx.1,fun z=>?_⟩
  obtain ⟨a1,n1,a2,a3⟩:=hx.2 z
  have hw:wr (S.at_+1)=S.at_+1:=h.wr1
  dsimp only at a1 a2
  rw [hw] at a1 a2
  exact ⟨by omega,n1+1,by omega,EOk.one a3 rfl⟩
theorem t_unary (hf:Texp f fu) (hg:Tun g fu) (ht:Ttg t fu):Tun (F_r03_unary fu f g t) (fu+1):=by
 intro S nest h h3 h4 hb
 unfold F_r03_unary
 refine .ite (fun c=>.mk ⟨Nx.rfl' h,fun z=>absurd z c⟩) fun c=>?_
 refine .bd (t_starts h) fun b hb2=>.ite (fun d=>?_) fun d=>?_
 · exact .bd (t_fail h (by decide)) fun S1 h1=>.mk ⟨h1.1,fun z=>absurd z h1.2.1⟩
 have hm:=hb2 (by simpa using d)
 have hs:=Nx.step h hm
 have hw:wr (S.at_+1)=S.at_+1:=h.wr1
 refine .ite (fun d=>?_) fun d=>?_
 · exact .bd (t_fail h (by decide)) fun S1 h1=>.mk ⟨h1.1,fun z=>absurd z h1.2.1⟩
 refine .eo (t_unary_L0 hg h h3 (by omega) (by omega) _ 0) fun _ _=>?_
 refine .bd (t_kind h) fun b _=>.ite (fun c2=>?_) fun c2=>?_
 · have hw2:wr (wr (S.at_+1) - 1)=S.at_:=by rw [hw];have:=h.lo;have:=h.hi;have:=h.tl.len;rw [wr_id (by omega) (by omega)];omega
   rw [hw2]
   refine .bd (.ix h.lo h.hi) fun e he=>.mk ⟨hs,fun _=>?_⟩
   dsimp only
   rw [hw]
   exact ⟨by omega,1,by omega,EOk.leaf rfl⟩
 refine .bd (t_is h) fun b _=>.ite (fun c3=>?_) fun c3=>?_
 · have hwn:wr (nest+1)=nest+1:=wr_id (by omega) (by omega)
   rw [hwn]
   refine .bp (hf _ _ _ (hs.ps h) (by decide) (by decide) (by omega) (by omega) (by dsimp only;omega)) fun x S1 hx=>?_
   refine .bd (t_take ((hs.trans hx.1).ps h)) fun S2 h2=>.mk ⟨(hs.trans hx.1).trans h2.1,fun z=>?_⟩
   obtain ⟨a1,n1,a2,a3⟩:=hx.2 (h2.1.e z)
   have:=h2.1.lo
   dsimp only at a1 a2
   rw [hw] at a1 a2
   exact ⟨by omega,n1,by omega,a3⟩
 · exact .bp (ht S nest h h3 (by omega) (by omega)) fun x S1 hx=>.mk hx.1
theorem t_target (hf:Texp f fu):Ttg (F_r03_target fu f g t) (fu+1):=by
 intro S nest h h3 h4 hb
 unfold F_r03_target
 refine .bp (t_name h) fun n S1 h1=>?_
 have hS1:=h1.1.1.ps h
 have hl:=h1.1.1.l
 have hw:S1.e=0→wr (S1.at_+1)=S1.at_+1:=fun _=>hS1.wr1
 have hJ:Tot (F_r03_target_J0 fu f g t n S1) (LdP (fun _=>True) (fun r=>pel r fun x S'=>EP S x S'∧1≤x.Op∧x.Op≤3)):=by
  unfold F_r03_target_J0
  refine .ite (fun c=>?_) fun c=>.go trivial
  refine .bd (t_is hS1) fun b hb2=>.ite (fun d=>?_) fun d=>.go trivial
  have hs:=Nx.step hS1 (hb2 d)
  refine .bp (t_name (hs.ps hS1)) fun n2 S2 h2=>.out ⟨⟨(h1.1.1.trans hs).trans h2.1.1,fun z=>?_⟩,by dsimp only;omega,by dsimp only;omega⟩
  have a1:=h1.1.2 c;have a2:=h2.1.1.lo
  dsimp only at a2
  rw [hw c] at a2
  exact ⟨by omega,1,by omega,EOk.leaf rfl⟩
 have hend:∀ x:GExpr,x.Args=[]→EP S x S1:=fun x hx=>⟨h1.1.1,fun z=>by have a1:=h1.1.2 z;exact ⟨by omega,1,by omega,EOk.leaf hx⟩⟩
 refine .eo hJ fun _ _=>?_
 refine .ite (fun c=>?_) fun c=>.mk ⟨hend _ rfl,by dsimp only;omega,by dsimp only;omega⟩
 refine .bd (t_is hS1) fun b hb2=>.ite (fun d=>?_) fun d=>.mk ⟨hend _ rfl,by dsimp only;omega,by dsimp only;omega⟩
 have hs:=Nx.step hS1 (hb2 d)
 have hwn:wr (nest+1)=nest+1:=wr_id (by omega) (by omega)
 rw [hwn]
 refine .bp (hf _ _ _ (hs.ps hS1) (by decide) (by decide) (by omega) (by omega) (by dsimp only;rw [hl];omega)) fun x S2 hx=>?_
 refine .bd (t_take ((hs.trans hx.1).ps hS1)) fun S3 h3=>.mk ⟨⟨(h1.1.1.trans (hs.trans hx.1)).trans h3.1,fun z=>?_⟩,by dsimp only;omega,by dsimp only;omega⟩
 obtain ⟨a1,n1,a2,a3⟩:=hx.2 (h3.1.e z)
 have a4:=h1.1.2 c;have a5:=h3.1.lo
 dsimp only at a1 a2
 rw [hw c] at a1 a2
 exact ⟨by omega,n1+1,by omega,EOk.one a3 rfl⟩
end
theorem t_exprs:∀ fu:Nat,Texp (m_r03_expression fu) fu∧Tun (m_r03_unary fu) fu∧Ttg (m_r03_target fu) fu
 | 0=>by
  refine ⟨fun S a b h _ _ _ _ hb=>?_,fun S b h _ _ hb=>?_,fun S b h _ _ hb=>?_⟩
  all_goals have:=h.hi;have:=h.lo;omega
 | fu+1=>⟨t_expr (t_exprs fu).1 (t_exprs fu).2.1,t_unary (t_exprs fu).1 (t_exprs fu).2.1 (t_exprs fu).2.2,t_target (t_exprs fu).1⟩
end Go.Proofs.Ytfglbdkfnphjgaa
