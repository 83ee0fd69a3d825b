/- Panics. Over any program. -/
import Derived.Test.YtfglbdkfnphjgaaGreatZ3
import Derived.Recover
import Derived.Test.YtfglbdkfnphjgaaGreatZ4
import Derived.Laws.StructEq
set_option linter.unusedVariables false
namespace Go.Fw
open Go.RowKit
def RP (R:Value→World→Prop) (V:List PanicEntry→World→Prop):Ending→World→Prop
 | .returned v,w=>R v w
 | .panicked c,w=>V c w
 | .outgrown,_=>False
def Pch (v:Value) (c:List PanicEntry):Prop:=∃ l:List PanicEntry,c=⟨v,false,false⟩ :: l/\∀ e ∈ l,e.goexit=false
theorem yw (v:Value):Pch v [⟨v,false,false⟩]:=⟨[],rfl,fun _ h=>by cases h⟩
section
variable {P:Program} {N:Fz} {ops:Array Oper} {K:KK} {rest:List Oper} {f:Fr} {w:World} {d:Option Nat} {op:Op} {ty:TypeId} {pos:String} {af:Array Edge}
theorem KE {w':World} {g:FuncId} {args:Array Value} {R:Value->World->Prop} {V:List PanicEntry->World->Prop} (h:(execOp (ev f) ⟨d,op,ty,pos,af,none⟩).run P w=.ok (.enter g args) w') (hc:Calls P g args w' (RP R V)) (kp:∀ c w'',V c w''->K.p f c w'') (k:∀ v w'',R v w''->oV P N ops K rest (nK f d v) w'') :oV P N ops K (⟨d,op,ty,pos,af,none⟩ :: rest) f w:=by
 unfold oV;intro hok a ha;have h1:=hok _ (List.mem_cons_self ..);refine wpList_plain rfl fun K' hK=>?_;unfold Oper.wp;rw [ha.xM,h];refine hc.mono fun e w'' he=>?_;cases e with
 | returned v=>
  have:=k v w'' he;unfold oV at this;exact hK _ _ (this (fun o ho=>hok o (List.mem_cons_of_mem _ ho)) _ (ha.put d (q8 h1) v))
 | panicked c=>exact ⟨f,ha,kp c w'' he⟩
 | outgrown=>exact he.elim
theorem VK {w':World} {v:Value} (h:(execOp (ev f) ⟨d,op,ty,pos,af,none⟩).run P w=.halt (.panic v) w') (kp:K.p f [⟨v,false,false⟩] w') :oV P N ops K (⟨d,op,ty,pos,af,none⟩ :: rest) f w:=by unfold oV;intro hok a ha;refine wpList_plain rfl fun K' hK=>?_;unfold Oper.wp;rw [ha.xM,h];exact ⟨f,ha,kp⟩
theorem Bg {x:Operand} {t:TypeId} {v:Value} (hx:ev f x=.iface t v) (kp:K.p f [⟨.iface t v,false,false⟩] w):oV P N ops K (⟨d,.panic x,ty,pos,af,none⟩ :: rest) f w:=
 VK (v:=.iface t v) (by simp [execOp,hx,Instr.panic,goPanic]) kp
end
section
variable {P:Program} {w:World} {ρ:Operand->Value} {d:Option Nat} {ty:TypeId} {pos:String} {af:Array Edge} {g:Option (Nat × Bool)}
def Rt (P:Program) (ρ:Operand->Value) (o:Oper) (w:World):Prop:=∃ w' v,(execOp ρ o).run P w=.halt (.panic (.iface P.rt.boundsError v)) w'/\(w'=w\/w'=w.drew)
theorem O9 {t e:TypeId} {x y:Operand} {n c:Nat} {k:IntKind} {i:Int} (ht:P.underlying t=some (.slice e)) {a:Option Addr} (hx:ρ x=.slice a n c) (hy:ρ y=.int k i) (hi:¬ (0<=i/\i < n)):Rt P ρ ⟨d,.indexAddr t x y,ty,pos,af,g⟩ w:=by
 have hb:∀ m:Int,∃ w' v,(boundsPanic (α:=Value) k i m .index).run P w=.halt (.panic (.iface P.rt.boundsError v)) w'/\(w'=w\/w'=w.drew):=fun m=>by
  unfold boundsPanic;by_cases h:(k != .u64 && decide (0<=i) && decide (i<=31))=true
  · refine ⟨w.drew,?_⟩;simp [h,runtimePanic,goPanic,Question.forced]
  · refine ⟨w,?_⟩;simp [h,runtimePanic,goPanic]
 have h2:(execOp ρ ⟨d,.indexAddr t x y,ty,pos,af,g⟩).run P w=((boundsPanic (α:=Value) k i (if a=none then 0 else n) .index).run P w).andThen fun v w=>.ok (.value v) w:=by
  cases a with
  | none=>simp [execOp,hx,hy,Instr.indexAt,run_underlying ht,asIntOf]
  | some a=>simp [execOp,hx,hy,Instr.indexAt,run_underlying ht,asIntOf,hi]
 obtain ⟨w',v,h3,h4⟩:=hb (if a=none then 0 else n);exact ⟨w',v,by rw [h2,h3];rfl,h4⟩
end
section
variable {P:Program} {N:Fz} {ops:Array Oper} {S1 S:World->Prop} {T:List Nat} {K:KK} {f:Fr} {w:World} {n:Nat} {L:Array Bool}
theorem Sc {i:Nat} {oi:Oper} {w':World} {g:FuncId} {args:Array Value} {R:Value->World->Prop} {V:List PanicEntry->World->Prop} (hi:ops[i]?=some oi) (hw:tX ops f oi.guard=true) (h:(execOp (ev f) oi).run P w=.ok (.enter g args) w') (hc:Calls P g args w' (RP R V)) (kp:∀ c w'',V c w''->∀ f,K.p f c w'') (k:∀ v w'',R v w''->E8 S1 T S (L.setIfInBounds i true) w''/\sH P N ops S1 S T K n (L.setIfInBounds i true) (nK f oi.dst v) w''):BU P N ops S1 S T K n L f w i:=by
 unfold BU;intro hok hcl a ha;have hd:vL N oi=true:=hok oi (by have:=Array.mem_of_getElem? hi;simpa using this);unfold wpOp;simp only [hi];rw [if_pos (by rw [uz ha];exact hw)];left;unfold Oper.wp;rw [ha.xM,h];refine hc.mono fun e w'' he=>?_;cases e with
 | returned v=>
  have h2:=(k v w'' he).2;unfold sH at h2;exact ⟨(k v w'' he).1,h2 hok hcl _ (ha.put _ (q8 hd) v)⟩
 | panicked c=>exact ⟨f,ha,kp c w'' he⟩
 | outgrown=>exact he.elim
theorem XU {i:Nat} {oi:Oper} {w':World} {v:Value} (hi:ops[i]?=some oi) (hw:tX ops f oi.guard=true) (h:(execOp (ev f) oi).run P w=.halt (.panic v) w') (kp:∀ f,K.p f [⟨v,false,false⟩] w'):BU P N ops S1 S T K n L f w i:=by unfold BU;intro hok hcl a ha;unfold wpOp;simp only [hi];rw [if_pos (by rw [uz ha];exact hw)];left;unfold Oper.wp;rw [ha.xM,h];exact ⟨f,ha,kp⟩
end
section
variable {P:Program} {N:Fz}
theorem wP {g:FuncId} {fn:Func} {c:Code} {args:Array Value} {w:World} {R:Value->World->Prop} {V:List PanicEntry->World->Prop} (hf:P.funcs[g]?=some fn) (hb:fn.body=some c) (h:WP P (fn.ntmps,[]) c ⟨Reads P fn R,fun _ _ _=>False,Reads P fn R,fun _ c w=>V c w⟩ (yP args) w) (hs:Nat.ble args.size fn.ntmps=true:=by exact rfl) (hok:D7 (fn.ntmps,[]) c=true:=by kernel_rfl):Calls P g args w (RP R V):=by
 have hs:=Nat.le_of_ble_eq_true hs;unfold WP at h;refine calls_of_wp hf hb (Code.wp_mono (fun e a w q=>?_) (h hok _ ⟨by simp;omega,fun t=>?_,rfl⟩))
 · cases e with
   | normal=>
     obtain ⟨f,h1,h2⟩:=q;unfold Reads at h2;obtain ⟨v,hv,hR⟩:=h2 a.tmps h1.get;exact ⟨h1.dfr,v,hv,hR⟩
   | ret=>
     obtain ⟨f,h1,h2⟩:=q;unfold Reads at h2;obtain ⟨v,hv,hR⟩:=h2 a.tmps h1.get;exact ⟨h1.dfr,v,hv,hR⟩
   | exit i=>obtain ⟨f,h1,h2⟩:=q;exact h2.elim
   | panic c=>obtain ⟨f,h1,h2⟩:=q;exact ⟨h1.dfr,h2⟩
   | _=>exact q.elim
 · unfold yP;simp only [Array.getD_eq_getD_getElem?];rw [Array.getElem?_append];split
   · rfl
   · rename_i hlt;rw [Array.getElem?_replicate];split
     · rw [Array.getElem?_eq_none (by omega)];rfl
     · rw [Array.getElem?_eq_none (by omega)]
theorem BQ {args:Array Value} {n:Nat} (hs:args.size<=n):DY (n,[]) (yP args) { tmps:=args ++ Array.replicate (n - args.size) undef,defers:=[] }:=by
 refine ⟨by simp;omega,fun t=>?_,rfl⟩;unfold yP;simp only [Array.getD_eq_getD_getElem?];rw [Array.getElem?_append];split
 · rfl
 · rename_i hlt;rw [Array.getElem?_replicate];split
   · rw [Array.getElem?_eq_none (by omega)];rfl
   · rw [Array.getElem?_eq_none (by omega)]
def NY (P:Program) (N:Fz) (c:Code) (Q:Exit->Act->World->Prop) (f:Fr) (w:World):Prop:=D7 N c=true->∀ a,DY N f a->c.wp P Q a w
theorem Vz {c:Code} {Q:Post} {Q':Exit->Act->World->Prop} {f:Fr} {w:World} (h:WP P N c Q f w) (k:∀ e a w,lift N Q e a w->Q' e a w):NY P N c Q' f w:=fun hok a ha=>by unfold WP at h;exact Code.wp_mono (fun e a w q=>k e a w q) (h hok a ha)
theorem Xj {x y:Code} {Q:Exit→Act→World→Prop} {X:Nat→Fr→World→Prop} {R:Fr→World→Prop} {V:Fr→List PanicEntry→World→Prop} {f:Fr} {w:World}
  (h:WP P N x ⟨fun f w=>NY P N y Q f w,X,R,V⟩ f w) (k:∀ e a w,lift N ⟨fun _ _=>False,X,R,V⟩ e a w->Q e a w):NY P N (.seq x y) Q f w:=fun hok a ha=>by
 unfold WP at h;simp only [D7,Bool.and_eq_true] at hok;refine wp_seq (Code.wp_mono (fun e a w q=>?_) (h hok.1 a ha));cases e with
 | normal=>obtain ⟨f,h1,h2⟩:=q;exact h2 hok.2 a h1
 | _=>exact k _ a w q
theorem zR {n:Nat} {d e:List Deferred}:∀ (c:Code),D7 (n,d) c=true→D7 (n,e) c=true
 | .region _ _ _,h=>h
 | .seq a b,h=>by simp only [D7,Bool.and_eq_true] at h ⊢;exact ⟨zR a h.1,zR b h.2⟩
 | .cond _ a b,h=>by simp only [D7,Bool.and_eq_true] at h ⊢;exact ⟨zR a h.1,zR b h.2⟩
 | .block _ c,h=>zR c h
 | .loop c,h=>zR c h
 | .scope c,h=>zR c h
 | .skip,_=>rfl
 | .ret,_=>rfl
 | .exit _,_=>rfl
 | .rangeFunc _ _ _ _,_=>rfl
 | .label _,_=>rfl
 | .goto _,_=>rfl
 | .refuse _,_=>rfl
theorem SV {i:Nat} {o1 o2:Oper} {y:Code} {Q:Exit→Act→World→Prop} {f:Fr} {w:World} {v:Value} {d:Deferred}
  (e1:(execOp (ev f) o1).run P w=.ok (.value v) w) (e2:(execOp (ev (nK f o1.dst v)) o2).run P w=.ok (.defer d) w)
  (k:NY P (N.1,d :: N.2) y Q (nK f o1.dst v) w) (h1:o1.guard=none:=by rfl) (h2:o2.guard=none:=by rfl) (h3:o2.dst=none:=by rfl) :
  NY P N (.seq (.region i #[o1,o2] false) y) Q f w:=fun hok a ha=>by
 simp only [D7,Bool.and_eq_true] at hok;have hd1:vL N o1=true:=by have:=hok.1;simp at this;exact this.1
 have hp:=ha.put o1.dst (q8 hd1) v;refine wp_seq (wp_region_lit (l:=[o1,o2]) ?_);refine wpList_plain h1 fun K1 hK1=>?_;unfold Oper.wp;rw [ha.xM,e1];refine hK1 _ _ (wpList_plain h2 fun K2 hK2=>?_);unfold Oper.wp;rw [hp.xM,e2];refine hK2 _ _ (wpList_nil ?_);rw [h3];refine k (zR y hok.2) _ ⟨hp.size,hp.get,?_⟩;show d :: (a.put o1.dst v).defers=d :: N.2;rw [hp.dfr]
theorem JB {g:FuncId} {fn:Func} {c:Code} {args:Array Value} {w:World} {R:Ending->World->Prop} (hf:P.funcs[g]?=some fn) (hb:fn.body=some c) (h:NY P (fn.ntmps,[]) c (bodyPostD P fn R) (yP args) w) (hs:Nat.ble args.size fn.ntmps=true:=by exact rfl) (hok:D7 (fn.ntmps,[]) c=true:=by kernel_rfl):Calls P g args w R:=
 calls_of_wp_defers hf hb (h hok _ (BQ (Nat.le_of_ble_eq_true hs)))
def BL:FrameMode→Value × FrameMode
 | .panicking (⟨v,false,false⟩ :: l)=>(v,.panicking (⟨v,true,false⟩ :: l))
 | m=>(.nilIface,m)
def RD (u:FrameMode) (R:World→Prop) (V:List PanicEntry→World→Prop):Ending→FrameMode→World→Prop
 | .returned _,u',w=>u'=u/\R w
 | .panicked c,u',w=>u'=u/\V c w
 | .outgrown,_,_=>False
theorem aa4 {i:Nat} {o:Oper} {Q:Exit->Act->List Frame->World->Prop} {a:Act} {c:Frame} {cs:List Frame} {w:World} (hg:o.guard=none) (he:(execOp a.eval o).run P w=.ok .recover w) (k:Q .normal (a.put o.dst (BL c.mode).1) ({ c with mode:=(BL c.mode).2 } :: cs) w):(Code.region i #[o] false).wpS P Q a (c :: cs) w:=by
 refine wpS_region ?_;show wpOpsS P #[o] Q [0] a (c :: cs) w;simp only [wpOpsS,List.getElem?_toArray,List.getElem?_cons_zero,Region.wanted,hg,if_true,he];have e:∀ m,c.mode=m->({ c with mode:=m }:Frame)=c:=fun m h=>by subst h;rfl
 cases hm:c.mode with
 | panicking l=>
  cases l with
  | nil=>simp only [recoverD,hm];rw [hm] at k;simp only [BL] at k;rw [e _ hm] at k;exact k
  | cons e l=>
   obtain ⟨v,r,g⟩:=e;cases r <;> cases g <;> simp only [recoverD,hm] <;> (rw [hm] at k;simp only [BL] at k;first | exact k | (rw [e _ hm] at k;exact k))
 | _=>simp only [recoverD,hm];rw [hm] at k;simp only [BL] at k;rw [e _ hm] at k;exact k
theorem Fh {g:FuncId} {fn:Func} {i:Nat} {o:Oper} {y:Code} {args:Array Value} {u:FrameMode} {w:World} {R:World->Prop} {V:List PanicEntry->World->Prop} (hf:P.funcs[g]?=some fn) (hb:fn.body=some (.seq (.region i #[o] false) y)) (hr:fn.results=#[]) (he:(execOp (ev (yP args)) o).run P w=.ok .recover w) (h:WP P (fn.ntmps,[]) y ⟨fun _ w=>R w,fun _ _ _=>False,fun _ w=>R w,fun _ c w=>V c w⟩ (nK (yP args) o.dst (BL u).1) w) (hg:o.guard=none:=by rfl) (hs:Nat.ble args.size fn.ntmps=true:=by exact rfl) (hok:D7 (fn.ntmps,[]) (.seq (.region i #[o] false) y)=true:=by kernel_rfl) :CallsD P g args u w (RD (BL u).2 R V):=by
 refine callsD_of_wpS hf hb fun c cs hu=>?_;subst hu;simp only [D7,Bool.and_eq_true] at hok;have ha:=BQ (Nat.le_of_ble_eq_true hs);have hd1:vL (fn.ntmps,[]) o=true:=by have:=hok.1;simp at this;exact this
 refine wpS_seq (aa4 hg (by rw [ha.xM];exact he) (wpS_of_wp ?_));unfold WP at h;refine Code.wp_mono (fun e a w q=>?_) (h hok.2 _ (ha.put o.dst (q8 hd1) _));cases e with
 | normal=>obtain ⟨f,h1,h2⟩:=q;exact ⟨h1.dfr,_,rfl,_,results_none hr _ P w,rfl,h2⟩
 | ret=>obtain ⟨f,h1,h2⟩:=q;exact ⟨h1.dfr,_,rfl,_,results_none hr _ P w,rfl,h2⟩
 | panic c=>obtain ⟨f,h1,h2⟩:=q;exact ⟨h1.dfr,_,rfl,rfl,h2⟩
 | exit i=>obtain ⟨f,h1,h2⟩:=q;exact h2.elim
 | _=>exact q.elim
theorem OG {g:FuncId} {fn:Func} {i:Nat} {o:Oper} {y z:Code} {args:Array Value} {u:FrameMode} {w:World} {R:World->Prop} {V:List PanicEntry->World->Prop} (hf:P.funcs[g]?=some fn) (hb:fn.body=some (.seq (.seq (.region i #[o] false) y) z)) (hr:fn.results=#[]) (he:(execOp (ev (yP args)) o).run P w=.ok .recover w) (h:WP P (fn.ntmps,[]) y ⟨fun f w=>WP P (fn.ntmps,[]) z ⟨fun _ w=>R w,fun _ _ _=>False,fun _ w=>R w,fun _ c w=>V c w⟩ f w,fun _ _ _=>False,fun _ w=>R w,fun _ c w=>V c w⟩ (nK (yP args) o.dst (BL u).1) w) (hg:o.guard=none:=by rfl) (hs:Nat.ble args.size fn.ntmps=true:=by exact rfl) (hok:D7 (fn.ntmps,[]) (.seq (.seq (.region i #[o] false) y) z)=true:=by kernel_rfl) :CallsD P g args u w (RD (BL u).2 R V):=by
 refine callsD_of_wpS hf hb fun c cs hu=>?_;subst hu;simp only [D7,Bool.and_eq_true] at hok;have ha:=BQ (Nat.le_of_ble_eq_true hs);have hd1:vL (fn.ntmps,[]) o=true:=by have:=hok.1.1;simp at this;exact this
 refine wpS_seq (wpS_seq (aa4 hg (by rw [ha.xM];exact he) (wpS_of_wp ?_)));unfold WP at h;have fin:∀ (e:Exit) (a:Act) (w:World),lift (fn.ntmps,[]) ⟨fun _ w=>R w,fun _ _ _=>False,fun _ w=>R w,fun _ c w=>V c w⟩ e a w->bodyPostS P fn c cs (RD (BL c.mode).2 R V) e a ({ c with mode:=(BL c.mode).2 } :: cs) w:=fun e a w q=>by
  cases e with
  | normal=>obtain ⟨f,h1,h2⟩:=q;exact ⟨h1.dfr,_,rfl,_,results_none hr _ P w,rfl,h2⟩
  | ret=>obtain ⟨f,h1,h2⟩:=q;exact ⟨h1.dfr,_,rfl,_,results_none hr _ P w,rfl,h2⟩
  | panic c=>obtain ⟨f,h1,h2⟩:=q;exact ⟨h1.dfr,_,rfl,rfl,h2⟩
  | exit i=>obtain ⟨f,h1,h2⟩:=q;exact h2.elim
  | _=>exact q.elim
 refine Code.wp_mono (fun e a w q=>?_) (h hok.1.2 _ (ha.put o.dst (q8 hd1) _));cases e with
 | normal=>
  obtain ⟨f,h1,h2⟩:=q;exact wpS_of_wp (Code.wp_mono (fun e a w q=>fin e a w q) (h2 hok.2 _ h1))
 | ret=>exact fin .ret a w q
 | panic c=>exact fin (.panic c) a w q
 | exit i=>obtain ⟨f,h1,h2⟩:=q;exact h2.elim
 | _=>exact q.elim
end
end Go.Fw
namespace Go.Proofs.YtfglbdkfnphjgaaGreat
open Go.RowKit Go.Fw Go.Proofs.Tryz
def F4 (f:BitVec 64->BitVec 64->BitVec 64) (a b:Int):Int:=wr (f (BitVec.ofInt 64 a) (BitVec.ofInt 64 b)).toNat
section
variable {P:Program} {w:World} {ρ:Operand->Value} {d:Option Nat} {ty:TypeId} {pos:String} {af:Array Edge} {g:Option (Nat × Bool)} {t t':TypeId} {x y:Operand} {a b:Int}
theorem YO (hx:ρ x=V a) (hy:ρ y=V b):Yl P ρ (.binOp .and t x y t') d ty pos af g w (V (F4 (· &&& ·) a b)):=by have h:Op.intBits .and .i64 a b=pure (V (F4 (· &&& ·) a b)):=rfl;simp [Yl,execOp,hx,hy,binOp,eqGuard,h]
theorem ab0 (hx:ρ x=V a) (hy:ρ y=V b):Yl P ρ (.binOp .or t x y t') d ty pos af g w (V (F4 (· ||| ·) a b)):=by have h:Op.intBits .or .i64 a b=pure (V (F4 (· ||| ·) a b)):=rfl;simp [Yl,execOp,hx,hy,binOp,eqGuard,h]
theorem aaW (hx:ρ x=V a) (hy:ρ y=V b):Yl P ρ (.binOp .xor t x y t') d ty pos af g w (V (F4 (· ^^^ ·) a b)):=by have h:Op.intBits .xor .i64 a b=pure (V (F4 (· ^^^ ·) a b)):=rfl;simp [Yl,execOp,hx,hy,binOp,eqGuard,h]
theorem ZH (hx:ρ x=V a):Yl P ρ (.unOp .neg t x) d ty pos af g w (V (wr (0 - a))):=by simp [Yl,execOp,hx,Op.unary,Op.intArith,wr]
theorem Kr {v:Value} (h:∃ D,P.underlying t=some D/\(match D with | .interface _=>false | _=>true)=true) (hx:ρ x=v):Yl P ρ (.makeInterface t x) d ty pos af g w (.iface t v):=by obtain ⟨D,h1,h2⟩:=h;cases D <;> simp_all [Yl,execOp,Instr.makeInterface,run_underlying h1]
end
section
variable {P:Program} {N:Fz} {ops:Array Oper} {K:KK} {rest:List Oper} {f:Fr} {w:World} {d:Option Nat} {ty:TypeId} {pos:String} {af:Array Edge}
theorem aaT {op:Op} {g:Nat × Bool} (h:tX ops f (some g)=true) (k:oV P N ops K (⟨d,op,ty,pos,af,none⟩ :: rest) f w):oV P N ops K (⟨d,op,ty,pos,af,some g⟩ :: rest) f w:=ku h k
theorem Z6 {op:Op} {g:Nat × Bool} (h:tX ops f (some g)=false) (k:oV P N ops K rest (nK f d undef) w):oV P N ops K (⟨d,op,ty,pos,af,some g⟩ :: rest) f w:=jK h k
theorem Zw {x:Operand} {p:Option Addr} (h:ev f x=.pointer p) (k:oV P N ops K rest (nK f d (.pointer p)) w):oV P N ops K (⟨d,.move x,ty,pos,af,none⟩ :: rest) f w:=jZ (nW h) k
theorem aaS {x:Operand} {n:Int} (h:ev f x=V n) (k:oV P N ops K rest (nK f d (V n)) w):oV P N ops K (⟨d,.move x,ty,pos,af,none⟩ :: rest) f w:=jZ (O3 h) k
theorem YI {x:Operand} {p:Option Addr} {n m:Nat} (h:ev f x=.slice p n m) (k:oV P N ops K rest (nK f d (.slice p n m)) w):oV P N ops K (⟨d,.move x,ty,pos,af,none⟩ :: rest) f w:=jZ (mH h) k
theorem Z5 {x:Operand} {b:Bool} (h:ev f x=.bool b) (k:oV P N ops K rest (nK f d (.bool b)) w):oV P N ops K (⟨d,.move x,ty,pos,af,none⟩ :: rest) f w:=jZ (kQ h) k
theorem aaC {x:Operand} {b:ByteArray} (h:ev f x=T b) (k:oV P N ops K rest (nK f d (T b)) w):oV P N ops K (⟨d,.move x,ty,pos,af,none⟩ :: rest) f w:=jZ (lF h) k
theorem aNl {x:Operand} {a:Addr} (h:ev f x=.pointer (some a)) (k:oV P N ops K rest (nK f d (.pointer (some a))) w):oV P N ops K (⟨d,.nilCheck x,ty,pos,af,none⟩ :: rest) f w:=jZ (XY h) k
theorem aaf {x:Operand} {n:Int} (h:ev f x=V n) (k:oV P N ops K rest (nK f d (V n)) w):oV P N ops K (⟨d,.assign x,ty,pos,af,none⟩ :: rest) f w:=jZ (IU h) k
theorem ZE {x:Operand} {b:Bool} (h:ev f x=.bool b) (k:oV P N ops K rest (nK f d (.bool b)) w):oV P N ops K (⟨d,.assign x,ty,pos,af,none⟩ :: rest) f w:=jZ (kr h) k
theorem aau {x:Operand} {p:Option Addr} {n m:Nat} (h:ev f x=.slice p n m) (k:oV P N ops K rest (nK f d (.slice p n m)) w):oV P N ops K (⟨d,.assign x,ty,pos,af,none⟩ :: rest) f w:=jZ (nk h) k
theorem abh {x:Operand} {p:Option Addr} (h:ev f x=.pointer p) (k:oV P N ops K rest (nK f d (.pointer p)) w):oV P N ops K (⟨d,.assign x,ty,pos,af,none⟩ :: rest) f w:=jZ (OQ h) k
theorem Zo {x:Operand} {b:ByteArray} (h:ev f x=T b) (k:oV P N ops K rest (nK f d (T b)) w):oV P N ops K (⟨d,.assign x,ty,pos,af,none⟩ :: rest) f w:=jZ (mP h) k
theorem Zg {t t':TypeId} {x y:Operand} {n m:Int} (h:ev f x=V n) (h2:ev f y=V m) (k:oV P N ops K rest (nK f d (.bool (decide (n=m)))) w):oV P N ops K (⟨d,.binOp .eql t x y t',ty,pos,af,none⟩ :: rest) f w:=jZ (kR h h2) k
theorem YD {t t':TypeId} {x y:Operand} {n m:Int} (h:ev f x=V n) (h2:ev f y=V m) (k:oV P N ops K rest (nK f d (.bool (decide (n≠m)))) w):oV P N ops K (⟨d,.binOp .neq t x y t',ty,pos,af,none⟩ :: rest) f w:=jZ (qE h h2) k
theorem ZN {t t':TypeId} {x y:Operand} {n m:Int} (h:ev f x=V n) (h2:ev f y=V m) (k:oV P N ops K rest (nK f d (.bool (decide (n < m)))) w):oV P N ops K (⟨d,.binOp .lss t x y t',ty,pos,af,none⟩ :: rest) f w:=jZ (qp h h2) k
theorem Zd {t t':TypeId} {x y:Operand} {n m:Int} (h:ev f x=V n) (h2:ev f y=V m) (k:oV P N ops K rest (nK f d (.bool (decide (n<=m)))) w):oV P N ops K (⟨d,.binOp .leq t x y t',ty,pos,af,none⟩ :: rest) f w:=jZ (Ja h h2) k
theorem YL {t t':TypeId} {x y:Operand} {n m:Int} (h:ev f x=V n) (h2:ev f y=V m) (k:oV P N ops K rest (nK f d (.bool (decide (m < n)))) w):oV P N ops K (⟨d,.binOp .gtr t x y t',ty,pos,af,none⟩ :: rest) f w:=jZ (uL h h2) k
theorem YU {t t':TypeId} {x y:Operand} {n m:Int} (h:ev f x=V n) (h2:ev f y=V m) (k:oV P N ops K rest (nK f d (.bool (decide (m<=n)))) w):oV P N ops K (⟨d,.binOp .geq t x y t',ty,pos,af,none⟩ :: rest) f w:=jZ (BF h h2) k
theorem aan {x:Operand} {i:Nat} {vs:Array Value} {v:Value} (h:ev f x=.tuple vs) (h2:vs[i]?=some v) (k:oV P N ops K rest (nK f d v) w):oV P N ops K (⟨d,.extract x i,ty,pos,af,none⟩ :: rest) f w:=jZ (kJ h h2) k
theorem abd {t t':TypeId} {x y:Operand} {n m:Int} (h:ev f x=V n) (h2:ev f y=V m) (k:oV P N ops K rest (nK f d (V (wr (n+m)))) w):oV P N ops K (⟨d,.binOp .add t x y t',ty,pos,af,none⟩ :: rest) f w:=jZ (kS h h2) k
theorem ZU {t t':TypeId} {x y:Operand} {n m:Int} (h:ev f x=V n) (h2:ev f y=V m) (k:oV P N ops K rest (nK f d (V (wr (n - m)))) w):oV P N ops K (⟨d,.binOp .sub t x y t',ty,pos,af,none⟩ :: rest) f w:=jZ (wm h h2) k
theorem Y0 {t t':TypeId} {x y:Operand} {n m:Int} (h:ev f x=V n) (h2:ev f y=V m) (k:oV P N ops K rest (nK f d (V (wr (n * m)))) w):oV P N ops K (⟨d,.binOp .mul t x y t',ty,pos,af,none⟩ :: rest) f w:=jZ (Vw h h2) k
theorem YM {t t':TypeId} {x y:Operand} {n m:Int} (h:ev f x=V n) (h2:ev f y=V m) (k:oV P N ops K rest (nK f d (V (F4 (· &&& ·) n m))) w):oV P N ops K (⟨d,.binOp .and t x y t',ty,pos,af,none⟩ :: rest) f w:=jZ (YO h h2) k
theorem aOr {t t':TypeId} {x y:Operand} {n m:Int} (h:ev f x=V n) (h2:ev f y=V m) (k:oV P N ops K rest (nK f d (V (F4 (· ||| ·) n m))) w):oV P N ops K (⟨d,.binOp .or t x y t',ty,pos,af,none⟩ :: rest) f w:=jZ (ab0 h h2) k
theorem ZX {t t':TypeId} {x y:Operand} {n m:Int} (h:ev f x=V n) (h2:ev f y=V m) (k:oV P N ops K rest (nK f d (V (F4 (· ^^^ ·) n m))) w):oV P N ops K (⟨d,.binOp .xor t x y t',ty,pos,af,none⟩ :: rest) f w:=jZ (aaW h h2) k
theorem Z0 {t:TypeId} {x:Operand} {n:Int} (h:ev f x=V n) (k:oV P N ops K rest (nK f d (V (wr (0 - n)))) w):oV P N ops K (⟨d,.unOp .neg t x,ty,pos,af,none⟩ :: rest) f w:=jZ (ZH h) k
theorem aav {c x y:Operand} {b:Bool} (h:ev f c=.bool true) (h2:ev f x=.bool b) (k:oV P N ops K rest (nK f d (.bool b)) w):oV P N ops K (⟨d,.pick c x y,ty,pos,af,none⟩ :: rest) f w:=jZ (kF h h2) k
theorem aai {c x y:Operand} {b:Bool} (h:ev f c=.bool false) (h2:ev f y=.bool b) (k:oV P N ops K rest (nK f d (.bool b)) w):oV P N ops K (⟨d,.pick c x y,ty,pos,af,none⟩ :: rest) f w:=jZ (jY h h2) k
theorem ZG {t:TypeId} {x:Operand} {b:Bool} (h:ev f x=.bool b) (k:oV P N ops K rest (nK f d (.bool (!b))) w):oV P N ops K (⟨d,.unOp .not t x,ty,pos,af,none⟩ :: rest) f w:=jZ (AV h) k
end
section
variable {P:Program} {N:Fz} {Q:Post} {f:Fr} {w:World}
theorem nS {c:Operand} {x y:Code} {p:Prop} [Decidable p] (hc:ev f c=.bool (decide p)) (ht:p->WP P N x Q f w) (hf:¬ p->WP P N y Q f w):WP P N (.cond c x y) Q f w:=
 if h:p then jM (hc.trans (bt h)) (ht h) else jJ (hc.trans (bf h)) (hf h)
end
theorem go {G R:Prop} (k:R) (h:R->G:=by
 intro k
 repeat (first
  | refine Gg ?_
  | refine zM ?_
  | refine Li ?_
  | refine FN ?_
  | refine o9 ?_
  | refine Zw rfl ?_
  | refine aaS rfl ?_
  | refine YI rfl ?_
  | refine Z5 rfl ?_
  | refine aaC rfl ?_
  | refine aNl rfl ?_
  | refine aaf rfl ?_
  | refine ZE rfl ?_
  | refine aau rfl ?_
  | refine abh rfl ?_
  | refine Zo rfl ?_
  | refine Zg rfl rfl ?_
  | refine YD rfl rfl ?_
  | refine ZN rfl rfl ?_
  | refine Zd rfl rfl ?_
  | refine YL rfl rfl ?_
  | refine YU rfl rfl ?_
  | refine aan rfl rfl ?_
  | refine abd rfl rfl ?_
  | refine ZU rfl rfl ?_
  | refine Y0 rfl rfl ?_
  | refine YM rfl rfl ?_
  | refine aOr rfl rfl ?_
  | refine ZX rfl rfl ?_
  | refine Z0 rfl ?_
  | refine aav rfl rfl ?_
  | refine aai rfl rfl ?_
  | refine ZG rfl ?_
  | refine aaT rfl ?_
  | refine Z6 rfl ?_
  | refine jM rfl ?_
  | refine jJ rfl ?_)
 exact k):G:=h k
def zT (b:Bool):Int:=if b then 1 else 0
theorem Ct {b:Bool} {w:World}:Calls prog 95 #[.bool b] w (pz fun v w'=>v=V (zT b)/\w'=w):=by
 refine cf func95 rfl ?_;refine lu [(0,.bool b)] ⟨rfl,trivial⟩ fun av=>?_;cases b with
 | true=>
  refine go ?_;refine kD ?_;exact jB rfl (kH rfl) ⟨rfl,rfl⟩
 | false=>
  refine go ?_;refine kD ?_;exact jB rfl (kH rfl) ⟨rfl,rfl⟩
section
variable {P:Program} {w:World} {ρ:Operand->Value} {d:Option Nat} {ty:TypeId} {pos:String} {af:Array Edge} {g:Option (Nat × Bool)} {t t':TypeId} {x y:Operand} {a b:Bool}
theorem abA (ht:P.underlying t=some .bool) (hx:ρ x=.bool a) (hy:ρ y=.bool b):Yl P ρ (.binOp .eql t x y t') d ty pos af g w (.bool (decide (a=b))):=by have h:=run_equalIn_bool' (P:=P) w (Op.maxDepth - 1) t a b ht;have hd:Op.maxDepth - 1+1=Op.maxDepth:=rfl;rw [hd] at h;simp [Yl,execOp,hx,hy,binOp,eqGuard,Op.equal,h];cases a <;> cases b <;> rfl
theorem abI (ht:P.underlying t=some .bool) (hx:ρ x=.bool a) (hy:ρ y=.bool b):Yl P ρ (.binOp .neq t x y t') d ty pos af g w (.bool (decide (¬ a=b))):=by have h:=run_equalIn_bool' (P:=P) w (Op.maxDepth - 1) t a b ht;have hd:Op.maxDepth - 1+1=Op.maxDepth:=rfl;rw [hd] at h;simp [Yl,execOp,hx,hy,binOp,eqGuard,Op.equal,h];cases a <;> cases b <;> rfl
end
def tbO (t:Nat):List Nat:=bif Nat.beq t 26 then [0,1] else bif Nat.beq t 30 then [0,2,3] else bif Nat.beq t 39 then [0,1,2,3] else bif Nat.beq t 43 then [0,1,2,3] else bif Nat.beq t 59 then [0] else bif Nat.beq t 62 then [0,1,2] else bif Nat.beq t 65 then [0,1,2] else bif Nat.beq t 69 then [0,4,5,6,7,8,9,10] else bif Nat.beq t 76 then [0,4,5,6,7,8,9,10,14] else bif Nat.beq t 84 then [0,1,2,3] else bif Nat.beq t 90 then [0,4,5,6,7] else bif Nat.beq t 95 then [0,1,2] else bif Nat.beq t 98 then [0,1,2,3,4,5,6] else bif Nat.beq t 103 then [0,1,2] else bif Nat.beq t 109 then [0,1,2,3] else bif Nat.beq t 115 then [0,1] else bif Nat.beq t 122 then [0,1,2,3,4,5,6,7,8,9,10,11,12] else bif Nat.beq t 129 then [0,1] else bif Nat.beq t 132 then [0,1,2,3,4,5,6,7,8] else bif Nat.beq t 135 then [0,1,2,3,4,5] else []
def gtO:List Nat→Nat→Option Nat
 | [],_=>none
 | a :: _,0=>some a
 | _ :: l,n+1=>gtO l n
def fT (t n:Nat):Option Nat:=gtO (tbO t) n
noncomputable def fo (t n:Nat):Option Nat:=match prog.underlying t with
 | some (.struct fs)=>match fs[n]? with
  | some f=>match prog.info? f.type with
   | some i=>bif i.zero.isSome && !Nat.beq i.size 0 then some f.offset else none
   | none=>none
  | none=>none
 | _=>none
def scB (t:Nat):Bool:=Nat.beq (Nat.mod (Nat.shiftRight 0x810000213000840c9200033019c00238 t) 2) 1
def slB (t:Nat):Bool:=Nat.beq (Nat.mod (Nat.shiftRight 0x100000000001000001000084089200013019c00000 t) 2) 1
noncomputable def okT:Bool:=(List.range 207).all fun t=>((List.range 16).all fun n=>(match fT t n with | none=>true | some j=>(match fo t n with | some i=>Nat.beq i j | none=>false))) && (!scB t || (match prog.underlying t with | some D=>!IQ D | none=>false)) && (!slB t || (match prog.underlying t with | some (.slice _)=>true | _=>false))
theorem ab9:okT=true:=by kernel_rfl
theorem Gl {t:Nat} (ht:Nat.blt t 207=true):(((List.range 16).all fun n=>(match fT t n with | none=>true | some j=>(match fo t n with | some i=>Nat.beq i j | none=>false))) && (!scB t || (match prog.underlying t with | some D=>!IQ D | none=>false)) && (!slB t || (match prog.underlying t with | some (.slice _)=>true | _=>false)))=true:=by have h:=ab9;unfold okT at h;exact List.all_eq_true.1 h t (List.mem_range.2 (by simpa using ht))
section
variable {N:Fz} {ops:Array Oper} {K:KK} {rest:List Oper} {f:Fr} {w:World} {d:Option Nat} {ty:TypeId} {pos:String} {af:Array Edge} {x:Operand} {b o t n j:Nat}
theorem gF (h:ev f x=.pointer (some ⟨b,o,none⟩)) (hj:fT t n=some j) (k:oV prog N ops K rest (nK f d (.pointer (some ⟨b,o+j,none⟩))) w) (ht:Nat.blt t 207=true:=by exact rfl) (hn:Nat.blt n 16=true:=by exact rfl):oV prog N ops K (⟨d,.fieldAddr t x n,ty,pos,af,none⟩ :: rest) f w:=by
 have h1:=Gl ht;simp only [Bool.and_eq_true] at h1;have h2:=List.all_eq_true.1 h1.1.1 n (List.mem_range.2 (by simpa using hn));rw [hj] at h2;dsimp only at h2;cases hf:fo t n with
 | none=>rw [hf] at h2;cases h2
 | some j'=>
  rw [hf] at h2;have hjj:j'=j:=Nat.eq_of_beq_eq_true h2;subst hjj;unfold fo at hf;cases hu:prog.underlying t with
  | none=>rw [hu] at hf;cases hf
  | some D=>
   rw [hu] at hf;cases D with
   | struct fs=>
    dsimp only at hf;cases hfs:fs[n]? with
    | none=>rw [hfs] at hf;cases hf
    | some fd=>
     rw [hfs] at hf;dsimp only at hf;cases hi:prog.info? fd.type with
     | none=>rw [hi] at hf;cases hf
     | some i=>
      rw [hi] at hf;dsimp only at hf;cases hz:i.zero with
      | none=>rw [hz] at hf;cases hf
      | some z=>
       rw [hz] at hf;cases hs:Nat.beq i.size 0 with
       | true=>rw [hs] at hf;cases hf
       | false=>
        rw [hs] at hf;have ho:fd.offset=j':=Option.some.inj hf;exact jZ (TW (k:=j') hu hfs ho ⟨i,hi,hz,rfl,rfl⟩ (fun e=>by rw [e] at hs;cases hs) h) k
   | _=>cases hf
theorem gL {t':TypeId} {cs:Array Value} {v:Value} (h:ev f x=.pointer (some ⟨b,o,none⟩)) (hb:nH w b t' cs) (hi:cs[o]?=some v) (hs:scB t=true) (k:oV prog N ops K rest (nK f d v) w) (ht:Nat.blt t 207=true:=by exact rfl):oV prog N ops K (⟨d,.load t x,ty,pos,af,none⟩ :: rest) f w:=by
 have h1:=Gl ht;simp only [Bool.and_eq_true] at h1;have h2:=h1.1.2;rw [hs,Bool.not_true,Bool.false_or] at h2;cases hu:prog.underlying t with
 | none=>rw [hu] at h2;cases h2
 | some D=>
  rw [hu] at h2;exact jZ (jS hu (by simpa using h2) h (hb.cell hi)) k
theorem gN {A:Option Addr} {m c:Nat} (h:ev f x=.slice A m c) (hs:slB t=true) (k:oV prog N ops K rest (nK f d (V (m:Int))) w) (ht:Nat.blt t 207=true:=by exact rfl):oV prog N ops K (⟨d,.call { callee:=.builtin .len,args:=#[x],argTypes:=#[t] },ty,pos,af,none⟩ :: rest) f w:=by
 have h1:=Gl ht;simp only [Bool.and_eq_true] at h1;have h2:=h1.2;rw [hs,Bool.not_true,Bool.false_or] at h2;cases hu:prog.underlying t with
 | none=>rw [hu] at h2;cases h2
 | some D=>
  rw [hu] at h2;cases D with
  | slice e=>exact jZ (lK hu h) k
  | _=>cases h2
end
theorem goC {w0 w:World} {Z G':Nat->Prop} {Lt:List It} {D:List Da} {G R:Prop} (e:Bx w0 w Z G' Lt D) (k:R) (h:Bx w0 w Z G' Lt D->R->G:=by
 intro e k
 repeat (first
  | refine Gg ?_
  | refine zM ?_
  | refine Li ?_
  | refine FN ?_
  | refine o9 ?_
  | refine Zw rfl ?_
  | refine aaS rfl ?_
  | refine YI rfl ?_
  | refine Z5 rfl ?_
  | refine aaC rfl ?_
  | refine aNl rfl ?_
  | refine aaf rfl ?_
  | refine ZE rfl ?_
  | refine aau rfl ?_
  | refine abh rfl ?_
  | refine Zo rfl ?_
  | refine Zg rfl rfl ?_
  | refine YD rfl rfl ?_
  | refine ZN rfl rfl ?_
  | refine Zd rfl rfl ?_
  | refine YL rfl rfl ?_
  | refine YU rfl rfl ?_
  | refine aan rfl rfl ?_
  | refine abd rfl rfl ?_
  | refine ZU rfl rfl ?_
  | refine Y0 rfl rfl ?_
  | refine YM rfl rfl ?_
  | refine aOr rfl rfl ?_
  | refine ZX rfl rfl ?_
  | refine Z0 rfl ?_
  | refine aav rfl rfl ?_
  | refine aai rfl rfl ?_
  | refine ZG rfl ?_
  | refine aaT rfl ?_
  | refine Z6 rfl ?_
  | refine jM rfl ?_
  | refine jJ rfl ?_
  | refine gF rfl rfl ?_
  | refine gN rfl rfl ?_
  | refine gL rfl (e.bk 0 rfl) rfl rfl ?_
  | refine gL rfl (e.bk 1 rfl) rfl rfl ?_
  | refine gL rfl (e.bk 2 rfl) rfl rfl ?_
  | refine gL rfl (e.bk 3 rfl) rfl rfl ?_
  | refine gL rfl (e.bk 4 rfl) rfl rfl ?_
  | refine gL rfl (e.bk 5 rfl) rfl rfl ?_
  | refine gL rfl (e.bk 6 rfl) rfl rfl ?_
  | refine gL rfl (e.bk 7 rfl) rfl rfl ?_
  | refine gL rfl (e.bk 8 rfl) rfl rfl ?_)
 exact k):G:=h e k
theorem Oc:TI prog 40 sn 1 24:=oq (by kernel_rfl)
theorem UN:TI prog 67 sn 1 24:=oq (by kernel_rfl)
theorem Yu:TI prog 93 sn 1 24:=oq (by kernel_rfl)
theorem abb:TI prog 66 (.pointer none) 1 8:=oq (by kernel_rfl)
theorem U3:TI prog 92 (.pointer none) 1 8:=oq (by kernel_rfl)
theorem Yq:TI prog 70 (V 0) 1 8:=oq (by kernel_rfl)
theorem abF:TI prog 71 (V 0) 1 8:=oq (by kernel_rfl)
section
variable {N:Fz} {ops:Array Oper} {K:KK} {rest:List Oper} {f:Fr} {w w0:World} {d:Option Nat} {ty:TypeId} {pos:String} {af:Array Edge} {x:Operand} {b o:Nat} {Z G:Nat->Prop} {Lt:List It} {D:List Da}
theorem WQ (h:ev f x=.pointer (some ⟨b,o,none⟩)) (k:oV prog N ops K rest (nK f d (.pointer (some ⟨b,o+1,none⟩))) w):oV prog N ops K (⟨d,.fieldAddr 95 x 1,ty,pos,af,none⟩ :: rest) f w:=jZ (TW (k:=1) underlying95 rfl rfl mV (by decide) h) k
theorem aL3 {t:TypeId} {cs:Array Value} {v:Value} (h:ev f x=.pointer (some ⟨b,o,none⟩)) (hb:nH w b t cs) (hi:cs[o]?=some v) (k:oV prog N ops K rest (nK f d v) w):oV prog N ops K (⟨d,.load 3 x,ty,pos,af,none⟩ :: rest) f w:=jZ (jS underlying3 rfl h (hb.cell hi)) k
theorem acz {t:TypeId} {cs:Array Value} {v:Value} (h:ev f x=.pointer (some ⟨b,o,none⟩)) (hb:nH w b t cs) (hi:cs[o]?=some v) (k:oV prog N ops K rest (nK f d v) w):oV prog N ops K (⟨d,.load 67 x,ty,pos,af,none⟩ :: rest) f w:=jZ (jS underlying67 rfl h (hb.cell hi)) k
theorem abC {t:TypeId} {cs:Array Value} {v:Value} (h:ev f x=.pointer (some ⟨b,o,none⟩)) (hb:nH w b t cs) (hi:cs[o]?=some v) (k:oV prog N ops K rest (nK f d v) w):oV prog N ops K (⟨d,.load 93 x,ty,pos,af,none⟩ :: rest) f w:=jZ (jS underlying93 rfl h (hb.cell hi)) k
theorem ab1 {A:Option Addr} {n c:Nat} (h:ev f x=.slice A n c) (k:oV prog N ops K rest (nK f d (V (n:Int))) w):oV prog N ops K (⟨d,.call { callee:=.builtin .len,args:=#[x],argTypes:=#[67] },ty,pos,af,none⟩ :: rest) f w:=jZ (lK underlying67 h) k
end
section
variable {ρ:Operand->Value} {w w0:World} {d:Option Nat} {ty:TypeId} {pos:String} {af:Array Edge} {g:Option (Nat × Bool)} {x:Operand} {b o:Nat}
theorem RQ:FB 95:=fb underlying95 rfl rfl mV
theorem SF:FA 95 1 1:=fa 1 1 underlying95 rfl rfl mV
theorem Ie:FA 95 2 2:=fa 2 2 underlying95 rfl rfl Yu
theorem X0:FB 69:=fb underlying69 rfl rfl wK
theorem Ig:FA 69 1 4:=fa 1 4 underlying69 rfl rfl UN
theorem Xp:FA 69 2 5:=fa 2 5 underlying69 rfl rfl mV
theorem XE:FA 69 3 6:=fa 3 6 underlying69 rfl rfl mV
theorem X8:FA 69 4 7:=fa 4 7 underlying69 rfl rfl mV
theorem XF:FA 69 5 8:=fa 5 8 underlying69 rfl rfl mV
theorem LG:FA 69 6 9:=fa 6 9 underlying69 rfl rfl Oc
theorem Kg:FA 69 7 10:=fa 7 10 underlying69 rfl rfl vW
theorem Qy:LA 40:=la Fv rfl
theorem E5:LA 66:=la underlying66 rfl
theorem Vq:LA 67:=la underlying67 rfl
theorem Uw:LA 93:=la underlying93 rfl
end
structure pQ where
 f:Int
 st:Int
 ws:List (List Int)
inductive Pn (α:Type) where
 | ok (a:α)
 | tV (v:Int)
 | err (e:Int)
 | rt
def Pn.el {α β:Type} (p:Pn α) (f:α->β) (g:∀ {γ:Type},Pn γ):β ⊕ Unit:=match p with | .ok a=>.inl (f a)|_=>.inr ()
def Pn.up {α β:Type}:Pn α→Pn β
 | .ok _=>.rt
 | .tV v=>.tV v
 | .err e=>.err e
 | .rt=>.rt
def Pn.then {α β:Type}:Pn α→(α→Option (Pn β))→Option (Pn β)
 | .ok a,f=>f a
 | .tV v,_=>some (.tV v)
 | .err e,_=>some (.err e)
 | .rt,_=>some .rt
def ix? {α:Type} (l:List α) (i:Int):Option α:=if i < 0 then none else l[i.toNat]?
def BG (op x y:Int):Pn Int:=if op=6 then .ok (wr (x+y)) else if op=7 then .ok (wr (x - y)) else if op=8 then .ok (wr (x * y)) else if op=9 then (if y=0 then .tV 1 else .ok (wr (x.tdiv y))) else if op=10 then (if y=0 then .tV 1 else .ok (x.tmod y)) else if op=11 then .ok (F4 (· &&& ·) x y) else if op=12 then .ok (F4 (· ||| ·) x y) else if op=13 then .ok (F4 (· ^^^ ·) x y) else if op=14 then .ok (zT (decide (x < y))) else if op=15 then .ok (zT (decide (x<=y))) else if op=16 then .ok (zT (decide (x=y))) else if op=17 then .ok (zT (decide (x≠y))) else .err 4
def M7 (ev:jA->Option (Pn Int)) (ws:List (List Int)) (e:jA):Option (Pn (Nat × Nat)):=
 match ix? ws e.g with
 | none=>some .rt
 | some l=>
  if e.e=2 then some (if 0<=e.d/\e.d < l.length then .ok (e.g.toNat,e.d.toNat) else .rt)
  else if e.e=3 then
   match e.a with
   | []=>some .rt
   | x :: _=>(ev x).bind fun p=>p.then fun i=>some (if i < 0\/(l.length:Int)<=i then .tV 2 else .ok (e.g.toNat,i.toNat))
  else some (if l=[] then .rt else .ok (e.g.toNat,0))
def T9 (ws:List (List Int)) (p:Nat × Nat):Int:=(ws.getD p.1 []).getD p.2 0
def setW (ws:List (List Int)) (p:Nat × Nat) (v:Int):List (List Int):=ws.set p.1 ((ws.getD p.1 []).set p.2 v)
def wu:Nat→List (List Int)→jA→Option (Pn Int)
 | 0,_,_=>none
 | fu+1,ws,e=>
  if e.e=0 then some (.ok e.d)
  else if e.e=1\/e.e=2\/e.e=3 then (M7 (wu fu ws) ws e).bind fun p=>p.then fun q=>some (.ok (T9 ws q))
  else if e.e=4 then match e.a with
   | []=>some .rt
   | x :: _=>(wu fu ws x).bind fun p=>p.then fun n=>some (.ok (wr (0 - n)))
  else if e.e=5 then match e.a with
   | []=>some .rt
   | x :: _=>(wu fu ws x).bind fun p=>p.then fun n=>some (.ok (zT (decide (n=0))))
  else match e.a with
   | []=>some .rt
   | x :: l=>(wu fu ws x).bind fun p=>p.then fun n=>match l with
    | []=>some .rt
    | y :: _=>(wu fu ws y).bind fun p=>p.then fun m=>some (BG e.e n m)
def yu (ev:jA→Option (Pn Int)):List jA→List Int→Option (Pn (List Int))
 | [],acc=>some (.ok acc)
 | x :: l,acc=>(ev x).bind fun p=>p.then fun n=>(app acc [n]).bind fun acc=>yu ev l acc
structure Sg where
 a:pQ
 hist:List ko
 out:List Int
def Qw (ws:List (List Int)):List Int→List qc→Option (List qc)
 | [],acc=>some acc
 | v :: l,acc=>(ix? ws v).bind fun r=>(app acc [(⟨v,List.replicate r.length true,r⟩:qc)]).bind fun acc=>Qw ws l acc
def XQ (vis:Int->Int->Option (List Int)) (g:pQ):Option ny:=(vis g.f g.st).bind fun l=>(Qw g.ws l []).bind fun vs=>some ⟨g.f,g.st,vs⟩
def Ui (vis:Int→Int→Option (List Int)):List pQ→List ny→Option (List ny)
 | [],acc=>some acc
 | g :: l,acc=>(XQ vis g).bind fun f=>(app acc [f]).bind fun acc=>Ui vis l acc
def event (vis:Int->Int->Option (List Int)) (steps:Nat) (rest:List pQ) (s:Sg) (id:Int):Option (Pn Unit × Sg):=if steps<=s.hist.length then some (.err 13,s) else (Ui vis ((⟨s.a.f,id,s.a.ws⟩:pQ) :: rest) []).bind fun fs=>some (.ok (),⟨⟨s.a.f,id,s.a.ws⟩,s.hist ++ [⟨fs⟩],s.out⟩)
abbrev Sm:=Sg->jI->Option (Pn (Option Int) × Sg)
def Dp (sm:Sm):Sg→List jI→Option (Pn (Option Int) × Sg)
 | s,[]=>some (.ok none,s)
 | s,x :: l=>(sm s x).bind fun (p,s)=>match p with
  | .ok none=>Dp sm s l
  | p=>some (p,s)
def Au:List jy→List (List Int)→Option (Pn (List (List Int)))
 | [],acc=>some (.ok acc)
 | v :: l,acc=>if v.a < 0\/8 < v.a then some (.err 4) else (app acc [List.replicate v.a.toNat 0]).bind fun acc=>Au l acc
def Cg:List Int→Nat→List (List Int)→Pn (List (List Int))
 | [],_,ws=>.ok ws
 | v :: l,i,ws=>match ws[i]? with
  | none=>.rt
  | some []=>.rt
  | some (_ :: r)=>Cg l (i+1) (ws.set i (v :: r))
def zC (sm:List pQ->Sm) (src:jL) (stk:List pQ) (f:Int) (args:List Int) (hist:List ko) (out:List Int):Option (Pn Int × List ko × List Int):=
 if 20<=stk.length then some (.err 5,hist,out)
 else match ix? src.c f with
  | none=>some (.rt,hist,out)
  | some vars=>(Au vars []).bind fun p=>match p with
   | .ok ws=>match Cg args 0 ws with
    | .ok ws=>match ix? src.a.b f with
     | none=>some (.rt,hist,out)
     | some fn=>(Dp (sm stk) ⟨⟨f,0,ws⟩,hist,out⟩ fn.e).bind fun (p,s)=>some (match p with | .ok r=>.ok (r.getD 0)|p=>p.up,s.hist,s.out)
    | p=>some (p.up,hist,out)
   | p=>some (p.up,hist,out)
def one (ev:jA->Option (Pn Int)) (l:List jA) (s:Sg) {β:Type} (k:Int->Option (Pn β × Sg)):Option (Pn β × Sg):=match l with
 | []=>some (.rt,s)
 | x :: _=>(ev x).bind fun p=>match p with
  | .ok n=>k n
  | p=>some (p.up,s)
def Uh (cond:Sg→Option (Pn Int)) (body:Sg→Option (Pn (Option Int) × Sg)) (ev:Sg→Option (Pn Unit × Sg)):Nat→Sg→Option (Pn (Option Int) × Sg)
 | 0,_=>none
 | n+1,s=>(cond s).bind fun p=>match p with
  | .ok v=>if v=0 then some (.ok none,s) else (body s).bind fun (p,s)=>match p with
   | .ok none=>(ev s).bind fun (p,s)=>match p with
    | .ok _=>Uh cond body ev n s
    | p=>some (p.up,s)
   | p=>some (p,s)
  | p=>some (p.up,s)
def I6 (ev:jA->Option (Pn Int)) (ws:List (List Int)) (l:List jA) (s:Sg) {β:Type} (k:Nat × Nat->Option (Pn β × Sg)):Option (Pn β × Sg):=match l with
 | []=>some (.rt,s)
 | x :: _=>(M7 ev ws x).bind fun p=>match p with
  | .ok n=>k n
  | p=>some (p.up,s)
def Tg (ev:jA→Option (Pn Int)):List jA→Option (Pn Int)
 | []=>some .rt
 | e :: _=>ev e
def wdA (ev:jA→Option (Pn Int)) (ws:List (List Int)):List jA→Option (Pn (Nat × Nat))
 | []=>some .rt
 | e :: _=>M7 ev ws e
def Dl (sm:List pQ->Sm) (src:jL) (rest:List pQ) (fu:Nat) (s:Sg) (x:jI) (k:Int->Sg->Option (Pn (Option Int) × Sg)):Option (Pn (Option Int) × Sg):=
 (yu (wu fu s.a.ws) x.a []).bind fun p=>match p with
  | .ok l=>(zC sm src (s.a :: rest) x.i l s.hist s.out).bind fun (p,h,o)=>match p with
   | .ok v=>k v { s with hist:=h,out:=o }
   | p=>some (p.up,{ s with hist:=h,out:=o })
  | p=>some (p.up,s)
def stM (vis:Int→Int→Option (List Int)) (src:jL) (steps:Nat):Nat→List pQ→Sm
 | 0,_,_,_=>none
 | fu+1,rest,s,x=>(event vis steps rest s x.n).bind fun (p,s)=>match p with
  | .ok _=>
   if x.c=1 then match ix? s.a.ws x.g with
    | none=>some (.rt,s)
    | some l=>some (.ok none,{ s with a:={ s.a with ws:=s.a.ws.set x.g.toNat (List.replicate l.length 0) } })
   else if x.c=2 then I6 (wu fu s.a.ws) s.a.ws x.d s fun q=>one (wu fu s.a.ws) x.a s fun v=>some (.ok none,{ s with a:={ s.a with ws:=setW s.a.ws q v } })
   else if x.c=3 then Dl (stM vis src steps fu) src rest fu s x fun v s=>if x.d.length=0 then some (.ok none,s) else I6 (wu fu s.a.ws) s.a.ws x.d s fun q=>some (.ok none,{ s with a:={ s.a with ws:=setW s.a.ws q v } })
   else if x.c=4 then one (wu fu s.a.ws) x.a s fun v=>Dp (stM vis src steps fu rest) s (if v≠0 then x.e else x.h)
   else if x.c=5 then Uh (fun s=>Tg (wu fu s.a.ws) x.a) (fun s=>Dp (stM vis src steps fu rest) s x.e) (fun s=>event vis steps rest s x.n) fu s
   else if x.c=6 then
    if x.j≠be then Dl (stM vis src steps fu) src rest fu s x fun v s=>some (.ok (some v),s)
    else one (wu fu s.a.ws) x.a s fun v=>some (.ok (some v),s)
   else if x.c=7 then one (wu fu s.a.ws) x.a s fun v=>some (.tV v,s)
   else if x.c=8 then (Dp (stM vis src steps fu rest) s x.e).bind fun (p,s)=>match p with
    | .tV v=>match ix? s.a.ws x.g with
     | none=>some (.rt,s)
     | some []=>some (.rt,s)
     | some (_ :: r)=>Dp (stM vis src steps fu rest) { s with a:={ s.a with ws:=s.a.ws.set x.g.toNat (v :: r) } } x.h
    | p=>some (p,s)
   else if x.c=9 then one (wu fu s.a.ws) x.a s fun v=>(app s.out [v]).bind fun o=>some (.ok none,{ s with out:=o })
   else if x.c=10 then some (.ok (some 0),s)
   else some (.ok none,s)
  | p=>some (p.up,s)
def window (hist:List ko) (from_ most:Nat):List ko:=(hist.drop from_).take most
def traceM (fu:Nat) (vis:Int->Int->Option (List Int)) (src:jL) (f:Int) (args:List Int) (steps from_ most:Int):Option (List ko × mO):=
 match ix? src.a.b f with
 | none=>some ([],⟨1,false,0,[]⟩)
 | some fn=>
  if args.length≠fn.a.length\/steps < 0\/5000 < steps\/from_ < 0\/most < 0\/100 < most then some ([],⟨1,false,0,[]⟩)
  else (zC (stM vis src steps.toNat fu) src [] f args [] []).bind fun (p,h,o)=>some (window h from_.toNat most.toNat,match p with
   | .ok v=>⟨0,false,v,o⟩
   | .tV v=>⟨0,true,v,o⟩
   | .err e=>⟨e,false,0,o⟩
   | .rt=>⟨4,false,0,o⟩)
end Go.Proofs.YtfglbdkfnphjgaaGreat
