/- Regions that draw their order: the operations that need no choice, taken by themselves; the same for regions in order, with more variables in view. -/
import Derived.Test.YtdkneekpdecjbaaGreatZ14
import Derived.Test.YtdkneekpdecjbaaGreatZ5
import Derived.Test.YtdkneekpdecjbaaGreatLa
set_option linter.unusedVariables false
namespace Go.Proofs.YtdkneekpdecjbaaGreat
open Go.RowKit Go.Fw Go.Proofs.Tryz
def TK:List Oper→Nat→Option Oper
 | a :: _,0=>some a
 | _ :: l,n+1=>TK l n
 | [],_=>none
theorem PI:∀ (l:List Oper)(i:Nat),TK l i=l[i]?
 | _ :: _,0=>rfl
 | _ :: l,i+1=>by rw [TK,PI l i];simp
 | [],_=>by simp [TK]
def pk (o:Oper):Bool:=match o.op with
 | .move _=>true
 | .nilCheck _=>true
 | .fieldAddr _ _ _=>true
 | .load _ _=>true
 | .assign _=>true
 | .binOp .add _ _ _ _=>true
 | .binOp .sub _ _ _ _=>true
 | .call c=>match c.callee with
  | .builtin .len=>true
  | _=>false
 | _=>false
def rdy (L:Array Bool)(i:Nat)(o:Oper):Bool:=!(L.getD i false) && o.after.toList.all fun e=>L.getD e.on false
def DS (P:Program)(N:Fz)(ops:Array Oper)(S1 S:World->Prop)(T:List Nat)(K:KK)(n:Nat)(L:Array Bool)(i:Nat)(oi:Oper)(f:Fr)(w:World):Prop:=ops[i]?=some oi->may ops T L i=true->oh P N ops S1 S T K n L f w
section
variable {N:Fz}{ops:Array Oper}{S1:World->Prop}{T:List Nat}{K:KK}{n:Nat}{Lb:Array Bool}{f:Fr}{w w0:World}{Z G:Nat->Prop}{L:List It}{D:List Da}
theorem Fg {Q:Post}{i:Nat}(b:Bx w0 w Z G L D)(T:List Nat)(k:Bx w0 w.drew Z G L D->oh prog N ops (fun _=>True) (fun u=>Bx w0 u Z G L D) T ⟨Q.n,Q.p⟩ ops.size (Array.replicate ops.size false) f w.drew)(hm:prog.follows .mixedOrders=true:=by kernel_rfl):WP prog N (.region i ops true) Q f w:=
 Oi _ _ T hm (k b.drew)
theorem wQ (i:Nat){S:World->Prop}{oi:Oper}(hi:TK ops.toList i=some oi)(k:DS prog N ops S1 S T K n Lb i oi f w)(hc:may ops T Lb i=true:=by kernel_rfl):oh prog N ops S1 S T K n Lb f w:=k (by rw [PI] at hi;simpa using hi) hc
theorem Bt (i:Nat){S:World->Prop}{oi:Oper}(hi:TK ops.toList i=some oi)(k:DS prog N ops S1 S T K n Lb i oi f w)(hq:(pk oi && rdy Lb i oi)=true:=by exact rfl)(hc:may ops T Lb i=true:=by kernel_rfl):oh prog N ops S1 S T K n Lb f w:=wQ i hi k hc
variable {S:World->Prop}{i:Nat}{d:Option Nat}{ty:TypeId}{pos:String}{af:Array Edge}{x y:Operand}{v:Value}
theorem dP {op:Op}(hy:∀ {w:World},Yl prog (ev f) op d ty pos af none w v)(hS:Cb S1 T S Lb w)(k:oh prog N ops S1 S T K n (Lb.setIfInBounds i true) (lq f d v) w):DS prog N ops S1 S T K (n+1) Lb i ⟨d,op,ty,pos,af,none⟩ f w:=
 fun hi hc=>Xn i hi hc rfl (fun _=>hy) hS k
theorem dU {op:Op}(hy:∀ {u:World},S u->Yl prog (ev f) op d ty pos af none u v)(hS:Cb S1 T S Lb w)(k:oh prog N ops S1 S T K n (Lb.setIfInBounds i true) (lq f d v) w)(hT:(T.all fun t=>Rm ops 20 t i)=true:=by kernel_rfl):DS prog N ops S1 S T K (n+1) Lb i ⟨d,op,ty,pos,af,none⟩ f w:=
 fun hi hc=>Sv 20 i hi hc hT rfl (fun _=>hy) hS k
theorem ab5 {p:Option Addr}(h:ev f x=.pointer p)(hS:Cb S1 T S Lb w)(k:oh prog N ops S1 S T K n (Lb.setIfInBounds i true) (lq f d (.pointer p)) w):DS prog N ops S1 S T K (n+1) Lb i ⟨d,.move x,ty,pos,af,none⟩ f w:=dP (Yo h) hS k
theorem acC {p:Int}(h:ev f x=V p)(hS:Cb S1 T S Lb w)(k:oh prog N ops S1 S T K n (Lb.setIfInBounds i true) (lq f d (V p)) w):DS prog N ops S1 S T K (n+1) Lb i ⟨d,.move x,ty,pos,af,none⟩ f w:=dP (X3 h) hS k
theorem acn {p:Bool}(h:ev f x=.bool p)(hS:Cb S1 T S Lb w)(k:oh prog N ops S1 S T K n (Lb.setIfInBounds i true) (lq f d (.bool p)) w):DS prog N ops S1 S T K (n+1) Lb i ⟨d,.move x,ty,pos,af,none⟩ f w:=dP (lD h) hS k
theorem adF {p:Option Addr}{a c:Nat}(h:ev f x=.slice p a c)(hS:Cb S1 T S Lb w)(k:oh prog N ops S1 S T K n (Lb.setIfInBounds i true) (lq f d (.slice p a c)) w):DS prog N ops S1 S T K (n+1) Lb i ⟨d,.move x,ty,pos,af,none⟩ f w:=dP (nY h) hS k
theorem abX {p:Option Addr}(h:ev f x=.pointer p)(hS:Cb S1 T S Lb w)(k:oh prog N ops S1 S T K n (Lb.setIfInBounds i true) (lq f d (.pointer p)) w):DS prog N ops S1 S T K (n+1) Lb i ⟨d,.assign x,ty,pos,af,none⟩ f w:=dP (Ul h) hS k
theorem adE {p:Int}(h:ev f x=V p)(hS:Cb S1 T S Lb w)(k:oh prog N ops S1 S T K n (Lb.setIfInBounds i true) (lq f d (V p)) w):DS prog N ops S1 S T K (n+1) Lb i ⟨d,.assign x,ty,pos,af,none⟩ f w:=dP (Wy h) hS k
theorem dNl {p:Addr}(h:ev f x=.pointer (some p))(hS:Cb S1 T S Lb w)(k:oh prog N ops S1 S T K n (Lb.setIfInBounds i true) (lq f d (.pointer (some p))) w):DS prog N ops S1 S T K (n+1) Lb i ⟨d,.nilCheck x,ty,pos,af,none⟩ f w:=dP (YO h) hS k
theorem adw {t t':TypeId}{p q:Int}(h:ev f x=V p)(h2:ev f y=V q)(hS:Cb S1 T S Lb w)(k:oh prog N ops S1 S T K n (Lb.setIfInBounds i true) (lq f d (V (wr (p+q)))) w):DS prog N ops S1 S T K (n+1) Lb i ⟨d,.binOp .add t x y t',ty,pos,af,none⟩ f w:=dP (kL h h2) hS k
theorem adR {t t':TypeId}{p q:Int}(h:ev f x=V p)(h2:ev f y=V q)(hS:Cb S1 T S Lb w)(k:oh prog N ops S1 S T K n (Lb.setIfInBounds i true) (lq f d (V (wr (p - q)))) w):DS prog N ops S1 S T K (n+1) Lb i ⟨d,.binOp .sub t x y t',ty,pos,af,none⟩ f w:=dP (zm h h2) hS k
theorem dF {t j m b o:Nat}(h:ev f x=.pointer (some ⟨b,o,none⟩))(hj:fT t m=some j)(hS:Cb S1 T S Lb w)(k:oh prog N ops S1 S T K n (Lb.setIfInBounds i true) (lq f d (.pointer (some ⟨b,o+j,none⟩))) w)(ht:Nat.blt t R3=true:=by exact rfl)(hn:Nat.blt m 16=true:=by exact rfl):DS prog N ops S1 S T K (n+1) Lb i ⟨d,.fieldAddr t x m,ty,pos,af,none⟩ f w:=dP (yF h hj ht hn) hS k
theorem dN {t m c:Nat}{A:Option Addr}(h:ev f x=.slice A m c)(hs:slB t=true)(hS:Cb S1 T S Lb w)(k:oh prog N ops S1 S T K n (Lb.setIfInBounds i true) (lq f d (V (m:Int))) w)(ht:Nat.blt t R3=true:=by exact rfl):DS prog N ops S1 S T K (n+1) Lb i ⟨d,.call { callee:=.builtin .len,args:=#[x],argTypes:=#[t] },ty,pos,af,none⟩ f w:=dP (yN h hs ht) hS k
theorem dLk (j:Nat){t t' b o:Nat}{cs:Array Value}(h:ev f x=.pointer (some ⟨b,o,none⟩))(hj:L[j]?=some (.box b t' cs))(hi:cs[o]?=some v)(hs:YM t=true)(hS:Cb S1 T (fun u=>Bx w0 u Z G L D) Lb w)(k:oh prog N ops S1 (fun u=>Bx w0 u Z G L D) T K n (Lb.setIfInBounds i true) (lq f d v) w)(ht:Nat.blt t R3=true:=by exact rfl)(hT:(T.all fun t=>Rm ops 20 t i)=true:=by kernel_rfl):DS prog N ops S1 (fun u=>Bx w0 u Z G L D) T K (n+1) Lb i ⟨d,.load t x,ty,pos,af,none⟩ f w:=
 dU (fun hu=>yL h (hu.bk j hj) hi hs ht) hS k hT
end
theorem Bj {w0 w:World}{Z G':Nat->Prop}{Lt:List It}{D:List Da}{G R:Prop}(e:Bx w0 w Z G' Lt D)(k:R) (h:Bx w0 w Z G' Lt D->R->G:=by
 intro e k
 repeat
  first
  | refine Bt 0 rfl ?_
  | refine Bt 1 rfl ?_
  | refine Bt 2 rfl ?_
  | refine Bt 3 rfl ?_
  | refine Bt 4 rfl ?_
  | refine Bt 5 rfl ?_
  | refine Bt 6 rfl ?_
  | refine Bt 7 rfl ?_
  | refine Bt 8 rfl ?_
  | refine Bt 9 rfl ?_
  | refine Bt 10 rfl ?_
  | refine Bt 11 rfl ?_
  | refine Bt 12 rfl ?_
  | refine Bt 13 rfl ?_
  | refine Bt 14 rfl ?_
  | refine Bt 15 rfl ?_
  | refine Bt 16 rfl ?_
  | refine Bt 17 rfl ?_
  | refine Bt 18 rfl ?_
  | refine Bt 19 rfl ?_
  | refine Bt 20 rfl ?_
  | refine Bt 21 rfl ?_
  | refine Bt 22 rfl ?_
  | refine Bt 23 rfl ?_
  first
  | refine ab5 rfl (jI kI e) ?_
  | refine acC rfl (jI kI e) ?_
  | refine dNl rfl (jI kI e) ?_
  | refine dF rfl rfl (jI kI e) ?_
  | refine dLk 0 rfl rfl rfl rfl (jI kI e) ?_
  | refine dLk 9 rfl rfl rfl rfl (jI kI e) ?_
  | refine dLk 10 rfl rfl rfl rfl (jI kI e) ?_
  | refine dLk 11 rfl rfl rfl rfl (jI kI e) ?_
  | refine dN rfl rfl (jI kI e) ?_
  | refine acn rfl (jI kI e) ?_
  | refine adF rfl (jI kI e) ?_
  | refine adw rfl rfl (jI kI e) ?_
  | refine adR rfl rfl (jI kI e) ?_
  | refine abX rfl (jI kI e) ?_
  | refine adE rfl (jI kI e) ?_
 exact k):G:=h e k
theorem jW {w0 w:World}{Z G':Nat->Prop}{Lt:List It}{D:List Da}{G R:Prop}(e:Bx w0 w Z G' Lt D)(k:R) (h:Bx w0 w Z G' Lt D->R->G:=by
 intro e k
 repeat (first
  | refine GD ?_
  | refine xW ?_
  | refine Nu ?_
  | refine QB ?_
  | refine pW ?_
  | refine abR rfl ?_
  | refine abN rfl ?_
  | refine abB rfl ?_
  | refine aaq rfl ?_
  | refine aat rfl ?_
  | refine aNl rfl ?_
  | refine Yw rfl ?_
  | refine abf rfl ?_
  | refine aaR rfl ?_
  | refine abM rfl ?_
  | refine ZL rfl ?_
  | refine aae rfl rfl ?_
  | refine aao rfl rfl ?_
  | refine aa1 rfl rfl ?_
  | refine aaj rfl rfl ?_
  | refine aaz rfl rfl ?_
  | refine aaM rfl rfl ?_
  | refine abD rfl rfl ?_
  | refine abo rfl rfl ?_
  | refine aad rfl rfl ?_
  | refine aaV rfl rfl ?_
  | refine Z9 rfl rfl ?_
  | refine aOr rfl rfl ?_
  | refine aar rfl rfl ?_
  | refine Z6 rfl ?_
  | refine aas rfl rfl ?_
  | refine aaP rfl rfl ?_
  | refine aaY rfl ?_
  | refine aaC rfl ?_
  | refine aaN rfl ?_
  | refine jK rfl ?_
  | refine jD rfl ?_
  | refine gF rfl rfl ?_
  | refine gN rfl rfl ?_
  | refine gL rfl (e.bk 0 rfl) rfl rfl ?_
  | refine gL rfl (e.bk 9 rfl) rfl rfl ?_
  | refine gL rfl (e.bk 10 rfl) rfl rfl ?_
  | refine gL rfl (e.bk 11 rfl) rfl rfl ?_
  | refine gL rfl (e.bk 11 rfl) rfl rfl ?_)
 exact k):G:=h e k
set_option maxRecDepth 4000
set_option maxHeartbeats 12800000
section
variable {N:Fz}{ops:Array Oper}{K:KK}{rest:List Oper}{f:Fr}{w:World}{d:Option Nat}{ty:TypeId}{pos:String}{af:Array Edge}{x y z:Operand}
theorem Xp {t:TypeId}{a:Option Addr}{n c:Nat}{i:Int}{t2:TypeId}(ht:prog.underlying t=some (.slice t2))(h1:ev f y=.slice a n c)(h2:ev f z=V i)(hi:¬ (0<=i/\i < n))(h:∀ u w',w'=w\/w'=w.drew->K.p f [⟨.iface prog.rt.boundsError u,false,false⟩] w'):oM prog N ops K (⟨d,.indexAddr t y z,ty,pos,af,none⟩ :: rest) f w:=by obtain ⟨w',v,hr,hw⟩:=SN (P:=prog) (w:=w) (d:=d) (ty:=ty) (pos:=pos) (af:=af) (g:=none) ht h1 h2 hi;exact ZH hr (h v w' hw)
theorem wK {S1 S:World->Prop}{T':List Nat}{n':Nat}{L:Array Bool}{i:Nat}{t t2:TypeId}{a:Option Addr}{n c:Nat}{iv:Int}(hi:ops[i]?=some ⟨d,.indexAddr t y z,ty,pos,af,none⟩)(ht:prog.underlying t=some (.slice t2))(h1:ev f y=.slice a n c)(h2:ev f z=V iv)(hb:¬ (0<=iv/\iv < n))(h:∀ u w',w'=w\/w'=w.drew->∀ f,K.p f [⟨.iface prog.rt.boundsError u,false,false⟩] w'):BD prog N ops S1 S T' K n' L f w i:=by obtain ⟨w',v,hr,hw⟩:=SN (P:=prog) (w:=w) (d:=d) (ty:=ty) (pos:=pos) (af:=af) (g:=none) ht h1 h2 hb;exact aa4 hi rfl hr (h v w' hw)
end
theorem ti4:TI prog 4 (.bool false) 1 1:=nU (by kernel_rfl)
theorem rR:TI prog 64 (.agg #[V 0,sn]) 2 32:=nU (by kernel_rfl)
theorem UL:TI prog 67 (.agg #[V 0,V 0,V 0,sn,V 0,sn,V 0,sn]) 8 112:=nU (by kernel_rfl)
theorem AU:TI prog 172 (.agg #[V 0,V 0]) 2 16:=nU (by kernel_rfl)
theorem acO:TI prog 168 sn 1 24:=nU (by kernel_rfl)
theorem adD:TI prog 88 sn 1 24:=nU (by kernel_rfl)
theorem Si:TI prog 111 (.pointer none) 1 8:=nU (by kernel_rfl)
theorem aem:TI prog 87 (.map none) 1 8:=nU (by kernel_rfl)
theorem Hf {ρ:Operand->Value}{w:World}{d:Option Nat}{ty:TypeId}{pos:String}{af:Array Edge}{g:Option (Nat × Bool)}{t e:TypeId}{x y:Operand}{A:Option Addr}{n c:Nat}{i:Int}{z:Value}{s by_:Nat}(j:Nat)(h5:A=some ⟨mX A,nW A,none⟩)(ht:prog.underlying t=some (.slice e))(he:TI prog e z s by_)(hx:ρ x=.slice A n c)(hy:ρ y=V i)(hi:i=(j:Int))(hj:j < n):Yl prog ρ (.indexAddr t x y) d ty pos af g w (.pointer (some ⟨mX A,nW A+j * s,none⟩)):=by rw [h5] at hx;exact xIdx j ht he hx hy hi hj
theorem Jz {w:World}{base:Nat}{e:TypeId}{sz n c:Nat}{A:Option Addr}{xs:List Value}(h:Go.Fw.Own w base e sz A n c xs)(hn:0 < n):A=some ⟨mX A,nW A,none⟩:=by obtain ⟨g,rfl⟩:=h.TW hn;rfl
theorem Wp {α:Type}{l:List α}{i:Int}{x:α}(h:ix? l i=some x):∃ k:Nat,i=(k:Int)/\l[k]?=some x:=by
 unfold ix? at h;split at h
 · cases h
 · exact ⟨i.toNat,by omega,h⟩
theorem qO {α:Type}{l:List α}{i:Int}(h:ix? l i=none):¬ (0<=i/\i < l.length):=by
 unfold ix? at h;split at h
 · omega
 · have:=List.getElem?_eq_none_iff.1 h;omega
section
variable {α:Type}{w w0:World}{Z G:Nat->Prop}{L:List It}{D:List Da}
theorem bno (b:Bx w0 w Z G L D):Bx w0 w Z G [] []:=b.ad [] []
theorem prt (b:Bx w0 w Z G L D)(u:Value)(w':World)(h:w'=w\/w'=w.drew):Pb (Lo.rt:Lo α) [⟨.iface prog.rt.boundsError u,false,false⟩]/\Bx w0 w' Z G [] []:=by
 refine ⟨⟨u,acI _⟩,?_⟩;rcases h with rfl | rfl
 · exact bno b
 · exact bno b.drew
theorem XH (b:Bx w0 w Z G L D):Pb (Lo.lim:Lo α) [⟨.iface 83 (.agg #[]),false,false⟩]/\Bx w0 w Z G [] []:=⟨acI _,bno b⟩
end
theorem XK {N:Fz}{ops:Array Oper}{K:KK}{rest:List Oper}{f:Fr}{w:World}{a b:Nat}{d:Option Nat}{ty ty2 ty3:TypeId}{pos pos2 pos3:String}{af af2 af3:Array Edge}(hab:(lq (lq f (some a) (.agg #[])) (some b) (.iface 83 (.agg #[]))) b=.iface 83 (.agg #[]))(kp:∀ f,K.p f [⟨.iface 83 (.agg #[]),false,false⟩] w):oM prog N ops K (⟨some a,.build 83 #[],ty,pos,af,none⟩ :: ⟨some b,.makeInterface 83 (.tmp a),ty2,pos2,af2,none⟩ :: ⟨d,.panic (.tmp b),ty3,pos3,af3,none⟩ :: rest) f w:=by
 have e:(Instr.build 83 #[]).run prog w=.ok (.agg #[]) w:=by kernel_rfl
 have h1:(execOp (ev f) ⟨some a,.build 83 #[],ty,pos,af,none⟩).run prog w=.ok (.value (.agg #[])) w:=by simp [execOp,e]
 refine kQ h1 ?_;refine kQ (aej (v:=.agg #[]) ⟨.struct #[],by kernel_rfl,rfl⟩ ?_) ?_
 · show lq f (some a) (.agg #[]) a=_;simp [lq,upd]
 exact aaL hab (kp _)
theorem FP:∀ {bl:List nk}{R:List Rw}{T:List (List Value)},R.length=bl.length→T.length=bl.length→(nV bl R T).length=bl.length
 | [],_,_,_,_=>by simp [nV]
 | b :: bl,r :: R,t :: T,h1,h2=>by rw [nV,uX,FP (by simpa using h1) (by simpa using h2),uX]
 | _ :: _,[],_,h,_=>by simp at h
 | _ :: _,_ :: _,[],_,h=>by simp at h
theorem Lg:∀ {bl:List nk}{R:List Rw}{T:List (List Value)}{k:Nat}{b:nk},R.length=bl.length→T.length=bl.length→bl[k]?=some b→∃ r t,R[k]?=some r∧T[k]?=some t∧(nV bl R T)[k]?=some (V b.a :: (r.hdr ++ t))
 | b :: bl,r :: R,t :: T,0,_,_,_,h=>by simp only [Ec,Dm] at h;subst h;exact ⟨r,t,rfl,rfl,rfl⟩
 | b :: bl,r :: R,t :: T,k+1,_,h1,h2,h=>Lg (bl:=bl) (R:=R) (T:=T) (k:=k) (by simpa using h1) (by simpa using h2) (by simpa using h)
 | [],_,_,_,_,_,_,h=>by simp at h
 | _ :: _,[],_,_,_,h,_,_=>by simp at h
 | _ :: _,_ :: _,[],_,_,_,h,_=>by simp at h
theorem KZ:∀ {bl:List nk}{R:List Rw}{T:List (List Value)}{k:Nat}{b:nk}{r:Rw}{t:List Value},R.length=bl.length→T.length=bl.length→(nV bl R T).set k (V b.a :: (r.hdr ++ t))=nV (bl.set k b) (R.set k r) (T.set k t)
 | b :: bl,r :: R,t :: T,0,_,_,_,_,_=>rfl
 | b :: bl,r :: R,t :: T,k+1,_,_,_,h1,h2=>by simp only [nV,List.set_cons_succ];rw [KZ (by simpa using h1) (by simpa using h2)]
 | [],_,_,_,_,_,_,_,_=>by simp [nV]
 | _ :: _,[],_,_,_,_,_,h,_=>by simp at h
 | _ :: _,_ :: _,[],_,_,_,_,_,h=>by simp at h
theorem KJ:∀ {bl:List nk}{R:List Rw}{T:List (List Value)}{b:nk}{r:Rw}{t:List Value},R.length=bl.length→T.length=bl.length→nV bl R T ++ [V b.a :: (r.hdr ++ t)]=nV (bl ++ [b]) (R ++ [r]) (T ++ [t])
 | b :: bl,r :: R,t :: T,_,_,_,h1,h2=>by simp only [nV,List.cons_append];rw [KJ (by simpa using h1) (by simpa using h2)]
 | [],[],[],_,_,_,_,_=>rfl
 | [],_ :: _,_,_,_,_,h,_=>by simp at h
 | [],[],_ :: _,_,_,_,_,h=>by simp at h
 | _ :: _,[],_,_,_,_,h,_=>by simp at h
 | _ :: _,_ :: _,[],_,_,_,_,h=>by simp at h
theorem F7 {F:Nat→Prop}{w:World}:∀ {bl:List nk}{R:List Rw}{T:List (List Value)}{q:List zl},wR F w T q→∀ x ∈ nV bl R T,x.length=10∧x.all (fun v=>v.oneCell')=true
 | b :: bl,r :: R,t :: T,q :: Q,h,x,hx=>by
  rcases qg.1 hx with rfl | hx
  · have h1:=Rp.len h.1;have h2:=Rp.one h.1;have h3:t.length=8:=h1;refine ⟨by simp [Rw.hdr,h3],?_⟩;simp only [List.all_cons,List.all_append,Rw.hdr,List.all_nil,h2];rfl
  · exact F7 h.2 x hx
 | _ :: _,_ :: _,_ :: _,[],h,_,_=>h.elim
 | [],_,_,_,_,_,hx=>by simp [nV] at hx
 | _ :: _,[],_,_,_,_,hx=>by simp [nV] at hx
 | _ :: _,_ :: _,[],_,_,_,hx=>by simp [nV] at hx
theorem Rq {F:Nat→Prop}{w:World}:∀ {C:List (List Value)},(∀ x ∈ C,x.length=10∧x.all (fun v=>v.oneCell')=true)→wR F w C (C.map BC.mk)
 | [],_=>trivial
 | c :: C,h=>⟨⟨rfl,h c (zH ..)⟩,Rq fun x hx=>h x (xQ _ hx)⟩
theorem Vn {F:Nat→Prop}{w:World}:∀ {C l:List (List Value)},wR F w C (l.map BC.mk)→C=l
 | [],[],_=>rfl
 | c :: C,x :: l,h=>by rw [h.1.1,Vn h.2]
 | [],_ :: _,h=>h.elim
 | _ :: _,[],h=>h.elim
theorem QJ {w0 w:World}{Z G:Nat->Prop}{L:List It}{D:List Da}{R:Rn}{m:zk}{s:Lw}{k:Nat}{bk:nk}(b:Bx w0 w Z G L D)(i j j2:Nat)(hi:L[i]?=some (.own R.B m.bA m.bC 69 10 (nV s.blocks m.R m.tc)))(hj:D[j]?=some (.mZ m.R (s.blocks.map (·.c))))(hj2:D[j2]?=some (.els m.tc (s.blocks.map (·.b))))(hk:s.blocks[k]?=some bk) :m.R.length=s.blocks.length/\m.tc.length=s.blocks.length/\(∀ x ∈ nV s.blocks m.R m.tc,x.length=10/\x.all (fun v=>v.oneCell')=true)/\m.bA=some ⟨mX m.bA,nW m.bA,none⟩/\k < s.blocks.length/\∃ r t,m.R[k]?=some r/\m.tc[k]?=some t/\(nV s.blocks m.R m.tc)[k]?=some (V bk.a :: (r.hdr ++ t))/\r.cs.length=bk.c.length/\Cells w (mX m.bA) (nW m.bA+k * 10) (V bk.a :: (r.hdr ++ t)):=by
 have h1:m.R.length=s.blocks.length:=by rw [(b.d2 j hj).len,Df]
 have h2:m.tc.length=s.blocks.length:=by rw [(b.de j2 hj2).len,Df]
 have h3:=fun x hx=>F7 (R:=m.R) (bl:=s.blocks) (b.de j2 hj2) x hx;have hl:=FP h1 h2;have hkl:=kN hk;obtain ⟨r,t,hr,ht,hc⟩:=Lg h1 h2 hk;have ho:=b.bo i hi;obtain ⟨r',hr',hE⟩:=(b.d2 j hj).get (k:=k) (x:=bk.c) (by rw [Bn,hk];rfl);rw [hr] at hr';cases hr';refine ⟨h1,h2,h3,Jz ho (by omega),hkl,r,t,hr,ht,hc,hE.len,?_⟩;have b2:=b.jX (d:=.els (nV s.blocks m.R m.tc) ((nV s.blocks m.R m.tc).map BC.mk)) (Rq h3);have hi':L[i]?=some (.own R.B m.bA m.bC 69 (Rp.sz BC) (nV s.blocks m.R m.tc)):=hi;exact b2.oc i 0 hi' rfl hc
theorem NJ {R:Rn}{m:zk}{s:Lw}{k:Nat}(b1:nk)(r:Rw)(t:List Value)(h1:m.R.length=s.blocks.length)(h2:m.tc.length=s.blocks.length):Low R { m with R:=m.R.set k r,tc:=m.tc.set k t } { s with blocks:=s.blocks.set k b1 } =
  [.box R.lb 90 (DI R m s).toArray,.own R.B m.bA m.bC 69 10 ((nV s.blocks m.R m.tc).set k (V b1.a :: (r.hdr ++ t))),.tF R.B 73 11 (m.R.set k r) none,.own R.B m.oA m.oC 57 3 m.oc,.map UJ VR R.ob s.omap,.Nn ekP VR m.vb s.vals,.own R.B m.pA m.pC 3 1 m.pc,.own R.B m.hA m.hC 111 1 (Ci m.hp),.OL 170 m.bs (sS s.labs m.lh)]:=by
 simp only [Low,DI,yK,KZ h1 h2]
theorem JW {R:Rn}{m:zk}{s:Lw}{k:Nat}(b1:nk)(r:Rw)(t:List Value):kK R { m with R:=m.R.set k r,tc:=m.tc.set k t } { s with blocks:=s.blocks.set k b1 } =
  [.mZ (m.R.set k r) ((s.blocks.map (·.c)).set k b1.c),.els (m.tc.set k t) ((s.blocks.map (·.b)).set k b1.b),.els m.oc s.objs,.els m.pc s.pend,.els m.lh (s.labs.map (·.2)),.wp (.l m.cA m.cC s.ctxs) (HP m.hp m.bs s.hnd),.l R.a.a1 R.a.c1 R.src.a.a,.l R.a.a2 R.a.c2 R.src.a.b,.l R.a.a3 R.a.c3 R.src.c,.l R.a.a4 R.a.c4 R.src.b]:=by
 simp only [kK,List.map_set]
theorem Bw:∀ {l:List (Int × List Pc)}{H:List (List Value)},H.length=l.length→(sS l H).length=l.length
 | [],_,_=>by simp [sS]
 | t :: l,h :: H,e=>by rw [sS,uX,Bw (by simpa using e),uX]
 | _ :: _,[],e=>by simp at e
theorem JC:∀ {l:List (Int × List Pc)}{H:List (List Value)}{k:Nat}{t:Int × List Pc},H.length=l.length→l[k]?=some t→∃ h,H[k]?=some h∧(sS l H)[k]?=some (V t.1 :: h)
 | t :: l,h :: H,0,_,_,e=>by simp only [Ec,Dm] at e;subst e;exact ⟨h,rfl,rfl⟩
 | t :: l,h :: H,k+1,_,h1,e=>JC (l:=l) (H:=H) (k:=k) (by simpa using h1) (by simpa using e)
 | [],_,_,_,_,e=>by simp at e
 | _ :: _,[],_,_,h,_=>by simp at h
theorem KQ:∀ {l:List (Int × List Pc)}{H:List (List Value)}{k:Nat}{n:Int}{t:Int × List Pc}{h:List Value},l[k]?=some t→H[k]?=some h→(sS l H).set k (V n :: h)=sS (l.set k (n,t.2)) H
 | t :: l,h :: H,0,n,_,_,e1,e2=>by simp only [Ec,Dm] at e1 e2;subst e1 e2;rfl
 | t :: l,h :: H,k+1,n,_,_,e1,e2=>by simp only [sS,List.set_cons_succ];rw [KQ (by simpa using e1) (by simpa using e2)]
 | [],_,_,_,_,_,e,_=>by simp at e
 | _ :: _,[],_,_,_,_,_,e=>by simp at e
theorem JN:∀ {l:List (Int × List Pc)}{H:List (List Value)}{t:Int × List Pc}{h:List Value},H.length=l.length→sS l H ++ [V t.1 :: h]=sS (l ++ [t]) (H ++ [h])
 | t :: l,h :: H,_,_,e=>by simp only [sS,List.cons_append];rw [JN (by simpa using e)]
 | [],[],_,_,_=>rfl
 | [],_ :: _,_,_,e=>by simp at e
 | _ :: _,[],_,_,e=>by simp at e
theorem Wt {ρ:Operand->Value}{w:World}{d:Option Nat}{ty:TypeId}{pos:String}{af:Array Edge}{g:Option (Nat × Bool)}{x:Operand}{n:Int}(h:ρ x=V n):(execOp ρ ⟨d,.buildSlice 22 1 #[(0,x)],ty,pos,af,g⟩).run prog w=.ok (.value (.slice (some ⟨w.heap.size,0,none⟩) 1 1)) (w.alloc (.cells #[V n] 3)):=by
 have e:(Instr.buildSlice 22 1 #[(0,V n)]).run prog w=.ok (.slice (some ⟨w.heap.size,0,none⟩) 1 1) (w.alloc (.cells #[V n] 3)):=by kernel_rfl
 simp [execOp,h,e]
theorem EY {R:Rn}{v:Int}:Ch R (fun _=>True) 170 #[Pt R.lb,V v] (DW v) VU []:=by refine pY fun w Z G m s p b hZ _ hB hm=>?_;obtain ⟨pe,hpe,hm⟩:=bs hm;cases hm;refine kX func170 rfl ?_;refine lH [(0,Pt R.lb),(1,V v)] ⟨rfl,rfl,trivial⟩ fun av=>?_;refine jW b ?_;refine p8 (jJ b [[V v]] ([v]:List Int) (Wt rfl) rfl rfl (by decide) ⟨rfl,trivial⟩) ?_;rintro _ w1 ⟨b1,rfl,b⟩;refine p8 (ko b 7 4 rfl rfl underlying22 oJ rfl (by decide) (by decide) hB rfl rfl (b.Bc 0 0 rfl rfl) hpe) ?_;rintro _ w2 ⟨A2,c2,cs2,rfl,b⟩;refine jW b ?_;refine kY (t_n b 1 [.slice A2 pe.length c2] rfl He rfl rfl) fun w3 b=>?_;refine jW b ?_;exact nJ rfl ⟨(),_,{ m with pA:=A2,pC:=c2,pc:=cs2 },[],rfl,⟨rfl,rfl⟩,OM,b.ad [1,2,3,4,5,6,7,8,9] [1,2,3,4,5,6,7,8,9,10]⟩
theorem UC {n:Nat}(h:n<=9223372036854775807):wr ((n:Int) - 1)=(n:Int) - 1:=by unfold wr;rw [Uo (by omega) (by omega)]
theorem UZ {l:List Int}{v:Int}(h:l.getLast?=some v):l[l.length - 1]?=some v/\0 < l.length:=by rw [List.getLast?_eq_getElem?] at h;exact ⟨h,by have:=kN h;omega⟩
theorem IE {R:Rn}:Ch R (fun _=>True) 146 #[Pt R.lb] E9 VI []:=by
 refine pY fun w Z G m s p b hZ _ hB hm=>?_;unfold E9 at hm;refine kX func146 rfl ?_;refine lH [(0,Pt R.lb)] ⟨rfl,trivial⟩ fun av=>?_;refine jW b ?_;have hbd:s.pend.length<=9223372036854775807:=(b.vw 6 3 rfl rfl).bd;rw [UC hbd];cases hl:s.pend.getLast? with
 | none=>
  rw [hl] at hm;cases hm;have h0:s.pend=[]:=List.getLast?_eq_none_iff.1 hl;refine Xp underlying22 rfl rfl (by rw [h0];simp) (prt b)
 | some v=>
  rw [hl] at hm;cases hm;obtain ⟨h1,h2⟩:=UZ hl;refine kQ (lg underlying22 oJ rfl rfl (by omega) (b.vw 6 3 rfl rfl) h1) ?_;refine kQ (ku underlying3 rfl rfl ((uY (ds:=[V v]) (b.vw 6 3 rfl rfl) h1 (fun _ h=>h)) 0 _ rfl)) ?_;refine jW b ?_;refine kQ (xS (s.pend.length - 1) underlying22 oJ rfl rfl (by omega) (by have:=(b.vw 6 3 rfl rfl).cap;omega)) ?_;have hr:(s.pend.drop 0).take (s.pend.length - 1 - 0)=s.pend.dropLast:=by rw [List.drop_zero,Nat.sub_zero,List.dropLast_eq_take]
  replace b:=b.shr 6 3 rfl rfl (by omega) hr;refine jW b ?_;have hlen:s.pend.length - 1=s.pend.dropLast.length:=by simp
  rw [hlen];refine kY (t_n b 0 [.slice m.pA s.pend.dropLast.length m.pC] rfl He rfl rfl) fun w3 b=>?_;refine jW b ?_;refine lT ?_;exact jL rfl (nD rfl) ⟨v,{ s with pend:=s.pend.dropLast },{ m with pc:=m.pc.take (s.pend.length - 1) },[],rfl,⟨rfl,rfl⟩,OM,b⟩
theorem VF {R:Rn}{l:List pR}{a:Option Addr}{c:Nat}:Ch R (fun _=>True) 102 #[Pt R.lb,.slice a l.length c] (lop l) VU [.l a c l]:=by
 refine pY fun w Z G m s p b hZ _ hB hm=>?_;unfold lop at hm;refine kX func102 rfl ?_;refine lH [(0,Pt R.lb),(1,.slice a l.length c)] ⟨rfl,rfl,trivial⟩ fun av=>?_;refine jW b ?_;refine kY (t_n b 0 [V (wr (s.ops+l.length))] rfl oJ rfl rfl) fun w1 b=>?_;refine jW b ?_;refine rZ rfl (fun h=>?_) (fun h=>?_)
 · rw [lX h] at hm;cases hm;refine jW b ?_;exact XK rfl fun _=>XH b
 rw [lW h] at hm;refine jW b ?_;refine Fg b [] fun b=>?_;refine Bj b ?_;cases hb:ix? s.blocks s.blk with
 | none=>
   rw [hb] at hm;cases hm;refine hO 9 (wK rfl underlying48 rfl rfl (qO hb) fun u w' hw _=>?_);exact prt b u w' hw
 | some bk=>
   rw [hb] at hm;obtain ⟨os,hos,hm⟩:=bs hm;cases hm;obtain ⟨k,hk,hbk⟩:=Wp hb;obtain ⟨h1,h2,h3,hA,hkl,r,t,hr,ht,hc,hl,hcell⟩:=QJ b 1 0 1 rfl rfl rfl hbk;refine wQ 9 rfl ?_;refine dP (Hf k hA underlying48 Oj rfl rfl hk hkl) (jI kI b) ?_;refine Bj b ?_;refine hD ?_;obtain ⟨a2,c2,cs,hr2,hcl,b⟩:=(b.ad [2,0,1,3,4,5,6,7,8] [0,1,2,3,4,5,6,7,8,9,10]).Zx (k:=k) (x:=bk.c) 0 rfl (by rw [Bn,hbk];rfl);rw [hr] at hr2;cases hr2;have hcell1:w1.drew.cell? ⟨mX m.bA,nW m.bA+k * 10+1,none⟩=some (.slice a2 bk.c.length c2):=by rw [<-hcl];exact hcell 1 _ rfl
   refine jW b ?_;refine gC rfl hcell1 rfl ?_;refine jW b ?_;refine p8 (ko b 0 0 rfl rfl underlying62 sD rfl (by decide) (by decide) hB rfl rfl (b.QG 11 rfl) hos) ?_;rintro _ w2 ⟨A3,c3,cs3,rfl,b⟩;refine jW b ?_;have hcs:cs3.length=os.length:=(b.de 0 rfl).len;refine kY (abv (o:=1) (u':=V bk.a :: ((⟨A3,c3,cs3⟩:Rw).hdr ++ t)) b 3 [.slice A3 os.length c3] rfl hc (fun x hx=>(h3 x hx).1) acZ rfl rfl (by simp) (by rw [<-hcs];rfl)) fun w3 b=>?_;refine jW b ?_;have b2:=(b.unf 1 0 rfl rfl).ad [1,2,0,3,4,5,6,7,8] [1,2,3,4,5,6,7,8,9,10];have hkn:s.blk.toNat=k:=by omega
   refine nJ rfl ⟨(),_,{ m with R:=m.R.set k ⟨A3,c3,cs3⟩,tc:=m.tc.set k t },[],rfl,⟨rfl,rfl⟩,OM,?_⟩;rw [hkn,E8];rw [NJ (s:={ s with ops:=wr (s.ops+l.length) }) _ _ _ h1 h2,JW (s:={ s with ops:=wr (s.ops+l.length) }),set_self ht,set_self (l:=s.blocks.map (·.b)) (by rw [Bn,hbk];rfl)];exact b2
theorem Gu:jC prog 102:=⟨_,func102,by kernel_rfl,by kernel_rfl⟩
abbrev cO (o:pR):List Value:=[V o.b,V o.e,V o.A,V o.B,V o.N,V o.d,V o.f,V o.c,V o.a.b,V o.a.a,V o.a.c]
section
variable {R:Rn}{w0 w:World}{Z G:Nat->Prop}{X:List It}{Y ds:List Da}{m:zk}{s:Lw}
theorem lf0 (b:Bx w0 w Z G (Low R m s ++ X) (kK R m s ++ Y)):Bx w0 w Z G (Low R m s) ([] ++ kK R m s):=(b.sub (List.sublist_append_left _ _)).Au fun d hd=>List.mem_append_left _ (by simpa using hd)
theorem y1 {d:Da}{Y:List Da}:∀ x ∈ [d],x ∈ d :: Y:=fun x hx=>by rw [List.mem_singleton] at hx;subst hx;exact zH ..
theorem lY (b:Bx w0 w Z G (Low R m s ++ X) (kK R m s ++ Y))(i j:List Nat)(hn:nodup i=true:=by exact rfl):Bx w0 w Z G (Low R m s ++ pick X i) (kK R m s ++ pick Y j):=by
 have hp:=List.pairwise_append.1 b.pw;have hm:∀ x ∈ pick X i,x ∈ X:=fun x hx=>by obtain ⟨k,_,hk⟩:=CZ hx;exact xu hk
 have b1:Bx w0 w Z G (pick X i) (kK R m s ++ Y):=(b.sub (List.sublist_append_right _ _)).arr i hn;refine Bx.Au ⟨b.tC,fun it hi=>?_,List.pairwise_append.2 ⟨hp.1,b1.pw,fun x hx y hy=>hp.2.2 x hx y (hm y hy)⟩,fun d hd=>d.mv (b.da d hd) (.same fun k hk _=>⟨hk.1,fun it hi=>hk.2 it ?_⟩)⟩ fun d hd=>?_
 · rcases qN.1 hi with hi | hi
   · exact b.it it (List.mem_append_left _ hi)
   · exact b.it it (List.mem_append_right _ (hm it hi))
 · rcases qN.1 hi with hi | hi
   · exact List.mem_append_left _ hi
   · exact List.mem_append_right _ (hm it hi)
 · rcases qN.1 hd with hd | hd
   · exact List.mem_append_left _ hd
   · obtain ⟨k,_,hk⟩:=CZ hd;exact List.mem_append_right _ (xu hk)
variable {N:Fz}{ops:Array Oper}{K:KK}{rest:List Oper}{f:Fr}{d:Option Nat}{op:Op}{ty:TypeId}{pos:String}{af:Array Edge}{L:List It}{D:List Da}
theorem Ej (h:Bx w0 w Z G (L ++ X) D){t:TypeId}{cs:Array Value}(e:(execOp (ev f) ⟨d,op,ty,pos,af,none⟩).run prog w=.ok (.value (.pointer (some ⟨w.heap.size,0,none⟩))) (w.alloc (.cells cs t)))(k:∀ w' b,Bx w0 w' Z G (L ++ (X ++ [.box b t cs])) D->oM prog N ops K rest (lq f d (.pointer (some ⟨b,0,none⟩))) w'):oM prog N ops K (⟨d,op,ty,pos,af,none⟩ :: rest) f w:=
 tq h e fun w' b h=>k w' b (h.perm (by rw [<-H9];exact (List.perm_append_comm (l₁:=[_]) (l₂:=L ++ X))))
theorem UR {ρ:Operand->Value}{g:Option (Nat × Bool)}{x:Operand}{o:pR}(h:ρ x=.agg (cO o).toArray):(execOp ρ ⟨d,.buildSlice 62 1 #[(0,x)],ty,pos,af,g⟩).run prog w=.ok (.value (.slice (some ⟨w.heap.size,0,none⟩) 1 1)) (w.alloc (.cells (cO o).toArray 73)):=by
 have e:(Instr.buildSlice 62 1 #[(0,.agg (cO o).toArray)]).run prog w=.ok (.slice (some ⟨w.heap.size,0,none⟩) 1 1) (w.alloc (.cells (cO o).toArray 73)):=by kernel_rfl
 simp [execOp,h,e]
theorem lOp {β:Type}{q:Lo β}{k:Unit->LM β}{o:pR}{x:Operand}{e:Nat}{ty2:TypeId}{pos2:String}{af2:Array Edge}(b:Bx w0 w Z G (Low R m s ++ X) (kK R m s ++ Y))(hZ:∀ b,G b->Z b)(hB:R.B<=w0.heap.size)(hm:((lop [o]).bind k) s=some q)(hx:ev f x=.agg (cO o).toArray)(he:∀ A w',(execOp (ev (lq f (some e) (.slice A 1 1))) ⟨d,op,ty2,pos2,af2,none⟩).run prog w'=.ok (.enter 102 #[Pt R.lb,.slice A 1 1]) w')(kk:∀ s' m' w' A,k () s'=some q->(∃ t,m'.bs=m.bs ++ t)->Bx w0 w' Z G (Low R m' s' ++ X) (kK R m' s' ++ Y)->oM prog N ops K rest (lq (lq f (some e) (.slice A 1 1)) d (.tuple #[])) w')(kp:∀ f ch w',Pb q ch->Bx w0 w' Z G [] []->K.p f ch w':=by exact fun _ _ _ h1 h2=>⟨h1,h2⟩):oM prog N ops K (⟨some e,.buildSlice 62 1 #[(0,x)],ty,pos,af,none⟩ :: ⟨d,op,ty2,pos2,af2,none⟩ :: rest) f w:=by
 refine p8 (jJ b [cO o] ([o]:List pR) (UR hx) (by simp) rfl (by decide) ⟨rfl,trivial⟩) ?_;rintro _ w1 ⟨b1,rfl,b⟩;have b:=b.KN hZ 0 0 rfl rfl;have b:Bx w0 w1 Z G (Low R m s ++ X) (kK R m s ++ (.l (some ⟨b1,0,none⟩) 1 [o] :: Y)):=b.Au fun d hd=>by
   rcases qN.1 hd with hd | hd
   · exact xQ _ (List.mem_append_left _ hd)
   · rcases qg.1 hd with rfl | hd
     · exact zH ..
     · exact xQ _ (List.mem_append_right _ hd)
 refine uR VF (he _ _) b hZ hB kI hm (fun s' m' w2 h1 h2 b=>kk s' m' w2 _ h1 h2 (b.Au fun d hd=>?_)) y1 (kp _);rcases qN.1 hd with hd | hd
 · exact List.mem_append_left _ hd
 · exact List.mem_append_right _ (xQ _ hd)
end
theorem FL:jC prog 147:=⟨_,func147,by kernel_rfl,by kernel_rfl⟩
theorem DC {ρ:Operand->Value}{w:World}{d:Option Nat}{ty:TypeId}{pos:String}{af:Array Edge}{g:Option (Nat × Bool)}{t:TypeId}{l:List (Nat × Operand)}{l':List (Nat × Value)}{v:Value}(h:l.map (fun p=>(p.1,ρ p.2))=l')(e:(Instr.build t l'.toArray).run prog w=.ok v w):Yl prog ρ (.build t l.toArray) d ty pos af g w v:=by subst h;simp [Yl,execOp,e]
theorem zu {R:Rn}{o:pR}:Ch R (fun _=>True) 147 #[Pt R.lb,.agg (cO o).toArray] (Jw o) VI []:=by refine pY fun w Z G m s p b hZ _ hB hm=>?_;refine kX func147 rfl ?_;refine lH [(0,Pt R.lb),(1,.agg (cO o).toArray)] ⟨rfl,rfl,trivial⟩ fun av=>?_;refine GD (xW ?_);refine Ej b (uV rfl) fun w1 b3 b=>?_;refine jW b ?_;refine kY (t_n b 9 [V s.next] rfl oJ rfl rfl) fun w2 b=>?_;refine jW b ?_;refine kY (t_n b 0 [V (wr (s.next+1))] rfl oJ rfl rfl) fun w3 b=>?_;refine jW b ?_;refine kQ (lu (cO { o with e:=s.next }) underlying73 sD rfl (b.bk 9 rfl)) ?_;have b:Bx w w3 Z G (Low R m { s with next:=wr (s.next+1) } ++ [.box b3 73 (cO { o with e:=s.next }).toArray]) (kK R m { s with next:=wr (s.next+1) } ++ []):=b;refine lOp b hZ hB hm rfl (fun _ _=>jM Gu rfl) fun s' m' w4 A hm hbs b=>?_;cases hm;refine jW b ?_;refine lT ?_;exact jL rfl (nD rfl) ⟨_,_,_,[],rfl,⟨rfl,rfl⟩,hbs,lf0 b⟩
theorem tV {R:Rn}{n:Int}:Ch R (fun _=>True) 114 #[Pt R.lb,V n] (vI n) VI []:=by refine pY fun w Z G m s p b hZ _ hB hm=>?_;refine kX func114 rfl ?_;refine lH [(0,Pt R.lb),(1,V n)] ⟨rfl,rfl,trivial⟩ fun av=>?_;refine jW b ?_;refine kQ (DC (v:=.agg (cO ⟨1,0,0,0,n,0,0,0,wN⟩).toArray) rfl (by kernel_rfl)) ?_;refine Py (k:=nX) zu (jM FL rfl) b hZ hB kI (by rw [Dq];exact hm) fun v s' m' w4 hm hbs b=>?_;cases hm;refine jW b ?_;refine lT ?_;exact jL rfl (nD rfl) ⟨_,_,_,[],rfl,⟨rfl,rfl⟩,hbs,lf0 b⟩
theorem Sz {R:Rn}:Ch R (fun _=>True) 104 #[Pt R.lb] GZ VU []:=by refine pY fun w Z G m s p b hZ _ hB hm=>?_;refine kX func104 rfl ?_;refine lH [(0,Pt R.lb)] ⟨rfl,trivial⟩ fun av=>?_;refine jW b ?_;refine kQ (DC (v:=.agg (cO ⟨19,0,0,0,s.stmt,0,0,0,wN⟩).toArray) rfl (by kernel_rfl)) ?_;refine lOp (k:=nX) b hZ hB (by rw [Dq];exact hm) rfl (fun _ _=>jM Gu rfl) fun s' m' w4 A hm hbs b=>?_;cases hm;refine jW b ?_;exact nJ rfl ⟨_,_,_,[],rfl,⟨rfl,rfl⟩,hbs,lf0 b⟩
theorem UK {R:Rn}:Ch R (fun _=>True) 150 #[Pt R.lb] TV VU []:=by refine pY fun w Z G m s p b hZ _ hB hm=>?_;refine kX func150 rfl ?_;refine lH [(0,Pt R.lb)] ⟨rfl,trivial⟩ fun av=>?_;refine jW b ?_;refine kQ (DC (v:=.agg (cO ⟨20,0,0,0,s.stmt,0,0,0,wN⟩).toArray) rfl (by kernel_rfl)) ?_;refine lOp (k:=nX) b hZ hB (by rw [Dq];exact hm) rfl (fun _ _=>jM Gu rfl) fun s' m' w4 A hm hbs b=>?_;cases hm;refine jW b ?_;exact nJ rfl ⟨_,_,_,[],rfl,⟨rfl,rfl⟩,hbs,lf0 b⟩
theorem fkP:FK prog 172 XB:=aeJ underlying172 (by kernel_rfl) (by kernel_rfl)
abbrev cP (p:Pc):List Value:=[V p.1,V p.2]
theorem GL {R:Rn}{p:Pc}{v:Int}:Ch R (fun _=>True) 69 #[Pt R.lb,.agg (cP p).toArray,V v] (Bb p v) VU []:=by refine pY fun w Z G m s q b hZ _ hB hm=>?_;obtain ⟨l,hl,hm⟩:=bs hm;refine kX func69 rfl ?_;refine lH [(0,Pt R.lb),(1,.agg (cP p).toArray),(2,V v)] ⟨rfl,rfl,rfl,trivial⟩ fun av=>?_;refine GD (xW ?_);refine Ej b (uV rfl) fun w1 b4 b=>?_;refine jW b ?_;refine Fg b [6] fun b=>?_;refine Bj b ?_;refine wQ 4 rfl ?_;refine dU (fun hu=>lu (cP p) underlying172 AU rfl (hu.bk 9 rfl)) (jI kI b) ?_;refine Bj b ?_;refine hO 6 (os rfl rfl (ab7 b 5 (k:=p) rfl hl underlying87 fkP rfl rfl rfl) fun w2 b=>⟨sy 6 kI,hD ?_⟩);refine GD (xW ?_);refine jW b ?_;refine kQ (DC (v:=.agg #[V 2,V v,V 0]) rfl (by kernel_rfl)) ?_;have b:Bx w w2 Z G (Low R m { s with vals:=some (Ay l p v) } ++ [.box b4 172 (cP p).toArray]) (kK R m { s with vals:=some (Ay l p v) } ++ []):=b;refine Ej b (jP YN) fun w3 b6 b=>?_;refine kY (mM b 10 [V 2,V v,V 0] rfl YN rfl rfl) fun w4 b=>?_;refine jW b ?_;refine kQ (lu [V 2,V v,V 0] underlying71 YN rfl (b.bk 10 rfl)) ?_;refine kQ (DC (v:=.agg (cO ⟨21,0,0,0,0,0,p.1,p.2,⟨2,v,0⟩⟩).toArray) rfl (by kernel_rfl)) ?_;have b:Bx w w4 Z G (Low R m { s with vals:=some (Ay l p v) } ++ [.box b4 172 (cP p).toArray,.box b6 71 #[V 2,V v,V 0]]) (kK R m { s with vals:=some (Ay l p v) } ++ []):=b;refine lOp (k:=nX) b hZ hB (by rw [Dq];exact hm) rfl (fun _ _=>jM Gu rfl) fun s' m' w5 A hm hbs b=>?_;cases hm;refine jW b ?_;exact nJ rfl ⟨_,_,_,[],rfl,⟨rfl,rfl⟩,hbs,lf0 b⟩
abbrev cT (t:zl)(a1:Option Addr)(c1:Nat)(a2:Option Addr)(c2:Nat)(a3:Option Addr)(c3:Nat):List Value:=[V t.b,V t.A,V t.N,.slice a1 t.a.length c1,V t.d.a.b,.slice a2 t.d.a.a.length c2,V t.d.b.b,.slice a3 t.d.b.a.length c3]
theorem Ir {R:Rn}{t:zl}{a1 a2 a3:Option Addr}{c1 c2 c3:Nat}:Ch R (fun _=>True) 149 #[Pt R.lb,.agg (cT t a1 c1 a2 c2 a3 c3).toArray] (lend t) VU [.l a1 c1 t.a,.l a2 c2 t.d.a.a,.l a3 c3 t.d.b.a]:=by
 refine pY fun w Z G m s q b hZ _ hB hm=>?_;unfold lend at hm;refine kX func149 rfl ?_;refine lH [(0,Pt R.lb),(1,.agg (cT t a1 c1 a2 c2 a3 c3).toArray)] ⟨rfl,rfl,trivial⟩ fun av=>?_;refine GD (xW ?_);refine Ej b (uV rfl) fun w1 b3 b=>?_;refine jW b ?_;refine Fg b [12] fun b=>?_;refine Bj b ?_;refine wQ 9 rfl ?_;refine dU (fun hu=>lu (cT t a1 c1 a2 c2 a3 c3) underlying67 UL rfl (hu.bk 9 rfl)) (jI kI b) ?_;cases hb:ix? s.blocks s.blk with
 | none=>
  rw [hb] at hm;cases hm;refine hO 10 (wK rfl underlying48 rfl rfl (qO hb) fun u w' hw _=>?_);exact prt b u w' hw
 | some bk=>
  rw [hb] at hm;cases hm;obtain ⟨k,hk,hbk⟩:=Wp hb;obtain ⟨h1,h2,h3,hA,hkl,r,tt,hr,ht,hc,hl,hcell⟩:=QJ b 1 0 1 rfl rfl rfl hbk;refine wQ 10 rfl ?_;refine dP (Hf k hA underlying48 Oj rfl rfl hk hkl) (jI kI b) ?_;refine Bj b ?_;have htl:tt.length=8:=by have:=(h3 _ (xu hc)).1;simp [Rw.hdr] at this;omega
  refine hO 12 (os rfl rfl (abv (o:=2) (u':=V bk.a :: (r.hdr ++ cT t a1 c1 a2 c2 a3 c3)) b 1 (cT t a1 c1 a2 c2 a3 c3) rfl hc (fun x hx=>(h3 x hx).1) UL rfl rfl (by simp) ?_) fun w2 b=>⟨sy 12 kI,hD ?_⟩)
  · rw [List.drop_eq_nil_of_le (by simp [Rw.hdr,htl]),FU];rfl
  refine jW b ?_;refine kY (t_n b 0 [.bool false] rfl ti4 rfl rfl) fun w3 b=>?_;refine jW b ?_;have hE:=(b.de 1 rfl).set k (y:=t) (zl.inn (F:=Hl w Z _) (w:=w3) ⟨a1,c1,a2,c2,a3,c3,rfl,b.dl 10 rfl,b.dl 11 rfl,b.dl 12 rfl⟩);replace b:=b.Jp 1 (d:=.els _ _) hE;have hkn:s.blk.toNat=k:=by omega
  refine nJ rfl ⟨(),_,{ m with R:=m.R.set k r,tc:=m.tc.set k (cT t a1 c1 a2 c2 a3 c3) },[],rfl,⟨rfl,rfl⟩,OM,?_⟩;rw [hkn,E8];rw [NJ (s:={ s with opn:=false }) _ _ _ h1 h2,JW (s:={ s with opn:=false }),set_self hr,set_self (l:=s.blocks.map (·.c)) (by rw [Bn,hbk];rfl)];exact b.ad [0,1,2,3,4,5,6,7,8] [0,1,2,3,4,5,6,7,8,9]
theorem Dv {w0 w:World}{Z G:Nat->Prop}{L:List It}{D:List Da}{m:zk}{s:Lw}{i c:Nat}{t:Int × List Pc}(b:Bx w0 w Z G L D)(k j:Nat)(hk:L[k]?=some (.OL 170 m.bs (sS s.labs m.lh)))(hj:D[j]?=some (.els m.lh (s.labs.map (·.2))))(hc:m.bs[i]?=some c)(ht:s.labs[i]?=some t) :m.lh.length=s.labs.length/\∃ h,m.lh[i]?=some h/\(sS s.labs m.lh)[i]?=some (V t.1 :: h)/\uz w c 170 (V t.1 :: h).toArray/\Rp.rep (Hl w0 Z L) w h t.2:=by
 have h1:m.lh.length=s.labs.length:=by rw [(b.de j hj).len,Df]
 obtain ⟨h,h2,h3⟩:=JC h1 ht;obtain ⟨c',h4,h5⟩:=(b.at k hk).1.get h3;rw [hc] at h4;cases h4;obtain ⟨h',h6,h7⟩:=(b.de j hj).get (k:=i) (x:=t.2) (by rw [Bn,ht];rfl);rw [h2] at h6;cases h6;exact ⟨h1,h,h2,h3,h5,h7⟩
theorem adP {ρ:Operand->Value}{w:World}{d:Option Nat}{ty:TypeId}{pos:String}{af:Array Edge}{g:Option (Nat × Bool)}{x:Operand}(h:ρ x=.agg #[V 0,sn,V 0,V 0,V 0,sn,V 0,sn,V 0,sn]):(execOp ρ ⟨d,.buildSlice 48 1 #[(0,x)],ty,pos,af,g⟩).run prog w=.ok (.value (.slice (some ⟨w.heap.size,0,none⟩) 1 1)) (w.alloc (.cells #[V 0,sn,V 0,V 0,V 0,sn,V 0,sn,V 0,sn] 69)):=by
 have e:(Instr.buildSlice 48 1 #[(0,.agg #[V 0,sn,V 0,V 0,V 0,sn,V 0,sn,V 0,sn])]).run prog w=.ok (.slice (some ⟨w.heap.size,0,none⟩) 1 1) (w.alloc (.cells #[V 0,sn,V 0,V 0,V 0,sn,V 0,sn,V 0,sn] 69)):=by kernel_rfl
 simp [execOp,h,e]
theorem Ml {R:Rn}{i c:Nat}:Ch R (fun m=>m.bs[i]?=some c) 36 #[Pt R.lb,Pt c] (wo i) VU []:=by
 refine pY fun w Z G m s q b hZ hH hB hm=>?_;obtain ⟨t,ht,hm⟩:=bs hm;refine kX func36 rfl ?_;refine lH [(0,Pt R.lb),(1,Pt c)] ⟨rfl,rfl,trivial⟩ fun av=>?_;obtain ⟨hl1,h,h2,h3,h5,h7⟩:=Dv b 8 4 rfl rfl hH ht;refine jW b ?_;refine gL rfl h5 rfl rfl ?_;refine jW b ?_;refine rZ rfl (fun h0=>?_) (fun h0=>?_)
 · rw [lX h0] at hm;cases hm;refine lT ?_;exact nJ rfl ⟨_,_,_,[],rfl,⟨rfl,rfl⟩,OM,lf0 b⟩
 rw [lW h0] at hm;refine jW b ?_;refine rZ rfl (fun h4=>?_) (fun h4=>?_)
 · rw [lX (by omega)] at hm;cases hm;refine jW b ?_;exact XK rfl fun _=>XH b
 rw [lW (by omega)] at hm;cases hm;refine jW b ?_;refine kY (aex (o:=0) (u':=V (s.blocks.length:Int) :: h) b 8 [V (s.blocks.length:Int)] rfl h3 hH oJ rfl rfl (by simp) (by simp)) fun w1 b=>?_;refine jW b ?_;refine kQ (DC (v:=.agg #[V 0,sn,V 0,V 0,V 0,sn,V 0,sn,V 0,sn]) rfl (by kernel_rfl)) ?_;have hR:m.R.length=s.blocks.length:=by rw [(b.d2 0 rfl).len,Df]
 have hT:m.tc.length=s.blocks.length:=by rw [(b.de 1 rfl).len,Df]
 have hten:=fun x hx=>F7 (R:=m.R) (bl:=s.blocks) (b.de 1 rfl) x hx;have hlen:=FP hR hT;replace b:=b.jX (d:=.els (nV s.blocks m.R m.tc) ((nV s.blocks m.R m.tc).map BC.mk)) (Rq hten);refine p8 (jJ b [[V 0,sn,V 0,V 0,V 0,sn,V 0,sn,V 0,sn]] ([⟨[V 0,sn,V 0,V 0,V 0,sn,V 0,sn,V 0,sn]⟩]:List BC) (adP rfl) rfl rfl (by decide) ⟨⟨rfl,rfl,rfl⟩,trivial⟩) ?_;rintro _ w2 ⟨b1,rfl,b⟩;have happ:app ((nV s.blocks m.R m.tc).map BC.mk) [⟨[V 0,sn,V 0,V 0,V 0,sn,V 0,sn,V 0,sn]⟩]=some ((nV s.blocks m.R m.tc ++ [[V 0,sn,V 0,V 0,V 0,sn,V 0,sn,V 0,sn]]).map BC.mk):=by unfold app;rw [lX (by simp [hlen];omega),List.map_append];rfl
 refine p8 (ko (α:=BC) b 2 1 rfl rfl underlying48 Oj rfl (by decide) (by decide) hB (by show Value.slice m.bA s.blocks.length m.bC=_;rw [Df,hlen]) rfl (b.Bc 0 0 rfl rfl) happ) ?_;rintro _ w3 ⟨A2,c2,cs2,rfl,b⟩;have hcs:=Vn (b.de 1 rfl);subst hcs;refine jW b ?_;refine kY (t_n b 1 [.slice A2 ((nV s.blocks m.R m.tc ++ [[V 0,sn,V 0,V 0,V 0,sn,V 0,sn,V 0,sn]]).map BC.mk).length c2] rfl adh rfl rfl) fun w4 b=>?_;refine jW b ?_;replace b:=b.aaf (α:=pR) 3 2 rfl rfl;have hE:=(b.de 3 rfl).app (ds:=[[V 0,V 0,V 0,sn,V 0,sn,V 0,sn]]) (m:=[(⟨0,0,0,[],⟨⟨0,[]⟩,⟨0,[]⟩⟩⟩:zl)]) ⟨zl.inn ⟨none,0,none,0,none,0,rfl,kr.nil,kr.nil,kr.nil⟩,trivial⟩;replace b:=b.Jp 3 (d:=.els _ _) hE;have b:Bx w w4 Z G _ _:=b.ad [1,2,3,4,5,6,7,8,9] [2,3,4,5,6,7,8,9,10,11];refine nJ rfl ⟨(),_,{ m with bA:=A2,bC:=c2,R:=m.R ++ [⟨none,0,[]⟩],tc:=m.tc ++ [[V 0,V 0,V 0,sn,V 0,sn,V 0,sn]] },[],rfl,⟨rfl,rfl⟩,OM,?_⟩;have e1:nV (s.blocks ++ [OD]) (m.R ++ [⟨none,0,[]⟩]) (m.tc ++ [[V 0,V 0,V 0,sn,V 0,sn,V 0,sn]])=nV s.blocks m.R m.tc ++ [[V 0,sn,V 0,V 0,V 0,sn,V 0,sn,V 0,sn]]:=(KJ hR hT).symm;have e2:(s.blocks ++ [OD]).length=((nV s.blocks m.R m.tc ++ [[V 0,sn,V 0,V 0,V 0,sn,V 0,sn,V 0,sn]]).map BC.mk).length:=by simp [hlen]
 have e3:sS (s.labs.set i ((s.blocks.length:Int),t.2)) m.lh=(sS s.labs m.lh).set i (V (s.blocks.length:Int) :: h):=(KQ ht h2).symm;have e4:(s.labs.set i ((s.blocks.length:Int),t.2)).map (·.2)=s.labs.map (·.2):=by rw [List.map_set,set_self (by rw [Bn,ht];rfl)]
 have e5:(s.blocks ++ [OD]).map (·.c)=s.blocks.map (·.c) ++ [[]]:=by simp
 have e6:(s.blocks ++ [OD]).map (·.b)=s.blocks.map (·.b) ++ [(⟨0,0,0,[],⟨⟨0,[]⟩,⟨0,[]⟩⟩⟩:zl)]:=by simp
 simp only [Low,kK,DI,e1,e2,e3,e4,e5,e6,E8];exact b
set_option linter.unusedSimpArgs false
noncomputable section
def Gq (m:jY->Int->Int->Option (List Int)):Prop:=∀ {t:World}{A}{p:jY}{x z a b c d e f h i u},Pre t A [] [.l a b p.a.a,.l c d p.a.b,.l e f p.c,.l h i p.b]->m p x z=some u-> Calls prog 68 #[.agg #[Z a p.a.a b,Z c p.a.b d,Z e p.c f,Z h p.b i],V x,V z] t (tN fun v w=>∃ (j:OA)(k:Nat)(o:LV),v=Z j u k/\Bx t w A (mV []) [O t.heap.size j k 3 Int o] [.els o u])
def mD (fu:Nat)(b:Int):List Gv→Nat→(List Int)→Option (Ld (List Int) ((List Int)))
 | [],_,a=>some (.go a)
 | f :: d,c,a=>
 if f.f≤b then
  if b≤f.d then
   (app a ([(c:Int)]:List Int)).bind fun e=>
   mD fu b d (c+1) e
  else
   mD fu b d (c+1) a
 else
  mD fu b d (c+1) a
def jS (fu:Nat)(c:jY)(b d:Int):Option (List Int):=if b < 0 then some ([]:List Int) else if (c.c.length:Int)<=b then some ([]:List Int) else (ix c.c b).bind fun e=>(mD fu d e 0 ([]:List Int)).bind fun f=>f.el (fun a=>some a) (fun o=>some o)
theorem Gh (fu:Nat):Gq (jS fu):=by
 intro S au U x1 W A B C D E F H I r0 hP p;unfold jS at p;have e:=hP.bx;clear hP;generalize hG:mV _=G at e ⊢;refine cf func68 r (lH [(0,.agg #[Z A U.a.a B,Z C U.a.b D,Z E U.c F,Z H U.b I]),(1,V x1),(2,V W)] ⟨r,r,r,y⟩ fun av=>q (g (tq e (uV r) fun w1 b1 e=>s (nK r) (n (q (q (g (s (mi r) (s (qP r r) (s (lD r) ?_))))))))));rcases iv p with ⟨X,p⟩|⟨X,p⟩
 ·rw [u6 X];refine jZ r (jZ r (jZ r (jZ r (jZ r (s (kR r r) (n (jK r (q (g (s (nK r) (n (lT ?_))))))))))));replace e:=e.FD Int 3;obtain rfl:=sm p;exact jL r (nD r) ⟨none,0,[],r,e.ad [0] [0]⟩
 rw [wI X];refine kF r (s (mi r) (kF r (s (DV r) (kF r (s (UN r (e.bk 0 r) r) (kF r (s (mO KI r) (kF r (s (GN r r) (s (kH r r) (n ?_)))))))))));rcases iv p with ⟨Y,p⟩|⟨Y,p⟩
 ·refine jK (bt Y) (q (g (s (nK r) (n (lT ?_)))));replace e:=e.FD Int 3;obtain rfl:=sm p;exact jL r (nD r) ⟨none,0,[],r,e.ad [0] [0]⟩
 refine jD (bf Y) (wk (q (g (s (nK r) (n (q (q (g (s (DV r) (s (UN r (e.bk 0 r) r) (s (mi r) ?_)))))))))));obtain ⟨u,z,p⟩:=bs p;obtain ⟨k6,a0,z⟩:=kW z;obtain ⟨ab,a1,e⟩:=e.nm 2 rfl z;obtain ⟨v,x,rfl,N⟩:=a1;replace e:=e.jX (d:=.l v x u) N;refine s (lg KI F8 r r a0 (e.dl 4 r) z) (s (ku EA r r ((e.dc 1 r) 0 _ r)) (s (mO EA r) (s (mi r) (n ?_))));replace e:=e.FD Int 3;have ac:=(e.dl 1 r).bd;obtain ⟨Y8,m,p⟩:=bs p;refine qM (fun f w=>∃ j a b c,Has f [(7,Z a j b)]/\Bx S w au G [O S.heap.size a b 3 Int c] [.els c j,.l v x u]/\Ld.go j=Y8) (fun J8 a2=>?_) ?_
 ·refine pW (kG (fun aw f w=>∃ t j a b c,aw=u.length - t/\t<=u.length/\Has f [(25,V (t:Int)),(2,V W),(7,Z a j b),(23,Z v u x),(24,V (u.length:Int))]/\Bx S w au G [O S.heap.size a b 3 Int c] [.els c j,.l v x u]/\mD fu W (u.drop t) t j=some Y8) u.length ⟨0,([]:List Int),none,0,[],r,uW _,⟨r,r,r,r,r,y⟩,e.ad [0] [0,1],m⟩ ?_);clear e m;rintro aw f w ⟨t,j,a,b,c,rfl,ae,hf,e,m⟩ K8 J;obtain ⟨av,rfl⟩:=nM hf;rcases wU t u.length with Q | Q
  ·obtain ⟨o,K⟩:=mI (l:=u) Q;rw [l5 K,mD] at m;refine q (g (s (sW r r (by omega)) (n (q (jK r (wk (q (pW (q (g (s (mi r) (s (lg EA wz r r r (e.dl 1 r) K) (s (Q0 [T o.c,V o.b,V o.e,V o.a,.bool o.g,V o.f,V o.d] YR wz r (e.dl 1 r) K) (tq e (jP wz) fun af ag e=>s (xi r) (kY (mM e 0 [T o.c,V o.b,V o.e,V o.a,.bool o.g,V o.f,V o.d] r wz r r) fun ah e=>n (q (g (s (adJ r) (s (l3 r (e.bk 0 r) r) (s (mi r) (s (Q7 r r) (s (lD r) ?_))))))))))))))))))))));rcases iv m with ⟨L,m⟩|⟨L,m⟩
   ·rw [u6 L];refine kF r (s (mi r) (kF r (s (Tg r) (kF r (s (l3 r (e.bk 0 r) r) (kF r (s (Q7 r r) (s (kR r r) (n ?_)))))))));rcases iv m with ⟨M,m⟩|⟨M,m⟩
    ·refine jK (bt M) (g (s (nY r) (s (mi r) (p8 (jJ e [[V (t:Int)]] ([(t:Int)]:List Int) (QC r) r r (by decide) ⟨r,y⟩) ?_))));rintro _ ai ⟨aj,rfl,e⟩;obtain ⟨a3,R,m⟩:=bs m;refine p8 (ko e 2 1 r r CF oJ r (by decide) (by decide) (ng _) r r (e.Bc 0 0 r r) R) ?_;rintro _ ak ⟨a4,a5,a6,rfl,e⟩;exact s (nK r) (n (g (s (mE r r (by omega) (by omega)) (s (mi r) (n (J (u.length - (t+1)) _ _ (by omega) ⟨t+1,a3,a4,a5,a6,r,by omega,⟨r,r,r,r,r,y⟩,e.ad [2] [1,2],m⟩))))))
    exact jD (bf M) (wk (g (s (mE r r (by omega) (by omega)) (s (mi r) (n (J (u.length - (t+1)) _ _ (by omega) ⟨t+1,j,a,b,c,r,by omega,⟨r,r,r,r,r,y⟩,e.arr [1] r,m⟩))))))
   rw [wI L];exact jZ r (jZ r (jZ r (jZ r (s (kH r r) (n (jD r (wk (g (s (mE r r (by omega) (by omega)) (s (mi r) (n (J (u.length - (t+1)) _ _ (by omega) ⟨t+1,j,a,b,c,r,by omega,⟨r,r,r,r,r,y⟩,e.arr [1] r,m⟩))))))))))))
  obtain rfl:t=u.length:=by omega
  rw [lV,mD] at m;exact q (g (s (sZ r r (by omega)) (n (q (jD r (uL (a2 _ _ ⟨j,a,b,c,⟨r,y⟩,e,sm m⟩)))))))
 clear e;rintro f w ⟨j,a,b,c,hf,e,a7⟩;obtain ⟨av,rfl⟩:=nM hf;subst a7;replace p:=gi p;refine q (g (s (nY r) (s (nK r) (n (lT ?_)))));obtain rfl:=sm p;exact jL r (nD r) ⟨a,b,c,r,e.dp [0]⟩
end
end Go.Proofs.YtdkneekpdecjbaaGreat
