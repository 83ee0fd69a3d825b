/- Regions that draw their order: the operations that need no choice, taken by themselves; the same for regions in order, with more variables in view. -/
import Derived.Test.YtdkneekpdecjbaaGreatZ13
import Derived.Test.YtdkneekpdecjbaaGreatZ5
import Derived.Test.YtdkneekpdecjbaaGreatLa
set_option linter.unusedVariables false
namespace Go.Proofs.YtdkneekpdecjbaaGreat
open Go.RowKit Go.Fw Go.Proofs.Tryz
def Tx:List Oper→Nat→Option Oper
 | a :: _,0=>some a
 | _ :: l,n+1=>Tx l n
 | [],_=>none
theorem Qd:∀ (l:List Oper)(i:Nat),Tx l i=l[i]?
 | _ :: _,0=>rfl
 | _ :: l,i+1=>by rw [Tx,Qd l i];simp
 | [],_=>by simp [Tx]
def pk (o:Oper):Bool:=match o.op with
 | .move _=>true
 | .nilCheck _=>true
 | .fieldAddr _ _ _=>true
 | .load _ _=>true
 | .assign _=>true
 | .binOp .add _ _ _ _=>true
 | .binOp .sub _ _ _ _=>true
 | .call c=>match c.callee with
  | .builtin .len=>true
  | _=>false
 | _=>false
def rdy (L:Array Bool)(i:Nat)(o:Oper):Bool:=!(L.getD i false) && o.after.toList.all fun e=>L.getD e.on false
def DS (P:Program)(N:Fz)(ops:Array Oper)(S1 S:World->Prop)(T:List Nat)(K:KK)(n:Nat)(L:Array Bool)(i:Nat)(oi:Oper)(f:Fr)(w:World):Prop:=ops[i]?=some oi->may ops T L i=true->nU P N ops S1 S T K n L f w
section
variable {N:Fz}{ops:Array Oper}{S1:World->Prop}{T:List Nat}{K:KK}{n:Nat}{Lb:Array Bool}{f:Fr}{w w0:World}{Z G:Nat->Prop}{L:List It}{D:List Da}
theorem EN {Q:Post}{i:Nat}(b:Bx w0 w Z G L D)(T:List Nat)(k:Bx w0 w.drew Z G L D->nU prog N ops (fun _=>True) (fun u=>Bx w0 u Z G L D) T ⟨Q.n,Q.p⟩ ops.size (Array.replicate ops.size false) f w.drew)(hm:prog.follows .mixedOrders=true:=by kernel_rfl):WP prog N (.region i ops true) Q f w:=
 M7 _ _ T hm (k b.drew)
theorem wu (i:Nat){S:World->Prop}{oi:Oper}(hi:Tx ops.toList i=some oi)(k:DS prog N ops S1 S T K n Lb i oi f w)(hc:may ops T Lb i=true:=by kernel_rfl):nU prog N ops S1 S T K n Lb f w:=k (by rw [Qd] at hi;simpa using hi) hc
theorem Ba (i:Nat){S:World->Prop}{oi:Oper}(hi:Tx ops.toList i=some oi)(k:DS prog N ops S1 S T K n Lb i oi f w)(hq:(pk oi && rdy Lb i oi)=true:=by exact rfl)(hc:may ops T Lb i=true:=by kernel_rfl):nU prog N ops S1 S T K n Lb f w:=wu i hi k hc
variable {S:World->Prop}{i:Nat}{d:Option Nat}{ty:TypeId}{pos:String}{af:Array Edge}{x y:Operand}{v:Value}
theorem dP {op:Op}(hy:∀ {w:World},Yl prog (ev f) op d ty pos af none w v)(hS:Bo S1 T S Lb w)(k:nU prog N ops S1 S T K n (Lb.setIfInBounds i true) (lD f d v) w):DS prog N ops S1 S T K (n+1) Lb i ⟨d,op,ty,pos,af,none⟩ f w:=
 fun hi hc=>Vh i hi hc rfl (fun _=>hy) hS k
theorem dU {op:Op}(hy:∀ {u:World},S u->Yl prog (ev f) op d ty pos af none u v)(hS:Bo S1 T S Lb w)(k:nU prog N ops S1 S T K n (Lb.setIfInBounds i true) (lD f d v) w)(hT:(T.all fun t=>Qr ops 20 t i)=true:=by kernel_rfl):DS prog N ops S1 S T K (n+1) Lb i ⟨d,op,ty,pos,af,none⟩ f w:=
 fun hi hc=>Rv 20 i hi hc hT rfl (fun _=>hy) hS k
theorem abH {p:Option Addr}(h:ev f x=.pointer p)(hS:Bo S1 T S Lb w)(k:nU prog N ops S1 S T K n (Lb.setIfInBounds i true) (lD f d (.pointer p)) w):DS prog N ops S1 S T K (n+1) Lb i ⟨d,.move x,ty,pos,af,none⟩ f w:=dP (X0 h) hS k
theorem acP {p:Int}(h:ev f x=V p)(hS:Bo S1 T S Lb w)(k:nU prog N ops S1 S T K n (Lb.setIfInBounds i true) (lD f d (V p)) w):DS prog N ops S1 S T K (n+1) Lb i ⟨d,.move x,ty,pos,af,none⟩ f w:=dP (XL h) hS k
theorem acj {p:Bool}(h:ev f x=.bool p)(hS:Bo S1 T S Lb w)(k:nU prog N ops S1 S T K n (Lb.setIfInBounds i true) (lD f d (.bool p)) w):DS prog N ops S1 S T K (n+1) Lb i ⟨d,.move x,ty,pos,af,none⟩ f w:=dP (lI h) hS k
theorem acY {p:Option Addr}{a c:Nat}(h:ev f x=.slice p a c)(hS:Bo S1 T S Lb w)(k:nU prog N ops S1 S T K n (Lb.setIfInBounds i true) (lD f d (.slice p a c)) w):DS prog N ops S1 S T K (n+1) Lb i ⟨d,.move x,ty,pos,af,none⟩ f w:=dP (qw h) hS k
theorem abt {p:Option Addr}(h:ev f x=.pointer p)(hS:Bo S1 T S Lb w)(k:nU prog N ops S1 S T K n (Lb.setIfInBounds i true) (lD f d (.pointer p)) w):DS prog N ops S1 S T K (n+1) Lb i ⟨d,.assign x,ty,pos,af,none⟩ f w:=dP (SN h) hS k
theorem acK {p:Int}(h:ev f x=V p)(hS:Bo S1 T S Lb w)(k:nU prog N ops S1 S T K n (Lb.setIfInBounds i true) (lD f d (V p)) w):DS prog N ops S1 S T K (n+1) Lb i ⟨d,.assign x,ty,pos,af,none⟩ f w:=dP (Uq h) hS k
theorem dNl {p:Addr}(h:ev f x=.pointer (some p))(hS:Bo S1 T S Lb w)(k:nU prog N ops S1 S T K n (Lb.setIfInBounds i true) (lD f d (.pointer (some p))) w):DS prog N ops S1 S T K (n+1) Lb i ⟨d,.nilCheck x,ty,pos,af,none⟩ f w:=dP (XY h) hS k
theorem aa7 {t t':TypeId}{p q:Int}(h:ev f x=V p)(h2:ev f y=V q)(hS:Bo S1 T S Lb w)(k:nU prog N ops S1 S T K n (Lb.setIfInBounds i true) (lD f d (V (wr (p+q)))) w):DS prog N ops S1 S T K (n+1) Lb i ⟨d,.binOp .add t x y t',ty,pos,af,none⟩ f w:=dP (kN h h2) hS k
theorem aci {t t':TypeId}{p q:Int}(h:ev f x=V p)(h2:ev f y=V q)(hS:Bo S1 T S Lb w)(k:nU prog N ops S1 S T K n (Lb.setIfInBounds i true) (lD f d (V (wr (p - q)))) w):DS prog N ops S1 S T K (n+1) Lb i ⟨d,.binOp .sub t x y t',ty,pos,af,none⟩ f w:=dP (yh h h2) hS k
theorem dF {t j m b o:Nat}(h:ev f x=.pointer (some ⟨b,o,none⟩))(hj:fT t m=some j)(hS:Bo S1 T S Lb w)(k:nU prog N ops S1 S T K n (Lb.setIfInBounds i true) (lD f d (.pointer (some ⟨b,o+j,none⟩))) w)(ht:Nat.blt t Q6=true:=by exact rfl)(hn:Nat.blt m 16=true:=by exact rfl):DS prog N ops S1 S T K (n+1) Lb i ⟨d,.fieldAddr t x m,ty,pos,af,none⟩ f w:=dP (yF h hj ht hn) hS k
theorem dN {t m c:Nat}{A:Option Addr}(h:ev f x=.slice A m c)(hs:slB t=true)(hS:Bo S1 T S Lb w)(k:nU prog N ops S1 S T K n (Lb.setIfInBounds i true) (lD f d (V (m:Int))) w)(ht:Nat.blt t Q6=true:=by exact rfl):DS prog N ops S1 S T K (n+1) Lb i ⟨d,.call { callee:=.builtin .len,args:=#[x],argTypes:=#[t] },ty,pos,af,none⟩ f w:=dP (yN h hs ht) hS k
theorem dLk (j:Nat){t t' b o:Nat}{cs:Array Value}(h:ev f x=.pointer (some ⟨b,o,none⟩))(hj:L[j]?=some (.box b t' cs))(hi:cs[o]?=some v)(hs:XF t=true)(hS:Bo S1 T (fun u=>Bx w0 u Z G L D) Lb w)(k:nU prog N ops S1 (fun u=>Bx w0 u Z G L D) T K n (Lb.setIfInBounds i true) (lD f d v) w)(ht:Nat.blt t Q6=true:=by exact rfl)(hT:(T.all fun t=>Qr ops 20 t i)=true:=by kernel_rfl):DS prog N ops S1 (fun u=>Bx w0 u Z G L D) T K (n+1) Lb i ⟨d,.load t x,ty,pos,af,none⟩ f w:=
 dU (fun hu=>yL h (hu.bk j hj) hi hs ht) hS k hT
end
theorem AP {w0 w:World}{Z G':Nat->Prop}{Lt:List It}{D:List Da}{G R:Prop}(e:Bx w0 w Z G' Lt D)(k:R) (h:Bx w0 w Z G' Lt D->R->G:=by
 intro e k
 repeat
  first
  | refine Ba 0 rfl ?_
  | refine Ba 1 rfl ?_
  | refine Ba 2 rfl ?_
  | refine Ba 3 rfl ?_
  | refine Ba 4 rfl ?_
  | refine Ba 5 rfl ?_
  | refine Ba 6 rfl ?_
  | refine Ba 7 rfl ?_
  | refine Ba 8 rfl ?_
  | refine Ba 9 rfl ?_
  | refine Ba 10 rfl ?_
  | refine Ba 11 rfl ?_
  | refine Ba 12 rfl ?_
  | refine Ba 13 rfl ?_
  | refine Ba 14 rfl ?_
  | refine Ba 15 rfl ?_
  | refine Ba 16 rfl ?_
  | refine Ba 17 rfl ?_
  | refine Ba 18 rfl ?_
  | refine Ba 19 rfl ?_
  | refine Ba 20 rfl ?_
  | refine Ba 21 rfl ?_
  | refine Ba 22 rfl ?_
  | refine Ba 23 rfl ?_
  first
  | refine abH rfl (jH kJ e) ?_
  | refine acP rfl (jH kJ e) ?_
  | refine dNl rfl (jH kJ e) ?_
  | refine dF rfl rfl (jH kJ e) ?_
  | refine dLk 0 rfl rfl rfl rfl (jH kJ e) ?_
  | refine dLk 9 rfl rfl rfl rfl (jH kJ e) ?_
  | refine dLk 10 rfl rfl rfl rfl (jH kJ e) ?_
  | refine dLk 11 rfl rfl rfl rfl (jH kJ e) ?_
  | refine dN rfl rfl (jH kJ e) ?_
  | refine acj rfl (jH kJ e) ?_
  | refine acY rfl (jH kJ e) ?_
  | refine aa7 rfl rfl (jH kJ e) ?_
  | refine aci rfl rfl (jH kJ e) ?_
  | refine abt rfl (jH kJ e) ?_
  | refine acK rfl (jH kJ e) ?_
 exact k):G:=h e k
theorem jY {w0 w:World}{Z G':Nat->Prop}{Lt:List It}{D:List Da}{G R:Prop}(e:Bx w0 w Z G' Lt D)(k:R) (h:Bx w0 w Z G' Lt D->R->G:=by
 intro e k
 repeat (first
  | refine FY ?_
  | refine xG ?_
  | refine M6 ?_
  | refine Py ?_
  | refine qb ?_
  | refine aal rfl ?_
  | refine Zy rfl ?_
  | refine Zu rfl ?_
  | refine aas rfl ?_
  | refine aap rfl ?_
  | refine aNl rfl ?_
  | refine XK rfl ?_
  | refine aau rfl ?_
  | refine aaF rfl ?_
  | refine ZB rfl ?_
  | refine ZR rfl ?_
  | refine Zt rfl rfl ?_
  | refine aaA rfl rfl ?_
  | refine YP rfl rfl ?_
  | refine aaq rfl rfl ?_
  | refine aaP rfl rfl ?_
  | refine aaM rfl rfl ?_
  | refine Z4 rfl rfl ?_
  | refine YX rfl rfl ?_
  | refine aaN rfl rfl ?_
  | refine Zk rfl rfl ?_
  | refine aak rfl rfl ?_
  | refine aOr rfl rfl ?_
  | refine ZY rfl rfl ?_
  | refine aaE rfl ?_
  | refine Zv rfl rfl ?_
  | refine Y0 rfl rfl ?_
  | refine aat rfl ?_
  | refine Z6 rfl ?_
  | refine Zn rfl ?_
  | refine jK rfl ?_
  | refine jD rfl ?_
  | refine gF rfl rfl ?_
  | refine gN rfl rfl ?_
  | refine gL rfl (e.bk 0 rfl) rfl rfl ?_
  | refine gL rfl (e.bk 9 rfl) rfl rfl ?_
  | refine gL rfl (e.bk 10 rfl) rfl rfl ?_
  | refine gL rfl (e.bk 11 rfl) rfl rfl ?_
  | refine gL rfl (e.bk 11 rfl) rfl rfl ?_)
 exact k):G:=h e k
set_option maxRecDepth 4000
set_option maxHeartbeats 12800000
section
variable {N:Fz}{ops:Array Oper}{K:KK}{rest:List Oper}{f:Fr}{w:World}{d:Option Nat}{ty:TypeId}{pos:String}{af:Array Edge}{x y z:Operand}
theorem Vm {t:TypeId}{a:Option Addr}{n c:Nat}{i:Int}{t2:TypeId}(ht:prog.underlying t=some (.slice t2))(h1:ev f y=.slice a n c)(h2:ev f z=V i)(hi:¬ (0<=i/\i < n))(h:∀ u w',w'=w\/w'=w.drew->K.p f [⟨.iface prog.rt.boundsError u,false,false⟩] w'):oF prog N ops K (⟨d,.indexAddr t y z,ty,pos,af,none⟩ :: rest) f w:=by obtain ⟨w',v,hr,hw⟩:=RH (P:=prog) (w:=w) (d:=d) (ty:=ty) (pos:=pos) (af:=af) (g:=none) ht h1 h2 hi;exact Ya hr (h v w' hw)
theorem vV {S1 S:World->Prop}{T':List Nat}{n':Nat}{L:Array Bool}{i:Nat}{t t2:TypeId}{a:Option Addr}{n c:Nat}{iv:Int}(hi:ops[i]?=some ⟨d,.indexAddr t y z,ty,pos,af,none⟩)(ht:prog.underlying t=some (.slice t2))(h1:ev f y=.slice a n c)(h2:ev f z=V iv)(hb:¬ (0<=iv/\iv < n))(h:∀ u w',w'=w\/w'=w.drew->∀ f,K.p f [⟨.iface prog.rt.boundsError u,false,false⟩] w'):Bl prog N ops S1 S T' K n' L f w i:=by obtain ⟨w',v,hr,hw⟩:=RH (P:=prog) (w:=w) (d:=d) (ty:=ty) (pos:=pos) (af:=af) (g:=none) ht h1 h2 hb;exact ZP hi rfl hr (h v w' hw)
end
theorem ti4:TI prog 4 (.bool false) 1 1:=nQ (by kernel_rfl)
theorem qZ:TI prog 64 (.agg #[V 0,sn]) 2 32:=nQ (by kernel_rfl)
theorem Vs:TI prog 67 (.agg #[V 0,V 0,V 0,sn,V 0,sn,V 0,sn]) 8 112:=nQ (by kernel_rfl)
theorem Av:TI prog 172 (.agg #[V 0,V 0]) 2 16:=nQ (by kernel_rfl)
theorem abj:TI prog 168 sn 1 24:=nQ (by kernel_rfl)
theorem abE:TI prog 88 sn 1 24:=nQ (by kernel_rfl)
theorem RA:TI prog 111 (.pointer none) 1 8:=nQ (by kernel_rfl)
theorem adA:TI prog 87 (.map none) 1 8:=nQ (by kernel_rfl)
theorem Gd {ρ:Operand->Value}{w:World}{d:Option Nat}{ty:TypeId}{pos:String}{af:Array Edge}{g:Option (Nat × Bool)}{t e:TypeId}{x y:Operand}{A:Option Addr}{n c:Nat}{i:Int}{z:Value}{s by_:Nat}(j:Nat)(h5:A=some ⟨nk A,nX A,none⟩)(ht:prog.underlying t=some (.slice e))(he:TI prog e z s by_)(hx:ρ x=.slice A n c)(hy:ρ y=V i)(hi:i=(j:Int))(hj:j < n):Yl prog ρ (.indexAddr t x y) d ty pos af g w (.pointer (some ⟨nk A,nX A+j * s,none⟩)):=by rw [h5] at hx;exact xIdx j ht he hx hy hi hj
theorem IZ {w:World}{base:Nat}{e:TypeId}{sz n c:Nat}{A:Option Addr}{xs:List Value}(h:Go.Fw.Own w base e sz A n c xs)(hn:0 < n):A=some ⟨nk A,nX A,none⟩:=by obtain ⟨g,rfl⟩:=h.Ti hn;rfl
theorem UO {α:Type}{l:List α}{i:Int}{x:α}(h:ix? l i=some x):∃ k:Nat,i=(k:Int)/\l[k]?=some x:=by
 unfold ix? at h;split at h
 · cases h
 · exact ⟨i.toNat,by omega,h⟩
theorem qF {α:Type}{l:List α}{i:Int}(h:ix? l i=none):¬ (0<=i/\i < l.length):=by
 unfold ix? at h;split at h
 · omega
 · have:=List.getElem?_eq_none_iff.1 h;omega
section
variable {α:Type}{w w0:World}{Z G:Nat->Prop}{L:List It}{D:List Da}
theorem bno (b:Bx w0 w Z G L D):Bx w0 w Z G [] []:=b.ad [] []
theorem prt (b:Bx w0 w Z G L D)(u:Value)(w':World)(h:w'=w\/w'=w.drew):Pb (Lo.rt:Lo α) [⟨.iface prog.rt.boundsError u,false,false⟩]/\Bx w0 w' Z G [] []:=by
 refine ⟨⟨u,abJ _⟩,?_⟩;rcases h with rfl | rfl
 · exact bno b
 · exact bno b.drew
theorem XU (b:Bx w0 w Z G L D):Pb (Lo.lim:Lo α) [⟨.iface 83 (.agg #[]),false,false⟩]/\Bx w0 w Z G [] []:=⟨abJ _,bno b⟩
end
theorem WR {N:Fz}{ops:Array Oper}{K:KK}{rest:List Oper}{f:Fr}{w:World}{a b:Nat}{d:Option Nat}{ty ty2 ty3:TypeId}{pos pos2 pos3:String}{af af2 af3:Array Edge}(hab:(lD (lD f (some a) (.agg #[])) (some b) (.iface 83 (.agg #[]))) b=.iface 83 (.agg #[]))(kp:∀ f,K.p f [⟨.iface 83 (.agg #[]),false,false⟩] w):oF prog N ops K (⟨some a,.build 83 #[],ty,pos,af,none⟩ :: ⟨some b,.makeInterface 83 (.tmp a),ty2,pos2,af2,none⟩ :: ⟨d,.panic (.tmp b),ty3,pos3,af3,none⟩ :: rest) f w:=by
 have e:(Instr.build 83 #[]).run prog w=.ok (.agg #[]) w:=by kernel_rfl
 have h1:(execOp (ev f) ⟨some a,.build 83 #[],ty,pos,af,none⟩).run prog w=.ok (.value (.agg #[])) w:=by simp [execOp,e]
 refine kT h1 ?_;refine kT (adj (v:=.agg #[]) ⟨.struct #[],by kernel_rfl,rfl⟩ ?_) ?_
 · show lD f (some a) (.agg #[]) a=_;simp [lD,upd]
 exact aaZ hab (kp _)
theorem FQ:∀ {bl:List nK}{R:List Rw}{T:List (List Value)},R.length=bl.length→T.length=bl.length→(nR bl R T).length=bl.length
 | [],_,_,_,_=>by simp [nR]
 | b :: bl,r :: R,t :: T,h1,h2=>by rw [nR,uN,FQ (by simpa using h1) (by simpa using h2),uN]
 | _ :: _,[],_,h,_=>by simp at h
 | _ :: _,_ :: _,[],_,h=>by simp at h
theorem Kc:∀ {bl:List nK}{R:List Rw}{T:List (List Value)}{k:Nat}{b:nK},R.length=bl.length→T.length=bl.length→bl[k]?=some b→∃ r t,R[k]?=some r∧T[k]?=some t∧(nR bl R T)[k]?=some (V b.a :: (r.hdr ++ t))
 | b :: bl,r :: R,t :: T,0,_,_,_,h=>by simp only [Dz,Cy] at h;subst h;exact ⟨r,t,rfl,rfl,rfl⟩
 | b :: bl,r :: R,t :: T,k+1,_,h1,h2,h=>Kc (bl:=bl) (R:=R) (T:=T) (k:=k) (by simpa using h1) (by simpa using h2) (by simpa using h)
 | [],_,_,_,_,_,_,h=>by simp at h
 | _ :: _,[],_,_,_,h,_,_=>by simp at h
 | _ :: _,_ :: _,[],_,_,_,h,_=>by simp at h
theorem Kg:∀ {bl:List nK}{R:List Rw}{T:List (List Value)}{k:Nat}{b:nK}{r:Rw}{t:List Value},R.length=bl.length→T.length=bl.length→(nR bl R T).set k (V b.a :: (r.hdr ++ t))=nR (bl.set k b) (R.set k r) (T.set k t)
 | b :: bl,r :: R,t :: T,0,_,_,_,_,_=>rfl
 | b :: bl,r :: R,t :: T,k+1,_,_,_,h1,h2=>by simp only [nR,List.set_cons_succ];rw [Kg (by simpa using h1) (by simpa using h2)]
 | [],_,_,_,_,_,_,_,_=>by simp [nR]
 | _ :: _,[],_,_,_,_,_,h,_=>by simp at h
 | _ :: _,_ :: _,[],_,_,_,_,_,h=>by simp at h
theorem Kv:∀ {bl:List nK}{R:List Rw}{T:List (List Value)}{b:nK}{r:Rw}{t:List Value},R.length=bl.length→T.length=bl.length→nR bl R T ++ [V b.a :: (r.hdr ++ t)]=nR (bl ++ [b]) (R ++ [r]) (T ++ [t])
 | b :: bl,r :: R,t :: T,_,_,_,h1,h2=>by simp only [nR,List.cons_append];rw [Kv (by simpa using h1) (by simpa using h2)]
 | [],[],[],_,_,_,_,_=>rfl
 | [],_ :: _,_,_,_,_,h,_=>by simp at h
 | [],[],_ :: _,_,_,_,_,h=>by simp at h
 | _ :: _,[],_,_,_,_,h,_=>by simp at h
 | _ :: _,_ :: _,[],_,_,_,_,h=>by simp at h
theorem FL {F:Nat→Prop}{w:World}:∀ {bl:List nK}{R:List Rw}{T:List (List Value)}{q:List yU},wz F w T q→∀ x ∈ nR bl R T,x.length=10∧x.all (fun v=>v.oneCell')=true
 | b :: bl,r :: R,t :: T,q :: Q,h,x,hx=>by
  rcases qz.1 hx with rfl | hx
  · have h1:=Rp.len h.1;have h2:=Rp.one h.1;have h3:t.length=8:=h1;refine ⟨by simp [Rw.hdr,h3],?_⟩;simp only [List.all_cons,List.all_append,Rw.hdr,List.all_nil,h2];rfl
  · exact FL h.2 x hx
 | _ :: _,_ :: _,_ :: _,[],h,_,_=>h.elim
 | [],_,_,_,_,_,hx=>by simp [nR] at hx
 | _ :: _,[],_,_,_,_,hx=>by simp [nR] at hx
 | _ :: _,_ :: _,[],_,_,_,hx=>by simp [nR] at hx
theorem QD {F:Nat→Prop}{w:World}:∀ {C:List (List Value)},(∀ x ∈ C,x.length=10∧x.all (fun v=>v.oneCell')=true)→wz F w C (C.map BC.mk)
 | [],_=>trivial
 | c :: C,h=>⟨⟨rfl,h c (Az ..)⟩,QD fun x hx=>h x (yT _ hx)⟩
theorem Wn {F:Nat→Prop}{w:World}:∀ {C l:List (List Value)},wz F w C (l.map BC.mk)→C=l
 | [],[],_=>rfl
 | c :: C,x :: l,h=>by rw [h.1.1,Wn h.2]
 | [],_ :: _,h=>h.elim
 | _ :: _,[],h=>h.elim
theorem Q5 {w0 w:World}{Z G:Nat->Prop}{L:List It}{D:List Da}{R:Rn}{m:yV}{s:Lw}{k:Nat}{bk:nK}(b:Bx w0 w Z G L D)(i j j2:Nat)(hi:L[i]?=some (.own R.B m.bA m.bC 69 10 (nR s.blocks m.R m.tc)))(hj:D[j]?=some (.mI m.R (s.blocks.map (·.c))))(hj2:D[j2]?=some (.els m.tc (s.blocks.map (·.b))))(hk:s.blocks[k]?=some bk) :m.R.length=s.blocks.length/\m.tc.length=s.blocks.length/\(∀ x ∈ nR s.blocks m.R m.tc,x.length=10/\x.all (fun v=>v.oneCell')=true)/\m.bA=some ⟨nk m.bA,nX m.bA,none⟩/\k < s.blocks.length/\∃ r t,m.R[k]?=some r/\m.tc[k]?=some t/\(nR s.blocks m.R m.tc)[k]?=some (V bk.a :: (r.hdr ++ t))/\r.cs.length=bk.c.length/\Cells w (nk m.bA) (nX m.bA+k * 10) (V bk.a :: (r.hdr ++ t)):=by
 have h1:m.R.length=s.blocks.length:=by rw [(b.d2 j hj).len,Cw]
 have h2:m.tc.length=s.blocks.length:=by rw [(b.de j2 hj2).len,Cw]
 have h3:=fun x hx=>FL (R:=m.R) (bl:=s.blocks) (b.de j2 hj2) x hx;have hl:=FQ h1 h2;have hkl:=kP hk;obtain ⟨r,t,hr,ht,hc⟩:=Kc h1 h2 hk;have ho:=b.bo i hi;obtain ⟨r',hr',hE⟩:=(b.d2 j hj).get (k:=k) (x:=bk.c) (by rw [AU,hk];rfl);rw [hr] at hr';cases hr';refine ⟨h1,h2,h3,IZ ho (by omega),hkl,r,t,hr,ht,hc,hE.len,?_⟩;have b2:=b.jZ (d:=.els (nR s.blocks m.R m.tc) ((nR s.blocks m.R m.tc).map BC.mk)) (QD h3);have hi':L[i]?=some (.own R.B m.bA m.bC 69 (Rp.sz BC) (nR s.blocks m.R m.tc)):=hi;exact b2.oc i 0 hi' rfl hc
theorem Ny {R:Rn}{m:yV}{s:Lw}{k:Nat}(b1:nK)(r:Rw)(t:List Value)(h1:m.R.length=s.blocks.length)(h2:m.tc.length=s.blocks.length):Low R { m with R:=m.R.set k r,tc:=m.tc.set k t } { s with blocks:=s.blocks.set k b1 } =
  [.box R.lb 90 (Dk R m s).toArray,.own R.B m.bA m.bC 69 10 ((nR s.blocks m.R m.tc).set k (V b1.a :: (r.hdr ++ t))),.sJ R.B 73 11 (m.R.set k r) none,.own R.B m.oA m.oC 57 3 m.oc,.map TR Vp R.ob s.omap,.Ni ekP Vp m.vb s.vals,.own R.B m.pA m.pC 3 1 m.pc,.own R.B m.hA m.hC 111 1 (BM m.hp),.Oc 170 m.bs (sG s.labs m.lh)]:=by
 simp only [Low,Dk,zP,Kg h1 h2]
theorem Kn {R:Rn}{m:yV}{s:Lw}{k:Nat}(b1:nK)(r:Rw)(t:List Value):kK R { m with R:=m.R.set k r,tc:=m.tc.set k t } { s with blocks:=s.blocks.set k b1 } =
  [.mI (m.R.set k r) ((s.blocks.map (·.c)).set k b1.c),.els (m.tc.set k t) ((s.blocks.map (·.b)).set k b1.b),.els m.oc s.objs,.els m.pc s.pend,.els m.lh (s.labs.map (·.2)),.wp (.l m.cA m.cC s.ctxs) (HP m.hp m.bs s.hnd),.l R.a.a1 R.a.c1 R.src.a.a,.l R.a.a2 R.a.c2 R.src.a.b,.l R.a.a3 R.a.c3 R.src.c,.l R.a.a4 R.a.c4 R.src.b]:=by
 simp only [kK,List.map_set]
theorem BK:∀ {l:List (Int × List Pc)}{H:List (List Value)},H.length=l.length→(sG l H).length=l.length
 | [],_,_=>by simp [sG]
 | t :: l,h :: H,e=>by rw [sG,uN,BK (by simpa using e),uN]
 | _ :: _,[],e=>by simp at e
theorem Ke:∀ {l:List (Int × List Pc)}{H:List (List Value)}{k:Nat}{t:Int × List Pc},H.length=l.length→l[k]?=some t→∃ h,H[k]?=some h∧(sG l H)[k]?=some (V t.1 :: h)
 | t :: l,h :: H,0,_,_,e=>by simp only [Dz,Cy] at e;subst e;exact ⟨h,rfl,rfl⟩
 | t :: l,h :: H,k+1,_,h1,e=>Ke (l:=l) (H:=H) (k:=k) (by simpa using h1) (by simpa using e)
 | [],_,_,_,_,e=>by simp at e
 | _ :: _,[],_,_,h,_=>by simp at h
theorem Jv:∀ {l:List (Int × List Pc)}{H:List (List Value)}{k:Nat}{n:Int}{t:Int × List Pc}{h:List Value},l[k]?=some t→H[k]?=some h→(sG l H).set k (V n :: h)=sG (l.set k (n,t.2)) H
 | t :: l,h :: H,0,n,_,_,e1,e2=>by simp only [Dz,Cy] at e1 e2;subst e1 e2;rfl
 | t :: l,h :: H,k+1,n,_,_,e1,e2=>by simp only [sG,List.set_cons_succ];rw [Jv (by simpa using e1) (by simpa using e2)]
 | [],_,_,_,_,_,e,_=>by simp at e
 | _ :: _,[],_,_,_,_,_,e=>by simp at e
theorem JK:∀ {l:List (Int × List Pc)}{H:List (List Value)}{t:Int × List Pc}{h:List Value},H.length=l.length→sG l H ++ [V t.1 :: h]=sG (l ++ [t]) (H ++ [h])
 | t :: l,h :: H,_,_,e=>by simp only [sG,List.cons_append];rw [JK (by simpa using e)]
 | [],[],_,_,_=>rfl
 | [],_ :: _,_,_,e=>by simp at e
 | _ :: _,[],_,_,e=>by simp at e
theorem VA {ρ:Operand->Value}{w:World}{d:Option Nat}{ty:TypeId}{pos:String}{af:Array Edge}{g:Option (Nat × Bool)}{x:Operand}{n:Int}(h:ρ x=V n):(execOp ρ ⟨d,.buildSlice 22 1 #[(0,x)],ty,pos,af,g⟩).run prog w=.ok (.value (.slice (some ⟨w.heap.size,0,none⟩) 1 1)) (w.alloc (.cells #[V n] 3)):=by
 have e:(Instr.buildSlice 22 1 #[(0,V n)]).run prog w=.ok (.slice (some ⟨w.heap.size,0,none⟩) 1 1) (w.alloc (.cells #[V n] 3)):=by kernel_rfl
 simp [execOp,h,e]
theorem Es {R:Rn}{v:Int}:BL R (fun _=>True) 170 #[Pt R.lb,V v] (ET v) VU []:=by refine pI fun w Z G m s p b hZ _ hB hm=>?_;obtain ⟨pe,hpe,hm⟩:=bs hm;cases hm;refine kZ func170 rfl ?_;refine lH [(0,Pt R.lb),(1,V v)] ⟨rfl,rfl,trivial⟩ fun av=>?_;refine jY b ?_;refine l5 (jM b [[V v]] ([v]:List Int) (VA rfl) rfl rfl (by decide) ⟨rfl,trivial⟩) ?_;rintro _ w1 ⟨b1,rfl,b⟩;refine l5 (kR b 7 4 rfl rfl underlying22 o9 rfl (by decide) (by decide) hB rfl rfl (b.BU 0 0 rfl rfl) hpe) ?_;rintro _ w2 ⟨A2,c2,cs2,rfl,b⟩;refine jY b ?_;refine lg (t_n b 1 [.slice A2 pe.length c2] rfl GJ rfl rfl) fun w3 b=>?_;refine jY b ?_;exact nE rfl ⟨(),_,{ m with pA:=A2,pC:=c2,pc:=cs2 },[],rfl,⟨rfl,rfl⟩,Ob,b.ad [1,2,3,4,5,6,7,8,9] [1,2,3,4,5,6,7,8,9,10]⟩
theorem Tw {n:Nat}(h:n<=9223372036854775807):wr ((n:Int) - 1)=(n:Int) - 1:=by unfold wr;rw [TH (by omega) (by omega)]
theorem U8 {l:List Int}{v:Int}(h:l.getLast?=some v):l[l.length - 1]?=some v/\0 < l.length:=by rw [List.getLast?_eq_getElem?] at h;exact ⟨h,by have:=kP h;omega⟩
theorem G9 {R:Rn}:BL R (fun _=>True) 146 #[Pt R.lb] Gg VI []:=by
 refine pI fun w Z G m s p b hZ _ hB hm=>?_;unfold Gg at hm;refine kZ func146 rfl ?_;refine lH [(0,Pt R.lb)] ⟨rfl,trivial⟩ fun av=>?_;refine jY b ?_;have hbd:s.pend.length<=9223372036854775807:=(b.vw 6 3 rfl rfl).bd;rw [Tw hbd];cases hl:s.pend.getLast? with
 | none=>
  rw [hl] at hm;cases hm;have h0:s.pend=[]:=List.getLast?_eq_none_iff.1 hl;refine Vm underlying22 rfl rfl (by rw [h0];simp) (prt b)
 | some v=>
  rw [hl] at hm;cases hm;obtain ⟨h1,h2⟩:=U8 hl;refine kT (lu underlying22 o9 rfl rfl (by omega) (b.vw 6 3 rfl rfl) h1) ?_;refine kT (kC underlying3 rfl rfl ((uE (ds:=[V v]) (b.vw 6 3 rfl rfl) h1 (fun _ h=>h)) 0 _ rfl)) ?_;refine jY b ?_;refine kT (zR (s.pend.length - 1) underlying22 o9 rfl rfl (by omega) (by have:=(b.vw 6 3 rfl rfl).cap;omega)) ?_;have hr:(s.pend.drop 0).take (s.pend.length - 1 - 0)=s.pend.dropLast:=by rw [List.drop_zero,Nat.sub_zero,List.dropLast_eq_take]
  replace b:=b.shr 6 3 rfl rfl (by omega) hr;refine jY b ?_;have hlen:s.pend.length - 1=s.pend.dropLast.length:=by simp
  rw [hlen];refine lg (t_n b 0 [.slice m.pA s.pend.dropLast.length m.pC] rfl GJ rfl rfl) fun w3 b=>?_;refine jY b ?_;refine lS ?_;exact jI rfl (nu rfl) ⟨v,{ s with pend:=s.pend.dropLast },{ m with pc:=m.pc.take (s.pend.length - 1) },[],rfl,⟨rfl,rfl⟩,Ob,b⟩
theorem VF {R:Rn}{l:List HY}{a:Option Addr}{c:Nat}:BL R (fun _=>True) 102 #[Pt R.lb,.slice a l.length c] (lop l) VU [.l a c l]:=by
 refine pI fun w Z G m s p b hZ _ hB hm=>?_;unfold lop at hm;refine kZ func102 rfl ?_;refine lH [(0,Pt R.lb),(1,.slice a l.length c)] ⟨rfl,rfl,trivial⟩ fun av=>?_;refine jY b ?_;refine lg (t_n b 0 [V (wr (s.ops+l.length))] rfl o9 rfl rfl) fun w1 b=>?_;refine jY b ?_;refine rP rfl (fun h=>?_) (fun h=>?_)
 · rw [mF h] at hm;cases hm;refine jY b ?_;exact WR rfl fun _=>XU b
 rw [mO h] at hm;refine jY b ?_;refine EN b [] fun b=>?_;refine AP b ?_;cases hb:ix? s.blocks s.blk with
 | none=>
   rw [hb] at hm;cases hm;refine hO 9 (vV rfl underlying48 rfl rfl (qF hb) fun u w' hw _=>?_);exact prt b u w' hw
 | some bk=>
   rw [hb] at hm;obtain ⟨os,hos,hm⟩:=bs hm;cases hm;obtain ⟨k,hk,hbk⟩:=UO hb;obtain ⟨h1,h2,h3,hA,hkl,r,t,hr,ht,hc,hl,hcell⟩:=Q5 b 1 0 1 rfl rfl rfl hbk;refine wu 9 rfl ?_;refine dP (Gd k hA underlying48 MW rfl rfl hk hkl) (jH kJ b) ?_;refine AP b ?_;refine hD ?_;obtain ⟨a2,c2,cs,hr2,hcl,b⟩:=(b.ad [2,0,1,3,4,5,6,7,8] [0,1,2,3,4,5,6,7,8,9,10]).YE (k:=k) (x:=bk.c) 0 rfl (by rw [AU,hbk];rfl);rw [hr] at hr2;cases hr2;have hcell1:w1.drew.cell? ⟨nk m.bA,nX m.bA+k * 10+1,none⟩=some (.slice a2 bk.c.length c2):=by rw [<-hcl];exact hcell 1 _ rfl
   refine jY b ?_;refine gC rfl hcell1 rfl ?_;refine jY b ?_;refine l5 (kR b 0 0 rfl rfl underlying62 Tj rfl (by decide) (by decide) hB rfl rfl (b.ysD 11 rfl) hos) ?_;rintro _ w2 ⟨A3,c3,cs3,rfl,b⟩;refine jY b ?_;have hcs:cs3.length=os.length:=(b.de 0 rfl).len;refine lg (Zx (o:=1) (u':=V bk.a :: ((⟨A3,c3,cs3⟩:Rw).hdr ++ t)) b 3 [.slice A3 os.length c3] rfl hc (fun x hx=>(h3 x hx).1) abQ rfl rfl (by simp) (by rw [<-hcs];rfl)) fun w3 b=>?_;refine jY b ?_;have b2:=(b.unf 1 0 rfl rfl).ad [1,2,0,3,4,5,6,7,8] [1,2,3,4,5,6,7,8,9,10];have hkn:s.blk.toNat=k:=by omega
   refine nE rfl ⟨(),_,{ m with R:=m.R.set k ⟨A3,c3,cs3⟩,tc:=m.tc.set k t },[],rfl,⟨rfl,rfl⟩,Ob,?_⟩;rw [hkn,FC];rw [Ny (s:={ s with ops:=wr (s.ops+l.length) }) _ _ _ h1 h2,Kn (s:={ s with ops:=wr (s.ops+l.length) }),set_self ht,set_self (l:=s.blocks.map (·.b)) (by rw [AU,hbk];rfl)];exact b2
theorem FB:jC prog 102:=⟨_,func102,by kernel_rfl,by kernel_rfl⟩
abbrev cO (o:HY):List Value:=[V o.c,V o.e,V o.A,V o.B,V o.N,V o.d,V o.g,V o.b,V o.a.c,V o.a.a,V o.a.b]
section
variable {R:Rn}{w0 w:World}{Z G:Nat->Prop}{X:List It}{Y ds:List Da}{m:yV}{s:Lw}
theorem lf0 (b:Bx w0 w Z G (Low R m s ++ X) (kK R m s ++ Y)):Bx w0 w Z G (Low R m s) ([] ++ kK R m s):=(b.sub (List.sublist_append_left _ _)).zQ fun d hd=>List.mem_append_left _ (by simpa using hd)
theorem y1 {d:Da}{Y:List Da}:∀ x ∈ [d],x ∈ d :: Y:=fun x hx=>by rw [List.mem_singleton] at hx;subst hx;exact Az ..
theorem lY (b:Bx w0 w Z G (Low R m s ++ X) (kK R m s ++ Y))(i j:List Nat)(hn:nodup i=true:=by exact rfl):Bx w0 w Z G (Low R m s ++ pick X i) (kK R m s ++ pick Y j):=by
 have hp:=List.pairwise_append.1 b.pw;have hm:∀ x ∈ pick X i,x ∈ X:=fun x hx=>by obtain ⟨k,_,hk⟩:=Cz hx;exact zn hk
 have b1:Bx w0 w Z G (pick X i) (kK R m s ++ Y):=(b.sub (List.sublist_append_right _ _)).arr i hn;refine Bx.zQ ⟨b.sS,fun it hi=>?_,List.pairwise_append.2 ⟨hp.1,b1.pw,fun x hx y hy=>hp.2.2 x hx y (hm y hy)⟩,fun d hd=>d.mv (b.da d hd) (.same fun k hk _=>⟨hk.1,fun it hi=>hk.2 it ?_⟩)⟩ fun d hd=>?_
 · rcases rX.1 hi with hi | hi
   · exact b.it it (List.mem_append_left _ hi)
   · exact b.it it (List.mem_append_right _ (hm it hi))
 · rcases rX.1 hi with hi | hi
   · exact List.mem_append_left _ hi
   · exact List.mem_append_right _ (hm it hi)
 · rcases rX.1 hd with hd | hd
   · exact List.mem_append_left _ hd
   · obtain ⟨k,_,hk⟩:=Cz hd;exact List.mem_append_right _ (zn hk)
variable {N:Fz}{ops:Array Oper}{K:KK}{rest:List Oper}{f:Fr}{d:Option Nat}{op:Op}{ty:TypeId}{pos:String}{af:Array Edge}{L:List It}{D:List Da}
theorem DX (h:Bx w0 w Z G (L ++ X) D){t:TypeId}{cs:Array Value}(e:(execOp (ev f) ⟨d,op,ty,pos,af,none⟩).run prog w=.ok (.value (.pointer (some ⟨w.heap.size,0,none⟩))) (w.alloc (.cells cs t)))(k:∀ w' b,Bx w0 w' Z G (L ++ (X ++ [.box b t cs])) D->oF prog N ops K rest (lD f d (.pointer (some ⟨b,0,none⟩))) w'):oF prog N ops K (⟨d,op,ty,pos,af,none⟩ :: rest) f w:=
 Wx h e fun w' b h=>k w' b (h.perm (by rw [<-GD];exact (List.perm_append_comm (l₁:=[_]) (l₂:=L ++ X))))
theorem Wv {ρ:Operand->Value}{g:Option (Nat × Bool)}{x:Operand}{o:HY}(h:ρ x=.agg (cO o).toArray):(execOp ρ ⟨d,.buildSlice 62 1 #[(0,x)],ty,pos,af,g⟩).run prog w=.ok (.value (.slice (some ⟨w.heap.size,0,none⟩) 1 1)) (w.alloc (.cells (cO o).toArray 73)):=by
 have e:(Instr.buildSlice 62 1 #[(0,.agg (cO o).toArray)]).run prog w=.ok (.slice (some ⟨w.heap.size,0,none⟩) 1 1) (w.alloc (.cells (cO o).toArray 73)):=by kernel_rfl
 simp [execOp,h,e]
theorem lOp {β:Type}{q:Lo β}{k:Unit->LM β}{o:HY}{x:Operand}{e:Nat}{ty2:TypeId}{pos2:String}{af2:Array Edge}(b:Bx w0 w Z G (Low R m s ++ X) (kK R m s ++ Y))(hZ:∀ b,G b->Z b)(hB:R.B<=w0.heap.size)(hm:((lop [o]).bind k) s=some q)(hx:ev f x=.agg (cO o).toArray)(he:∀ A w',(execOp (ev (lD f (some e) (.slice A 1 1))) ⟨d,op,ty2,pos2,af2,none⟩).run prog w'=.ok (.enter 102 #[Pt R.lb,.slice A 1 1]) w')(kk:∀ s' m' w' A,k () s'=some q->(∃ t,m'.bs=m.bs ++ t)->Bx w0 w' Z G (Low R m' s' ++ X) (kK R m' s' ++ Y)->oF prog N ops K rest (lD (lD f (some e) (.slice A 1 1)) d (.tuple #[])) w')(kp:∀ f ch w',Pb q ch->Bx w0 w' Z G [] []->K.p f ch w':=by exact fun _ _ _ h1 h2=>⟨h1,h2⟩):oF prog N ops K (⟨some e,.buildSlice 62 1 #[(0,x)],ty,pos,af,none⟩ :: ⟨d,op,ty2,pos2,af2,none⟩ :: rest) f w:=by
 refine l5 (jM b [cO o] ([o]:List HY) (Wv hx) (by simp) rfl (by decide) ⟨rfl,trivial⟩) ?_;rintro _ w1 ⟨b1,rfl,b⟩;have b:=b.Jt hZ 0 0 rfl rfl;have b:Bx w0 w1 Z G (Low R m s ++ X) (kK R m s ++ (.l (some ⟨b1,0,none⟩) 1 [o] :: Y)):=b.zQ fun d hd=>by
   rcases rX.1 hd with hd | hd
   · exact yT _ (List.mem_append_left _ hd)
   · rcases qz.1 hd with rfl | hd
     · exact Az ..
     · exact yT _ (List.mem_append_right _ hd)
 refine uG VF (he _ _) b hZ hB kJ hm (fun s' m' w2 h1 h2 b=>kk s' m' w2 _ h1 h2 (b.zQ fun d hd=>?_)) y1 (kp _);rcases rX.1 hd with hd | hd
 · exact List.mem_append_left _ hd
 · exact List.mem_append_right _ (yT _ hd)
end
theorem Fa:jC prog 147:=⟨_,func147,by kernel_rfl,by kernel_rfl⟩
theorem Dj {ρ:Operand->Value}{w:World}{d:Option Nat}{ty:TypeId}{pos:String}{af:Array Edge}{g:Option (Nat × Bool)}{t:TypeId}{l:List (Nat × Operand)}{l':List (Nat × Value)}{v:Value}(h:l.map (fun p=>(p.1,ρ p.2))=l')(e:(Instr.build t l'.toArray).run prog w=.ok v w):Yl prog ρ (.build t l.toArray) d ty pos af g w v:=by subst h;simp [Yl,execOp,e]
theorem yZ {R:Rn}{o:HY}:BL R (fun _=>True) 147 #[Pt R.lb,.agg (cO o).toArray] (JW o) VI []:=by refine pI fun w Z G m s p b hZ _ hB hm=>?_;refine kZ func147 rfl ?_;refine lH [(0,Pt R.lb),(1,.agg (cO o).toArray)] ⟨rfl,rfl,trivial⟩ fun av=>?_;refine FY (xG ?_);refine DX b (uM rfl) fun w1 b3 b=>?_;refine jY b ?_;refine lg (t_n b 9 [V s.next] rfl o9 rfl rfl) fun w2 b=>?_;refine jY b ?_;refine lg (t_n b 0 [V (wr (s.next+1))] rfl o9 rfl rfl) fun w3 b=>?_;refine jY b ?_;refine kT (sZ (cO { o with e:=s.next }) underlying73 Tj rfl (b.bk 9 rfl)) ?_;have b:Bx w w3 Z G (Low R m { s with next:=wr (s.next+1) } ++ [.box b3 73 (cO { o with e:=s.next }).toArray]) (kK R m { s with next:=wr (s.next+1) } ++ []):=b;refine lOp b hZ hB hm rfl (fun _ _=>jJ FB rfl) fun s' m' w4 A hm hbs b=>?_;cases hm;refine jY b ?_;refine lS ?_;exact jI rfl (nu rfl) ⟨_,_,_,[],rfl,⟨rfl,rfl⟩,hbs,lf0 b⟩
theorem tu {R:Rn}{n:Int}:BL R (fun _=>True) 114 #[Pt R.lb,V n] (wm n) VI []:=by refine pI fun w Z G m s p b hZ _ hB hm=>?_;refine kZ func114 rfl ?_;refine lH [(0,Pt R.lb),(1,V n)] ⟨rfl,rfl,trivial⟩ fun av=>?_;refine jY b ?_;refine kT (Dj (v:=.agg (cO ⟨1,0,0,0,n,0,0,0,wK⟩).toArray) rfl (by kernel_rfl)) ?_;refine OE (k:=nT) yZ (jJ Fa rfl) b hZ hB kJ (by rw [CQ];exact hm) fun v s' m' w4 hm hbs b=>?_;cases hm;refine jY b ?_;refine lS ?_;exact jI rfl (nu rfl) ⟨_,_,_,[],rfl,⟨rfl,rfl⟩,hbs,lf0 b⟩
theorem Sq {R:Rn}:BL R (fun _=>True) 104 #[Pt R.lb] Iq VU []:=by refine pI fun w Z G m s p b hZ _ hB hm=>?_;refine kZ func104 rfl ?_;refine lH [(0,Pt R.lb)] ⟨rfl,trivial⟩ fun av=>?_;refine jY b ?_;refine kT (Dj (v:=.agg (cO ⟨19,0,0,0,s.stmt,0,0,0,wK⟩).toArray) rfl (by kernel_rfl)) ?_;refine lOp (k:=nT) b hZ hB (by rw [CQ];exact hm) rfl (fun _ _=>jJ FB rfl) fun s' m' w4 A hm hbs b=>?_;cases hm;refine jY b ?_;exact nE rfl ⟨_,_,_,[],rfl,⟨rfl,rfl⟩,hbs,lf0 b⟩
theorem VN {R:Rn}:BL R (fun _=>True) 150 #[Pt R.lb] TN VU []:=by refine pI fun w Z G m s p b hZ _ hB hm=>?_;refine kZ func150 rfl ?_;refine lH [(0,Pt R.lb)] ⟨rfl,trivial⟩ fun av=>?_;refine jY b ?_;refine kT (Dj (v:=.agg (cO ⟨20,0,0,0,s.stmt,0,0,0,wK⟩).toArray) rfl (by kernel_rfl)) ?_;refine lOp (k:=nT) b hZ hB (by rw [CQ];exact hm) rfl (fun _ _=>jJ FB rfl) fun s' m' w4 A hm hbs b=>?_;cases hm;refine jY b ?_;exact nE rfl ⟨_,_,_,[],rfl,⟨rfl,rfl⟩,hbs,lf0 b⟩
theorem fkP:FK prog 172 WB:=adL underlying172 (by kernel_rfl) (by kernel_rfl)
abbrev cP (p:Pc):List Value:=[V p.1,V p.2]
theorem GI {R:Rn}{p:Pc}{v:Int}:BL R (fun _=>True) 69 #[Pt R.lb,.agg (cP p).toArray,V v] (Ar p v) VU []:=by refine pI fun w Z G m s q b hZ _ hB hm=>?_;obtain ⟨l,hl,hm⟩:=bs hm;refine kZ func69 rfl ?_;refine lH [(0,Pt R.lb),(1,.agg (cP p).toArray),(2,V v)] ⟨rfl,rfl,rfl,trivial⟩ fun av=>?_;refine FY (xG ?_);refine DX b (uM rfl) fun w1 b4 b=>?_;refine jY b ?_;refine EN b [6] fun b=>?_;refine AP b ?_;refine wu 4 rfl ?_;refine dU (fun hu=>sZ (cP p) underlying172 Av rfl (hu.bk 9 rfl)) (jH kJ b) ?_;refine AP b ?_;refine hO 6 (os rfl rfl (acS b 5 (k:=p) rfl hl underlying87 fkP rfl rfl rfl) fun w2 b=>⟨sy 6 kJ,hD ?_⟩);refine FY (xG ?_);refine jY b ?_;refine kT (Dj (v:=.agg #[V 2,V v,V 0]) rfl (by kernel_rfl)) ?_;have b:Bx w w2 Z G (Low R m { s with vals:=some (BN l p v) } ++ [.box b4 172 (cP p).toArray]) (kK R m { s with vals:=some (BN l p v) } ++ []):=b;refine DX b (jP ZH) fun w3 b6 b=>?_;refine lg (Fv b 10 [V 2,V v,V 0] rfl ZH rfl rfl) fun w4 b=>?_;refine jY b ?_;refine kT (sZ [V 2,V v,V 0] underlying71 ZH rfl (b.bk 10 rfl)) ?_;refine kT (Dj (v:=.agg (cO ⟨21,0,0,0,0,0,p.1,p.2,⟨2,v,0⟩⟩).toArray) rfl (by kernel_rfl)) ?_;have b:Bx w w4 Z G (Low R m { s with vals:=some (BN l p v) } ++ [.box b4 172 (cP p).toArray,.box b6 71 #[V 2,V v,V 0]]) (kK R m { s with vals:=some (BN l p v) } ++ []):=b;refine lOp (k:=nT) b hZ hB (by rw [CQ];exact hm) rfl (fun _ _=>jJ FB rfl) fun s' m' w5 A hm hbs b=>?_;cases hm;refine jY b ?_;exact nE rfl ⟨_,_,_,[],rfl,⟨rfl,rfl⟩,hbs,lf0 b⟩
abbrev cT (t:yU)(a1:Option Addr)(c1:Nat)(a2:Option Addr)(c2:Nat)(a3:Option Addr)(c3:Nat):List Value:=[V t.c,V t.A,V t.N,.slice a1 t.a.length c1,V t.e.a.b,.slice a2 t.e.a.a.length c2,V t.e.b.b,.slice a3 t.e.b.a.length c3]
theorem He {R:Rn}{t:yU}{a1 a2 a3:Option Addr}{c1 c2 c3:Nat}:BL R (fun _=>True) 149 #[Pt R.lb,.agg (cT t a1 c1 a2 c2 a3 c3).toArray] (lend t) VU [.l a1 c1 t.a,.l a2 c2 t.e.a.a,.l a3 c3 t.e.b.a]:=by
 refine pI fun w Z G m s q b hZ _ hB hm=>?_;unfold lend at hm;refine kZ func149 rfl ?_;refine lH [(0,Pt R.lb),(1,.agg (cT t a1 c1 a2 c2 a3 c3).toArray)] ⟨rfl,rfl,trivial⟩ fun av=>?_;refine FY (xG ?_);refine DX b (uM rfl) fun w1 b3 b=>?_;refine jY b ?_;refine EN b [12] fun b=>?_;refine AP b ?_;refine wu 9 rfl ?_;refine dU (fun hu=>sZ (cT t a1 c1 a2 c2 a3 c3) underlying67 Vs rfl (hu.bk 9 rfl)) (jH kJ b) ?_;cases hb:ix? s.blocks s.blk with
 | none=>
  rw [hb] at hm;cases hm;refine hO 10 (vV rfl underlying48 rfl rfl (qF hb) fun u w' hw _=>?_);exact prt b u w' hw
 | some bk=>
  rw [hb] at hm;cases hm;obtain ⟨k,hk,hbk⟩:=UO hb;obtain ⟨h1,h2,h3,hA,hkl,r,tt,hr,ht,hc,hl,hcell⟩:=Q5 b 1 0 1 rfl rfl rfl hbk;refine wu 10 rfl ?_;refine dP (Gd k hA underlying48 MW rfl rfl hk hkl) (jH kJ b) ?_;refine AP b ?_;have htl:tt.length=8:=by have:=(h3 _ (zn hc)).1;simp [Rw.hdr] at this;omega
  refine hO 12 (os rfl rfl (Zx (o:=2) (u':=V bk.a :: (r.hdr ++ cT t a1 c1 a2 c2 a3 c3)) b 1 (cT t a1 c1 a2 c2 a3 c3) rfl hc (fun x hx=>(h3 x hx).1) Vs rfl rfl (by simp) ?_) fun w2 b=>⟨sy 12 kJ,hD ?_⟩)
  · rw [List.drop_eq_nil_of_le (by simp [Rw.hdr,htl]),Gx];rfl
  refine jY b ?_;refine lg (t_n b 0 [.bool false] rfl ti4 rfl rfl) fun w3 b=>?_;refine jY b ?_;have hE:=(b.de 1 rfl).set k (y:=t) (yU.inn (F:=GY w Z _) (w:=w3) ⟨a1,c1,a2,c2,a3,c3,rfl,b.dl 10 rfl,b.dl 11 rfl,b.dl 12 rfl⟩);replace b:=b.IG 1 (d:=.els _ _) hE;have hkn:s.blk.toNat=k:=by omega
  refine nE rfl ⟨(),_,{ m with R:=m.R.set k r,tc:=m.tc.set k (cT t a1 c1 a2 c2 a3 c3) },[],rfl,⟨rfl,rfl⟩,Ob,?_⟩;rw [hkn,FC];rw [Ny (s:={ s with opn:=false }) _ _ _ h1 h2,Kn (s:={ s with opn:=false }),set_self hr,set_self (l:=s.blocks.map (·.c)) (by rw [AU,hbk];rfl)];exact b.ad [0,1,2,3,4,5,6,7,8] [0,1,2,3,4,5,6,7,8,9]
theorem Dh {w0 w:World}{Z G:Nat->Prop}{L:List It}{D:List Da}{m:yV}{s:Lw}{i c:Nat}{t:Int × List Pc}(b:Bx w0 w Z G L D)(k j:Nat)(hk:L[k]?=some (.Oc 170 m.bs (sG s.labs m.lh)))(hj:D[j]?=some (.els m.lh (s.labs.map (·.2))))(hc:m.bs[i]?=some c)(ht:s.labs[i]?=some t) :m.lh.length=s.labs.length/\∃ h,m.lh[i]?=some h/\(sG s.labs m.lh)[i]?=some (V t.1 :: h)/\tY w c 170 (V t.1 :: h).toArray/\Rp.rep (GY w0 Z L) w h t.2:=by
 have h1:m.lh.length=s.labs.length:=by rw [(b.de j hj).len,Cw]
 obtain ⟨h,h2,h3⟩:=Ke h1 ht;obtain ⟨c',h4,h5⟩:=(b.at k hk).1.get h3;rw [hc] at h4;cases h4;obtain ⟨h',h6,h7⟩:=(b.de j hj).get (k:=i) (x:=t.2) (by rw [AU,ht];rfl);rw [h2] at h6;cases h6;exact ⟨h1,h,h2,h3,h5,h7⟩
theorem acf {ρ:Operand->Value}{w:World}{d:Option Nat}{ty:TypeId}{pos:String}{af:Array Edge}{g:Option (Nat × Bool)}{x:Operand}(h:ρ x=.agg #[V 0,sn,V 0,V 0,V 0,sn,V 0,sn,V 0,sn]):(execOp ρ ⟨d,.buildSlice 48 1 #[(0,x)],ty,pos,af,g⟩).run prog w=.ok (.value (.slice (some ⟨w.heap.size,0,none⟩) 1 1)) (w.alloc (.cells #[V 0,sn,V 0,V 0,V 0,sn,V 0,sn,V 0,sn] 69)):=by
 have e:(Instr.buildSlice 48 1 #[(0,.agg #[V 0,sn,V 0,V 0,V 0,sn,V 0,sn,V 0,sn])]).run prog w=.ok (.slice (some ⟨w.heap.size,0,none⟩) 1 1) (w.alloc (.cells #[V 0,sn,V 0,V 0,V 0,sn,V 0,sn,V 0,sn] 69)):=by kernel_rfl
 simp [execOp,h,e]
theorem LD {R:Rn}{i c:Nat}:BL R (fun m=>m.bs[i]?=some c) 36 #[Pt R.lb,Pt c] (zL i) VU []:=by
 refine pI fun w Z G m s q b hZ hH hB hm=>?_;obtain ⟨t,ht,hm⟩:=bs hm;refine kZ func36 rfl ?_;refine lH [(0,Pt R.lb),(1,Pt c)] ⟨rfl,rfl,trivial⟩ fun av=>?_;obtain ⟨hl1,h,h2,h3,h5,h7⟩:=Dh b 8 4 rfl rfl hH ht;refine jY b ?_;refine gL rfl h5 rfl rfl ?_;refine jY b ?_;refine rP rfl (fun h0=>?_) (fun h0=>?_)
 · rw [mF h0] at hm;cases hm;refine lS ?_;exact nE rfl ⟨_,_,_,[],rfl,⟨rfl,rfl⟩,Ob,lf0 b⟩
 rw [mO h0] at hm;refine jY b ?_;refine rP rfl (fun h4=>?_) (fun h4=>?_)
 · rw [mF (by omega)] at hm;cases hm;refine jY b ?_;exact WR rfl fun _=>XU b
 rw [mO (by omega)] at hm;cases hm;refine jY b ?_;refine lg (adQ (o:=0) (u':=V (s.blocks.length:Int) :: h) b 8 [V (s.blocks.length:Int)] rfl h3 hH o9 rfl rfl (by simp) (by simp)) fun w1 b=>?_;refine jY b ?_;refine kT (Dj (v:=.agg #[V 0,sn,V 0,V 0,V 0,sn,V 0,sn,V 0,sn]) rfl (by kernel_rfl)) ?_;have hR:m.R.length=s.blocks.length:=by rw [(b.d2 0 rfl).len,Cw]
 have hT:m.tc.length=s.blocks.length:=by rw [(b.de 1 rfl).len,Cw]
 have hten:=fun x hx=>FL (R:=m.R) (bl:=s.blocks) (b.de 1 rfl) x hx;have hlen:=FQ hR hT;replace b:=b.jZ (d:=.els (nR s.blocks m.R m.tc) ((nR s.blocks m.R m.tc).map BC.mk)) (QD hten);refine l5 (jM b [[V 0,sn,V 0,V 0,V 0,sn,V 0,sn,V 0,sn]] ([⟨[V 0,sn,V 0,V 0,V 0,sn,V 0,sn,V 0,sn]⟩]:List BC) (acf rfl) rfl rfl (by decide) ⟨⟨rfl,rfl,rfl⟩,trivial⟩) ?_;rintro _ w2 ⟨b1,rfl,b⟩;have happ:app ((nR s.blocks m.R m.tc).map BC.mk) [⟨[V 0,sn,V 0,V 0,V 0,sn,V 0,sn,V 0,sn]⟩]=some ((nR s.blocks m.R m.tc ++ [[V 0,sn,V 0,V 0,V 0,sn,V 0,sn,V 0,sn]]).map BC.mk):=by unfold app;rw [mF (by simp [hlen];omega),List.map_append];rfl
 refine l5 (kR (α:=BC) b 2 1 rfl rfl underlying48 MW rfl (by decide) (by decide) hB (by show Value.slice m.bA s.blocks.length m.bC=_;rw [Cw,hlen]) rfl (b.BU 0 0 rfl rfl) happ) ?_;rintro _ w3 ⟨A2,c2,cs2,rfl,b⟩;have hcs:=Wn (b.de 1 rfl);subst hcs;refine jY b ?_;refine lg (t_n b 1 [.slice A2 ((nR s.blocks m.R m.tc ++ [[V 0,sn,V 0,V 0,V 0,sn,V 0,sn,V 0,sn]]).map BC.mk).length c2] rfl abw rfl rfl) fun w4 b=>?_;refine jY b ?_;replace b:=b.aah (α:=HY) 3 2 rfl rfl;have hE:=(b.de 3 rfl).app (ds:=[[V 0,V 0,V 0,sn,V 0,sn,V 0,sn]]) (m:=[(⟨0,0,0,[],⟨⟨0,[]⟩,⟨0,[]⟩⟩⟩:yU)]) ⟨yU.inn ⟨none,0,none,0,none,0,rfl,ku.nil,ku.nil,ku.nil⟩,trivial⟩;replace b:=b.IG 3 (d:=.els _ _) hE;have b:Bx w w4 Z G _ _:=b.ad [1,2,3,4,5,6,7,8,9] [2,3,4,5,6,7,8,9,10,11];refine nE rfl ⟨(),_,{ m with bA:=A2,bC:=c2,R:=m.R ++ [⟨none,0,[]⟩],tc:=m.tc ++ [[V 0,V 0,V 0,sn,V 0,sn,V 0,sn]] },[],rfl,⟨rfl,rfl⟩,Ob,?_⟩;have e1:nR (s.blocks ++ [Wu]) (m.R ++ [⟨none,0,[]⟩]) (m.tc ++ [[V 0,V 0,V 0,sn,V 0,sn,V 0,sn]])=nR s.blocks m.R m.tc ++ [[V 0,sn,V 0,V 0,V 0,sn,V 0,sn,V 0,sn]]:=(Kv hR hT).symm;have e2:(s.blocks ++ [Wu]).length=((nR s.blocks m.R m.tc ++ [[V 0,sn,V 0,V 0,V 0,sn,V 0,sn,V 0,sn]]).map BC.mk).length:=by simp [hlen]
 have e3:sG (s.labs.set i ((s.blocks.length:Int),t.2)) m.lh=(sG s.labs m.lh).set i (V (s.blocks.length:Int) :: h):=(Jv ht h2).symm;have e4:(s.labs.set i ((s.blocks.length:Int),t.2)).map (·.2)=s.labs.map (·.2):=by rw [List.map_set,set_self (by rw [AU,ht];rfl)]
 have e5:(s.blocks ++ [Wu]).map (·.c)=s.blocks.map (·.c) ++ [[]]:=by simp
 have e6:(s.blocks ++ [Wu]).map (·.b)=s.blocks.map (·.b) ++ [(⟨0,0,0,[],⟨⟨0,[]⟩,⟨0,[]⟩⟩⟩:yU)]:=by simp
 simp only [Low,kK,Dk,e1,e2,e3,e4,e5,e6,FC];exact b
set_option linter.unusedSimpArgs false
noncomputable section
def FU (m:jW->Int->Int->Option (List Int)):Prop:=∀ {t:World}{A}{p:jW}{x z a b c d e f h i u},Pre t A [] [.l a b p.a.a,.l c d p.a.b,.l e f p.c,.l h i p.b]->m p x z=some u-> Calls prog 68 #[.agg #[Z a p.a.a b,Z c p.a.b d,Z e p.c f,Z h p.b i],V x,V z] t (sW fun v w=>∃ (j:OA)(k:Nat)(o:LV),v=Z j u k/\Bx t w A (mQ []) [O t.heap.size j k 3 Int o] [.els o u])
def mo (fu:Nat)(b:Int):List Gv→Nat→(List Int)→Option (Ld (List Int) ((List Int)))
 | [],_,a=>some (.go a)
 | f :: d,c,a=>
 if f.f≤b then
  if b≤f.e then
   (app a ([(c:Int)]:List Int)).bind fun e=>
   mo fu b d (c+1) e
  else
   mo fu b d (c+1) a
 else
  mo fu b d (c+1) a
def jT (fu:Nat)(c:jW)(b d:Int):Option (List Int):=if b < 0 then some ([]:List Int) else if (c.c.length:Int)<=b then some ([]:List Int) else (ix c.c b).bind fun e=>(mo fu d e 0 ([]:List Int)).bind fun f=>f.el (fun a=>some a) (fun o=>some o)
theorem Fj (fu:Nat):FU (jT fu):=by
 intro S au U x1 W A B C D E F H I r0 hP p;unfold jT at p;have e:=hP.bx;clear hP;generalize hG:mQ _=G at e ⊢;refine cf func68 r ?_;refine lH [(0,.agg #[Z A U.a.a B,Z C U.a.b D,Z E U.c F,Z H U.b I]),(1,V x1),(2,V W)] ⟨r,r,r,y⟩ fun av=>?_;refine q (g (l5 (kD e (uM r)) ?_));rintro _ w1 ⟨b1,rfl,e⟩;refine s (og r) (n (q (q (g (s (mi r) (s (sj r r) (s (lI r) ?_)))))));rcases iv p with ⟨X,p⟩|⟨X,p⟩
 ·rw [uD X];refine ko r (ko r (ko r (ko r (ko r (s (kU r r) (n (jK r (q (g (s (og r) (n (lS ?_))))))))))));replace e:=e.EK Int 3;obtain rfl:=sm p;refine jI r (nu r) ?_;exact ⟨none,0,[],r,e.ad [0] [0]⟩
 rw [uL X];refine kL r (s (mi r) (kL r (s (Dv r) (kL r (s (U1 r (e.bk 0 r) r) (kL r (s (mV Kw r) (kL r (s (F8 r r) (s (kI r r) (n ?_)))))))))));rcases iv p with ⟨Y,p⟩|⟨Y,p⟩
 ·refine jK (bt Y) (q (g (s (og r) (n (lS ?_)))));replace e:=e.EK Int 3;obtain rfl:=sm p;refine jI r (nu r) ?_;exact ⟨none,0,[],r,e.ad [0] [0]⟩
 refine jD (bf Y) (wk (q (g (s (og r) (n (q (q (g (s (Dv r) (s (U1 r (e.bk 0 r) r) (s (mi r) ?_)))))))))));obtain ⟨u,z,p⟩:=bs p;obtain ⟨k6,a0,z⟩:=lq z;obtain ⟨ab,a1,e⟩:=e.nm 2 rfl z;obtain ⟨v,x,rfl,N⟩:=a1;replace e:=e.jZ (d:=.l v x u) N;refine s (lu Kw FN r r a0 (e.dl 4 r) z) (s (kC Ea r r ((e.dc 1 r) 0 _ r)) (s (mV Ea r) (s (mi r) (n ?_))));replace e:=e.EK Int 3;have ac:=(e.dl 1 r).bd;obtain ⟨Y8,m,p⟩:=bs p;refine oD (fun f w=>∃ (j:List Int)(a:OA)(b:Nat)(c:LV),Has f [(7,Z a j b)]/\Bx S w au G [O S.heap.size a b 3 Int c] [.els c j,.l v x u]/\Ld.go j=Y8) (fun J8 a2=>?_) ?_
 ·refine qb (kM (fun aw f w=>∃ (t:Nat)(j:List Int)(a:OA)(b:Nat)(c:LV),aw=u.length - t/\t<=u.length/\Has f [(25,V (t:Int)),(2,V W),(7,Z a j b),(23,Z v u x),(24,V (u.length:Int))]/\Bx S w au G [O S.heap.size a b 3 Int c] [.els c j,.l v x u]/\mo fu W (u.drop t) t j=some Y8) u.length ⟨0,([]:List Int),none,0,[],r,uS _,⟨r,r,r,r,r,y⟩,e.ad [0] [0,1],m⟩ ?_);clear e m;rintro aw f w ⟨t,j,a,b,c,rfl,ae,hf,e,m⟩ K8 J;obtain ⟨av,rfl⟩:=ng hf;rcases wY t u.length with Q | Q
  ·obtain ⟨o,K⟩:=mU (l:=u) Q;rw [mR K,mo] at m;refine q (g (s (sO r r (by omega)) (n (q (jK r (wk (q (qb (q (g (s (mi r) (s (lu Ea vG r r r (e.dl 1 r) K) (s (jQ [T o.b,V o.c,V o.d,V o.a,.bool o.g,V o.f,V o.e] XW r vG r r (uE (ds:=[T o.b,V o.c,V o.d,V o.a,.bool o.g,V o.f,V o.e]) (e.dl 1 r) K (fun _ h=>h))) ?_)))))))))))));refine l5 (kD e (jP vG)) ?_;rintro _ af ⟨ag,rfl,e⟩;refine s (xi r) (lg (tb e 0 [T o.b,V o.c,V o.d,V o.a,.bool o.g,V o.f,V o.e] r vG r r r r r (show _=#[T o.b,V o.c,V o.d,V o.a,.bool o.g,V o.f,V o.e] from r)) ?_);intro ah e;try dsimp only [List.set] at e
   refine n (q (g (s (acJ r) (s (l3 r (e.bk 0 r) r) (s (mi r) (s (Qo r r) (s (lI r) ?_)))))));rcases iv m with ⟨L,m⟩|⟨L,m⟩
   ·rw [uD L];refine kL r (s (mi r) (kL r (s (R6 r) (kL r (s (l3 r (e.bk 0 r) r) (kL r (s (Qo r r) (s (kU r r) (n ?_)))))))));rcases iv m with ⟨M,m⟩|⟨M,m⟩
    ·refine jK (bt M) (g (s (qw r) (s (mi r) (l5 (jM e [[V (t:Int)]] ([(t:Int)]:List Int) (O8 r) r r (by decide) ⟨r,y⟩) ?_))));rintro _ ai ⟨aj,rfl,e⟩;obtain ⟨a3,R,m⟩:=bs m;refine l5 (kR e 2 1 r r Ck o9 r (by decide) (by decide) (nJ _) r r (e.BU 0 0 r r) R) ?_;rintro _ ak ⟨a4,a5,a6,rfl,e⟩;refine s (og r) (n (g (s (mE r r (by omega) (by omega)) (s (mi r) (n ?_)))));exact J (u.length - (t+1)) _ _ (by omega) ⟨t+1,a3,a4,a5,a6,r,by omega,⟨r,r,r,r,r,y⟩,e.ad [2] [1,2],m⟩
    refine jD (bf M) (wk (g (s (mE r r (by omega) (by omega)) (s (mi r) (n ?_)))));exact J (u.length - (t+1)) _ _ (by omega) ⟨t+1,j,a,b,c,r,by omega,⟨r,r,r,r,r,y⟩,e.arr [1] r,m⟩
   rw [uL L];refine ko r (ko r (ko r (ko r (s (kI r r) (n (jD r (wk (g (s (mE r r (by omega) (by omega)) (s (mi r) (n ?_)))))))))));exact J (u.length - (t+1)) _ _ (by omega) ⟨t+1,j,a,b,c,r,by omega,⟨r,r,r,r,r,y⟩,e.arr [1] r,m⟩
  obtain rfl:t=u.length:=by omega
  rw [lU,mo] at m;refine q (g (s (sM r r (by omega)) (n (q (jD r (vE ?_))))));exact a2 _ _ ⟨j,a,b,c,⟨r,y⟩,e,sm m⟩
 clear e;rintro f w ⟨j,a,b,c,hf,e,a7⟩;obtain ⟨av,rfl⟩:=ng hf;subst a7;replace p:=gi p;refine q (g (s (qw r) (s (og r) (n (lS ?_)))));obtain rfl:=sm p;refine jI r (nu r) ?_;exact ⟨a,b,c,r,e.dp [0]⟩
end
end Go.Proofs.YtdkneekpdecjbaaGreat
