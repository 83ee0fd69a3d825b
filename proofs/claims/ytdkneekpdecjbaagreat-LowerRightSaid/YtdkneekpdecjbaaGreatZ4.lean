/- Lemmas. -/
import Derived.Test.YtdkneekpdecjbaaGreatZ3
set_option linter.all false
namespace Go.Proofs.YtdkneekpdecjbaaGreat
open Go.RowKit Go.Fw Go.Proofs.Tryz
def pk2 (o:Oper):Bool:=match o.op with
 | .move _=>true
 | .nilCheck _=>true
 | .fieldAddr _ _ _=>true
 | .load _ _=>true
 | .assign _=>true
 | .binOp _ _ _ _ _=>true
 | .unOp _ _ _=>true
 | .pick _ _ _=>true
 | .indexAddr _ _ _=>true
 | .build _ _=>true
 | .call c=>match c.callee with
  | .builtin .len=>true
  | _=>false
 | _=>false
section
variable {N:Fz}{ops:Array Oper}{S1:World->Prop}{T:List Nat}{K:KK}{n i:Nat}{Lb:Array Bool}{f:Fr}{w:World}{d:Option Nat}{ty:TypeId}{pos:String}{af:Array Edge}{op:Op}{v:Value}
theorem yP (i:Nat){S:World->Prop}{oi:Oper}(hi:Td ops.toList i=some oi)(k:DS prog N ops S1 S T K n Lb i oi f w)(hq:(pk2 oi && rdy Lb i oi)=true:=by decide +kernel)(hc:may ops T Lb i=true:=by kernel_rfl):nV prog N ops S1 S T K n Lb f w:=wN i hi k hc
theorem gP {g:Option (Nat × Bool)}(hw:rZ ops f g=true)(hy:∀ {w:World},Yl prog (ev f) op d ty pos af g w v)(a:S1 w)(k:nV prog N ops S1 (fun _=>True) T K n (Lb.setIfInBounds i true) (lD f d v) w):DS prog N ops S1 (fun _=>True) T K (n+1) Lb i ⟨d,op,ty,pos,af,g⟩ f w:=
 fun hi hc=>TG i hi hc hw (fun _=>hy) (sF a) k
theorem gU {g:Option (Nat × Bool)}(hw:rZ ops f g=true)(hy:∀ {u:World},S1 u->Yl prog (ev f) op d ty pos af g u v)(a:S1 w)(k:nV prog N ops S1 (fun _=>True) T K n (Lb.setIfInBounds i true) (lD f d v) w):DS prog N ops S1 (fun _=>True) T K (n+1) Lb i ⟨d,op,ty,pos,af,g⟩ f w:=
 fun hi hc=>YG i hi hc hw (fun _=>hy) (sF a) k
theorem gK {g:Nat × Bool}(hw:rZ ops f (some g)=false)(a:S1 w)(k:nV prog N ops S1 (fun _=>True) T K n (Lb.setIfInBounds i true) (lD f d undef) w):DS prog N ops S1 (fun _=>True) T K (n+1) Lb i ⟨d,op,ty,pos,af,some g⟩ f w:=
 fun hi hc=>Xn i hi hc hw (sF a) k
end
theorem yq {P:Program}{ρ:Operand->Value}{op:Op}{d:Option Nat}{ty:TypeId}{pos:String}{af:Array Edge}{g:Option (Nat × Bool)}{w:World}{a q:Bool}(h:Yl P ρ op d ty pos af g w (.bool a))(e:a=q):Yl P ρ op d ty pos af g w (.bool q):=e ▸ h
section
variable {N:Fz}{ops:Array Oper}{K:KK}{n i:Nat}{Lb:Array Bool}{f:Fr}{w w0:World}{Z G:Nat->Prop}{L:List It}{D:List Da}{d:Option Nat}{ty:TypeId}{pos:String}{af:Array Edge}{op:Op}{v:Value}
theorem qU {g:Option (Nat × Bool)}(e:Bx w0 w Z G L D)(hw:rZ ops f g=true)(hy:∀ {u:World},Bx w0 u Z G L D->Yl prog (ev f) op d ty pos af g u v)(k:nV prog N ops (fun _=>True) (fun u=>Bx w0 u Z G L D) [] K n (Lb.setIfInBounds i true) (lD f d v) w):DS prog N ops (fun _=>True) (fun u=>Bx w0 u Z G L D) [] K (n+1) Lb i ⟨d,op,ty,pos,af,g⟩ f w:=
 fun hi hc=>KJ 0 i hi hc rfl hw (fun _ hu=>hy hu) (jL kE e) k
theorem qS {g:Nat × Bool}(e:Bx w0 w Z G L D)(hw:rZ ops f (some g)=false)(k:nV prog N ops (fun _=>True) (fun u=>Bx w0 u Z G L D) [] K n (Lb.setIfInBounds i true) (lD f d undef) w):DS prog N ops (fun _=>True) (fun u=>Bx w0 u Z G L D) [] K (n+1) Lb i ⟨d,op,ty,pos,af,some g⟩ f w:=
 fun hi hc=>Xn i hi hc hw (jL kE e) k
end
theorem Uc {w0 w:World}{Z G':Nat->Prop}{Lt:List It}{D:List Da}{G R:Prop}(a:Bx w0 w Z G' Lt D)(k:R) (h:Bx w0 w Z G' Lt D->R->G:=by
 intro a k
 repeat
  first
  | refine yP 0 rfl ?_
  | refine yP 1 rfl ?_
  | refine yP 2 rfl ?_
  | refine yP 3 rfl ?_
  | refine yP 4 rfl ?_
  | refine yP 5 rfl ?_
  | refine yP 6 rfl ?_
  | refine yP 7 rfl ?_
  | refine yP 8 rfl ?_
  | refine yP 9 rfl ?_
  | refine yP 10 rfl ?_
  | refine yP 11 rfl ?_
  | refine yP 12 rfl ?_
  | refine yP 13 rfl ?_
  | refine yP 14 rfl ?_
  | refine yP 15 rfl ?_
  | refine yP 16 rfl ?_
  | refine yP 17 rfl ?_
  | refine yP 18 rfl ?_
  | refine yP 19 rfl ?_
  | refine yP 20 rfl ?_
  | refine yP 21 rfl ?_
  | refine yP 22 rfl ?_
  | refine yP 23 rfl ?_
  | refine yP 24 rfl ?_
  | refine yP 25 rfl ?_
  | refine yP 26 rfl ?_
  | refine yP 27 rfl ?_
  | refine yP 28 rfl ?_
  | refine yP 29 rfl ?_
  first
  | refine qS a rfl ?_
  | refine qU a rfl (fun _=>yF rfl rfl rfl rfl) ?_
  | refine qU a rfl (fun u=>yL rfl (u.bk 0 rfl) rfl rfl rfl) ?_
  | refine qU a rfl (fun u=>yL rfl (u.bk 1 rfl) rfl rfl rfl) ?_
  | refine qU a rfl (fun u=>yL rfl (u.bk 3 rfl) rfl rfl rfl) ?_
  | refine qU a rfl (fun _=>yN rfl rfl rfl) ?_
  | refine qU a rfl (fun _=>mh rfl) ?_
  | refine qU a rfl (fun _=>E9 rfl) ?_
  | refine qU a rfl (fun _=>lu rfl rfl) ?_
  | refine qU a rfl (fun _=>mK rfl rfl) ?_
  | refine qU a rfl (fun _=>mg rfl rfl) ?_
  | refine qU a rfl (fun _=>yq (kI rfl rfl) (sP (by clear k;omega))) ?_
  | refine qU a rfl (fun _=>yq (kI rfl rfl) (sS (by clear k;omega))) ?_
  | refine qU a rfl (fun _=>yq (rQ rfl rfl) (sP (by clear k;omega))) ?_
  | refine qU a rfl (fun _=>yq (rQ rfl rfl) (sS (by clear k;omega))) ?_
  | refine qU a rfl (fun _=>yq (sU rfl rfl) (sP (by clear k;omega))) ?_
  | refine qU a rfl (fun _=>yq (sU rfl rfl) (sS (by clear k;omega))) ?_
  | refine qU a rfl (fun _=>yq (xH rfl rfl) (sP (by clear k;omega))) ?_
  | refine qU a rfl (fun _=>yq (xH rfl rfl) (sS (by clear k;omega))) ?_
  | refine qU a rfl (fun _=>yq (FI rfl rfl) (sP (by clear k;omega))) ?_
  | refine qU a rfl (fun _=>yq (FI rfl rfl) (sS (by clear k;omega))) ?_
 exact k):G:=h a k
theorem yc {w0 w:World}{Z G':Nat->Prop}{Lt:List It}{D:List Da}{G R:Prop}(a:Bx w0 w Z G' Lt D)(k:R) (h:Bx w0 w Z G' Lt D->R->G:=by
 intro a k;first
 | refine yP 0 rfl ?_
 | refine yP 1 rfl ?_
 | refine yP 2 rfl ?_
 | refine yP 3 rfl ?_
 | refine yP 4 rfl ?_
 | refine yP 5 rfl ?_
 | refine yP 6 rfl ?_
 | refine yP 7 rfl ?_
 | refine yP 8 rfl ?_
 | refine yP 9 rfl ?_
 | refine yP 10 rfl ?_
 | refine yP 11 rfl ?_
 | refine yP 12 rfl ?_
 | refine yP 13 rfl ?_
 | refine yP 14 rfl ?_
 | refine yP 15 rfl ?_
 | refine yP 16 rfl ?_
 | refine yP 17 rfl ?_
 | refine yP 18 rfl ?_
 | refine yP 19 rfl ?_
 | refine yP 20 rfl ?_
 | refine yP 21 rfl ?_
 | refine yP 22 rfl ?_
 | refine yP 23 rfl ?_
 | refine yP 24 rfl ?_
 | refine yP 25 rfl ?_
 | refine yP 26 rfl ?_
 | refine yP 27 rfl ?_
 | refine yP 28 rfl ?_
 | refine yP 29 rfl ?_
 first
 | refine gK rfl a ?_
 | refine gP rfl (Xa rfl) a ?_
 | refine gP rfl (E9 rfl) a ?_
 | refine gP rfl (mh rfl) a ?_
 | refine gP rfl (vR rfl) a ?_
 | refine gP rfl (nW rfl) a ?_
 | refine gP rfl (Ye rfl) a ?_
 | refine gP rfl (yF rfl rfl rfl rfl) a ?_
 | refine gU rfl (fun hS=>yL rfl (hS.bk 0 rfl) rfl rfl rfl) a ?_
 | refine gU rfl (fun hS=>yL rfl (hS.bk 1 rfl) rfl rfl rfl) a ?_
 | refine gU rfl (fun hS=>yL rfl (hS.bk 2 rfl) rfl rfl rfl) a ?_
 | refine gU rfl (fun hS=>yL rfl (hS.bk 3 rfl) rfl rfl rfl) a ?_
 | refine gU rfl (fun hS=>yL rfl (hS.bk 4 rfl) rfl rfl rfl) a ?_
 | refine gP rfl (yN rfl rfl rfl) a ?_
 | refine gP rfl (mg rfl rfl) a ?_
 | refine gP rfl (ER rfl rfl) a ?_
 | refine gP rfl (kI rfl rfl) a ?_
 | refine gP rfl (rQ rfl rfl) a ?_
 | refine gP rfl (sU rfl rfl) a ?_
 | refine gP rfl (Ns rfl rfl) a ?_
 | refine gP rfl (xH rfl rfl) a ?_
 | refine gP rfl (FI rfl rfl) a ?_
 | refine gP rfl (EY rfl) a ?_
 | refine gP rfl (mK rfl rfl) a ?_
 | refine gP rfl (lu rfl rfl) a ?_
 | refine gP rfl (KY rfl) a ?_
 | refine gP rfl (lM rfl) a ?_
 | refine gP rfl (pz rfl) a ?_
 | refine gP rfl (q9 rfl) a ?_
 | refine gP rfl (WA rfl) a ?_
 exact k):G:=h a k
theorem G9 {w0 w:World}{Z G':Nat->Prop}{Lt:List It}{D:List Da}{G R:Prop}(a:Bx w0 w Z G' Lt D)(k:R) (h:Bx w0 w Z G' Lt D->R->G:=by
 intro a k;refine yc a ?_;refine yc a ?_;exact k):G:=h a k
theorem Qx {w0 w:World}{Z G':Nat->Prop}{Lt:List It}{D:List Da}{G R:Prop}(a:Bx w0 w Z G' Lt D)(k:R) (h:Bx w0 w Z G' Lt D->R->G:=by
 intro a k;refine G9 a ?_;refine yc a ?_;exact k):G:=h a k
theorem Ke {w0 w:World}{Z G':Nat->Prop}{Lt:List It}{D:List Da}{G R:Prop}(a:Bx w0 w Z G' Lt D)(k:R) (h:Bx w0 w Z G' Lt D->R->G:=by
 intro a k;refine G9 a ?_;refine G9 a ?_;exact k):G:=h a k
theorem F6 {w0 w:World}{Z G':Nat->Prop}{Lt:List It}{D:List Da}{G R:Prop}(a:Bx w0 w Z G' Lt D)(k:R) (h:Bx w0 w Z G' Lt D->R->G:=by
 intro a k;refine Ke a ?_;refine Ke a ?_;exact k):G:=h a k
set_option maxHeartbeats 12800000
set_option maxRecDepth 4000
noncomputable section
def TK (m:Int->Int->Option Int):Prop:=∀ {a e b c d},Pre a e [] []->m b c=some d-> Calls prog 93 #[V b,V c] a (rV fun v w=>v=V d/\Bx a w e (mD []) [] [])
def D9 (fu:Nat)(b a:Int):Option Int:=if a=0 then none else if (b.tmod a) < 0 then some (wr ((b.tmod a)+a)) else some (b.tmod a)
theorem UD (fu:Nat):TK (D9 fu):=by
 intro i l e f j d a;unfold D9 at a;have b:=d.bx;clear d;generalize k:mD _=G at b ⊢;refine cf func93 r (q (g (s (xi r) (n (q (g (s (mi r) (s (mi r) ?_))))))));obtain ⟨_,a⟩|⟨h,a⟩:=iv a
 · exact nn a
 refine s (aa7 r r h) (s (xi r) (n (q (q (g (s (mi r) (s (sU r r) (n ?_))))))));obtain ⟨c,a⟩|⟨c,a⟩:=iv a
 ·refine jQ (bt c) ?_;refine go ?_;refine lG ?_;obtain rfl:=sm a;exact jK r (mI r) ⟨r,b⟩
 refine jM (bf c) ?_;refine go ?_;refine lG ?_;obtain rfl:=sm a;exact jK r (mI r) ⟨r,b⟩
def QH (m:jP->Int->Option (Int × jP)):Prop:=∀ {f j}{e:jP}{h c a b R},(fun L=>Pre f j L [.l a b e.l]->m e h=some R-> Calls prog 65 #[Pt c,V h] f (rV fun v w=>jB R fun i d=>v=V i/\Bx f w j (mD L) [.box c 159 #[Z a d.l b,V d.a]] [.l a b d.l])) [.box c 159 #[Z a e.l b,V e.a]]
def kF (fu:Nat)(a:jP)(c:Int):Option (Int × jP):=if (a.l.length:Int)<=a.a then some (0,a) else (ix a.l (wr ((wr (a.a+1)) - 1))).bind fun d=>(D9 fu d c).bind fun b=>some (b,(⟨a.l,wr (a.a+1)⟩:jP))
theorem kg (fu:Nat):QH (kF fu):=by
 intro A F j v m c d R t e;unfold kF at e;have b:=t.bx;clear t;generalize B:mD _=G at b ⊢;refine cf func65 r ?_;refine go ?_;refine rz b [0] [] [] (by kernel_rfl) ?_;replace b:=b.drew;have a:=b.dp [];refine F6 a ?_;refine G9 a ?_;refine hD ?_;obtain ⟨o,e⟩|⟨o,e⟩:=iv e
 ·refine jQ (bt o) (q (g (s (xi r) (n (lG ?_)))));obtain rfl:=sm e;exact jK r (mI r) (nH ⟨r,b⟩)
 refine jM (bf o) ?_;refine goC b ?_;refine kV (t_n b 0 [V (wr (j.a+1))] r p9 r r) fun C b=>n (q (rz b [0] [0] [] (by kernel_rfl) ?_));replace b:=b.drew;have a:=b;refine F6 a ?_;refine yc a ?_;obtain ⟨w,f,e⟩:=bs e;obtain ⟨D,p,f⟩:=kU f;refine pF 9 r (kR DX p9 r r p (b.dl 0 r) f) a ?_;refine tU 10 r (fun _ hS=>kH Qs r r ((uY (ds:=[V w]) (hS.dl 0 r) f (fun _ h=>h)) 0 _ r)) (sF a) ?_;refine yc a ?_;obtain ⟨u,x,e⟩:=bs e;refine hO 12 (oc r r (ec (vT func93) r) (UD fu (b.pr [] [0] [] r) x) ?_);rintro _ E ⟨rfl,z⟩;replace b:=b.cn [] [0] z;have a:=b;refine ⟨sF a,pF 13 r (xi r) a (hD (lG ?_))⟩;obtain rfl:=sm e;exact jK r (mI r) (nH ⟨r,b⟩)
def RI (m:jP->Option Bool):Prop:=∀ {e h}{c:jP}{d a b f},(fun L=>Pre e h L [.l a b c.l]->m c=some f-> Calls prog 94 #[Pt d] e (rV fun v w=>v=.bool f/\Bx e w h (mD L) L [.l a b c.l])) [.box d 159 #[Z a c.l b,V c.a]]
def Er (fu:Nat)(a:jP):Option Bool:=some (decide (a.a < (a.l.length:Int)))
theorem Ru (fu:Nat):RI (Er fu):=by intro m t f e b c o h j;unfold Er at j;have d:=h.bx;clear h;generalize p:mD _=G at d ⊢;refine cf func94 r ?_;refine go ?_;refine rz d [0] [] [] (by kernel_rfl) ?_;replace d:=d.drew;have a:=d.dp [];refine F6 a ?_;refine Qx a ?_;refine hD (lG ?_);obtain rfl:=sm j;exact jK r (mI r) ⟨r,d⟩
def NS (m:jP->Option (Int × jP)):Prop:=∀ {f i}{e:jP}{c a b R},(fun L=>Pre f i L [.l a b e.l]->m e=some R-> Calls prog 139 #[Pt c] f (rV fun v w=>jB R fun h d=>v=V h/\Bx f w i (mD L) [.box c 159 #[Z a d.l b,V d.a]] [.l a b d.l])) [.box c 159 #[Z a e.l b,V e.a]]
def zD (fu:Nat)(c:jP):Option (Int × jP):=(kF fu c ((([0,1,2,3,5,7,4,10,100,1048576,2147483648,1099511627776,999999999999999999,6,8,9]:List Int).length:Nat):Int)).bind fun e=>jB e fun a b=>(ix ([0,1,2,3,5,7,4,10,100,1048576,2147483648,1099511627776,999999999999999999,6,8,9]:List Int) a).bind fun d=>some (d,b)
theorem Nh (fu:Nat):NS (zD fu):=by intro v C j f d e R k c;unfold zD at c;have a:=k.bx;clear k;generalize w:mD _=G at a ⊢;refine cf func139 r ?_;refine go ?_;refine o7 (jT a [[V 0],[V 1],[V 2],[V 3],[V 5],[V 7],[V 4],[V 10],[V 100],[V 1048576],[V 2147483648],[V 1099511627776],[V 999999999999999999],[V 6],[V 8],[V 9]] ([0,1,2,3,5,7,4,10,100,1048576,2147483648,1099511627776,999999999999999999,6,8,9]:List Int) (VA r r r r r r r r r r r r r r r r) r r ⟨r,⟨r,⟨r,⟨r,⟨r,⟨r,⟨r,⟨r,⟨r,⟨r,⟨r,⟨r,⟨r,⟨r,⟨r,⟨r,y⟩⟩⟩⟩⟩⟩⟩⟩⟩⟩⟩⟩⟩⟩⟩⟩) ?_;rintro _ x ⟨z,rfl,a⟩;refine go ?_;refine s (qG DX r) ?_;obtain ⟨m,o,p,c⟩:=mH c;refine sc (ec oW r) (kg fu (a.pr [1] [0] [1] r) p) ?_;rintro _ A ⟨rfl,t⟩;replace a:=a.cn [1] [0] t;obtain ⟨u,b,c⟩:=bs c;obtain ⟨B,i,b⟩:=kU b;refine s (kR DX p9 r r i (a.vw 1 1 r r) b) (s (kH Qs r r ((uY (ds:=[V u]) (a.vw 1 1 r r) b (fun _ h=>h)) 0 _ r)) (s (xi r) (n (lG ?_))));obtain rfl:=sm c;exact jK r (mI r) (nH ⟨r,a.ad [0] [0]⟩)
def NU (m:Int->Option Bool):Prop:=∀ {a d b c},Pre a d [] []->m b=some c-> Calls prog 73 #[.int .u8 b] a (rV fun v w=>v=.bool c/\Bx a w d (mD []) [] [])
def tJ (fu:Nat)(a:Int):Option Bool:=if 97<=a then if a<=122 then some true else if 65<=a then if a<=90 then some true else some (decide (a=95)) else some (decide (a=95)) else if 65<=a then if a<=90 then some true else some (decide (a=95)) else some (decide (a=95))
theorem DC (fu:Nat):NU (tJ fu):=by
 intro l p k m j a;unfold tJ at a;have b:=j.bx;clear j;generalize o:mD _=G at b ⊢;refine cf func73 r (q (g (s (lM r) (n (q (g (s (mi r) (s (FI r r) (s (mh r) ?_)))))))));obtain ⟨c,a⟩|⟨c,a⟩:=iv a
 ·rw [wu c];refine kY r (s (mi r) (kY r (s (Ns r r) (s (mK r r) (s (mh r) ?_)))));obtain ⟨d,a⟩|⟨d,a⟩:=iv a
  ·rw [wu d];refine go ?_;refine lG ?_;obtain rfl:=sm a;exact jK r (mI r) ⟨r,b⟩
  rw [wZ d];refine kY r (s (mi r) (kY r (s (FI r r) (kY r (s (mh r) ?_)))));obtain ⟨e,a⟩|⟨e,a⟩:=iv a
  ·rw [wu e];refine kY r (s (mi r) (kY r (s (Ns r r) (kY r (s (mK r r) (s (lu r r) (s (mh r) ?_)))))));obtain ⟨f,a⟩|⟨f,a⟩:=iv a
   ·rw [wu f];refine go ?_;refine lG ?_;obtain rfl:=sm a;exact jK r (mI r) ⟨r,b⟩
   rw [wZ f];refine kY r (s (mi r) (kY r (s (kI r r) (s (lu r r) (s (lM r) (n (lG ?_)))))));obtain rfl:=sm a;exact jK r (mI r) ⟨r,b⟩
  rw [wZ e];refine kX r (kX r (kY r (s (lu r r) (s (lu r r) (s (mh r) (kY r (s (mi r) (kY r (s (kI r r) (s (lu r r) (s (lM r) (n (lG ?_)))))))))))));obtain rfl:=sm a;exact jK r (mI r) ⟨r,b⟩
 rw [wZ c];refine kX r (kX r (s (lu r r) (s (mh r) (kY r (s (mi r) (kY r (s (FI r r) (kY r (s (mh r) ?_)))))))));obtain ⟨h,a⟩|⟨h,a⟩:=iv a
 ·rw [wu h];refine kY r (s (mi r) (kY r (s (Ns r r) (kY r (s (mK r r) (s (lu r r) (s (mh r) ?_)))))));obtain ⟨i,a⟩|⟨i,a⟩:=iv a
  ·rw [wu i];refine go ?_;refine lG ?_;obtain rfl:=sm a;exact jK r (mI r) ⟨r,b⟩
  rw [wZ i];refine kY r (s (mi r) (kY r (s (kI r r) (s (lu r r) (s (lM r) (n (lG ?_)))))));obtain rfl:=sm a;exact jK r (mI r) ⟨r,b⟩
 rw [wZ h];refine kX r (kX r (kY r (s (lu r r) (s (lu r r) (s (mh r) (kY r (s (mi r) (kY r (s (kI r r) (s (lu r r) (s (lM r) (n (lG ?_)))))))))))));obtain rfl:=sm a;exact jK r (mI r) ⟨r,b⟩
def PD (m:Int->Option Bool):Prop:=∀ {a d b c},Pre a d [] []->m b=some c-> Calls prog 74 #[.int .u8 b] a (rV fun v w=>v=.bool c/\Bx a w d (mD []) [] [])
def wI (fu:Nat)(a:Int):Option Bool:=if 48<=a then some (decide (a<=57)) else some false
theorem Ew (fu:Nat):PD (wI fu):=by
 intro f j e h d a;unfold wI at a;have b:=d.bx;clear d;generalize i:mD _=G at b ⊢;refine cf func74 r (q (g (s (lM r) (n (q (g (s (mi r) (s (FI r r) (s (mh r) ?_)))))))));obtain ⟨c,a⟩|⟨c,a⟩:=iv a
 ·rw [wu c];refine kY r (s (mi r) (kY r (s (Ns r r) (s (mK r r) (s (lM r) (n (lG ?_)))))));obtain rfl:=sm a;exact jK r (mI r) ⟨r,b⟩
 rw [wZ c];refine go ?_;refine lG ?_;obtain rfl:=sm a;exact jK r (mI r) ⟨r,b⟩
def KC (m:BA->Option Bool):Prop:=∀ {a d b c},Pre a d [] []->m b=some c-> Calls prog 75 #[T b] a (rV fun v w=>v=.bool c/\Bx a w d (mD []) [] [])
def pJ (fu:Nat)(a:BA):List BA→Nat→Option (Ld (Unit) (Bool))
 | [],_=>some (.go ())
 | b :: c,d=>
 if b=a then
  some (.out true)
 else
  pJ fu a c (d+1)
def vZ (fu:Nat)(a:BA):Option Bool:=(pJ fu a ([(⟨#[114,101,99,111,114,100]⟩:BA),(⟨#[102,117,110,99]⟩:BA),(⟨#[118,97,114]⟩:BA),(⟨#[105,110,116]⟩:BA),(⟨#[105,102]⟩:BA),(⟨#[101,108,115,101]⟩:BA),(⟨#[119,104,105,108,101]⟩:BA),(⟨#[114,101,116,117,114,110]⟩:BA),(⟨#[116,104,114,111,119]⟩:BA),(⟨#[116,114,121]⟩:BA),(⟨#[99,97,116,99,104]⟩:BA),(⟨#[112,114,105,110,116]⟩:BA)]:List BA) 0).bind fun b=>b.el (fun _=>some false) (fun o=>some o)
theorem KF (fu:Nat):KC (vZ fu):=by
 intro j I k C v d;unfold vZ at d;have b:=v.bx;clear v;generalize D:mD _=G at b ⊢;refine cf func75 r ?_;refine go ?_;refine o7 (jT b [[T (⟨#[114,101,99,111,114,100]⟩:BA)],[T (⟨#[102,117,110,99]⟩:BA)],[T (⟨#[118,97,114]⟩:BA)],[T (⟨#[105,110,116]⟩:BA)],[T (⟨#[105,102]⟩:BA)],[T (⟨#[101,108,115,101]⟩:BA)],[T (⟨#[119,104,105,108,101]⟩:BA)],[T (⟨#[114,101,116,117,114,110]⟩:BA)],[T (⟨#[116,104,114,111,119]⟩:BA)],[T (⟨#[116,114,121]⟩:BA)],[T (⟨#[99,97,116,99,104]⟩:BA)],[T (⟨#[112,114,105,110,116]⟩:BA)]] Jz (JB r r r r r r r r r r r r) r r ⟨r,⟨r,⟨r,⟨r,⟨r,⟨r,⟨r,⟨r,⟨r,⟨r,⟨r,⟨r,y⟩⟩⟩⟩⟩⟩⟩⟩⟩⟩⟩⟩) ?_;rintro _ E ⟨m,rfl,b⟩;refine s (qG lH r) (s (mi r) (n ?_));have z:=(b.vw 0 0 r r).bd;obtain ⟨x,a,d⟩:=bs d;refine qQ (fun f w=>Has f []/\Bx j w I G [O j.heap.size (ad m) 12 9 BA [[T (⟨#[114,101,99,111,114,100]⟩:BA)],[T (⟨#[102,117,110,99]⟩:BA)],[T (⟨#[118,97,114]⟩:BA)],[T (⟨#[105,110,116]⟩:BA)],[T (⟨#[105,102]⟩:BA)],[T (⟨#[101,108,115,101]⟩:BA)],[T (⟨#[119,104,105,108,101]⟩:BA)],[T (⟨#[114,101,116,117,114,110]⟩:BA)],[T (⟨#[116,104,114,111,119]⟩:BA)],[T (⟨#[116,114,121]⟩:BA)],[T (⟨#[99,97,116,99,104]⟩:BA)],[T (⟨#[112,114,105,110,116]⟩:BA)]]] [.els [[T (⟨#[114,101,99,111,114,100]⟩:BA)],[T (⟨#[102,117,110,99]⟩:BA)],[T (⟨#[118,97,114]⟩:BA)],[T (⟨#[105,110,116]⟩:BA)],[T (⟨#[105,102]⟩:BA)],[T (⟨#[101,108,115,101]⟩:BA)],[T (⟨#[119,104,105,108,101]⟩:BA)],[T (⟨#[114,101,116,117,114,110]⟩:BA)],[T (⟨#[116,104,114,111,119]⟩:BA)],[T (⟨#[116,114,121]⟩:BA)],[T (⟨#[99,97,116,99,104]⟩:BA)],[T (⟨#[112,114,105,110,116]⟩:BA)]] Jz]/\Ld.go ()=x) (fun F o=>?_) ?_
 ·refine oN (kG (fun K f w=>∃ c,K=Jz.length - c/\c<=Jz.length/\Has f [(7,V (c:Int)),(0,T k),(5,.slice (ad m) Jz.length 12),(6,V ((Jz.length:Nat):Int))]/\Bx j w I G [O j.heap.size (ad m) 12 9 BA [[T (⟨#[114,101,99,111,114,100]⟩:BA)],[T (⟨#[102,117,110,99]⟩:BA)],[T (⟨#[118,97,114]⟩:BA)],[T (⟨#[105,110,116]⟩:BA)],[T (⟨#[105,102]⟩:BA)],[T (⟨#[101,108,115,101]⟩:BA)],[T (⟨#[119,104,105,108,101]⟩:BA)],[T (⟨#[114,101,116,117,114,110]⟩:BA)],[T (⟨#[116,104,114,111,119]⟩:BA)],[T (⟨#[116,114,121]⟩:BA)],[T (⟨#[99,97,116,99,104]⟩:BA)],[T (⟨#[112,114,105,110,116]⟩:BA)]]] [.els [[T (⟨#[114,101,99,111,114,100]⟩:BA)],[T (⟨#[102,117,110,99]⟩:BA)],[T (⟨#[118,97,114]⟩:BA)],[T (⟨#[105,110,116]⟩:BA)],[T (⟨#[105,102]⟩:BA)],[T (⟨#[101,108,115,101]⟩:BA)],[T (⟨#[119,104,105,108,101]⟩:BA)],[T (⟨#[114,101,116,117,114,110]⟩:BA)],[T (⟨#[116,104,114,111,119]⟩:BA)],[T (⟨#[116,114,121]⟩:BA)],[T (⟨#[99,97,116,99,104]⟩:BA)],[T (⟨#[112,114,105,110,116]⟩:BA)]] Jz]/\pJ fu k (Jz.drop c) c=some x) Jz.length ⟨0,r,uL _,jA,b,a⟩ ?_);clear b a;rintro K f w ⟨c,rfl,A,hf,b,a⟩ H p;obtain ⟨J,rfl⟩:=nS hf;obtain i | i:=xw c Jz.length
  ·obtain ⟨B,e⟩:=lZ (l:=Jz) i;rw [mV e,pJ] at a;refine q (g (s (vC r r) (n (q (jQ r ?_)))));refine go ?_;refine s (kR lH qx r r r (b.vw 0 0 r r) e) (s (kH vU r r ((uY (ds:=[T B]) (b.vw 0 0 r r) e (fun _ h=>h)) 0 _ r)) ?_);refine go ?_;refine s (uj r r) (n ?_);obtain ⟨t,a⟩|⟨t,a⟩:=iv a
   ·refine jQ (bt t) (q (g (s (lM r) (n (lG ?_)))));obtain rfl:=sm a;replace d:=oi d;obtain rfl:=sm d;exact jK r (mI r) ⟨r,b.ad [] []⟩
   exact jM (bf t) (wk (g (s (lT r r) (s (mi r) (n (p (Jz.length - (c+1)) _ _ (by omega) ⟨c+1,r,by omega,jA,b,a⟩))))))
  obtain rfl:c=Jz.length:=by omega
  rw [mF,pJ] at a;exact q (g (s (u6 r r) (n (q (jM r (uw (o _ _ ⟨y,b,sm a⟩)))))))
 clear b;rintro f w ⟨hf,b,u⟩;obtain ⟨J,rfl⟩:=nS hf;subst u;replace d:=gi d;refine go ?_;refine lG ?_;obtain rfl:=sm d;exact jK r (mI r) ⟨r,b.ad [] []⟩
def Rm (m:BA->Int->Option BA):Prop:=∀ {a e b c d},Pre a e [] []->m b c=some d-> Calls prog 76 #[T b,V c] a (rV fun v w=>v=T d/\Bx a w e (mD []) [] [])
def ug (fu:Nat)(b:BA)(a:Int):List BA→Nat→Option (Ld (Unit) (BA))
 | [],_=>some (.go ())
 | c :: d,e=>
 (Zp b a (wr (a+2))).bind fun f=>
 if f=c then
  some (.out c)
 else
  ug fu b a d (e+1)
def AB (fu:Nat)(a:BA)(b:Int):Option (Ld Unit BA):=if (wr (b+1)) < (a.size:Int) then (ug fu a b ([(⟨#[60,61]⟩:BA),(⟨#[61,61]⟩:BA),(⟨#[33,61]⟩:BA)]:List BA) 0).bind fun c=>c.el (fun _=>some (.go ())) (fun o=>some (.out o)) else some (.go ())
def um (fu:Nat)(b:BA)(a:Int):List Jc→Nat→Option (Ld (Unit) (BA))
 | [],_=>some (.go ())
 | e :: f,h=>
 (ixs b a).bind fun c=>
 if c=e.n then
  (Zp b a (wr (a+1))).bind fun d=>
  some (.out d)
 else
  um fu b a f (h+1)
def CP (fu:Nat)(a:BA)(b:Int):Option BA:=(AB fu a b).bind fun c=>c.el (fun _=>(um fu a b ([⟨40⟩,⟨41⟩,⟨123⟩,⟨125⟩,⟨91⟩,⟨93⟩,⟨44⟩,⟨59⟩,⟨58⟩,⟨46⟩,⟨43⟩,⟨45⟩,⟨42⟩,⟨47⟩,⟨37⟩,⟨38⟩,⟨124⟩,⟨94⟩,⟨60⟩,⟨61⟩,⟨33⟩]:List Jc) 0).bind fun c=>c.el (fun _=>some (⟨#[]⟩:BA)) (fun o=>some o)) (fun o=>some o)
theorem QF (fu:Nat):Rm (CP fu):=by
 intro k ah m o r0 R e;unfold CP at e;have a:=R.bx;clear R;generalize hG:mD _=G at a ⊢;refine cf func76 r (q (g (s (pz r) (n (q ?_)))));obtain ⟨W,c,e⟩:=bs e;refine qQ (fun f w=>Has f [(0,T m),(1,V o)]/\Bx k w ah G [] []/\Ld.go ()=W) (fun J1 v=>?_) ?_
 ·unfold AB at c;refine go ?_;refine s (GA vU r) (s (sU r r) (n ?_));obtain ⟨C,c⟩|⟨C,c⟩:=iv c
  ·refine jQ (bt C) (q (g (o7 (jT a [[T (⟨#[60,61]⟩:BA)],[T (⟨#[61,61]⟩:BA)],[T (⟨#[33,61]⟩:BA)]] Jh (Xu r r r) r r ⟨r,⟨r,⟨r,y⟩⟩⟩) ?_)));rintro _ w3 ⟨D,rfl,a⟩;refine s (qG lH r) (s (mi r) (n ?_));have X:=(a.vw 0 0 r r).bd;obtain ⟨S,d,c⟩:=bs c;refine qQ (fun f w=>Has f [(0,T m),(1,V o)]/\Bx k w ah G [O k.heap.size (ad D) 3 9 BA [[T (⟨#[60,61]⟩:BA)],[T (⟨#[61,61]⟩:BA)],[T (⟨#[33,61]⟩:BA)]]] [.els [[T (⟨#[60,61]⟩:BA)],[T (⟨#[61,61]⟩:BA)],[T (⟨#[33,61]⟩:BA)]] Jh]/\Ld.go ()=S) (fun J4 E=>?_) ?_
   ·refine oN (kG (fun aj f w=>∃ i,aj=Jh.length - i/\i<=Jh.length/\Has f [(16,V (i:Int)),(0,T m),(1,V o),(14,.slice (ad D) Jh.length 3),(15,V ((Jh.length:Nat):Int))]/\Bx k w ah G [O k.heap.size (ad D) 3 9 BA [[T (⟨#[60,61]⟩:BA)],[T (⟨#[61,61]⟩:BA)],[T (⟨#[33,61]⟩:BA)]]] [.els [[T (⟨#[60,61]⟩:BA)],[T (⟨#[61,61]⟩:BA)],[T (⟨#[33,61]⟩:BA)]] Jh]/\ug fu m o (Jh.drop i) i=some S) Jh.length ⟨0,r,uL _,jA,a,d⟩ ?_);clear a d;rintro aj f w ⟨i,rfl,Y,hf,a,d⟩ K4 F;obtain ⟨ai,rfl⟩:=nS hf;obtain x | x:=xw i Jh.length
    ·obtain ⟨u4,p⟩:=lZ (l:=Jh) x;rw [mV p,ug] at d;refine q (g (s (vC r r) (n (q (jQ r (wk (q (oN (q (g (s (kR lH qx r r r (a.vw 0 0 r r) p) (s (kH vU r r ((uY (ds:=[T u4]) (a.vw 0 0 r r) p (fun _ h=>h)) 0 _ r)) (s (pz r) (n (q (g (s (nW r) (s (mi r) (s (mi r) (s (mg r r) ?_))))))))))))))))))));obtain ⟨g5,H,d⟩:=bs d;refine s (ada vU r r r H) (s (nW r) (s (uj r r) (n ?_)));obtain ⟨I,d⟩|⟨I,d⟩:=iv d
     ·refine jQ (bt I) ?_;refine go ?_;refine lG ?_;obtain rfl:=sm d;replace c:=oi c;obtain rfl:=sm c;replace e:=oi e;obtain rfl:=sm e;exact jK r (mI r) ⟨r,a.ad [] []⟩
     exact jM (bf I) (wk (g (s (lT r r) (s (mi r) (n (F (Jh.length - (i+1)) _ _ (by omega) ⟨i+1,r,by omega,jA,a,d⟩))))))
    obtain rfl:i=Jh.length:=by omega
    rw [mF,ug] at d;exact q (g (s (u6 r r) (n (q (jM r (uw (E _ _ ⟨jA,a,sm d⟩)))))))
   clear a;rintro f w ⟨hf,a,J⟩;obtain ⟨ai,rfl⟩:=nS hf;subst J;replace c:=gi c;exact v _ _ ⟨jA,a.ad [] [],sm c⟩
  exact jM (bf C) (wk (v _ _ ⟨jA,a,sm c⟩))
 clear a;rintro f w ⟨hf,a,K⟩;obtain ⟨ai,rfl⟩:=nS hf;subst K;replace e:=gi e;refine q (q (g (o7 (jT a [[.int .u8 40],[.int .u8 41],[.int .u8 123],[.int .u8 125],[.int .u8 91],[.int .u8 93],[.int .u8 44],[.int .u8 59],[.int .u8 58],[.int .u8 46],[.int .u8 43],[.int .u8 45],[.int .u8 42],[.int .u8 47],[.int .u8 37],[.int .u8 38],[.int .u8 124],[.int .u8 94],[.int .u8 60],[.int .u8 61],[.int .u8 33]] ([⟨40⟩,⟨41⟩,⟨123⟩,⟨125⟩,⟨91⟩,⟨93⟩,⟨44⟩,⟨59⟩,⟨58⟩,⟨46⟩,⟨43⟩,⟨45⟩,⟨42⟩,⟨47⟩,⟨37⟩,⟨38⟩,⟨124⟩,⟨94⟩,⟨60⟩,⟨61⟩,⟨33⟩]:List Jc) (TV r r r r r r r r r r r r r r r r r r r r r) r r ⟨r,⟨r,⟨r,⟨r,⟨r,⟨r,⟨r,⟨r,⟨r,⟨r,⟨r,⟨r,⟨r,⟨r,⟨r,⟨r,⟨r,⟨r,⟨r,⟨r,⟨r,y⟩⟩⟩⟩⟩⟩⟩⟩⟩⟩⟩⟩⟩⟩⟩⟩⟩⟩⟩⟩⟩) ?_)));rintro _ w7 ⟨L,rfl,a⟩;refine o7 (afK a 0 0 r r U4 u5_ r) ?_;rintro _ w8 ⟨rfl,a⟩;try dsimp only [List.eraseIdx] at a
 refine s (qG U4 r) (s (mi r) (n ?_));have a1:=(a.dl 0 r).bd;obtain ⟨U,b,e⟩:=bs e;refine qQ (fun f w=>Has f []/\Bx k w ah G [] [.l (ad L) 21 ([⟨40⟩,⟨41⟩,⟨123⟩,⟨125⟩,⟨91⟩,⟨93⟩,⟨44⟩,⟨59⟩,⟨58⟩,⟨46⟩,⟨43⟩,⟨45⟩,⟨42⟩,⟨47⟩,⟨37⟩,⟨38⟩,⟨124⟩,⟨94⟩,⟨60⟩,⟨61⟩,⟨33⟩]:List Jc)]/\Ld.go ()=U) (fun J9 M=>?_) ?_
 ·refine oN (kG (fun aj f w=>∃ j,aj=([⟨40⟩,⟨41⟩,⟨123⟩,⟨125⟩,⟨91⟩,⟨93⟩,⟨44⟩,⟨59⟩,⟨58⟩,⟨46⟩,⟨43⟩,⟨45⟩,⟨42⟩,⟨47⟩,⟨37⟩,⟨38⟩,⟨124⟩,⟨94⟩,⟨60⟩,⟨61⟩,⟨33⟩]:List Jc).length - j/\j<=([⟨40⟩,⟨41⟩,⟨123⟩,⟨125⟩,⟨91⟩,⟨93⟩,⟨44⟩,⟨59⟩,⟨58⟩,⟨46⟩,⟨43⟩,⟨45⟩,⟨42⟩,⟨47⟩,⟨37⟩,⟨38⟩,⟨124⟩,⟨94⟩,⟨60⟩,⟨61⟩,⟨33⟩]:List Jc).length/\Has f [(32,V (j:Int)),(0,T m),(1,V o),(30,.slice (ad L) ([⟨40⟩,⟨41⟩,⟨123⟩,⟨125⟩,⟨91⟩,⟨93⟩,⟨44⟩,⟨59⟩,⟨58⟩,⟨46⟩,⟨43⟩,⟨45⟩,⟨42⟩,⟨47⟩,⟨37⟩,⟨38⟩,⟨124⟩,⟨94⟩,⟨60⟩,⟨61⟩,⟨33⟩]:List Jc).length 21),(31,V ((([⟨40⟩,⟨41⟩,⟨123⟩,⟨125⟩,⟨91⟩,⟨93⟩,⟨44⟩,⟨59⟩,⟨58⟩,⟨46⟩,⟨43⟩,⟨45⟩,⟨42⟩,⟨47⟩,⟨37⟩,⟨38⟩,⟨124⟩,⟨94⟩,⟨60⟩,⟨61⟩,⟨33⟩]:List Jc).length:Nat):Int))]/\Bx k w ah G [] [.l (ad L) 21 ([⟨40⟩,⟨41⟩,⟨123⟩,⟨125⟩,⟨91⟩,⟨93⟩,⟨44⟩,⟨59⟩,⟨58⟩,⟨46⟩,⟨43⟩,⟨45⟩,⟨42⟩,⟨47⟩,⟨37⟩,⟨38⟩,⟨124⟩,⟨94⟩,⟨60⟩,⟨61⟩,⟨33⟩]:List Jc)]/\um fu m o (([⟨40⟩,⟨41⟩,⟨123⟩,⟨125⟩,⟨91⟩,⟨93⟩,⟨44⟩,⟨59⟩,⟨58⟩,⟨46⟩,⟨43⟩,⟨45⟩,⟨42⟩,⟨47⟩,⟨37⟩,⟨38⟩,⟨124⟩,⟨94⟩,⟨60⟩,⟨61⟩,⟨33⟩]:List Jc).drop j) j=some U) (([⟨40⟩,⟨41⟩,⟨123⟩,⟨125⟩,⟨91⟩,⟨93⟩,⟨44⟩,⟨59⟩,⟨58⟩,⟨46⟩,⟨43⟩,⟨45⟩,⟨42⟩,⟨47⟩,⟨37⟩,⟨38⟩,⟨124⟩,⟨94⟩,⟨60⟩,⟨61⟩,⟨33⟩]:List Jc).length) ⟨0,r,uL _,jA,a,b⟩ ?_);clear a b;rintro aj f w ⟨j,rfl,a2,hf,a,b⟩ K9 N;obtain ⟨ai,rfl⟩:=nS hf;obtain z | z:=xw j ([⟨40⟩,⟨41⟩,⟨123⟩,⟨125⟩,⟨91⟩,⟨93⟩,⟨44⟩,⟨59⟩,⟨58⟩,⟨46⟩,⟨43⟩,⟨45⟩,⟨42⟩,⟨47⟩,⟨37⟩,⟨38⟩,⟨124⟩,⟨94⟩,⟨60⟩,⟨61⟩,⟨33⟩]:List Jc).length
  ·obtain ⟨u9,t⟩:=lZ (l:=([⟨40⟩,⟨41⟩,⟨123⟩,⟨125⟩,⟨91⟩,⟨93⟩,⟨44⟩,⟨59⟩,⟨58⟩,⟨46⟩,⟨43⟩,⟨45⟩,⟨42⟩,⟨47⟩,⟨37⟩,⟨38⟩,⟨124⟩,⟨94⟩,⟨60⟩,⟨61⟩,⟨33⟩]:List Jc)) z;rw [mV t,um] at b;refine q (g (s (vC r r) (n (q (jQ r (wk (q (oN (q (g (s (kR U4 ti5 r r r (a.dl 0 r) t) (s (kH u5_ r r ((uY (ds:=[.int .u8 u9.n]) (a.dl 0 r) t (fun _ h=>h)) 0 _ r)) (s (xi r) (n (q (g (s (nW r) (s (mi r) ?_))))))))))))))))));obtain ⟨a4,A,b⟩:=bs b;refine s (MQ vU r r A) (s (mi r) (s (kI r r) (n ?_)));obtain ⟨u,b⟩|⟨u,b⟩:=iv b
   ·refine jQ (bt u) (q (g (s (nW r) (s (mi r) (s (mi r) (s (mg r r) ?_))))));obtain ⟨a5,B,b⟩:=bs b;refine s (ada vU r r r B) (s (pz r) (n (lG ?_)));obtain rfl:=sm b;replace e:=oi e;obtain rfl:=sm e;exact jK r (mI r) ⟨r,a.dp []⟩
   exact jM (bf u) (wk (g (s (lT r r) (s (mi r) (n (N (([⟨40⟩,⟨41⟩,⟨123⟩,⟨125⟩,⟨91⟩,⟨93⟩,⟨44⟩,⟨59⟩,⟨58⟩,⟨46⟩,⟨43⟩,⟨45⟩,⟨42⟩,⟨47⟩,⟨37⟩,⟨38⟩,⟨124⟩,⟨94⟩,⟨60⟩,⟨61⟩,⟨33⟩]:List Jc).length - (j+1)) _ _ (by omega) ⟨j+1,r,by omega,jA,a,b⟩))))))
  obtain rfl:j=([⟨40⟩,⟨41⟩,⟨123⟩,⟨125⟩,⟨91⟩,⟨93⟩,⟨44⟩,⟨59⟩,⟨58⟩,⟨46⟩,⟨43⟩,⟨45⟩,⟨42⟩,⟨47⟩,⟨37⟩,⟨38⟩,⟨124⟩,⟨94⟩,⟨60⟩,⟨61⟩,⟨33⟩]:List Jc).length:=by omega
  rw [mF,um] at b;exact q (g (s (u6 r r) (n (q (jM r (uw (M _ _ ⟨y,a,sm b⟩)))))))
 clear a;rintro f w ⟨hf,a,Q⟩;obtain ⟨ai,rfl⟩:=nS hf;subst Q;replace e:=gi e;refine go ?_;refine lG ?_;obtain rfl:=sm e;exact jK r (mI r) ⟨r,a.dp []⟩
def QW (m:Int->Option Int):Prop:=∀ {a d b c},Pre a d [] []->m b=some c-> Calls prog 136 #[V b] a (rV fun v w=>v=V c/\Bx a w d (mD []) [] [])
def Ao (fu:Nat)(a:Int):Option (Ld Bool Int):=if a=14 then some (.go (decide (a=14))) else if a=15 then some (.go (decide (a=15))) else if a=16 then some (.go (decide (a=16))) else some (.go (decide (a=17)))
def Ar (fu:Nat)(a:Int):Option (Ld Bool Int):=if a=11 then some (.go (decide (a=11))) else if a=12 then some (.go (decide (a=12))) else some (.go (decide (a=13)))
def Bb (fu:Nat)(a:Int):Option (Ld Bool Int):=if a=6 then some (.go (decide (a=6))) else some (.go (decide (a=7)))
def Ck (fu:Nat)(a:Int):Option Int:=(Ao fu a).bind fun e=>e.el (fun c=>if c=true then some 1 else (Ar fu a).bind fun e=>e.el (fun d=>if d=true then some 2 else (Bb fu a).bind fun e=>e.el (fun b=>if b=true then some 3 else if a=8 then some 4 else if a=9 then some 4 else if a=10 then some 4 else if a=4 then some 5 else if a=5 then some 5 else some 6) (fun o=>some o)) (fun o=>some o)) (fun o=>some o)
theorem QX (fu:Nat):QW (Ck fu):=by
 intro E a1 i W Q a;unfold Ck at a;have c:=Q.bx;clear Q;generalize X:mD _=G at c ⊢;refine cf func136 r (q (g (s (xi r) (n (q (q (g (s (mi r) (n (oN (q ?_)))))))))));obtain ⟨R,b,a⟩:=bs a;refine Kn c (fun B f w=>∃ j,Has f [(3,V i),(4,.bool j)]/\B w/\Ld.go j=R) (fun Y m=>?_) ?_
 ·unfold Ao at b;refine q (g (s (kI r r) (s (lM r) (n ?_))));obtain ⟨F,b⟩|⟨F,b⟩:=iv b
  ·exact jQ (bt F) (wk (m _ _ ⟨decide (i=14),jA,c,sm b⟩))
  refine jM (bf F) (q (g (s (kI r r) (s (lM r) (n ?_)))));obtain ⟨H,b⟩|⟨H,b⟩:=iv b
  ·exact jQ (bt H) (wk (m _ _ ⟨decide (i=15),jA,c,sm b⟩))
  refine jM (bf H) (q (g (s (kI r r) (s (lM r) (n ?_)))));obtain ⟨I,b⟩|⟨I,b⟩:=iv b
  ·exact jQ (bt I) (wk (m _ _ ⟨decide (i=16),jA,c,sm b⟩))
  refine jM (bf I) ?_;refine go ?_;exact m _ _ ⟨decide (i=17),jA,c,sm b⟩
 clear c;rintro f w ⟨j,hf,c,J⟩;obtain ⟨a2,rfl⟩:=nS hf;subst J;replace a:=gi a;obtain ⟨B,a⟩|⟨B,a⟩:=iv a
 ·refine jQ (cb B) (q (g (s (xi r) (n (lG ?_)))));obtain rfl:=sm a;exact jK r (mI r) ⟨r,c⟩
 replace B:=nt B;refine jM (cb B) (q ?_);obtain ⟨S,d,a⟩:=bs a;refine Kn c (fun B f w=>∃ k,Has f [(3,V i),(9,.bool k)]/\B w/\Ld.go k=S) (fun J6 v=>?_) ?_
 ·unfold Ar at d;refine q (g (s (kI r r) (s (lM r) (n ?_))));obtain ⟨K,d⟩|⟨K,d⟩:=iv d
  ·exact jQ (bt K) (wk (v _ _ ⟨decide (i=11),jA,c,sm d⟩))
  refine jM (bf K) (q (g (s (kI r r) (s (lM r) (n ?_)))));obtain ⟨L,d⟩|⟨L,d⟩:=iv d
  ·exact jQ (bt L) (wk (v _ _ ⟨decide (i=12),jA,c,sm d⟩))
  refine jM (bf L) ?_;refine go ?_;exact v _ _ ⟨decide (i=13),jA,c,sm d⟩
 clear c;rintro f w ⟨k,hf,c,M⟩;obtain ⟨a2,rfl⟩:=nS hf;subst M;replace a:=gi a;obtain ⟨C,a⟩|⟨C,a⟩:=iv a
 ·refine jQ (cb C) (q (g (s (xi r) (n (lG ?_)))));obtain rfl:=sm a;exact jK r (mI r) ⟨r,c⟩
 refine jM (yM C) (q ?_);obtain ⟨N,e,a⟩:=bs a;refine Kn c (fun B f w=>∃ h,Has f [(3,V i),(13,.bool h)]/\B w/\Ld.go h=N) (fun U u=>?_) ?_
 ·unfold Bb at e;refine q (g (s (kI r r) (s (lM r) (n ?_))));obtain ⟨x,e⟩|⟨x,e⟩:=iv e
  ·exact jQ (bt x) (wk (u _ _ ⟨decide (i=6),jA,c,sm e⟩))
  refine jM (bf x) ?_;refine go ?_;exact u _ _ ⟨decide (i=7),jA,c,sm e⟩
 clear c;rintro f w ⟨h,hf,c,D⟩;obtain ⟨a2,rfl⟩:=nS hf;subst D;replace a:=gi a;obtain ⟨l,a⟩|⟨l,a⟩:=iv a
 ·refine jQ (cb l) (q (g (s (xi r) (n (lG ?_)))));obtain rfl:=sm a;exact jK r (mI r) ⟨r,c⟩
 refine jM (yM l) (q (q (g (s (kI r r) (s (lM r) (n ?_))))));obtain ⟨o,a⟩|⟨o,a⟩:=iv a
 ·refine jQ (bt o) (wk ?_);rw [wu o];refine jQ r (q (g (s (xi r) (n (lG ?_)))));obtain rfl:=sm a;exact jK r (mI r) ⟨r,c⟩
 refine jM (bf o) (q (g (s (kI r r) (s (lM r) (n ?_)))));obtain ⟨p,a⟩|⟨p,a⟩:=iv a
 ·refine jQ (bt p) (wk ?_);rw [wu p];refine jQ r (q (g (s (xi r) (n (lG ?_)))));obtain rfl:=sm a;exact jK r (mI r) ⟨r,c⟩
 refine jM (bf p) (g (s (kI r r) (s (lM r) (n ?_))));obtain ⟨z,a⟩|⟨z,a⟩:=iv a
 ·refine jQ (bt z) (q (g (s (xi r) (n (lG ?_)))));obtain rfl:=sm a;exact jK r (mI r) ⟨r,c⟩
 refine jM (bf z) (q (q (g (s (kI r r) (s (lM r) (n ?_))))));obtain ⟨t,a⟩|⟨t,a⟩:=iv a
 ·refine jQ (bt t) (wk ?_);rw [wu t];refine jQ r (q (g (s (xi r) (n (lG ?_)))));obtain rfl:=sm a;exact jK r (mI r) ⟨r,c⟩
 refine jM (bf t) (g (s (kI r r) (s (lM r) (n ?_))));obtain ⟨A,a⟩|⟨A,a⟩:=iv a
 ·refine jQ (bt A) (q (g (s (xi r) (n (lG ?_)))));obtain rfl:=sm a;exact jK r (mI r) ⟨r,c⟩
 refine jM (bf A) ?_;refine go ?_;refine lG ?_;obtain rfl:=sm a;exact jK r (mI r) ⟨r,c⟩
def Kv (m:BA->Option Ge):Prop:=∀ {d f e}{c:Ge},Pre d f [] []->m e=some c-> Calls prog 67 #[T e] d (rV fun v w=>∃ (a:OA)(b:Nat),v=.agg #[V c.e,V c.d,V c.f,T c.c,T c.b,Z a c.a b]/\Bx d w f (mD []) [] [.l a b c.a])
def oP (fu:Nat)(a:BA):Option Ge:=some (⟨1,0,0,a,be,([]:List Ge)⟩:Ge)
theorem qh (fu:Nat):Kv (oP fu):=by intro f o b h c e;unfold oP at e;have a:=c.bx;clear c;generalize i:mD _=G at a ⊢;refine cf func67 r (q (g (qZ a (jN jZ) fun j k a=>n (q (g (s (nW r) (s (Jl r r) (kV (mQ a 0 [V 1,V 0,V 0,T b,T be,sn] r jZ r r) fun m a=>n (lG ?_)))))))));replace a:=a.ko (d:=.l none 0 kM) pW;obtain rfl:=sm e;exact jK r (uS r nu r jZ r (a.bk 0 r)) ⟨none,0,r,a.arr [] r⟩
def Ml (m:Int->Option Ge):Prop:=∀ {d f e}{c:Ge},Pre d f [] []->m e=some c-> Calls prog 138 #[V e] d (rV fun v w=>∃ (a:OA)(b:Nat),v=.agg #[V c.e,V c.d,V c.f,T c.c,T c.b,Z a c.a b]/\Bx d w f (mD []) [] [.l a b c.a])
def tQ (fu:Nat)(a:Int):Option Ge:=some (⟨0,a,0,be,be,([]:List Ge)⟩:Ge)
theorem rW (fu:Nat):Ml (tQ fu):=by intro f o b h c e;unfold tQ at e;have a:=c.bx;clear c;generalize i:mD _=G at a ⊢;refine cf func138 r (q (g (qZ a (jN jZ) fun j k a=>n (q (g (s (mi r) (s (Oo r r) (kV (mQ a 0 [V 0,V b,V 0,T be,T be,sn] r jZ r r) fun m a=>n (lG ?_)))))))));replace a:=a.ko (d:=.l none 0 kM) pW;obtain rfl:=sm e;exact jK r (uS r nu r jZ r (a.bk 0 r)) ⟨none,0,r,a.arr [] r⟩
def Qn (m:(List Int)->Option (List Int)):Prop:=∀ {e i f a b h},Pre e i [] [.l a b f]->m f=some h-> Calls prog 21 #[Z a f b] e (rV fun v w=>∃ (c:OA)(d:Nat),v=Z c h d/\Bx e w i (mD []) [] [.l c d h])
def BK (fu:Nat)(a:(List Int)):Option (List Int):=if 200 < (a.length:Int) then (sl a 0 200).bind fun b=>some b else some a
theorem O9 (fu:Nat):Qn (BK fu):=by
 intro A D v a b B p c;unfold BK at c;have e:=p.bx;clear p;generalize C:mD _=G at e ⊢;refine cf func21 r (q (g (s (q9 r) (n (q (q (g (s (vR r) (s (qG DX r) (s (xH r r) (n ?_)))))))))));obtain ⟨j,c⟩|⟨j,c⟩:=iv c
 ·refine jQ (bt j) (q (g (s (vR r) ?_)));obtain ⟨k,m,c⟩:=bs c;obtain ⟨w,t,x,o,u,f,h⟩:=DU m;obtain rfl:w=0:=by omega
  have i:k.length=t:=by rw [<-h,zM,GV];omega
  replace e:=e.ko (d:=.l a b k) (by have F:=(e.dl 0 r).head f;rw [h] at F;exact F);refine s (show Yl _ _ _ _ _ _ _ _ _ (.slice a k.length b) from (congrArg (fun z=>Value.slice a z b) i).symm ▸ BJ t DX p9 r r o (sO f (e.dl 1 r).cap)) (s (q9 r) (n (lG ?_)));obtain rfl:=sm c;exact jK r (mI r) ⟨a,b,r,e.dp [0]⟩
 refine jM (bf j) ?_;refine go ?_;refine lG ?_;obtain rfl:=sm c;exact jK r (mI r) ⟨a,b,r,e⟩
def Rz (m:BA->Int->Int->Option (Int × Int)):Prop:=∀ {a h b c d R},Pre a h [] []->m b c d=some R-> Calls prog 48 #[T b,V c,V d] a (rV fun v w=>jB R fun e f=>v=.tuple #[V e,V f]/\Bx a w h (mD []) [] [])
def AJ (fu:Nat)(b:BA)(a c:Int):Option (Ld Bool (Int × Int)):=if c=47 then if (wr (a+1)) < (b.size:Int) then (ixs b (wr (a+1))).bind fun d=>some (.go (decide (d=47))) else some (.go false) else some (.go false)
def tO (fu:Nat)(b:BA):Nat→Int→Option (Ld (Int) (Int × Int))
 | 0,_=>none
 | d+1,a=>
 if a < (b.size:Int) then
  (ixs b a).bind fun c=>
  if c≠10 then
   tO fu b d (wr (a+1))
  else
   some (.go a)
 else
  some (.go a)
def AA (fu:Nat)(a b c:Int):Option (Ld Unit (Int × Int)):=if c≠32 then if c≠9 then if c≠13 then if c≠10 then some (.out (a,b)) else some (.go ()) else some (.go ()) else some (.go ()) else some (.go ())
def qH (fu:Nat)(c:BA):Nat→Int→Int→Option (Ld (Int × Int) (Int × Int))
 | 0,_,_=>none
 | f+1,a,b=>
 if a < (c.size:Int) then
  (ixs c a).bind fun h=>
  (AJ fu c a h).bind fun i=>i.el (fun d=>
  if d=true then
   (tO fu c fu a).bind fun i=>i.el (fun e=>
   qH fu c f e b
   ) (fun o=>some (.out o))
  else
   (AA fu a b h).bind fun i=>i.el (fun _=>
   if h=10 then
    qH fu c f (wr (a+1)) (wr (b+1))
   else
    qH fu c f (wr (a+1)) b
   ) (fun o=>some (.out o))
  ) (fun o=>some (.out o))
 else
  some (.go (a,b))
def zP (fu:Nat)(c:BA)(d e:Int):Option (Int × Int):=(qH fu c fu d e).bind fun f=>f.el (fun f=>jB f fun a b=>some (a,b)) (fun o=>some o)
theorem JU (fu:Nat):Rz (zP fu):=by
 intro D aj o x1 x2 R hP l;unfold zP at l;have i:=hP.bx;clear hP;generalize hG:mD _=G at i ⊢;refine cf func48 r (q (g (s (xi r) (s (xi r) (n (q ?_))))));obtain ⟨Y1,a,l⟩:=bs l;refine qQ (fun f w=>∃ d c,Has f [(1,V d),(2,V c)]/\Bx D w aj G [] []/\Ld.go (d,c)=Y1) (fun J1 K=>?_) ?_
 ·refine oN (kG (fun al f w=>∃ d c,Has f [(0,T o),(1,V d),(2,V c)]/\Bx D w aj G [] []/\qH fu o al d c=some Y1) fu ⟨x1,x2,jA,i,a⟩ ?_);clear i a;rintro E f w ⟨d,c,hf,i,a⟩ K1 p;obtain ⟨ak,rfl⟩:=nS hf;cases E with
  | zero=>exact nn a
  | succ E=>
   rw [qH] at a;refine go ?_;refine s (GA vU r) (s (sU r r) (n ?_));obtain ⟨L,a⟩|⟨L,a⟩:=iv a
   ·refine jQ (bt L) (wk (oN (q (g (s (nW r) (s (mi r) ?_))))));obtain ⟨g3,M,a⟩:=bs a;refine s (MQ vU r r M) (s (xi r) (n (q (q ?_))));obtain ⟨Y4,j,a⟩:=bs a;refine Kn i (fun B f w=>∃ m,Has f [(0,T o),(1,V d),(2,V c),(8,.int .u8 g3),(31,.bool m)]/\B w/\Ld.go m=Y4) (fun J4 t=>?_) ?_
    ·unfold AJ at j;refine g (s (mi r) (s (kI r r) (s (mh r) ?_)));obtain ⟨N,j⟩|⟨N,j⟩:=iv j
     ·rw [wu N];refine kY r (s (mi r) (kY r (s (mg r r) (kY r (s (nW r) (kY r (s (GA vU r) (kY r (s (sU r r) (s (mK r r) (s (mh r) ?_)))))))))));obtain ⟨Q,j⟩|⟨Q,j⟩:=iv j
      ·rw [wu Q];refine kY r (s (nW r) (kY r (s (mi r) (kY r (s (mg r r) ?_)))));obtain ⟨g7,S,j⟩:=bs j;exact kY r (s (MQ vU r r S) (kY r (s (kI r r) (s (mK r r) (n (t _ _ ⟨decide (g7=47),jA,i,sm j⟩))))))
      rw [wZ Q];refine go ?_;exact t _ _ ⟨false,jA,i,sm j⟩
     rw [wZ N];refine go ?_;exact t _ _ ⟨false,jA,i,sm j⟩
    clear i;rintro f w ⟨m,hf,i,U⟩;obtain ⟨ak,rfl⟩:=nS hf;subst U;replace a:=gi a;obtain ⟨F,a⟩|⟨F,a⟩:=iv a
    ·refine jQ (cb F) (q ?_);obtain ⟨Y9,h,a⟩:=bs a;refine qQ (fun f w=>∃ e,Has f [(0,T o),(1,V e),(2,V c)]/\Bx D w aj G [] []/\Ld.go e=Y9) (fun J9 H=>?_) ?_
     ·refine oN (kG (fun al f w=>∃ e,Has f [(0,T o),(1,V e),(2,V c)]/\Bx D w aj G [] []/\tO fu o al e=some Y9) fu ⟨d,jA,i,h⟩ ?_);clear i h;rintro W f w ⟨e,hf,i,h⟩ K9 X;obtain ⟨ak,rfl⟩:=nS hf;cases W with
      | zero=>exact nn h
      | succ W=>
       rw [tO] at h;refine go ?_;refine s (GA vU r) (s (sU r r) (s (mh r) ?_));obtain ⟨u,h⟩|⟨u,h⟩:=iv h
       ·rw [wu u];refine kY r (s (nW r) (kY r (s (mi r) ?_)));obtain ⟨aa,I,h⟩:=bs h;refine kY r (s (MQ vU r r I) (kY r (s (rQ r r) (s (mK r r) (n ?_)))));obtain ⟨v,h⟩|⟨v,h⟩:=iv h
        ·refine jQ (bt v) ?_;refine go ?_;exact X W _ _ (FP _) ⟨wr (e+1),jA,i,h⟩
        exact jM (bf v) (uw (H _ _ ⟨e,jA,i,sm h⟩))
       rw [wZ u];exact kX r (kX r (kX r (kX r (s (lu r r) (n (jM r (uw (H _ _ ⟨e,jA,i,sm h⟩))))))))
     clear i;rintro f w ⟨e,hf,i,Y⟩;obtain ⟨ak,rfl⟩:=nS hf;subst Y;replace a:=gi a;exact uw (p E _ _ (FP _) ⟨e,c,jA,i,a⟩)
    refine jM (yM F) (wk (q ?_));obtain ⟨a0,b,a⟩:=bs a;refine Kn i (fun B f w=>Has f [(0,T o),(1,V d),(2,V c),(8,.int .u8 g3)]/\B w/\Ld.go ()=a0) (fun ab k=>?_) ?_
    ·unfold AA at b;refine q (g (s (mi r) (s (rQ r r) (s (mh r) ?_))));obtain ⟨x,b⟩|⟨x,b⟩:=iv b
     ·rw [wu x];refine kY r (s (mi r) (kY r (s (rQ r r) (s (mK r r) (s (mh r) ?_)))));obtain ⟨z,b⟩|⟨z,b⟩:=iv b
      ·rw [wu z];refine kY r (s (mi r) (kY r (s (rQ r r) (s (mK r r) (s (mh r) ?_)))));obtain ⟨A,b⟩|⟨A,b⟩:=iv b
       ·rw [wu A];refine kY r (s (mi r) (kY r (s (rQ r r) (s (mK r r) (n ?_)))));obtain ⟨B,b⟩|⟨B,b⟩:=iv b
        ·refine jQ (bt B) ?_;refine go ?_;refine lG ?_;obtain rfl:=sm b;replace a:=oi a;obtain rfl:=sm a;replace l:=oi l;obtain rfl:=sm l;exact Dp r (mI r) (mI r) (nH ⟨r,i⟩)
        exact jM (bf B) (wk (k _ _ ⟨jA,i,sm b⟩))
       rw [wZ A];exact kX r (kX r (s (lu r r) (n (jM r (wk (k _ _ ⟨jA,i,sm b⟩))))))
      rw [wZ z];exact kX r (kX r (s (lu r r) (s (mh r) (kX r (kX r (s (lu r r) (n (jM r (wk (k _ _ ⟨jA,i,sm b⟩))))))))))
     rw [wZ x];exact kX r (kX r (s (lu r r) (s (mh r) (kX r (kX r (s (lu r r) (s (mh r) (kX r (kX r (s (lu r r) (n (jM r (wk (k _ _ ⟨jA,i,sm b⟩))))))))))))))
    clear i;rintro f w ⟨hf,i,J⟩;obtain ⟨ak,rfl⟩:=nS hf;subst J;replace a:=gi a;refine q (q (g (s (mi r) (s (kI r r) (n ?_)))));obtain ⟨C,a⟩|⟨C,a⟩:=iv a
    ·refine jQ (bt C) ?_;refine go ?_;exact p E _ _ (FP _) ⟨wr (d+1),wr (c+1),jA,i,a⟩
    refine jM (bf C) ?_;refine go ?_;exact p E _ _ (FP _) ⟨wr (d+1),c,jA,i,a⟩
   exact jM (bf L) (uw (K _ _ ⟨d,c,jA,i,sm a⟩))
 clear i;rintro f w ⟨d,c,hf,i,a1⟩;obtain ⟨ak,rfl⟩:=nS hf;subst a1;replace l:=gi l;replace l:=pi l;refine go ?_;refine lG ?_;obtain rfl:=sm l;exact Dp r (mI r) (mI r) (nH ⟨r,i⟩)
def Uk (m:BA->Int->Int->Option (kN × Int × Int)):Prop:=∀ {b i c d e R},Pre b i [] []->m c d e=some R-> Calls prog 49 #[T c,V d,V e] b (rV fun v w=>jB R fun a R=>jB R fun f h=>v=.tuple #[.agg #[V a.b,V a.g,T a.a,V a.d],V f,V h]/\Bx b w i (mD []) [] [])
def wS (fu:Nat)(d:BA)(a:Int):Option (Ld Bool (kN × Int × Int)):=if a < (d.size:Int) then (ixs d a).bind fun f=>(tJ fu f).bind fun c=>if c=true then some (.go true) else (ixs d a).bind fun e=>(wI fu e).bind fun b=>some (.go b) else some (.go false)
def rC (fu:Nat)(c:BA):Nat→Int→Option (Ld (Int) (kN × Int × Int))
 | 0,_=>none
 | d+1,a=>
 (wS fu c a).bind fun e=>e.el (fun b=>
 if b=true then
  rC fu c d (wr (a+1))
 else
  some (.go a)
 ) (fun o=>some (.out o))
def pK (fu:Nat)(d:BA)(f:Int):Nat→Int→Int→Option (Ld (Int × Int) (kN × Int × Int))
 | 0,_,_=>none
 | e+1,a,b=>
 if a < (d.size:Int) then
  (ixs d a).bind fun h=>
  (wI fu h).bind fun c=>
  if c=true then
   if (wr (a - f)) < 18 then
    (ixs d a).bind fun i=>
    pK fu d f e (wr (a+1)) (wr ((wr (10 * b))+(wr (w8 (i - 48)))))
   else
    pK fu d f e (wr (a+1)) b
  else
   some (.go (a,b))
 else
  some (.go (a,b))
def BX (fu:Nat)(d:BA)(a:Int):Option (Ld Unit (kN × Int × Int)):=if a < (d.size:Int) then (ixs d a).bind fun c=>(tJ fu c).bind fun b=>if b=true then some (.out ((⟨0,0,be,0⟩:kN),0,6)) else some (.go ()) else some (.go ())
def D6 (fu:Nat)(e:BA)(d l:Int):Option (kN × Int × Int):=(ixs e d).bind fun p=>(tJ fu p).bind fun k=>if k=true then (rC fu e fu d).bind fun t=>t.el (fun c=>if 12 < (wr (c - d)) then some ((⟨0,0,be,0⟩:kN),0,5) else (Zp e d c).bind fun f=>(vZ fu f).bind fun h=>if h=true then some ((⟨3,l,f,0⟩:kN),c,0) else some ((⟨1,l,f,0⟩:kN),c,0)) (fun o=>some o) else (ixs e d).bind fun m=>(wI fu m).bind fun i=>if i=true then (pK fu e d fu d 0).bind fun t=>t.el (fun t=>jB t fun a j=>if 18 < (wr (a - d)) then some ((⟨0,0,be,0⟩:kN),0,5) else (BX fu e a).bind fun t=>t.el (fun _=>some ((⟨2,l,be,j⟩:kN),a,0)) (fun o=>some o)) (fun o=>some o) else (CP fu e d).bind fun b=>if b=(⟨#[]⟩:BA) then some ((⟨0,0,be,0⟩:kN),0,6) else some ((⟨4,l,b,0⟩:kN),wr (d+(b.size:Int)),0)
theorem Ua (fu:Nat):Uk (D6 fu):=by
 intro X b8 F C l R hP d;unfold D6 at d;have a:=hP.bx;clear hP;generalize hG:mD _=G at a ⊢;refine cf func49 r (q (g (qZ a (jN qN) fun w1 o a=>s (xi r) (s (xi r) (n (q (g (s (mi r) (s (xi r) (n (q (q (g (s (nW r) (s (mi r) ?_)))))))))))))));obtain ⟨g2,a9,d⟩:=bs d;refine s (MQ vU r r a9) ?_;obtain ⟨ax,h3,d⟩:=bs d;refine sc (ec (vT func73) r) (DC fu (a.pr [] [0] [] r) h3) ?_;rintro _ w3 ⟨rfl,m⟩;replace a:=a.cn [] [0] m;refine n ?_;obtain ⟨Y,d⟩|⟨Y,d⟩:=iv d
 ·refine jQ (cb Y) (q ?_);obtain ⟨Y5,k,d⟩:=bs d;refine qQ (fun f w=>∃ j,Has f [(0,T F),(1,V j),(2,V l),(6,Pt o),(9,V C)]/\Bx X w b8 G [.box o 137 #[V 0,V 0,T be,V 0]] []/\Ld.go j=Y5) (fun J5 aa=>?_) ?_
  ·refine oN (kG (fun ba f w=>∃ j,Has f [(0,T F),(1,V j),(2,V l),(6,Pt o),(9,V C)]/\Bx X w b8 G [.box o 137 #[V 0,V 0,T be,V 0]] []/\rC fu F ba j=some Y5) fu ⟨C,jA,a,k⟩ ?_);clear a k;rintro n5 f w ⟨j,hf,a,k⟩ K5 ac;obtain ⟨b9,rfl⟩:=nS hf;cases n5 with
   | zero=>exact nn k
   | succ n5=>
    rw [rC] at k;refine q (q ?_);obtain ⟨Y6,i,k⟩:=bs k;refine qQ (fun f w=>∃ p,Has f [(0,T F),(1,V j),(2,V l),(6,Pt o),(9,V C),(33,.bool p)]/\Bx X w b8 G [.box o 137 #[V 0,V 0,T be,V 0]] []/\Ld.go p=Y6) (fun J6 K=>?_) ?_
    ·unfold wS at i;refine go ?_;refine s (GA vU r) (s (sU r r) (s (mh r) ?_));obtain ⟨h7,i⟩|⟨h7,i⟩:=iv i
     ·rw [wu h7];refine kY r (s (nW r) (kY r (s (mi r) ?_)));obtain ⟨g8,af,i⟩:=bs i;refine kY r (s (MQ vU r r af) ?_);obtain ⟨az,h9,i⟩:=bs i;refine kY r ?_;refine sc (ec (vT func73) r) (DC fu (a.pr [] [0] [] r) h9) ?_;rintro _ w9 ⟨rfl,m⟩;replace a:=a.cn [] [0] m;refine kY r (s (mh r) ?_);obtain ⟨t,i⟩|⟨t,i⟩:=iv i
      ·rw [t];refine go ?_;exact K _ _ ⟨true,jA,a,sm i⟩
      replace t:=nt t;rw [t];refine kY r (s (nW r) (kY r (s (mi r) ?_)));obtain ⟨aD,a0,i⟩:=bs i;refine kY r (s (MQ vU r r a0) ?_);obtain ⟨L,ag,i⟩:=bs i;refine kY r ?_;refine sc (ec (vT func74) r) (Ew fu (a.pr [] [0] [] r) ag) ?_;rintro _ aE ⟨rfl,m⟩;replace a:=a.cn [] [0] m;refine go ?_;exact K _ _ ⟨L,jA,a,sm i⟩
     rw [wZ h7];refine go ?_;exact K _ _ ⟨false,jA,a,sm i⟩
    clear a;rintro f w ⟨p,hf,a,ah⟩;obtain ⟨b9,rfl⟩:=nS hf;subst ah;replace k:=gi k;obtain ⟨u,k⟩|⟨u,k⟩:=iv k
    ·refine jQ (cb u) ?_;refine go ?_;exact ac n5 _ _ (FP _) ⟨wr (j+1),jA,a,k⟩
    exact jM (yM u) (uw (aa _ _ ⟨j,jA,a,sm k⟩))
  clear a;rintro f w ⟨j,hf,a,ai⟩;obtain ⟨b9,rfl⟩:=nS hf;subst ai;replace d:=gi d;refine q (q (g (s (mi r) (s (mi r) (s (ER r r) (s (xH r r) (n ?_)))))));obtain ⟨M,d⟩|⟨M,d⟩:=iv d
  ·refine jQ (bt M) (q (g (s Pe (kV (mQ a 0 [V 0,V 0,T be,V 0] r qN r r) fun aF a=>s (xi r) (s (xi r) (n (lG ?_)))))));obtain rfl:=sm d;exact BS r (uS r EL r qN r (a.bk 0 r)) (mI r) (mI r) (nH (nH ⟨r,a.arr [] r⟩))
  refine jM (bf M) (wk (q (g (s (nW r) (s (mi r) (s (mi r) ?_))))));obtain ⟨D,a1,d⟩:=bs d;refine s (ada vU r r r a1) (s (pz r) (n (q (q (g (s (nW r) ?_))))));obtain ⟨aj,ak,d⟩:=bs d;refine sc (ec (vT func75) r) (KF fu (a.pr [] [0] [] r) ak) ?_;rintro _ aG ⟨rfl,m⟩;replace a:=a.cn [] [0] m;refine n ?_;obtain ⟨v,d⟩|⟨v,d⟩:=iv d
  ·refine jQ (cb v) (q (g (s (mi r) (s (nW r) (s (FM r r r) (s (mi r) (kV (mQ a 0 [V 3,V l,T D,V 0] r qN r r) fun aH a=>s (xi r) (s (xi r) (n (lG ?_))))))))));obtain rfl:=sm d;exact BS r (uS r EL r qN r (a.bk 0 r)) (mI r) (mI r) (nH (nH ⟨r,a.arr [] r⟩))
  refine jM (yM v) ?_;refine go ?_;refine s (FM r r r) (s (mi r) (kV (mQ a 0 [V 1,V l,T D,V 0] r qN r r) fun aI a=>?_));refine go ?_;refine lG ?_;obtain rfl:=sm d;exact BS r (uS r EL r qN r (a.bk 0 r)) (mI r) (mI r) (nH (nH ⟨r,a.arr [] r⟩))
 refine jM (yM Y) (wk (q (q (g (s (nW r) (s (mi r) ?_))))));obtain ⟨aJ,a2,d⟩:=bs d;refine s (MQ vU r r a2) ?_;obtain ⟨al,am,d⟩:=bs d;refine sc (ec (vT func74) r) (Ew fu (a.pr [] [0] [] r) am) ?_;rintro _ aK ⟨rfl,m⟩;replace a:=a.cn [] [0] m;refine n ?_;obtain ⟨x,d⟩|⟨x,d⟩:=iv d
 ·refine jQ (cb x) (q (g (s (xi r) (n (q ?_)))));obtain ⟨a3,b,d⟩:=bs d;refine qQ (fun f w=>∃ e c,Has f [(0,T F),(1,V e),(2,V l),(6,Pt o),(9,V C),(11,V c)]/\Bx X w b8 G [.box o 137 #[V 0,V 0,T be,V 0]] []/\Ld.go (e,c)=a3) (fun aL H=>?_) ?_
  ·refine oN (kG (fun ba f w=>∃ e c,Has f [(0,T F),(1,V e),(2,V l),(6,Pt o),(9,V C),(11,V c)]/\Bx X w b8 G [.box o 137 #[V 0,V 0,T be,V 0]] []/\pK fu F C ba e c=some a3) fu ⟨C,0,jA,a,b⟩ ?_);clear a b;rintro E f w ⟨e,c,hf,a,b⟩ aM I;obtain ⟨b9,rfl⟩:=nS hf;cases E with
   | zero=>exact nn b
   | succ E=>
    rw [pK] at b;refine go ?_;refine s (GA vU r) (s (sU r r) (s (mh r) ?_));obtain ⟨N,b⟩|⟨N,b⟩:=iv b
    ·rw [wu N];refine kY r (s (nW r) (kY r (s (mi r) ?_)));obtain ⟨aN,a4,b⟩:=bs b;refine kY r (s (MQ vU r r a4) ?_);obtain ⟨an,ao,b⟩:=bs b;refine kY r ?_;refine sc (ec (vT func74) r) (Ew fu (a.pr [] [0] [] r) ao) ?_;rintro _ aO ⟨rfl,m⟩;replace a:=a.cn [] [0] m;refine s (mK r r) (n ?_);obtain ⟨z,b⟩|⟨z,b⟩:=iv b
     ·refine jQ (cb z) (wk (oN (q (q (g (s (mi r) (s (mi r) (s (ER r r) (s (sU r r) (n ?_))))))))));obtain ⟨Q,b⟩|⟨Q,b⟩:=iv b
      ·refine jQ (bt Q) (g (s (mi r) (s (abF r r) (s (nW r) (s (mi r) ?_)))));obtain ⟨ap,a5,b⟩:=bs b;refine s (MQ vU r r a5) (s (afQ r r) (s (agv ⟨_,u5_⟩ Qs r) ?_));refine go ?_;exact I E _ _ (FP _) ⟨wr (e+1),wr ((wr (10 * c))+(wr (w8 (ap - 48)))),jA,a,b⟩
      refine jM (bf Q) ?_;refine go ?_;exact I E _ _ (FP _) ⟨wr (e+1),c,jA,a,b⟩
     exact jM (yM z) (uw (H _ _ ⟨e,c,jA,a,sm b⟩))
    rw [wZ N];exact kX r (kX r (kX r (kX r (s (lu r r) (n (jM r (uw (H _ _ ⟨e,c,jA,a,sm b⟩))))))))
  clear a;rintro f w ⟨e,c,hf,a,a6⟩;obtain ⟨b9,rfl⟩:=nS hf;subst a6;replace d:=gi d;replace d:=pi d;refine q (q (g (s (mi r) (s (mi r) (s (ER r r) (s (xH r r) (n ?_)))))));obtain ⟨S,d⟩|⟨S,d⟩:=iv d
  ·refine jQ (bt S) (q (g (s Pe (kV (mQ a 0 [V 0,V 0,T be,V 0] r qN r r) fun aP a=>s (xi r) (s (xi r) (n (lG ?_)))))));obtain rfl:=sm d;exact BS r (uS r EL r qN r (a.bk 0 r)) (mI r) (mI r) (nH (nH ⟨r,a.arr [] r⟩))
  refine jM (bf S) (wk (q ?_));obtain ⟨aq,h,d⟩:=bs d;refine qQ (fun f w=>Has f [(1,V e),(2,V l),(6,Pt o),(11,V c)]/\Bx X w b8 G [.box o 137 #[V 0,V 0,T be,V 0]] []/\Ld.go ()=aq) (fun aQ J=>?_) ?_
  ·unfold BX at h;refine go ?_;refine s (GA vU r) (s (sU r r) (s (mh r) ?_));obtain ⟨U,h⟩|⟨U,h⟩:=iv h
   ·rw [wu U];refine kY r (s (nW r) (kY r (s (mi r) ?_)));obtain ⟨aR,a7,h⟩:=bs h;refine kY r (s (MQ vU r r a7) ?_);obtain ⟨ar,au,h⟩:=bs h;refine kY r ?_;refine sc (ec (vT func73) r) (DC fu (a.pr [] [0] [] r) au) ?_;rintro _ aS ⟨rfl,m⟩;replace a:=a.cn [] [0] m;refine s (mK r r) (n ?_);obtain ⟨A,h⟩|⟨A,h⟩:=iv h
    ·refine jQ (cb A) (q (g (s Pe (kV (mQ a 0 [V 0,V 0,T be,V 0] r qN r r) fun aT a=>s (xi r) (s (xi r) (n (lG ?_)))))));obtain rfl:=sm h;replace d:=oi d;obtain rfl:=sm d;exact BS r (uS r EL r qN r (a.bk 0 r)) (mI r) (mI r) (nH (nH ⟨r,a.arr [] r⟩))
    exact jM (yM A) (wk (J _ _ ⟨jA,a,sm h⟩))
   rw [wZ U];exact kX r (kX r (kX r (kX r (s (lu r r) (n (jM r (wk (J _ _ ⟨jA,a,sm h⟩))))))))
  clear a;rintro f w ⟨hf,a,a8⟩;obtain ⟨b9,rfl⟩:=nS hf;subst a8;replace d:=gi d;refine go ?_;refine s (QA r r r) (s (mi r) (kV (mQ a 0 [V 2,V l,T be,V c] r qN r r) fun aU a=>?_));refine go ?_;refine lG ?_;obtain rfl:=sm d;exact BS r (uS r EL r qN r (a.bk 0 r)) (mI r) (mI r) (nH (nH ⟨r,a.arr [] r⟩))
 refine jM (yM x) (wk (q (g (s (nW r) (s (mi r) ?_)))));obtain ⟨B,av,d⟩:=bs d;refine sc (ec (vT func76) r) (QF fu (a.pr [] [0] [] r) av) ?_;rintro _ aV ⟨rfl,m⟩;replace a:=a.cn [] [0] m;refine go ?_;refine s (uj r r) (n ?_);obtain ⟨W,d⟩|⟨W,d⟩:=iv d
 ·refine jQ (bt W) (q (g (s Pe (kV (mQ a 0 [V 0,V 0,T be,V 0] r qN r r) fun aW a=>s (xi r) (s (xi r) (n (lG ?_)))))));obtain rfl:=sm d;exact BS r (uS r EL r qN r (a.bk 0 r)) (mI r) (mI r) (nH (nH ⟨r,a.arr [] r⟩))
 refine jM (bf W) ?_;refine go ?_;refine s (FM r r r) (s (mi r) (s (nW r) (s (GA vU r) (s (mg r r) (kV (mQ a 0 [V 4,V l,T B,V 0] r qN r r) fun aX a=>?_)))));refine go ?_;refine lG ?_;obtain rfl:=sm d;exact BS r (uS r EL r qN r (a.bk 0 r)) (mI r) (mI r) (nH (nH ⟨r,a.arr [] r⟩))
def QV (m:BA->Option ((List kN) × Int × Int)):Prop:=∀ {d:World}{j e R},Pre d j [] []->m e=some R-> Calls prog 27 #[T e] d (rV fun v w=>jB R fun f R=>jB R fun h i=>∃ (a:OA)(b:Nat)(c:LV),v=.tuple #[Z a f b,V h,V i]/\Bx d w j (mD []) [O d.heap.size a b 137 kN c] [.els c f])
def AU (fu:Nat)(b:List kN)(a:Int):Option (Ld Int ((List kN) × Int × Int)):=if a=0 then if 2000<=(b.length:Int) then some (.go 5) else some (.go a) else some (.go a)
def vI (fu:Nat)(k:BA):Nat→Int→Int→(List kN)→Option (Ld (Int × Int × List kN) ((List kN) × Int × Int))
 | 0,_,_,_=>none
 | m+1,b,a,c=>
 if b < (k.size:Int) then
  (D6 fu k b a).bind fun p=>
  jB p fun h p=>jB p fun i j=>
  (AU fu c j).bind fun p=>p.el (fun d=>
  if d≠0 then
   some (.out (([]:List kN),a,d))
  else
   (app c ([h]:List kN)).bind fun l=>
   (zP fu k i a).bind fun p=>
   jB p fun e f=>
   vI fu k m e f l
  ) (fun o=>some (.out o))
 else
  some (.go (b,a,c))
def CV (fu:Nat)(e:BA):Option ((List kN) × Int × Int):=if 4000 < (e.size:Int) then some (([]:List kN),0,5) else (zP fu e 0 1).bind fun i=>jB i fun a b=>(vI fu e fu a b ([]:List kN)).bind fun i=>i.el (fun i=>jB i fun h i=>jB i fun c d=>(app d ([(⟨0,c,be,0⟩:kN)]:List kN)).bind fun f=>some (f,0,0)) (fun o=>some o)
theorem Sr (fu:Nat):QV (CV fu):=by
 intro B au K R hP l;unfold CV at l;have c:=hP.bx;clear hP;generalize hG:mD _=G at c ⊢;refine cf func27 r ?_;refine go ?_;refine s (GA vU r) (s (xH r r) (n ?_));obtain ⟨L,l⟩|⟨L,l⟩:=iv l
 ·refine jQ (bt L) ?_;refine go ?_;refine lG ?_;replace c:=c.Gf kN 137;obtain rfl:=sm l;exact BS r (mI r) (mI r) (mI r) (nH (nH ⟨none,0,[],r,c⟩))
 refine jM (bf L) (wk (q (g (s (q9 r) (n (q (g (s (nW r) ?_))))))));obtain ⟨C,D,h3,l⟩:=mH l;refine sc (ec (vT func48) r) (JU fu (c.pr [] [] [] r) h3) ?_;rintro _ w3 ⟨rfl,E⟩;replace c:=c.cn [] [] E;refine s wY (s (kL r r) (s (kL r r) (s (xi r) (s (xi r) (n (q ?_))))));replace c:=c.Gf kN 137;obtain ⟨Y4,b,l⟩:=bs l;refine qQ (fun f w=>∃ m j i d e h,Has f [(5,Z d i e),(7,V j)]/\Bx B w au G [O B.heap.size d e 137 kN h] [.els h i]/\Ld.go (m,j,i)=Y4) (fun J4 M=>?_) ?_
 ·refine oN (kG (fun aw f w=>∃ m j i d e h,Has f [(0,T K),(5,Z d i e),(6,V m),(7,V j)]/\Bx B w au G [O B.heap.size d e 137 kN h] [.els h i]/\vI fu K aw m j i=some Y4) fu ⟨C,D,([]:List kN),none,0,[],jA,c,b⟩ ?_);clear c b;rintro N f w ⟨m,j,i,d,e,h,hf,c,b⟩ K4 Q;obtain ⟨av,rfl⟩:=nS hf;cases N with
  | zero=>exact nn b
  | succ N=>
   rw [vI] at b;refine go ?_;refine s (GA vU r) (s (sU r r) (n ?_));obtain ⟨S,b⟩|⟨S,b⟩:=iv b
   ·refine jQ (bt S) (wk (oN (q (g (s (nW r) (s (mi r) (s (mi r) ?_)))))));obtain ⟨a,F,t,h7,b⟩:=vO b;refine sc (ec (vT func49) r) (Ua fu (c.pr [] [0] [] r) h7) ?_;rintro _ w7 ⟨rfl,E⟩;replace c:=c.cn [] [0] E;refine s wY (s (kL r r) (s (kL r r) (s (kL r r) (qZ c (jN qN) fun w8 b8 c=>kV (mQ c 0 [V a.b,V a.g,T a.a,V a.d] r qN r r) fun w9 c=>s (xi r) (s (xi r) (n (q ?_)))))));obtain ⟨U,k,b⟩:=bs b;refine Kn c (fun Q f w=>∃ o,Has f [(0,T K),(5,Z d i e),(7,V j),(8,Pt b8),(9,V F),(10,V o)]/\Q w/\Ld.go o=U) (fun ab p=>?_) ?_
    ·unfold AU at k;refine q (g (s (mi r) (s (kI r r) (s (mh r) ?_))));obtain ⟨u,k⟩|⟨u,k⟩:=iv k
     ·rw [wu u];refine kY r (s (vR r) (kY r (s (qG Jb r) (kY r (s (FI r r) (s (mK r r) (n ?_)))))));obtain ⟨v,k⟩|⟨v,k⟩:=iv k
      ·exact jQ (bt v) (g (s (xi r) (n (p _ _ ⟨5,jA,c,sm k⟩))))
      exact jM (bf v) (wk (p _ _ ⟨t,jA,c,sm k⟩))
     rw [wZ u];exact kX r (kX r (kX r (s (lu r r) (n (jM r (wk (p _ _ ⟨t,jA,c,sm k⟩)))))))
    clear c;rintro f w ⟨o,hf,c,H⟩;obtain ⟨av,rfl⟩:=nS hf;subst H;replace b:=gi b;refine q (q (g (s (mi r) (s (rQ r r) (n ?_)))));obtain ⟨x,b⟩|⟨x,b⟩:=iv b
    ·refine jQ (bt x) ?_;refine go ?_;refine lG ?_;replace c:=c.Gf kN 137;obtain rfl:=sm b;replace l:=oi l;obtain rfl:=sm l;exact BS r (mI r) (mI r) (mI r) (nH (nH ⟨none,0,[],r,c.ad [0] [0]⟩))
    refine jM (bf x) (wk (q (g (s (vR r) (s (kZ [V a.b,V a.g,T a.a,V a.d] EL qN r (c.bk 0 r)) (o7 (jT c [[V a.b,V a.g,T a.a,V a.d]] ([a]:List kN) (Sn r) r r ⟨r,y⟩) ?_))))));rintro _ ac ⟨ae,rfl,c⟩;obtain ⟨W,I,b⟩:=bs b;refine o7 (kJ c 2 1 r r Jb qN r (nD _) r r (c.Cj 0 0 r r) I) ?_;rintro _ af ⟨X,Y,a0,rfl,c⟩;refine s (q9 r) (n (g (s (nW r) (s (mi r) (s (mi r) ?_)))));obtain ⟨z,A,a1,b⟩:=mH b;refine sc (ec (vT func48) r) (JU fu (c.pr [] [0,1,2] [] r) a1) ?_;rintro _ ag ⟨rfl,E⟩;replace c:=c.cn [] [0,1,2] E;refine s wY ?_;refine go ?_;exact Q N _ _ (FP _) ⟨z,A,W,X,Y,a0,jA,c.ad [2] [1],b⟩
   exact jM (bf S) (uw (M _ _ ⟨m,j,i,d,e,h,jA,c,sm b⟩))
 clear c;rintro f w ⟨m,j,i,d,e,h,hf,c,a2⟩;obtain ⟨av,rfl⟩:=nS hf;subst a2;replace l:=gi l;replace l:=EU l;refine go ?_;refine s (V9 r r) (o7 (jT c [[V 0,V j,T be,V 0]] ([(⟨0,j,be,0⟩:kN)]:List kN) (Sn r) r r ⟨r,y⟩) ?_);rintro _ ah ⟨ai,rfl,c⟩;obtain ⟨aj,J,l⟩:=bs l;refine o7 (kJ c 1 1 r r Jb qN r (nD _) r r (c.Cj 0 0 r r) J) ?_;rintro _ ak ⟨a3,a4,a5,rfl,c⟩;refine go ?_;refine lG ?_;obtain rfl:=sm l;exact BS r (mI r) (mI r) (mI r) (nH (nH ⟨a3,a4,a5,r,c.ad [1] [1]⟩))
abbrev IK:=Int->Option (BA)
def AZ (m:Int->Option BA):Prop:=∀ {a d b c},Pre a d [] []->m b=some c-> Calls prog 91 #[V b] a (rV fun v w=>v=T c/\Bx a w d (mD []) [] [])
def zx (fu:Nat)(A5:IK)(a:Int):Option BA:=if a < 0 then if a=(-9223372036854775808) then some (⟨#[45,57,50,50,51,51,55,50,48,51,54,56,53,52,55,55,53,56,48,56]⟩:BA) else (A5 (wr (0 - a))).bind fun c=>(cat (⟨#[45]⟩:BA) c).bind fun f=>some f else if a < 10 then some (bst ([⟨w8 (wr (48+a))⟩]:List Jc)) else (A5 (wr (a.tdiv 10))).bind fun d=>(A5 (a.tmod 10)).bind fun b=>(cat d b).bind fun e=>some e
def Fa:Nat→(Int→Option (BA))
 | 0=>(fun _=>none)
 | fu+1=>zx fu (Fa fu)
def tC (fu:Nat):=(Fa fu)
theorem Nn (fu:Nat)(A5:IK)(H_r03_Digits:AZ A5):AZ (zx fu A5):=by
 intro x F e z m a;unfold zx at a;have b:=m.bx;clear m;generalize A:mD _=G at b ⊢;refine cf func91 r (q (g (s (pz r) (n (q (q (g (s (mi r) (s (sU r r) (n ?_))))))))));obtain ⟨f,a⟩|⟨f,a⟩:=iv a
 ·refine jQ (bt f) (q (q (g (s (mi r) (s (kI r r) (n ?_))))));obtain ⟨h,a⟩|⟨h,a⟩:=iv a
  ·refine jQ (bt h) (q (g (s (pz r) (n (lG ?_)))));obtain rfl:=sm a;exact jK r (mI r) ⟨r,b⟩
  refine jM (bf h) (wk (q (g (s (mi r) (s (ER r r) ?_)))));obtain ⟨o,t,a⟩:=bs a;refine sc (ec Og r) (H_r03_Digits (b.pr [] [] [] r) t) ?_;rintro _ B ⟨rfl,c⟩;replace b:=b.cn [] [] c;obtain ⟨C,i,a⟩:=bs a;refine s (mE r r i) (s (pz r) (n (lG ?_)));obtain rfl:=sm a;exact jK r (mI r) ⟨r,b⟩
 refine jM (bf f) (wk (q (q (g (s (mi r) (s (sU r r) (n ?_)))))));obtain ⟨j,a⟩|⟨j,a⟩:=iv a
 ·refine jQ (bt j) ?_;refine go ?_;refine s (ag1 ⟨_,Qs⟩ u5_ r) (o7 (jT b [[.int .u8 (w8 (wr (48+e)))]] ([⟨w8 (wr (48+e))⟩]:List Jc) (Wh r) r r ⟨r,y⟩) ?_);rintro _ D ⟨E,rfl,b⟩;refine s (agT U4 u5_ vU r (b.vw 0 0 r r)) (s (pz r) (n (lG ?_)));obtain rfl:=sm a;exact jK r (mI r) ⟨r,b.ad [] []⟩
 refine jM (bf j) (wk (q (g (s (mi r) (s (aeU r r (by decide)) ?_)))));obtain ⟨p,u,a⟩:=bs a;refine sc (ec Og r) (H_r03_Digits (b.pr [] [] [] r) u) ?_;rintro _ w8 ⟨rfl,c⟩;replace b:=b.cn [] [] c;refine s (mi r) (s (aa7 r r (by decide)) ?_);obtain ⟨k,l,a⟩:=bs a;refine sc (ec Og r) (H_r03_Digits (b.pr [] [] [] r) l) ?_;rintro _ v ⟨rfl,c⟩;replace b:=b.cn [] [] c;obtain ⟨w,d,a⟩:=bs a;refine s (mE r r d) (s (pz r) (n (lG ?_)));obtain rfl:=sm a;exact jK r (mI r) ⟨r,b⟩
theorem Lu (fu:Nat):AZ (tC fu):=by
 induction fu with
 | zero=>exact by intro a b;intros;(try intro _);intros;exact nn (by assumption)
 | succ fu ih=>exact Nn fu (tC fu) ih
theorem DR (fu:Nat):AZ (tC fu):=(Lu fu)
end
end Go.Proofs.YtdkneekpdecjbaaGreat
