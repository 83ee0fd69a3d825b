/- Contracts, printed by gen3.py. -/
import Derived.Test.YtdkneekpdecjbaaGreatZ5
import Derived.Test.YtdkneekpdecjbaaGreatLb
import Derived.Test.YtdkneekpdecjbaaGreatLc
import Derived.Test.YtdkneekpdecjbaaGreatLd
import Derived.Test.YtdkneekpdecjbaaGreatLg
import Derived.Test.YtdkneekpdecjbaaGreatZ4
import Derived.Test.YtdkneekpdecjbaaGreatZ3
import Derived.Laws.StructEq
import Derived.Test.YtdkneekpdecjbaaGreatZ6
set_option linter.unusedVariables false
set_option maxHeartbeats 12800000
set_option linter.unusedSimpArgs false
set_option maxRecDepth 4000
namespace Go.Proofs.YtdkneekpdecjbaaGreat
open Go.RowKit Go.Fw Go.Proofs.Tryz
noncomputable section
def Qs (m:(List Int)->Option BA):Prop:=∀ {c f d a b e},Pre c f [] [.l a b d]->m d=some e-> Calls prog 20 #[Z a d b] c (tN fun v w=>v=T e/\Bx c w f (mV []) [] [])
def Cc (fu:Nat)(c:(List Int)):Option BA:=(xg fu c).bind fun a=>(Ar fu a).bind fun b=>some b
theorem O8 (fu:Nat):Qs (Cc fu):=by intro u A o b c v k d;unfold Cc at d;have a:=k.bx;clear k;generalize w:mV _=G at a ⊢;refine cf func20 r (lH [(0,Z b o c)] ⟨r,y⟩ fun B=>q (g (s (mW r) (n (q (g (s (nY r) ?_)))))));obtain ⟨l,p,d⟩:=bs d;refine sc (ec acy r) (KM fu (a.pr [] [] [0] r) p) ?_;rintro _ x ⟨e,f,h,i,rfl,j⟩;replace a:=a.cn [] [] j;obtain ⟨m,t,d⟩:=bs d;refine sc (ec acP r) (Oz fu (a.pr [] [] [0,1] r) t) ?_;rintro _ z ⟨rfl,j⟩;replace a:=a.cn [] [] j;refine s (mW r) (n (lT ?_));obtain rfl:=sm d;exact jL r (nD r) ⟨r,a.dp []⟩
def Kc (m:(List Int)->Option (jY × Bool)):Prop:=∀ {p x t a b R},Pre p x [] [.l a b t]->m t=some R-> Calls prog 9 #[Z a t b] p (tN fun v w=>jy R fun o u=>∃ (c:OA)(d:Nat)(e:OA)(f:Nat)(h:OA)(i:Nat)(j:OA)(k:Nat),v=.tuple #[.agg #[Z c o.a.a d,Z e o.a.b f,Z h o.c i,Z j o.b k],.bool u]/\Bx p w x (mV []) [] [.l c d o.a.a,.l e f o.a.b,.l h i o.c,.l j k o.b])
def wS (fu:Nat)(j:(List Int)):Option (jY × Bool):=(AZ fu j).bind fun c=>(Cc fu c).bind fun d=>(xU fu d).bind fun k=>jy k fun e k=>jy k fun i f=>if f≠0 then some ((⟨(⟨([]:List Gr),([]:List Gn)⟩:jT),([]:List (List Gv)),([]:List Gi)⟩:jY),false) else (tQ fu e).bind fun k=>jy k fun a k=>jy k fun h b=>some (a,decide (b=0))
theorem KO (fu:Nat):Kc (wS fu):=by
 intro w0 ae N x z R I v;unfold wS at v;have b:=I.bx;clear I;generalize hG:mV _=G at b ⊢;refine cf func9 r (lH [(0,Z x N z)] ⟨r,y⟩ fun af=>q (g (tq b (jP zB) fun w1 b1 b=>s (kC r) (n (q (g (s (nY r) ?_)))))));obtain ⟨J,Q,v⟩:=bs v;refine sc (ec adN r) (OC fu (b.pr [] [0] [0] r) Q) ?_;rintro _ w2 ⟨B,C,rfl,A⟩;replace b:=b.cn [] [0] A;obtain ⟨K,S,v⟩:=bs v;refine sc (ec acE r) (O8 fu (b.pr [] [0] [0] r) S) ?_;rintro _ w3 ⟨rfl,A⟩;replace b:=b.cn [] [0] A;obtain ⟨w,L,M,U,v⟩:=uO v;refine sc (ec Zp r) (Ht fu (b.pr [] [0] [] r) U) ?_;rintro _ w4 ⟨o,p,t,u,rfl,A⟩;replace b:=b.cn [] [0] A;refine s wH (s (kD r r) (s (kD r r) (s (kD r r) (tq b (jP uQ) fun w5 b5 b=>kY (mM b 0 [Z o w.a p,Z t w.b u] r uQ r r) fun w6 b=>s (xi r) (s (xi r) (n (q (q (g (s (mi r) (s (rP r r) (n ?_))))))))))));rcases iv v with ⟨D,v⟩|⟨D,v⟩
 ·refine jK (bt D) (q (g (s ZJ (kY (mM b 1 [sn,sn,sn,sn] r zB r r) fun w8 b=>s (kC r) (n (lT ?_))))));replace b:=b.jX (d:=.l none 0 ([]:List Gr)) oK;replace b:=b.jX (d:=.l none 0 ([]:List Gn)) oK;replace b:=b.jX (d:=.l none 0 ([]:List (List Gv))) oK;replace b:=b.jX (d:=.l none 0 ([]:List Gi)) oK;obtain rfl:=sm v;exact Cy r (ug r Mf r zB r (b.bk 1 r)) (nD r) (nC ⟨none,0,none,0,none,0,none,0,r,b.ad [] [3,2,1,0]⟩)
 refine jD (bf D) (wk (q (g (s (lu [Z o w.a p,Z t w.b u] FN uQ r (b.bk 0 r)) ?_))));obtain ⟨a,E,F,H,v⟩:=uO v;refine sc (ec YW r) (Hu fu (b.pr [] [0,1] [0,1] r) H) ?_;rintro _ X ⟨c,e,f,h,i,j,k,m,rfl,A⟩;replace b:=b.cn [] [0,1] A;refine s wH (s (kD r r) (s (kD r r) (s (kD r r) (tq b (jP zB) fun Y a0 b=>kY (mM b 0 [Z c a.a.a e,Z f a.a.b h,Z i a.c j,Z k a.b m] r zB r r) fun a1 b=>s (xi r) (s (xi r) (n (q (g (s (lu [Z c a.a.a e,Z f a.a.b h,Z i a.c j,Z k a.b m] Mf zB r (b.bk 0 r)) (s (mi r) (s (kJ r r) (kY (mM b 2 [Z c a.a.a e,Z f a.a.b h,Z i a.c j,Z k a.b m] r zB r r) fun a2 b=>s (kC r) (n (lT ?_))))))))))))));obtain rfl:=sm v;exact Cy r (ug r Mf r zB r (b.bk 2 r)) (nD r) (nC ⟨c,e,f,h,i,j,k,m,r,b.ad [] [0,1,2,3]⟩)
def LP (m:BA->Option jY):Prop:=∀ {k p o}{j:jY},Pre k p [] []->m o=some j-> Calls prog 22 #[T o] k (tN fun v w=>∃ (a:OA)(b:Nat)(c:OA)(d:Nat)(e:OA)(f:Nat)(h:OA)(i:Nat),v=.agg #[Z a j.a.a b,Z c j.a.b d,Z e j.c f,Z h j.b i]/\Bx k w p (mV []) [] [.l a b j.a.a,.l c d j.a.b,.l e f j.c,.l h i j.b])
def Dr (fu:Nat)(h:BA):Option jY:=(xU fu h).bind fun i=>jy i fun a i=>jy i fun c d=>(tQ fu a).bind fun i=>jy i fun b i=>jy i fun e f=>some b
theorem LA (fu:Nat):LP (Dr fu):=by intro H Y C I w u;unfold Dr at u;have k:=w.bx;clear w;generalize J:mV _=G at k ⊢;refine cf func22 r (lH [(0,T C)] ⟨r,y⟩ fun a0=>q (g (tq k (jP zB) fun K L k=>n (q (g (s (lG r) ?_))))));obtain ⟨t,x,z,D,u⟩:=uO u;refine sc (ec Zp r) (Ht fu (k.pr [] [0] [] r) D) ?_;rintro _ M ⟨l,m,o,p,rfl,v⟩;replace k:=k.cn [] [0] v;refine s wH (s (kD r r) (s (kD r r) (s (kD r r) (tq k (jP uQ) fun N Q k=>kY (mM k 0 [Z l t.a m,Z o t.b p] r uQ r r) fun R k=>s (xi r) (s (xi r) (n (q (g (s (lu [Z l t.a m,Z o t.b p] FN uQ r (k.bk 0 r)) ?_)))))))));obtain ⟨a,A,B,F,u⟩:=uO u;refine sc (ec YW r) (Hu fu (k.pr [] [0,1] [0,1] r) F) ?_;rintro _ S ⟨b,c,d,e,f,h,i,j,rfl,v⟩;replace k:=k.cn [] [0,1] v;refine s wH (s (kD r r) (s (kD r r) (s (kD r r) (tq k (jP zB) fun U W k=>kY (mM k 0 [Z b a.a.a c,Z d a.a.b e,Z f a.c h,Z i a.b j] r zB r r) fun X k=>s (xi r) (s (xi r) (n (q (g (s (lu [Z b a.a.a c,Z d a.a.b e,Z f a.c h,Z i a.b j] Mf zB r (k.bk 0 r)) (kY (mM k 2 [Z b a.a.a c,Z d a.a.b e,Z f a.c h,Z i a.b j] r zB r r) fun w8 k=>n (lT ?_)))))))))));obtain rfl:=sm u;exact jL r (ug r Mf r zB r (k.bk 2 r)) ⟨b,c,d,e,f,h,i,j,r,k.ad [] [0,1,2,3]⟩
end
def Ng (f:BitVec 64->BitVec 64->BitVec 64)(a b:Int):Int:=wr (f (BitVec.ofInt 64 a) (BitVec.ofInt 64 b)).toNat
section
variable {P:Program}{w:World}{ρ:Operand->Value}{d:Option Nat}{ty:TypeId}{pos:String}{af:Array Edge}{g:Option (Nat × Bool)}{t t':TypeId}{x y:Operand}{a b:Int}
theorem ZE (hx:ρ x=V a)(hy:ρ y=V b):Yl P ρ (.binOp .and t x y t') d ty pos af g w (V (Ng (· &&& ·) a b)):=by have h:Op.intBits .and .i64 a b=pure (V (Ng (· &&& ·) a b)):=rfl;simp [Yl,execOp,hx,hy,binOp,eqGuard,h]
theorem ae3 (hx:ρ x=V a)(hy:ρ y=V b):Yl P ρ (.binOp .or t x y t') d ty pos af g w (V (Ng (· ||| ·) a b)):=by have h:Op.intBits .or .i64 a b=pure (V (Ng (· ||| ·) a b)):=rfl;simp [Yl,execOp,hx,hy,binOp,eqGuard,h]
theorem acM (hx:ρ x=V a)(hy:ρ y=V b):Yl P ρ (.binOp .xor t x y t') d ty pos af g w (V (Ng (· ^^^ ·) a b)):=by have h:Op.intBits .xor .i64 a b=pure (V (Ng (· ^^^ ·) a b)):=rfl;simp [Yl,execOp,hx,hy,binOp,eqGuard,h]
theorem acs (hx:ρ x=V a):Yl P ρ (.unOp .neg t x) d ty pos af g w (V (wr (0 - a))):=by simp [Yl,execOp,hx,Op.unary,Op.intArith,wr]
theorem aej {v:Value}(h:∃ D,P.underlying t=some D/\(match D with | .interface _=>false | _=>true)=true)(hx:ρ x=v):Yl P ρ (.makeInterface t x) d ty pos af g w (.iface t v):=by obtain ⟨D,h1,h2⟩:=h;cases D <;> simp_all [Yl,execOp,Instr.makeInterface,run_underlying h1]
end
section
variable {P:Program}{N:Fz}{ops:Array Oper}{K:KK}{rest:List Oper}{f:Fr}{w:World}{d:Option Nat}{ty:TypeId}{pos:String}{af:Array Edge}
theorem aaC {op:Op}{g:Nat × Bool}(h:uq ops f (some g)=true)(k:oM P N ops K (⟨d,op,ty,pos,af,none⟩ :: rest) f w):oM P N ops K (⟨d,op,ty,pos,af,some g⟩ :: rest) f w:=kF h k
theorem aaN {op:Op}{g:Nat × Bool}(h:uq ops f (some g)=false)(k:oM P N ops K rest (lq f d undef) w):oM P N ops K (⟨d,op,ty,pos,af,some g⟩ :: rest) f w:=jZ h k
theorem abR {x:Operand}{p:Option Addr}(h:ev f x=.pointer p)(k:oM P N ops K rest (lq f d (.pointer p)) w):oM P N ops K (⟨d,.move x,ty,pos,af,none⟩ :: rest) f w:=kQ (Yo h) k
theorem abN {x:Operand}{n:Int}(h:ev f x=V n)(k:oM P N ops K rest (lq f d (V n)) w):oM P N ops K (⟨d,.move x,ty,pos,af,none⟩ :: rest) f w:=kQ (X3 h) k
theorem abB {x:Operand}{p:Option Addr}{n m:Nat}(h:ev f x=.slice p n m)(k:oM P N ops K rest (lq f d (.slice p n m)) w):oM P N ops K (⟨d,.move x,ty,pos,af,none⟩ :: rest) f w:=kQ (nY h) k
theorem aaq {x:Operand}{b:Bool}(h:ev f x=.bool b)(k:oM P N ops K rest (lq f d (.bool b)) w):oM P N ops K (⟨d,.move x,ty,pos,af,none⟩ :: rest) f w:=kQ (lD h) k
theorem aat {x:Operand}{b:ByteArray}(h:ev f x=T b)(k:oM P N ops K rest (lq f d (T b)) w):oM P N ops K (⟨d,.move x,ty,pos,af,none⟩ :: rest) f w:=kQ (lG h) k
theorem aNl {x:Operand}{a:Addr}(h:ev f x=.pointer (some a))(k:oM P N ops K rest (lq f d (.pointer (some a))) w):oM P N ops K (⟨d,.nilCheck x,ty,pos,af,none⟩ :: rest) f w:=kQ (YO h) k
theorem Yw {x:Operand}{n:Int}(h:ev f x=V n)(k:oM P N ops K rest (lq f d (V n)) w):oM P N ops K (⟨d,.assign x,ty,pos,af,none⟩ :: rest) f w:=kQ (Wy h) k
theorem abf {x:Operand}{b:Bool}(h:ev f x=.bool b)(k:oM P N ops K rest (lq f d (.bool b)) w):oM P N ops K (⟨d,.assign x,ty,pos,af,none⟩ :: rest) f w:=kQ (kC h) k
theorem aaR {x:Operand}{p:Option Addr}{n m:Nat}(h:ev f x=.slice p n m)(k:oM P N ops K rest (lq f d (.slice p n m)) w):oM P N ops K (⟨d,.assign x,ty,pos,af,none⟩ :: rest) f w:=kQ (nK h) k
theorem abM {x:Operand}{p:Option Addr}(h:ev f x=.pointer p)(k:oM P N ops K rest (lq f d (.pointer p)) w):oM P N ops K (⟨d,.assign x,ty,pos,af,none⟩ :: rest) f w:=kQ (Ul h) k
theorem ZL {x:Operand}{b:ByteArray}(h:ev f x=T b)(k:oM P N ops K rest (lq f d (T b)) w):oM P N ops K (⟨d,.assign x,ty,pos,af,none⟩ :: rest) f w:=kQ (mW h) k
theorem aae {t t':TypeId}{x y:Operand}{n m:Int}(h:ev f x=V n)(h2:ev f y=V m)(k:oM P N ops K rest (lq f d (.bool (decide (n=m)))) w):oM P N ops K (⟨d,.binOp .eql t x y t',ty,pos,af,none⟩ :: rest) f w:=kQ (kJ h h2) k
theorem aao {t t':TypeId}{x y:Operand}{n m:Int}(h:ev f x=V n)(h2:ev f y=V m)(k:oM P N ops K rest (lq f d (.bool (decide (n≠m)))) w):oM P N ops K (⟨d,.binOp .neq t x y t',ty,pos,af,none⟩ :: rest) f w:=kQ (rP h h2) k
theorem aa1 {t t':TypeId}{x y:Operand}{n m:Int}(h:ev f x=V n)(h2:ev f y=V m)(k:oM P N ops K rest (lq f d (.bool (decide (n < m)))) w):oM P N ops K (⟨d,.binOp .lss t x y t',ty,pos,af,none⟩ :: rest) f w:=kQ (qP h h2) k
theorem aaj {t t':TypeId}{x y:Operand}{n m:Int}(h:ev f x=V n)(h2:ev f y=V m)(k:oM P N ops K rest (lq f d (.bool (decide (n<=m)))) w):oM P N ops K (⟨d,.binOp .leq t x y t',ty,pos,af,none⟩ :: rest) f w:=kQ (Q7 h h2) k
theorem aaz {t t':TypeId}{x y:Operand}{n m:Int}(h:ev f x=V n)(h2:ev f y=V m)(k:oM P N ops K rest (lq f d (.bool (decide (m < n)))) w):oM P N ops K (⟨d,.binOp .gtr t x y t',ty,pos,af,none⟩ :: rest) f w:=kQ (wO h h2) k
theorem aaM {t t':TypeId}{x y:Operand}{n m:Int}(h:ev f x=V n)(h2:ev f y=V m)(k:oM P N ops K rest (lq f d (.bool (decide (m<=n)))) w):oM P N ops K (⟨d,.binOp .geq t x y t',ty,pos,af,none⟩ :: rest) f w:=kQ (GN h h2) k
theorem abD {x:Operand}{i:Nat}{vs:Array Value}{v:Value}(h:ev f x=.tuple vs)(h2:vs[i]?=some v)(k:oM P N ops K rest (lq f d v) w):oM P N ops K (⟨d,.extract x i,ty,pos,af,none⟩ :: rest) f w:=kQ (kD h h2) k
theorem abo {t t':TypeId}{x y:Operand}{n m:Int}(h:ev f x=V n)(h2:ev f y=V m)(k:oM P N ops K rest (lq f d (V (wr (n+m)))) w):oM P N ops K (⟨d,.binOp .add t x y t',ty,pos,af,none⟩ :: rest) f w:=kQ (kL h h2) k
theorem aad {t t':TypeId}{x y:Operand}{n m:Int}(h:ev f x=V n)(h2:ev f y=V m)(k:oM P N ops K rest (lq f d (V (wr (n - m)))) w):oM P N ops K (⟨d,.binOp .sub t x y t',ty,pos,af,none⟩ :: rest) f w:=kQ (zm h h2) k
theorem aaV {t t':TypeId}{x y:Operand}{n m:Int}(h:ev f x=V n)(h2:ev f y=V m)(k:oM P N ops K rest (lq f d (V (wr (n * m)))) w):oM P N ops K (⟨d,.binOp .mul t x y t',ty,pos,af,none⟩ :: rest) f w:=kQ (ZA h h2) k
theorem Z9 {t t':TypeId}{x y:Operand}{n m:Int}(h:ev f x=V n)(h2:ev f y=V m)(k:oM P N ops K rest (lq f d (V (Ng (· &&& ·) n m))) w):oM P N ops K (⟨d,.binOp .and t x y t',ty,pos,af,none⟩ :: rest) f w:=kQ (ZE h h2) k
theorem aOr {t t':TypeId}{x y:Operand}{n m:Int}(h:ev f x=V n)(h2:ev f y=V m)(k:oM P N ops K rest (lq f d (V (Ng (· ||| ·) n m))) w):oM P N ops K (⟨d,.binOp .or t x y t',ty,pos,af,none⟩ :: rest) f w:=kQ (ae3 h h2) k
theorem aar {t t':TypeId}{x y:Operand}{n m:Int}(h:ev f x=V n)(h2:ev f y=V m)(k:oM P N ops K rest (lq f d (V (Ng (· ^^^ ·) n m))) w):oM P N ops K (⟨d,.binOp .xor t x y t',ty,pos,af,none⟩ :: rest) f w:=kQ (acM h h2) k
theorem Z6 {t:TypeId}{x:Operand}{n:Int}(h:ev f x=V n)(k:oM P N ops K rest (lq f d (V (wr (0 - n)))) w):oM P N ops K (⟨d,.unOp .neg t x,ty,pos,af,none⟩ :: rest) f w:=kQ (acs h) k
theorem aas {c x y:Operand}{b:Bool}(h:ev f c=.bool true)(h2:ev f x=.bool b)(k:oM P N ops K rest (lq f d (.bool b)) w):oM P N ops K (⟨d,.pick c x y,ty,pos,af,none⟩ :: rest) f w:=kQ (kR h h2) k
theorem aaP {c x y:Operand}{b:Bool}(h:ev f c=.bool false)(h2:ev f y=.bool b)(k:oM P N ops K rest (lq f d (.bool b)) w):oM P N ops K (⟨d,.pick c x y,ty,pos,af,none⟩ :: rest) f w:=kQ (kH h h2) k
theorem aaY {t:TypeId}{x:Operand}{b:Bool}(h:ev f x=.bool b)(k:oM P N ops K rest (lq f d (.bool (!b))) w):oM P N ops K (⟨d,.unOp .not t x,ty,pos,af,none⟩ :: rest) f w:=kQ (Ee h) k
end
section
variable {P:Program}{N:Fz}{Q:Post}{f:Fr}{w:World}
theorem rZ {c:Operand}{x y:Code}{p:Prop}[Decidable p](hc:ev f c=.bool (decide p))(ht:p->WP P N x Q f w)(hf:¬ p->WP P N y Q f w):WP P N (.cond c x y) Q f w:=
 if h:p then jK (hc.trans (bt h)) (ht h) else jD (hc.trans (bf h)) (hf h)
end
theorem go {G R:Prop}(k:R) (h:R->G:=by
 intro k
 repeat (first
  | refine GD ?_
  | refine xW ?_
  | refine Nu ?_
  | refine QB ?_
  | refine pW ?_
  | refine abR rfl ?_
  | refine abN rfl ?_
  | refine abB rfl ?_
  | refine aaq rfl ?_
  | refine aat rfl ?_
  | refine aNl rfl ?_
  | refine Yw rfl ?_
  | refine abf rfl ?_
  | refine aaR rfl ?_
  | refine abM rfl ?_
  | refine ZL rfl ?_
  | refine aae rfl rfl ?_
  | refine aao rfl rfl ?_
  | refine aa1 rfl rfl ?_
  | refine aaj rfl rfl ?_
  | refine aaz rfl rfl ?_
  | refine aaM rfl rfl ?_
  | refine abD rfl rfl ?_
  | refine abo rfl rfl ?_
  | refine aad rfl rfl ?_
  | refine aaV rfl rfl ?_
  | refine Z9 rfl rfl ?_
  | refine aOr rfl rfl ?_
  | refine aar rfl rfl ?_
  | refine Z6 rfl ?_
  | refine aas rfl rfl ?_
  | refine aaP rfl rfl ?_
  | refine aaY rfl ?_
  | refine aaC rfl ?_
  | refine aaN rfl ?_
  | refine jK rfl ?_
  | refine jD rfl ?_)
 exact k):G:=h k
def tbO (t:Nat):List Nat:=bif Nat.beq t 26 then [0,1] else bif Nat.beq t 30 then [0,2,3] else bif Nat.beq t 36 then [0] else bif Nat.beq t 52 then [0,1,2,3] else bif Nat.beq t 55 then [0,1,2,3,4,5,6] else bif Nat.beq t 57 then [0,1,2] else bif Nat.beq t 61 then [0,1,2,3] else bif Nat.beq t 64 then [0,1] else bif Nat.beq t 67 then [0,1,2,3,4] else bif Nat.beq t 69 then [0,1,2] else bif Nat.beq t 71 then [0,1,2] else bif Nat.beq t 73 then [0,1,2,3,4,5,6,7,8] else bif Nat.beq t 78 then [0] else bif Nat.beq t 90 then [0,4,5,9,10,11,12,13,14,15,16,17] else bif Nat.beq t 99 then [0,1,2,3] else bif Nat.beq t 103 then [0,4,5,6,7] else bif Nat.beq t 107 then [0,1,2] else bif Nat.beq t 115 then [0,1,2,3,4,5,6,7,8,9,10,11,12] else bif Nat.beq t 123 then [0,4,5,9,10,11,12,13,14,15] else bif Nat.beq t 125 then [0,1,2] else bif Nat.beq t 137 then [0,1,2,3] else bif Nat.beq t 143 then [0,1] else bif Nat.beq t 159 then [0,1] else bif Nat.beq t 163 then [0,1,2,3,4,5,6,7,8] else bif Nat.beq t 166 then [0,1,2,3,4,5] else bif Nat.beq t 170 then [0,1] else bif Nat.beq t 172 then [0,1] else bif Nat.beq t 225 then [0,1] else []
def gtO:List Nat→Nat→Option Nat
 | [],_=>none
 | a :: _,0=>some a
 | _ :: l,n+1=>gtO l n
def fT (t n:Nat):Option Nat:=gtO (tbO t) n
noncomputable def fo (t n:Nat):Option Nat:=match prog.underlying t with
 | some (.struct fs)=>match fs[n]? with
  | some f=>match prog.info? f.type with
   | some i=>bif i.zero.isSome && !Nat.beq i.size 0 then some f.offset else none
   | none=>none
  | none=>none
 | _=>none
def YM (t:Nat):Bool:=Nat.beq (Nat.mod (Nat.shiftRight 0x8000000000000100200000000302800041c000004c27002419c00238 t) 2) 1
def slB (t:Nat):Bool:=Nat.beq (Nat.mod (Nat.shiftRight 0x10000000001000000000003020000410000004c27000419c00000 t) 2) 1
noncomputable def okT:Bool:=(List.range 247).all fun t=>((List.range 16).all fun n=>(match fT t n with | none=>true | some j=>(match fo t n with | some i=>Nat.beq i j | none=>false))) && (!YM t || (match prog.underlying t with | some D=>!L8 D | none=>false)) && (!slB t || (match prog.underlying t with | some (.slice _)=>true | _=>false))
theorem aer:okT=true:=by kernel_rfl
theorem Ri {t:Nat}(ht:Nat.blt t 247=true):(((List.range 16).all fun n=>(match fT t n with | none=>true | some j=>(match fo t n with | some i=>Nat.beq i j | none=>false))) && (!YM t || (match prog.underlying t with | some D=>!L8 D | none=>false)) && (!slB t || (match prog.underlying t with | some (.slice _)=>true | _=>false)))=true:=by have h:=aer;unfold okT at h;exact List.all_eq_true.1 h t (List.mem_range.2 (by simpa using ht))
def R3:Nat:=247
theorem adI {t n j:Nat}(hj:fT t n=some j)(ht:Nat.blt t R3=true)(hn:Nat.blt n 16=true):∃ fs fd,prog.underlying t=some (.struct fs)/\fs[n]?=some fd/\fd.offset=j/\∃ i z,prog.info? fd.type=some i/\i.zero=some z/\Nat.beq i.size 0=false:=by
 have h1:=Ri ht;simp only [Ef] at h1;have h2:=List.all_eq_true.1 h1.1.1 n (List.mem_range.2 (by simpa using hn));rw [hj] at h2;dsimp only at h2;cases hf:fo t n with
 | none=>rw [hf] at h2;cases h2
 | some j'=>
  rw [hf] at h2;have hjj:j'=j:=Nat.eq_of_beq_eq_true h2;subst hjj;unfold fo at hf;cases hu:prog.underlying t with
  | none=>rw [hu] at hf;cases hf
  | some D=>
   rw [hu] at hf;cases D with
   | struct fs=>
    dsimp only at hf;cases hfs:fs[n]? with
    | none=>rw [hfs] at hf;cases hf
    | some fd=>
     rw [hfs] at hf;dsimp only at hf;cases hi:prog.info? fd.type with
     | none=>rw [hi] at hf;cases hf
     | some i=>
      rw [hi] at hf;dsimp only at hf;cases hz:i.zero with
      | none=>rw [hz] at hf;cases hf
      | some z=>
       rw [hz] at hf;cases hs:Nat.beq i.size 0 with
       | true=>rw [hs] at hf;cases hf
       | false=>
        rw [hs] at hf;exact ⟨fs,fd,rfl,hfs,JY hf,i,z,hi,hz,hs⟩
   | _=>cases hf
theorem Zd {t:Nat}(hs:YM t=true)(ht:Nat.blt t R3=true):∃ D,prog.underlying t=some D/\L8 D=false:=by
 have h1:=Ri ht;simp only [Ef] at h1;have h2:=h1.1.2;rw [hs,Bool.not_true,Bool.false_or] at h2;cases hu:prog.underlying t with
 | none=>rw [hu] at h2;cases h2
 | some D=>
  rw [hu] at h2;exact ⟨D,rfl,by simpa using h2⟩
theorem ac6 {t:Nat}(hs:slB t=true)(ht:Nat.blt t R3=true):∃ e,prog.underlying t=some (.slice e):=by
 have h1:=Ri ht;simp only [Ef] at h1;have h2:=h1.2;rw [hs,Bool.not_true,Bool.false_or] at h2;cases hu:prog.underlying t with
 | none=>rw [hu] at h2;cases h2
 | some D=>
  rw [hu] at h2;cases D with
  | slice e=>exact ⟨e,rfl⟩
  | _=>cases h2
section
variable {ρ:Operand->Value}{w:World}{d:Option Nat}{ty:TypeId}{pos:String}{af:Array Edge}{g:Option (Nat × Bool)}{x:Operand}{b o t n j:Nat}
theorem yF (h:ρ x=.pointer (some ⟨b,o,none⟩))(hj:fT t n=some j)(ht:Nat.blt t R3=true)(hn:Nat.blt n 16=true):Yl prog ρ (.fieldAddr t x n) d ty pos af g w (.pointer (some ⟨b,o+j,none⟩)):=by obtain ⟨fs,fd,hu,hfs,ho,i,z,hi,hz,hs⟩:=adI hj ht hn;exact pK (k:=j) hu hfs ho ⟨i,hi,hz,rfl,rfl⟩ (fun e=>by rw [e] at hs;cases hs) h
theorem yL {t':TypeId}{cs:Array Value}{v:Value}(h:ρ x=.pointer (some ⟨b,o,none⟩))(hb:uz w b t' cs)(hi:cs[o]?=some v)(hs:YM t=true)(ht:Nat.blt t R3=true):Yl prog ρ (.load t x) d ty pos af g w v:=by obtain ⟨D,hu,hD⟩:=Zd hs ht;exact ku hu hD h (hb.cell hi)
theorem yC {a:Addr}{v:Value}(h:ρ x=.pointer (some a))(hc:w.cell? a=some v)(hs:YM t=true)(ht:Nat.blt t R3=true):Yl prog ρ (.load t x) d ty pos af g w v:=by obtain ⟨D,hu,hD⟩:=Zd hs ht;exact ku hu hD h hc
theorem yN {A:Option Addr}{m c:Nat}(h:ρ x=.slice A m c)(hs:slB t=true)(ht:Nat.blt t R3=true):Yl prog ρ (.call { callee:=.builtin .len,args:=#[x],argTypes:=#[t] }) d ty pos af g w (V (m:Int)):=by obtain ⟨e,hu⟩:=ac6 hs ht;exact mO hu h
end
section
variable {N:Fz}{ops:Array Oper}{K:KK}{rest:List Oper}{f:Fr}{w:World}{d:Option Nat}{ty:TypeId}{pos:String}{af:Array Edge}{x:Operand}{b o t n j:Nat}
theorem gF (h:ev f x=.pointer (some ⟨b,o,none⟩))(hj:fT t n=some j)(k:oM prog N ops K rest (lq f d (.pointer (some ⟨b,o+j,none⟩))) w)(ht:Nat.blt t R3=true:=by exact rfl)(hn:Nat.blt n 16=true:=by exact rfl):oM prog N ops K (⟨d,.fieldAddr t x n,ty,pos,af,none⟩ :: rest) f w:=kQ (yF h hj ht hn) k
theorem gL {t':TypeId}{cs:Array Value}{v:Value}(h:ev f x=.pointer (some ⟨b,o,none⟩))(hb:uz w b t' cs)(hi:cs[o]?=some v)(hs:YM t=true)(k:oM prog N ops K rest (lq f d v) w)(ht:Nat.blt t R3=true:=by exact rfl):oM prog N ops K (⟨d,.load t x,ty,pos,af,none⟩ :: rest) f w:=kQ (yL h hb hi hs ht) k
theorem gC {a:Addr}{v:Value}(h:ev f x=.pointer (some a))(hc:w.cell? a=some v)(hs:YM t=true)(k:oM prog N ops K rest (lq f d v) w)(ht:Nat.blt t R3=true:=by exact rfl):oM prog N ops K (⟨d,.load t x,ty,pos,af,none⟩ :: rest) f w:=kQ (yC h hc hs ht) k
theorem gN {A:Option Addr}{m c:Nat}(h:ev f x=.slice A m c)(hs:slB t=true)(k:oM prog N ops K rest (lq f d (V (m:Int))) w)(ht:Nat.blt t R3=true:=by exact rfl):oM prog N ops K (⟨d,.call { callee:=.builtin .len,args:=#[x],argTypes:=#[t] },ty,pos,af,none⟩ :: rest) f w:=kQ (yN h hs ht) k
end
theorem goC {w0 w:World}{Z G':Nat->Prop}{Lt:List It}{D:List Da}{G R:Prop}(e:Bx w0 w Z G' Lt D)(k:R) (h:Bx w0 w Z G' Lt D->R->G:=by
 intro e k
 repeat (first
  | refine GD ?_
  | refine xW ?_
  | refine Nu ?_
  | refine QB ?_
  | refine pW ?_
  | refine abR rfl ?_
  | refine abN rfl ?_
  | refine abB rfl ?_
  | refine aaq rfl ?_
  | refine aat rfl ?_
  | refine aNl rfl ?_
  | refine Yw rfl ?_
  | refine abf rfl ?_
  | refine aaR rfl ?_
  | refine abM rfl ?_
  | refine ZL rfl ?_
  | refine aae rfl rfl ?_
  | refine aao rfl rfl ?_
  | refine aa1 rfl rfl ?_
  | refine aaj rfl rfl ?_
  | refine aaz rfl rfl ?_
  | refine aaM rfl rfl ?_
  | refine abD rfl rfl ?_
  | refine abo rfl rfl ?_
  | refine aad rfl rfl ?_
  | refine aaV rfl rfl ?_
  | refine Z9 rfl rfl ?_
  | refine aOr rfl rfl ?_
  | refine aar rfl rfl ?_
  | refine Z6 rfl ?_
  | refine aas rfl rfl ?_
  | refine aaP rfl rfl ?_
  | refine aaY rfl ?_
  | refine aaC rfl ?_
  | refine aaN rfl ?_
  | refine jK rfl ?_
  | refine jD rfl ?_
  | refine gF rfl rfl ?_
  | refine gN rfl rfl ?_
  | refine gL rfl (e.bk 0 rfl) rfl rfl ?_
  | refine gL rfl (e.bk 1 rfl) rfl rfl ?_
  | refine gL rfl (e.bk 2 rfl) rfl rfl ?_
  | refine gL rfl (e.bk 3 rfl) rfl rfl ?_
  | refine gL rfl (e.bk 4 rfl) rfl rfl ?_
  | refine gL rfl (e.bk 5 rfl) rfl rfl ?_
  | refine gL rfl (e.bk 6 rfl) rfl rfl ?_
  | refine gL rfl (e.bk 7 rfl) rfl rfl ?_
  | refine gL rfl (e.bk 8 rfl) rfl rfl ?_)
 exact k):G:=h e k
end Go.Proofs.YtdkneekpdecjbaaGreat
namespace Go.Fw
open Go.RowKit
def ab3 (a b:Int):Int:=IntKind.i64.wrap ((BitVec.ofInt 64 a &&& BitVec.ofInt 64 b).toNat)
def UJ (k:Int):Value:=.int .i64 k
theorem abS {P:Program}{kt:TypeId}{k':IntKind}(h:P.underlying kt=some (.int k')):FK P kt UJ:=by
 refine ⟨fun ev k l ents w he=>?_,fun emp k w=>?_,fun k=>?_⟩
 · have key:∀ (l:List (Int × _))(ents:List MapEntry)(i:Nat),ents.map (fun e=>(e.key,e.val))=l.map (fun p=>(UJ p.1,ev p.2))->Instr.findNow (.int k') (UJ k) ents i=some ((midx l k i).map (fun p=>(p.1,ev p.2))):=by
    intro l
    induction l with
    | nil=>intro ents i he;rw [List.map_nil,List.map_eq_nil_iff] at he;subst he;rfl
    | cons a l ih=>
     intro ents i he
     match ents,he with
     | e :: es,he=>
      simp only [List.map_cons,List.cons.injEq,Prod.mk.injEq] at he;obtain ⟨⟨h1,h2⟩,h3⟩:=he;unfold Instr.findNow;rw [h1];simp only [UJ,Instr.sameNow,if_true];by_cases hk:k=a.1
      · rw [show (k == a.1)=true from beq_iff_eq.2 hk];simp only [midx,lX hk,h2,Option.map_some]
      · rw [show (k == a.1)=false from beq_false_of_ne hk];simp only [midx,lW hk];exact ih es (i+1) h3
   unfold Instr.findKey;rw [Sem.run_bind,run_underlying h w];simp only [Result.andThen_ok,key l ents 0 he];rfl
 · unfold Instr.checkKey;rw [Sem.run_bind,run_underlying h w];simp [UJ]
 · simp [UJ,Instr.sameBits]
section
variable {P:Program}{w:World}{ρ:Operand->Value}{d:Option Nat}{ty:TypeId}{pos:String}{af:Array Edge}{g:Option (Nat × Bool)}
end
section
variable {P:Program}{w:World}{ρ:Operand->Value}{d:Option Nat}{ty:TypeId}{pos:String}{af:Array Edge}{g:Option (Nat × Bool)}
theorem Hf {t e:TypeId}{x y:Operand}{b o n:Nat}{k:IntKind}{i:Int}{z:Value}{s by_:Nat}(j:Nat)(ht:P.underlying t=some (.array n e))(he:TI P e z s by_)(hx:ρ x=.pointer (some ⟨b,o,none⟩))(hy:ρ y=.int k i)(hi:i=(j:Int))(hj:j < n):Yl P ρ (.indexAddr t x y) d ty pos af g w (.pointer (some ⟨b,o+j * s,none⟩)):=by
 subst hi;obtain ⟨i,hi1,hi2,hi3,hi4⟩:=he;have h2:(0:Int)<=j/\(j:Int) < n:=by omega
 simp [Yl,execOp,hx,hy,Instr.indexAt,Instr.sureAddr,run_underlying ht,asIntOf,sizeOf,typeInfo,hi1,hi3,Addr.add_lit,hj]
variable {x y:Operand}{k:IntKind}{a b:Int}{t t':TypeId}
theorem aeF (hx:ρ x=.int k a)(hy:ρ y=.int k b):Yl P ρ (.binOp .and t x y t') d ty pos af g w (.int k (k.wrap ((BitVec.ofInt k.bits a &&& BitVec.ofInt k.bits b).toNat))):=by simp [Yl,execOp,hx,hy,binOp,eqGuard,Op.intBits]
theorem ZE {t t':TypeId}{x y:Operand}{a b:Int}(hx:ρ x=.int .i64 a)(hy:ρ y=.int .i64 b):Yl P ρ (.binOp .and t x y t') d ty pos af g w (.int .i64 (ab3 a b)):=aeF hx hy
end
section
variable {P:Program}{w:World}
end
theorem Xc {xs vs cur:List Value}{o k:Nat}(hx:cur.take k=xs)(hl:o+vs.length<=k)(hk:k<=cur.length):(cur.take o ++ vs ++ cur.drop (o+vs.length)).take k=xs.take o ++ vs ++ xs.drop (o+vs.length):=by
 subst hx;have h1:(cur.take o).length=o:=by rw [vT];omega
 rw [H9,List.take_append,h1,List.take_append,List.take_of_length_le (by omega),List.take_of_length_le (l:=vs) (by omega),List.take_take,Nat.min_eq_left (by omega),List.drop_take,H9]
 congr 3
 omega
theorem Own.aeH {P:Program}{w:World}{base:Nat}{e:TypeId}{sz n c:Nat}{A:Option Addr}{xs:List Value}(h:Own w base e sz A n c xs)(o:Nat)(vs:List Value)(h1:∀ v ∈ vs,v.oneCell'=true)(hn:0 < n)(hl:o+vs.length<=xs.length) :∃ w',(storeCells ⟨mX A,nW A+o,none⟩ vs 0).run P w=.ok () w'/\F4 (mX A) w w'/\Own w' base e sz A n c (xs.take o ++ vs ++ xs.drop (o+vs.length)):=by
 have hlen:=h.1;rcases h.2 with ⟨_,h0⟩|⟨g,cap,cur,h3,h4,h5,h6,h7,h8,h9⟩
 · subst h0;omega
 · injection h3 with h3a h3b h3c;subst h3a;have hcs:cur.toList.length=cur.size:=by simp
   have hk:n * sz<=cur.toList.length:=by have:=congrArg List.length h9;rw [vT] at this;rw [hlen] at this;omega
   have hst:=run_storeCells_at (P:=P) g o e vs 0 cur w h5 (by rw [<-hcs,Nat.add_zero];rw [hlen] at hl;omega) h1;rw [Nat.add_zero] at hst;refine ⟨_,by show (storeCells ⟨g,0+o,none⟩ vs 0).run P w=_;rw [GA];exact hst,F4.setRow w g _,?_,.inr ⟨g,cap,_,by rw [h3c],h4,setRow_heap w g cur _ e (0,0) h5,h6,h7,?_,?_⟩⟩
   · rw [Ic,Ic,vT,Ck];omega
   · rw [<-h8];simp only [List.size_toArray,Ic,vT,Ck];have:o+vs.length<=cur.toList.length:=by rw [hlen] at hl;omega
     simp only [Array.length_toList] at *
     omega
   · exact Xc h9 (by rw [hlen] at hl;omega) hk
theorem PX {sz:Nat}:∀ {cs:List (List Value)}{k o:Nat}{d vs:List Value},cs[k]?=some d→(∀ x ∈ cs,x.length=sz)→o+vs.length≤sz→
  cs.flatten.take (k * sz+o) ++ vs ++ cs.flatten.drop (k * sz+o+vs.length)=(cs.set k (d.take o ++ vs ++ d.drop (o+vs.length))).flatten
 | c :: cs,0,o,d,vs,hk,hs,hl=>by simp only [Ec,Dm] at hk;subst hk;have hc:=hs c (zH ..);rw [List.set_cons_zero,AY,AY,Nat.zero_mul,GA,List.take_append_of_le_length (by omega),List.drop_append_of_le_length (by omega)];simp
 | c :: cs,k+1,o,d,vs,hk,hs,hl=>by
  have hc:=hs c (zH ..);have ih:=PX (k:=k) (o:=o) (vs:=vs) (by simpa using hk) (fun x hx=>hs x (xQ _ hx)) hl;rw [List.set_cons_succ,AY,AY,<-ih];have e1:(k+1) * sz+o=c.length+(k * sz+o):=by rw [Nat.succ_mul,hc];omega
  have e2:(k+1) * sz+o+vs.length=c.length+(k * sz+o+vs.length):=by rw [e1];omega
  rw [e2,e1,List.take_length_add_append,List.drop_length_add_append];simp
 | [],_,_,_,_,hk,_,_=>by simp at hk
theorem PD {sz:Nat}:∀ {cs:List (List Value)},(∀ x ∈ cs,x.length=sz)→cs.flatten.length=cs.length * sz
 | [],_=>by simp
 | c :: cs,h=>by rw [AY,Ic,PD fun x hx=>h x (xQ _ hx),h c (zH ..),uX,Nat.succ_mul];omega
section
variable {P:Program}{ρ:Operand->Value}{w w0:World}{Z G:Nat->Prop}{L:List It}{D:List Da}{d:Option Nat}{ty:TypeId}{pos:String}{af:Array Edge}{g:Option (Nat × Bool)}
theorem abv (hL:Bx w0 w Z G L D)(i:Nat){base c sz k o:Nat}{A:Option Addr}{t e:TypeId}{x y:Operand}{z:Value}{by_:Nat}{cs:List (List Value)}{u u':List Value}(vs:List Value)(hi:L[i]?=some (.own base A c e sz cs))(hk:cs[k]?=some u)(hs:∀ x ∈ cs,x.length=sz)(ht:TI P t z vs.length by_)(hx:ρ x=.pointer (some ⟨mX A,nW A+k * sz+o,none⟩))(hy:(ρ y).cells=vs.toArray)(hl:o+vs.length<=sz)(hc:u.take o ++ vs ++ u.drop (o+vs.length)=u')(h1:vs.all (fun v=>v.oneCell')=true:=by exact rfl) :Ve P ρ ⟨d,.store t x y,ty,pos,af,g⟩ w fun w'=>Bx w0 w' Z G (L.set i (.own base A c e sz (cs.set k u'))) D:=by
 subst hc;obtain ⟨q,hi1,hi2,hi3,hi4⟩:=ht;have hB:=hL.bo i hi;have hkl:=kN hk;have hfl:=PD hs;have hm:k * sz+sz<=cs.length * sz:=by rw [<-Nat.succ_mul];exact Nat.mul_le_mul_right _ hkl
 obtain ⟨w',h2,h3,h4⟩:=hB.aeH (P:=P) (k * sz+o) vs (fun v hv=>List.all_eq_true.1 h1 v hv) (by omega) (by omega);rw [PX hk hs hl] at h4;rw [<-Nat.add_assoc] at h2;refine ⟨w',?_,?_⟩
 · simp [execOp,hx,Instr.storeAt,Instr.sureAddr,storeVar,sizeOf,typeInfo,hi1,hi3,hy,h2]
 · refine hL.put i hi ⟨h3.os,h3.tape,h3.output,h3.size,fun b hb hn=>h3.block b hb fun e=>hn ?_⟩ (it':=.own base A c e sz _) ?_ (fun b hb=>.inl hb)
   · obtain ⟨g0,hg⟩:=hB.TW (by omega);show rowOf A=some b;subst hg;exact e.symm
   · show Own w' base e sz A (cs.set k _).length c (cs.set k _).flatten;rw [yK];exact h4
theorem Bx.aaf {α:Type}[Rp α]{base:Nat}{e:TypeId}{sz:Nat}{R:List Rw}{m:List (List α)}(h:Bx w0 w Z G L D)(i j:Nat)(hi:L[i]?=some (.tF base e sz R none))(hj:D[j]?=some (.mZ R m)) :Bx w0 w Z G (L.set i (.tF base e sz (R ++ [⟨none,0,[]⟩]) none)) (D.set j (.mZ (R ++ [⟨none,0,[]⟩]) (m ++ [[]]))):=by
 have hgetn:∀ {i:Nat}{r:Rw},(R ++ [(⟨none,0,[]⟩:Rw)])[i]?=some r->R[i]?=some r\/r=⟨none,0,[]⟩:=by
   intro i r hi;rw [List.getElem?_append] at hi;split at hi
   · exact .inl hi
   · right;rcases Nat.eq_zero_or_pos (i - R.length) with h0 | h0
     · rw [h0] at hi;simpa using hi.symm
     · rw [List.getElem?_eq_none (by simp;omega)] at hi;cases hi
 have hfam:=h.at i hi;have h5:Bx w0 w Z G L (D.set j (.mZ (R ++ [⟨none,0,[]⟩]) (m ++ [[]]))):=h.Jp j (d:=.mZ _ _) ((h.d2 j hj).app ⟨kI,trivial⟩);refine h5.put i hi ((Ext.refl w).FM _) ⟨fun i r h1 _=>?_,fun i j r s b h1 h2 _ _ h3 h4=>?_⟩ (fun b ⟨i,r,h1,_,h3⟩=>?_)
 · rcases hgetn h1 with h1 | rfl
   · exact hfam.1 i r h1 (by simp)
   · exact Own.nil w base e sz
 · rcases hgetn h1 with h1 | rfl
   · rcases hgetn h2 with h2 | rfl
     · exact hfam.2 i j r s b h1 h2 (by simp) (by simp) h3 h4
     · cases h4
   · cases h3
 · rcases hgetn h1 with h1 | rfl
   · exact .inl ⟨i,r,h1,by simp,h3⟩
   · cases h3
end
section
variable {P:Program}{ρ:Operand->Value}{w w0:World}{Z G:Nat->Prop}{L:List It}{D:List Da}{d:Option Nat}{ty:TypeId}{pos:String}{af:Array Edge}{g:Option (Nat × Bool)}
theorem aex (hL:Bx w0 w Z G L D)(i:Nat){k o b:Nat}{t te:TypeId}{x y:Operand}{z:Value}{by_:Nat}{B:List Nat}{C:List (List Value)}{u u':List Value}(vs:List Value)(hi:L[i]?=some (.OL te B C))(hk:C[k]?=some u)(hb:B[k]?=some b)(ht:TI P t z vs.length by_)(hx:ρ x=.pointer (some ⟨b,o,none⟩))(hy:(ρ y).cells=vs.toArray)(hl:o+vs.length<=u.length)(hc:u.take o ++ vs ++ u.drop (o+vs.length)=u')(h1:vs.all (fun v=>v.oneCell')=true:=by exact rfl) :Ve P ρ ⟨d,.store t x y,ty,pos,af,g⟩ w fun w'=>Bx w0 w' Z G (L.set i (.OL te B (C.set k u'))) D:=by subst hc;obtain ⟨q,hi1,hi2,hi3,hi4⟩:=ht;obtain ⟨hB,hn⟩:=hL.at i hi;obtain ⟨b',hb',hBk⟩:=hB.get hk;rw [hb] at hb';cases hb';have hst:=run_storeCells_at (P:=P) b o te vs 0 u.toArray w hBk (by simpa using hl) (fun v hv=>List.all_eq_true.1 h1 v hv);rw [Nat.add_zero] at hst;have hc:=F4.setRow w b (u.take o ++ vs ++ u.drop (o+vs.length)).toArray;refine ⟨_,?_,hL.put i hi ⟨hc.os,hc.tape,hc.output,hc.size,fun k hk hn=>hc.block k hk (by intro e;injection e with e;exact hn (by subst e;exact xu hb))⟩ (it':=.OL te B _) ⟨hB.set hn hb (hBk.setRow _) fun x _ hne=>setRow_other w b x _ hne,hn⟩ (fun k hk=>.inl hk)⟩;simp [execOp,hx,Instr.storeAt,Instr.sureAddr,storeVar,sizeOf,typeInfo,hi1,hi3,hy,hst]
end
def XB (p:Int × Int):Value:=.agg #[.int .i64 p.1,.int .i64 p.2]
theorem abq {P:Program}{w:World}{t:TypeId}{f0 f1:Field}{a b a' b':Int}(ht:P.underlying t=some (.struct #[f0,f1]))(hf:(Y0 P f0 0 && Y0 P f1 1)=true)(hp:P.stoodInHeld t=false) :(Op.equalIn 10000 t (.agg #[.int .i64 a,.int .i64 b]) (.agg #[.int .i64 a',.int .i64 b'])).run P w=.ok (decide ([a,b]=[a',b'])) w:=by
 simp only [Ef] at hf;have hfs:P.fieldsOf t=#[f0,f1]:=by unfold Program.fieldsOf;rw [ht]
 rw [run_equalIn_struct (P:=P) w 9999 t _ _ (by rw [hfs,ht]) hp,hfs];rw [show (#[f0,f1]:Array Field).toList=[f0,f1] from rfl];rw [Pf (P:=P) (dp:=9998) hf.1 rfl rfl,Pf (P:=P) (dp:=9998) hf.2 rfl rfl];by_cases h1:a=a' <;> by_cases h2:b=b' <;> simp [h1,h2,Op.eqFields]
theorem aeJ {P:Program}{t:TypeId}{f0 f1:Field}(ht:P.underlying t=some (.struct #[f0,f1]))(hf:(Y0 P f0 0 && Y0 P f1 1)=true)(hp:P.stoodInHeld t=false):FK P t XB:=by
 refine ⟨fun ev k l ents w he=>?_,fun emp k w=>?_,fun k=>?_⟩
 · have key:∀ (l:List ((Int × Int) × _))(ents:List MapEntry)(i:Nat),ents.map (fun e=>(e.key,e.val))=l.map (fun p=>(XB p.1,ev p.2))->(Instr.findAsking t (XB k) ents i).run P w=.ok ((midx l k i).map (fun p=>(p.1,ev p.2))) w:=by
    intro l
    induction l with
    | nil=>intro ents i he;rw [List.map_nil,List.map_eq_nil_iff] at he;subst he;rfl
    | cons a l ih=>
     intro ents i he
     match ents,he with
     | e :: es,he=>
      simp only [List.map_cons,List.cons.injEq,Prod.mk.injEq] at he;obtain ⟨⟨h1,h2⟩,h3⟩:=he;unfold Instr.findAsking;have hq:(Op.equal t (XB k) e.key).run P w=.ok (decide (k=a.1)) w:=by
        rw [h1];have:=abq (P:=P) (w:=w) (a:=k.1) (b:=k.2) (a':=a.1.1) (b':=a.1.2) ht hf hp;have e2:decide ([k.1,k.2]=[a.1.1,a.1.2])=decide (k=a.1):=by
         obtain ⟨x,y⟩:=k;obtain ⟨⟨x',y'⟩,v⟩:=a;by_cases h:(x,y)=(x',y')
         · simp only [Prod.mk.injEq] at h;obtain ⟨rfl,rfl⟩:=h;simp
         · rw [Ga h];refine Ga fun h'=>h ?_;simp only [List.cons.injEq,and_true] at h';rw [h'.1,h'.2]
        rw [e2] at this;exact this
      rw [Sem.run_bind,hq];simp only [Result.andThen_ok,h2];by_cases hk:k=a.1
      · simp only [Gd hk,if_true,midx,lX hk,Option.map_some];rfl
      · simp only [Ga hk,midx,lW hk];exact ih es (i+1) h3
   unfold Instr.findKey;rw [Sem.run_bind,run_underlying ht w];simp only [Result.andThen_ok];cases ents with
   | nil=>
    cases l with
    | nil=>rfl
    | cons a l=>simp at he
   | cons e es=>
    have hn:Instr.findNow (.struct #[f0,f1]) (XB k) (e :: es) 0=none:=by unfold Instr.findNow;have:Instr.sameNow (.struct #[f0,f1]) (XB k) e.key=none:=rfl;rw [this]
    rw [hn];exact key l (e :: es) 0 he
 · simp only [Ef] at hf;have hpart : ∀ (f : Field) (o : Nat) (a : Int), Y0 P f o = true -> (#[Value.int .i64 k.1, .int .i64 k.2] : Array Value)[o]? = some (.int .i64 a) -> (part f.type #[Value.int .i64 k.1, .int .i64 k.2] f.offset).run P w = .ok (.int .i64 a) w /\ (Instr.checkKey emp 9999 f.type (.int .i64 a)).run P w = .ok () w /\ ¬ f.name = "_" := by
    intro f o a h hx;simp only [Y0,Ef,bne_iff_ne,ne_eq,beq_iff_eq] at h;obtain ⟨⟨h1,rfl⟩,h3⟩:=h;cases hu:P.underlying f.type with
    | none=>rw [hu] at h3;cases h3
    | some D=>
     rw [hu] at h3;cases D with
     | int q=>
      have hagg:(isAgg f.type).run P w=.ok false w:=by unfold isAgg;rw [Sem.run_bind,run_underlying hu w];simp
      refine ⟨by simp [part,hagg,hx],?_,h1⟩;unfold Instr.checkKey;rw [Sem.run_bind,run_underlying hu w];simp
     | _=>cases h3
   have p0:=hpart f0 0 k.1 hf.1 rfl;have p1:=hpart f1 1 k.2 hf.2 rfl;unfold Instr.checkKey;rw [Sem.run_bind,run_underlying ht w];simp only [Result.andThen_ok,XB];rw [<-Array.forIn_toList];simp [Sem.run_bind,p0.1,p0.2.1,p1.1,p1.2.1,p0.2.2,p1.2.2]
 · simp [XB,Instr.sameBits]
section
variable {P:Program}{ρ:Operand->Value}{w w0:World}{Z G:Nat->Prop}{L:List It}{D:List Da}{d:Option Nat}{ty:TypeId}{pos:String}{af:Array Edge}{g:Option (Nat × Bool)}{κ ν:Type}{ek:κ->Value}{ev:ν->Value}
theorem MX {i b:Option Nat}{l:Option (List (κ × ν))}{l':List (κ × ν)}(h:(It.Nn ek ev b l).p w)(hl:l=some l'):∃ q,b=some q/\Mp ek ev w q l':=by
 subst hl;cases b with
 | none=>exact h.elim
 | some q=>exact ⟨q,rfl,h⟩
theorem ab7 [DecidableEq κ] (hL:Bx w0 w Z G L D) (i:Nat) {t kt et:TypeId} {x y v:Operand} {b:Option Nat} {l:Option (List (κ × ν))} {l':List (κ × ν)} {k:κ} {u:ν} (hi:L[i]?=some (.Nn ek ev b l)) (hl:l=some l') (ht:P.underlying t=some (.map kt et)) (hk:FK P kt ek) (hx:ρ x=.map b) (hy:ρ y=ek k) (hv:ρ v=ev u) :Ve P ρ ⟨d,.mapUpdate t x y v,ty,pos,af,g⟩ w fun w'=>Bx w0 w' Z G (L.set i (.Nn ek ev b (some (Ay l' k u)))) D:=by obtain ⟨q,rfl,hm⟩:=MX (i:=none) (hL.at i hi) hl;obtain ⟨w',h1,h2,h3⟩:=ab6 (P:=P) (ρ:=ρ) (d:=d) (ty:=ty) (pos:=pos) (af:=af) (g:=g) ht hk hm hx hy hv;exact ⟨w',h1,hL.put i hi ⟨h3.os,h3.tape,h3.output,h3.size,fun k hk hn=>h3.block k hk (by intro e;injection e with e;exact hn (congrArg some e.symm))⟩ h2 (fun k hk=>.inl hk)⟩
end
end Go.Fw
namespace Go.Proofs.YtdkneekpdecjbaaGreat
open Go.RowKit Go.Fw Go.Proofs.Tryz
structure BC where
 cs:List Value
instance:Rp BC:=⟨10,152,fun _ _ cs x=>cs=x.cs/\cs.length=10/\cs.all (fun v=>v.oneCell')=true,fun h=>h.2.1,fun h=>h.2.2,fun h _=>h⟩
instance:Rp Pc:=⟨2,16,fun _ _ cs p=>cs=[V p.1,V p.2],fun h=>by rw [h];rfl,fun h=>by rw [h];rfl,fun h _=>h⟩
structure PB where
 b:Nat
instance:Rp PB:=⟨1,8,fun _ _ cs p=>cs=[Pt p.b],fun h=>by rw [h];rfl,fun h=>by rw [h];rfl,fun h _=>h⟩
abbrev ekP:Pc->Value:=XB
structure aef where
 a1:Option Addr
 c1:Nat
 a2:Option Addr
 c2:Nat
 a3:Option Addr
 c3:Nat
 a4:Option Addr
 c4:Nat
structure Rn where
 B:Nat
 lb:Nat
 ob:Nat
 a:aef
 src:jY
structure zk where
 bA:Option Addr
 bC:Nat
 R:List Rw
 tc:List (List Value)
 cA:Option Addr
 cC:Nat
 oA:Option Addr
 oC:Nat
 oc:List (List Value)
 vb:Option Nat
 pA:Option Addr
 pC:Nat
 pc:List (List Value)
 hA:Option Addr
 hC:Nat
 hp:List Nat
 bs:List Nat
 lh:List (List Value)
abbrev DI (R:Rn)(m:zk)(s:Lw):List Value:=[.slice R.a.a1 R.src.a.a.length R.a.c1,.slice R.a.a2 R.src.a.b.length R.a.c2,.slice R.a.a3 R.src.c.length R.a.c3,.slice R.a.a4 R.src.b.length R.a.c4,V s.f,V s.b,.slice m.bA s.blocks.length m.bC,.slice m.cA s.ctxs.length m.cC,.slice m.oA s.objs.length m.oC,.map (some R.ob),V s.ops,V s.blk,.bool s.opn,V s.next,.map m.vb,.slice m.pA s.pend.length m.pC,.slice m.hA s.hnd.length m.hC,V s.stmt]
def nV:List nk→List Rw→List (List Value)→List (List Value)
 | b :: bs,r :: R,t :: T=>(V b.a :: (r.hdr ++ t)) :: nV bs R T
 | _,_,_=>[]
def sS:List (Int × List Pc)→List (List Value)→List (List Value)
 | t :: l,h :: H=>(V t.1 :: h) :: sS l H
 | _,_=>[]
abbrev Ci (l:List Nat):List (List Value):=l.map fun b=>[Pt b]
def HP (hp bs hnd:List Nat):Prop:=hp.length=hnd.length/\∀ (k i:Nat),hnd[k]?=some i->∃ b:Nat,hp[k]?=some b/\bs[i]?=some b
abbrev Low (R:Rn)(m:zk)(s:Lw):List It:=
 [.box R.lb 90 (DI R m s).toArray,.own R.B m.bA m.bC 69 10 (nV s.blocks m.R m.tc),.tF R.B 73 11 m.R none,.own R.B m.oA m.oC 57 3 m.oc,.map UJ VR R.ob s.omap,.Nn ekP VR m.vb s.vals,.own R.B m.pA m.pC 3 1 m.pc,.own R.B m.hA m.hC 111 1 (Ci m.hp),.OL 170 m.bs (sS s.labs m.lh)]
abbrev kK (R:Rn)(m:zk)(s:Lw):List Da:=
 [.mZ m.R (s.blocks.map (·.c)),.els m.tc (s.blocks.map (·.b)),.els m.oc s.objs,.els m.pc s.pend,.els m.lh (s.labs.map (·.2)),.wp (.l m.cA m.cC s.ctxs) (HP m.hp m.bs s.hnd),.l R.a.a1 R.a.c1 R.src.a.a,.l R.a.a2 R.a.c2 R.src.a.b,.l R.a.a3 R.a.c3 R.src.c,.l R.a.a4 R.a.c4 R.src.b]
def Pb {α:Type}:Lo α→List PanicEntry→Prop
 | .ok _ _,_=>False
 | .lim,ch=>Pch (.iface 83 (.agg #[])) ch
 | .rt,ch=>∃ u,Pch (.iface prog.rt.boundsError u) ch
theorem Pb.then {α β:Type}{q:Lo α}{k:α->LM β}{p:Lo β}{ch:List PanicEntry}(h:Pb q ch)(e:q.then k=some p):Pb p ch:=by
 cases q with
 | ok a s=>exact h.elim
 | lim=>cases e;exact h
 | rt=>cases e;exact h
abbrev Zg (A G:Nat->Prop):Nat->Prop:=fun b=>A b\/G b
def LR {α:Type}(R:Rn)(m:zk)(w0:World)(Z G:Nat->Prop)(p:Lo α)(Vv:zk->α->Value->List Da->Prop):Ending->World->Prop:=RP (fun v w'=>∃ a s' m' ds,p=.ok a s'/\Vv m' a v ds/\(∃ t,m'.bs=m.bs ++ t)/\Bx w0 w' Z G (Low R m' s') (ds ++ kK R m' s')) (fun ch w'=>Pb p ch/\Bx w0 w' Z G [] [])
def Ch {α:Type}(R:Rn)(H:zk->Prop)(g:FuncId)(args:Array Value)(mm:LM α)(Vv:zk->α->Value->List Da->Prop)(Yc:List Da):Prop:=∀ (w:World)(A:Nat->Prop)(m:zk)(s:Lw)(p:Lo α),Pre w A (Low R m s) (Yc ++ kK R m s)->H m->R.B<=w.heap.size->mm s=some p-> Calls prog g args w (LR R m w (Zg A (mV (Low R m s))) (mV (Low R m s)) p Vv)
theorem pY {α:Type}{R:Rn}{H:zk->Prop}{g:FuncId}{args:Array Value}{mm:LM α}{Vv:zk->α->Value->List Da->Prop}{Yc:List Da}(h:∀ (w:World) (Z G:Nat->Prop) (m:zk) (s:Lw) (p:Lo α),Bx w w Z G (Low R m s ++ []) (kK R m s ++ Yc)->(∀ b,G b->Z b)->H m->R.B<=w.heap.size->mm s=some p->Calls prog g args w (LR R m w Z G p Vv)):Ch R H g args mm Vv Yc:=by
 intro w A m s p hP hH hB hm;refine h _ _ _ _ _ _ ((hP.bx.wid fun b hb=>.inl hb).Au fun d hd=>?_) (fun b hb=>.inr hb) hH hB hm;rcases qN.1 hd with hd | hd
 · exact List.mem_append_right _ hd
 · exact List.mem_append_left _ hd
def VU:zk->Unit->Value->List Da->Prop:=fun _ _ v ds=>v=.tuple #[]/\ds=[]
def VI:zk->Int->Value->List Da->Prop:=fun _ a v ds=>v=V a/\ds=[]
def VL:zk->Nat->Value->List Da->Prop:=fun m a v ds=>(∃ b,m.bs[a]?=some b/\v=Pt b)/\ds=[]
def VE:zk->uD->Value->List Da->Prop:=fun _ a v ds=>∃ A c,v=.agg #[V a.b,.slice A a.a.length c]/\ds=[.l A c a.a]
theorem lbi {α β:Type}{mm:LM α}{k:α->LM β}{s:Lw}{p:Lo β}(h:(mm.bind k) s=some p):∃ q,mm s=some q/\q.then k=some p:=bs h
theorem Dq {α:Type}{mm:LM α}:LM.bind mm nX=mm:=funext fun s=>by
 unfold LM.bind;cases mm s with
 | none=>rfl
 | some q=>cases q <;> rfl
theorem XR {α β γ:Type}{mm:LM α}{k:α->LM β}{j:β->LM γ}:(mm.bind k).bind j=mm.bind fun a=>(k a).bind j:=funext fun s=>by
 unfold LM.bind;cases mm s with
 | none=>rfl
 | some q=>cases q <;> rfl
theorem tO {B B':List Nat}{i b:Nat}(h:∃ t,B'=B ++ t)(k:B[i]?=some b):B'[i]?=some b:=by obtain ⟨t,rfl⟩:=h;rw [Em (kN k)];exact k
theorem lF {B B' B2:List Nat}(h:∃ t,B'=B ++ t)(k:∃ t,B2=B' ++ t):∃ t,B2=B ++ t:=by obtain ⟨t,rfl⟩:=h;obtain ⟨u,rfl⟩:=k;exact ⟨t ++ u,by simp⟩
theorem OM {B:List Nat}:∃ t,B=B ++ t:=⟨[],by simp⟩
section
variable {α β:Type}{R:Rn}{H:zk->Prop}{g:FuncId}{args:Array Value}{mm:LM α}{Vv:zk->α->Value->List Da->Prop}{Yc:List Da}
variable {w0 w w1:World}{Z G:Nat->Prop}{X:List It}{Y:List Da}{m:zk}{s:Lw}{q:Lo β}{k:α->LM β}
theorem VX (hc:Ch R H g args mm Vv Yc)(b:Bx w0 w Z G (Low R m s ++ X) (kK R m s ++ Y))(hZ:∀ b,G b->Z b)(hB:R.B<=w0.heap.size)(hH:H m)(hm:(mm.bind k) s=some q)(hY:∀ d ∈ Yc,d ∈ Y) :Calls prog g args w (RP (fun v w'=>∃ a s' m' ds,mm s=some (.ok a s')/\k a s'=some q/\Vv m' a v ds/\(∃ t,m'.bs=m.bs ++ t)/\Bx w0 w' Z G (Low R m' s' ++ X) (kK R m' s' ++ (ds ++ Y))) (fun ch w'=>Pb q ch/\Bx w0 w' Z G [] [])):=by
 obtain ⟨p,hp,hq⟩:=lbi hm;have hpre:Pre w (Hl w0 Z (Low R m s ++ X)) (Low R m s) (Yc ++ kK R m s):=b.pre fun d hd=>by
  refine b.da d ?_;rcases qN.1 hd with hd | hd
  · exact List.mem_append_right _ (hY d hd)
  · exact List.mem_append_left _ hd
 refine (hc _ _ _ _ _ hpre hH (rT hB b.tC.size) hp).mono fun e w' he=>?_;cases e with
 | returned v=>
  obtain ⟨a,s',m',ds,rfl,hv,hbs,hk⟩:=he;refine ⟨a,s',m',ds,hp,hq,hv,hbs,(b.MS hZ hk).Au fun d hd=>?_⟩;rcases qN.1 hd with hd | hd
  · exact List.mem_append_left _ (List.mem_append_right _ hd)
  · rcases qN.1 hd with hd | hd
    · exact List.mem_append_left _ (List.mem_append_left _ hd)
    · exact List.mem_append_right _ (List.mem_append_right _ hd)
 | panicked ch=>exact ⟨he.1.then hq,((b.MS hZ he.2).sub (List.nil_sublist _)).Au fun d hd=>by cases hd⟩
 | outgrown=>exact he.elim
variable {N:Fz}{ops:Array Oper}{K:KK}{rest:List Oper}{f:Fr}{d:Option Nat}{op:Op}{ty:TypeId}{pos:String}{af:Array Edge}
theorem lC (hc:Ch R H g args mm Vv Yc)(he:(execOp (ev f) ⟨d,op,ty,pos,af,none⟩).run prog w=.ok (.enter g args) w)(b:Bx w0 w Z G (Low R m s ++ X) (kK R m s ++ Y))(hZ:∀ b,G b->Z b)(hB:R.B<=w0.heap.size)(hH:H m)(hm:(mm.bind k) s=some q)(kk:∀ a s' m' v ds w',Vv m' a v ds->k a s'=some q->(∃ t,m'.bs=m.bs ++ t)->Bx w0 w' Z G (Low R m' s' ++ X) (kK R m' s' ++ (ds ++ Y))->oM prog N ops K rest (lq f d v) w')(hY:∀ d ∈ Yc,d ∈ Y)(kp:∀ ch w',Pb q ch->Bx w0 w' Z G [] []->K.p f ch w':=by exact fun _ _ h1 h2=>⟨h1,h2⟩):oM prog N ops K (⟨d,op,ty,pos,af,none⟩ :: rest) f w:=
 sCP he (VX hc b hZ hB hH hm hY) (fun ch w' h=>kp ch w' h.1 h.2) fun v w' ⟨a,s',m',ds,_,h1,h2,h3,h4⟩=>kk a s' m' v ds w' h2 h1 h3 h4
end
theorem yn {Y:List Da}:∀ d ∈ ([]:List Da),d ∈ Y:=fun _ h=>by cases h
section
variable {β:Type}{R:Rn}{H:zk->Prop}{g:FuncId}{args:Array Value}{Yc:List Da}
variable {w0 w w1:World}{Z G:Nat->Prop}{X:List It}{Y:List Da}{m:zk}{s:Lw}{q:Lo β}
variable {N:Fz}{ops:Array Oper}{K:KK}{rest:List Oper}{f:Fr}{d:Option Nat}{op:Op}{ty:TypeId}{pos:String}{af:Array Edge}
theorem uR {mm:LM Unit}{k:Unit->LM β}(hc:Ch R H g args mm VU Yc)(he:(execOp (ev f) ⟨d,op,ty,pos,af,none⟩).run prog w=.ok (.enter g args) w)(b:Bx w0 w Z G (Low R m s ++ X) (kK R m s ++ Y))(hZ:∀ b,G b->Z b)(hB:R.B<=w0.heap.size)(hH:H m)(hm:(mm.bind k) s=some q)(kk:∀ s' m' w',k () s'=some q->(∃ t,m'.bs=m.bs ++ t)->Bx w0 w' Z G (Low R m' s' ++ X) (kK R m' s' ++ Y)->oM prog N ops K rest (lq f d (.tuple #[])) w')(hY:∀ d ∈ Yc,d ∈ Y:=by exact yn)(kp:∀ ch w',Pb q ch->Bx w0 w' Z G [] []->K.p f ch w':=by exact fun _ _ h1 h2=>⟨h1,h2⟩):oM prog N ops K (⟨d,op,ty,pos,af,none⟩ :: rest) f w:=
 lC hc he b hZ hB hH hm (fun a s' m' v ds w' h1 h2 h3 h4=>by obtain ⟨rfl,rfl⟩:=h1;exact kk s' m' w' h2 h3 h4) hY kp
theorem ad2 {mm:LM Unit}{k:Unit->LM β}(hc:Ch R H g args mm VU Yc)(he:(execOp (ev f) ⟨d,op,ty,pos,af,none⟩).run prog w=.ok (.enter g args) w)(b:Bx w0 w Z G (Low R m s ++ X) (kK R m s ++ Y))(hZ:∀ b,G b->Z b)(hB:R.B<=w0.heap.size)(hH:H m)(hm:(mm.bind k) s=some q)(kk:∀ s' m' w',mm s=some (.ok () s')->k () s'=some q->(∃ t,m'.bs=m.bs ++ t)->Bx w0 w' Z G (Low R m' s' ++ X) (kK R m' s' ++ Y)->oM prog N ops K rest (lq f d (.tuple #[])) w')(hY:∀ d ∈ Yc,d ∈ Y:=by exact yn)(kp:∀ ch w',Pb q ch->Bx w0 w' Z G [] []->K.p f ch w':=by exact fun _ _ h1 h2=>⟨h1,h2⟩):oM prog N ops K (⟨d,op,ty,pos,af,none⟩ :: rest) f w:=
 sCP he (VX hc b hZ hB hH hm hY) (fun ch w' h=>kp ch w' h.1 h.2) fun v w' ⟨a,s',m',ds,h0,h1,h2,h3,h4⟩=>by obtain ⟨rfl,rfl⟩:=h2;exact kk s' m' w' h0 h1 h3 h4
theorem Py {mm:LM Int}{k:Int->LM β}(hc:Ch R H g args mm VI Yc)(he:(execOp (ev f) ⟨d,op,ty,pos,af,none⟩).run prog w=.ok (.enter g args) w)(b:Bx w0 w Z G (Low R m s ++ X) (kK R m s ++ Y))(hZ:∀ b,G b->Z b)(hB:R.B<=w0.heap.size)(hH:H m)(hm:(mm.bind k) s=some q)(kk:∀ n s' m' w',k n s'=some q->(∃ t,m'.bs=m.bs ++ t)->Bx w0 w' Z G (Low R m' s' ++ X) (kK R m' s' ++ Y)->oM prog N ops K rest (lq f d (V n)) w')(hY:∀ d ∈ Yc,d ∈ Y:=by exact yn)(kp:∀ ch w',Pb q ch->Bx w0 w' Z G [] []->K.p f ch w':=by exact fun _ _ h1 h2=>⟨h1,h2⟩):oM prog N ops K (⟨d,op,ty,pos,af,none⟩ :: rest) f w:=
 lC hc he b hZ hB hH hm (fun a s' m' v ds w' h1 h2 h3 h4=>by obtain ⟨rfl,rfl⟩:=h1;exact kk a s' m' w' h2 h3 h4) hY kp
theorem lCl {mm:LM Nat}{k:Nat->LM β}(hc:Ch R H g args mm VL Yc)(he:(execOp (ev f) ⟨d,op,ty,pos,af,none⟩).run prog w=.ok (.enter g args) w)(b:Bx w0 w Z G (Low R m s ++ X) (kK R m s ++ Y))(hZ:∀ b,G b->Z b)(hB:R.B<=w0.heap.size)(hH:H m)(hm:(mm.bind k) s=some q)(kk:∀ n c s' m' w',m'.bs[n]?=some c->k n s'=some q->(∃ t,m'.bs=m.bs ++ t)->Bx w0 w' Z G (Low R m' s' ++ X) (kK R m' s' ++ Y)->oM prog N ops K rest (lq f d (Pt c)) w')(hY:∀ d ∈ Yc,d ∈ Y:=by exact yn)(kp:∀ ch w',Pb q ch->Bx w0 w' Z G [] []->K.p f ch w':=by exact fun _ _ h1 h2=>⟨h1,h2⟩):oM prog N ops K (⟨d,op,ty,pos,af,none⟩ :: rest) f w:=
 lC hc he b hZ hB hH hm (fun a s' m' v ds w' h1 h2 h3 h4=>by obtain ⟨⟨c,h5,rfl⟩,rfl⟩:=h1;exact kk a c s' m' w' h5 h2 h3 h4) hY kp
theorem UE {mm:LM uD}{k:uD->LM β}(hc:Ch R H g args mm VE Yc)(he:(execOp (ev f) ⟨d,op,ty,pos,af,none⟩).run prog w=.ok (.enter g args) w)(b:Bx w0 w Z G (Low R m s ++ X) (kK R m s ++ Y))(hZ:∀ b,G b->Z b)(hB:R.B<=w0.heap.size)(hH:H m)(hm:(mm.bind k) s=some q)(kk:∀ e A c s' m' w',k e s'=some q->(∃ t,m'.bs=m.bs ++ t)->Bx w0 w' Z G (Low R m' s' ++ X) (kK R m' s' ++ (.l A c e.a :: Y))->oM prog N ops K rest (lq f d (.agg #[V e.b,.slice A e.a.length c])) w')(hY:∀ d ∈ Yc,d ∈ Y:=by exact yn)(kp:∀ ch w',Pb q ch->Bx w0 w' Z G [] []->K.p f ch w':=by exact fun _ _ h1 h2=>⟨h1,h2⟩):oM prog N ops K (⟨d,op,ty,pos,af,none⟩ :: rest) f w:=
 lC hc he b hZ hB hH hm (fun a s' m' v ds w' h1 h2 h3 h4=>by obtain ⟨A,c,rfl,rfl⟩:=h1;exact kk a A c s' m' w' h2 h3 h4) hY kp
end
end Go.Proofs.YtdkneekpdecjbaaGreat
