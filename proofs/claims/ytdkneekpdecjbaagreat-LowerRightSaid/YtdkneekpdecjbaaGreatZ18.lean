/- The specification's Check of right code, walked: rules, small functions. -/
import Derived.Test.YtdkneekpdecjbaaGreatZ12
import Derived.Test.YtdkneekpdecjbaaGreatZ17
import Derived.Test.YtdkneekpdecjbaaGreatZ3
import Derived.Test.YtdkneekpdecjbaaGreatZ4
import Derived.Test.YtdkneekpdecjbaaGreatZ11
import Derived.WalkKit
import Derived.ProofKit
import Derived.OpenShut
import Derived.ChangeOld
import Derived.SizedLaws
import Derived.Lib.SmallJoins
import Derived.Deep.Slices
import Derived.Deep.Fields
set_option linter.all false
set_option maxRecDepth 4000
set_option maxHeartbeats 12800000
namespace Go.Proofs.YtdkneekpdecjbaaGreat
open Go.RowKit Go.Fw Go.Proofs.Tryz
theorem lU {w0 w:World}{Z G':Nat->Prop}{Lt:List It}{D:List Da}{G R:Prop}(e:Bx w0 w Z G' Lt D)(k:R) (h:Bx w0 w Z G' Lt D->R->G:=by
 intro e k
 repeat (first
  | refine tV ?_
  | refine nU ?_
  | refine sN ?_
  | refine CW ?_
  | refine aaL rfl ?_
  | refine aaG rfl ?_
  | refine aaz rfl ?_
  | refine XV rfl ?_
  | refine ZB rfl ?_
  | refine aaA rfl ?_
  | refine aam rfl ?_
  | refine Zx rfl rfl ?_
  | refine aav rfl rfl ?_
  | refine aa2 rfl ?_
  | refine ZH rfl ?_
  | refine jQ rfl ?_
  | refine jM rfl ?_
  | refine gF rfl rfl ?_
  | refine gN rfl rfl ?_
  | refine gL rfl (e.bk 0 rfl) rfl rfl ?_
  | refine gL rfl (e.bk 1 rfl) rfl rfl ?_
  | refine gL rfl (e.bk 2 rfl) rfl rfl ?_
  | refine gL rfl (e.bk 3 rfl) rfl rfl ?_
  | refine gL rfl (e.bk 4 rfl) rfl rfl ?_
  | refine jJ (yq (kI rfl rfl) (sP (by clear k;omega))) ?_
  | refine jJ (yq (kI rfl rfl) (sS (by clear k;omega))) ?_
  | refine jJ (yq (rQ rfl rfl) (sP (by clear k;omega))) ?_
  | refine jJ (yq (rQ rfl rfl) (sS (by clear k;omega))) ?_
  | refine jJ (yq (sU rfl rfl) (sP (by clear k;omega))) ?_
  | refine jJ (yq (sU rfl rfl) (sS (by clear k;omega))) ?_
  | refine jJ (yq (Ns rfl rfl) (sP (by clear k;omega))) ?_
  | refine jJ (yq (Ns rfl rfl) (sS (by clear k;omega))) ?_
  | refine jJ (yq (xH rfl rfl) (sP (by clear k;omega))) ?_
  | refine jJ (yq (xH rfl rfl) (sS (by clear k;omega))) ?_
  | refine jJ (yq (FI rfl rfl) (sP (by clear k;omega))) ?_
  | refine jJ (yq (FI rfl rfl) (sS (by clear k;omega))) ?_)
 exact k):G:=h e k
section
variable {P:Program}{N:Fz}{n R:Fr->World->Prop}{X:Nat->Fr->World->Prop}{V':Fr->List PanicEntry->World->Prop}{f:Fr}{w w0:World}{Z G:Nat->Prop}{L:List It}{D:List Da}
theorem Ro {x:Code}(e:Bx w0 w Z G L D)(S:List (Nat × Value))(h:∀ J:Fr->World->Prop,(∀ {f w},Has f S->Bx w0 w Z G L D->J f w)->WP P N x ⟨J,X,R,V'⟩ f w)(k:∀ g w,Bx w0 w Z G L D->n (NJ g S) w):WP P N x ⟨n,X,R,V'⟩ f w:=
 qQ (fun f w=>Has f S/\Bx w0 w Z G L D) (fun J hJ=>h J fun a b=>hJ _ _ ⟨a,b⟩) fun f w hf=>by obtain ⟨g,rfl⟩:=lg _ _ hf.1;exact k g w hf.2
theorem MW {c:Code}(e:Bx w0 w Z G L D)(S:Nat->List (Nat × Value))(m:Nat)(h0:Has f (S 0))(hr:∀ g i w,i < m->Bx w0 w Z G L D->∀ K:Fr->World->Prop,(∀ {f w},Has f (S (i+1))->Bx w0 w Z G L D->K f w)->WP P N c ⟨K,X,R,V'⟩ (NJ g (S i)) w)(he:∀ g w,Bx w0 w Z G L D->∀ K:Fr->World->Prop,WP P N c ⟨K,X,R,V'⟩ (NJ g (S m)) w):WP P N (.loop c) ⟨n,X,R,V'⟩ f w:=
 kG (fun t f w=>∃ i,t=m - i/\i<=m/\Has f (S i)/\Bx w0 w Z G L D) m ⟨0,rfl,uL _,h0,e⟩ fun t f w h J hJ=>by
  obtain ⟨i,rfl,hi,hf,e⟩:=h;obtain ⟨g,rfl⟩:=lg _ _ hf;obtain hx | hx:=xw i m
  · exact hr g i w hx e _ fun a b=>hJ (m - (i+1)) _ _ (by omega) ⟨i+1,rfl,hx,a,b⟩
  · obtain rfl:i=m:=Nat.le_antisymm hi hx;exact he g w e _
end
section
variable {P:Program}{N:Fz}{ops:Array Oper}{K:KK}{rest:List Oper}{f:Fr}{w w0:World}{Z Z' G:Nat->Prop}{L:List It}{D:List Da}
theorem Ia {d:Option Nat}{op:Op}{ty:TypeId}{pos:String}{af:Array Edge}{g:FuncId}{args:Array Value}{q:Value}(e:Bx w0 w Z G L D)(h:(execOp (ev f) ⟨d,op,ty,pos,af,none⟩).run P w=.ok (.enter g args) w)(hc:Calls P g args w (rV fun v w'=>v=q/\Bx w w' Z' (mD []) [] []))(k:∀ w',Bx w0 w' Z G L D->pq P N ops K rest (lD f d q) w'):pq P N ops K (⟨d,op,ty,pos,af,none⟩ :: rest) f w:=
 sc h hc fun v w' hv=>by obtain ⟨rfl,hK⟩:=hv;exact k w' (e.ext hK.ex)
end
section
variable {N:Fz}{ops:Array Oper}{K:KK}{n:Nat}{Lb:Array Bool}{f:Fr}{w w0:World}{Z G:Nat->Prop}{L:List It}{D:List Da}{d:Option Nat}{ty:TypeId}{pos:String}{af:Array Edge}{op:Op}{v:Value}
theorem qP (i:Nat){g:Option (Nat × Bool)}(e:Bx w0 w Z G L D)(hi:Td ops.toList i=some ⟨d,op,ty,pos,af,g⟩)(hw:rZ ops f g=true)(hy:∀ {u:World},Bx w0 u Z G L D->Yl prog (ev f) op d ty pos af g u v)(k:nV prog N ops (fun _=>True) (fun u=>Bx w0 u Z G L D) [] K n (Lb.setIfInBounds i true) (lD f d v) w)(hc:may ops [] Lb i=true:=by kernel_rfl):nV prog N ops (fun _=>True) (fun u=>Bx w0 u Z G L D) [] K (n+1) Lb f w:=
 KJ 0 i (by rw [KX] at hi;simpa using hi) hc rfl hw (fun _ hu=>hy hu) (jL kE e) k
end
theorem MI:jH prog 84:=vT func84
theorem QB:jH prog 88:=vT func88
theorem Sw:jH prog 89:=vT func89
theorem FZ {n:Nat}:(mW n).length=n:=by simp [mW]
theorem T9 {k:Int}{q:Bool}(h:decide (1<=k/\k<=15)=q){w:World}{Z:Nat->Prop}(hP:Pre w Z [] []):Calls prog 86 #[V k] w (rV fun v w'=>v=.bool q/\Bx w w' Z (mD []) [] []):=by
 have e:=hP.bx;clear hP;generalize hG:mD []=G at e ⊢;refine cf func86 rfl ?_;have hk:k < 1\/15 < k\/(1<=k/\k<=15):=by omega
 obtain hk | hk | hk:=hk
 · obtain rfl:q=false:=by rw [<-h];exact sS (by omega)
   refine lU e ?_;exact lG (jK rfl (mI rfl) ⟨rfl,e⟩)
 · obtain rfl:q=false:=by rw [<-h];exact sS (by omega)
   refine lU e ?_;exact lG (jK rfl (mI rfl) ⟨rfl,e⟩)
 · obtain rfl:q=true:=by rw [<-h];exact sP (by omega)
   refine lU e ?_;exact lG (jK rfl (mI rfl) ⟨rfl,e⟩)
theorem Yg {k:Int}{q:Bool}(h:decide ((2<=k/\k<=16)\/k=18)=q){w:World}{Z:Nat->Prop}(hP:Pre w Z [] []):Calls prog 83 #[V k] w (rV fun v w'=>v=.bool q/\Bx w w' Z (mD []) [] []):=by
 have e:=hP.bx;clear hP;generalize hG:mD []=G at e ⊢;refine cf func83 rfl ?_;have hk:k < 2\/k=18\/(16 < k/\k≠18)\/(2<=k/\k<=16):=by omega
 obtain hk | hk | hk | hk:=hk
 · obtain rfl:q=false:=by rw [<-h];exact sS (by omega)
   refine lU e ?_;exact lG (jK rfl (mI rfl) ⟨rfl,e⟩)
 · obtain rfl:q=true:=by rw [<-h];exact sP (by omega)
   refine lU e ?_;exact lG (jK rfl (mI rfl) ⟨rfl,e⟩)
 · obtain rfl:q=false:=by rw [<-h];exact sS (by omega)
   refine lU e ?_;exact lG (jK rfl (mI rfl) ⟨rfl,e⟩)
 · obtain rfl:q=true:=by rw [<-h];exact sP (by omega)
   refine lU e ?_;exact lG (jK rfl (mI rfl) ⟨rfl,e⟩)
theorem Ue {k:Int}{q:Bool}(h:decide ((3<=k/\k<=14)\/k=16)=q){w:World}{Z:Nat->Prop}(hP:Pre w Z [] []):Calls prog 85 #[V k] w (rV fun v w'=>v=.bool q/\Bx w w' Z (mD []) [] []):=by
 have e:=hP.bx;clear hP;generalize hG:mD []=G at e ⊢;refine cf func85 rfl ?_;have hk:k < 3\/k=16\/(14 < k/\k≠16)\/(3<=k/\k<=14):=by omega
 obtain hk | hk | hk | hk:=hk
 · obtain rfl:q=false:=by rw [<-h];exact sS (by omega)
   refine lU e ?_;exact lG (jK rfl (mI rfl) ⟨rfl,e⟩)
 · obtain rfl:q=true:=by rw [<-h];exact sP (by omega)
   refine lU e ?_;exact lG (jK rfl (mI rfl) ⟨rfl,e⟩)
 · obtain rfl:q=false:=by rw [<-h];exact sS (by omega)
   refine lU e ?_;exact lG (jK rfl (mI rfl) ⟨rfl,e⟩)
 · obtain rfl:q=true:=by rw [<-h];exact sP (by omega)
   refine lU e ?_;exact lG (jK rfl (mI rfl) ⟨rfl,e⟩)
theorem G5 {n:Nat}{x:Int}{q:Bool}(hq:decide (0<=x/\x < n)=q){w:World}{Z:Nat->Prop}{a:OA}{c:Nat}(hP:Pre w Z [] [.l a c (mW n)]):Calls prog 84 #[.slice a (mW n).length c,V x] w (rV fun v w'=>v=.bool q/\Bx w w' Z (mD []) [] []):=by
 have e:=hP.bx;clear hP;generalize hG:mD []=G at e ⊢;refine cf func84 rfl (lU e ?_);have hl:=(e.dl 0 rfl).bd;rw [FZ] at hl;refine qQ (fun f w'=>Has f []/\Bx w w' Z G [] [.l a c (mW n)]/\q=false) (fun J hJ=>?_) ?_
 · refine oN (kG (fun t f w'=>∃ i:Nat,t=n - i/\i<=n/\(0<=x->(i:Int)<=x)/\Has f [(9,V i),(7,.slice a (mW n).length c),(8,V (mW n).length),(1,V x)]/\Bx w w' Z G [] [.l a c (mW n)]) n ?_ ?_)
   · exact ⟨0,rfl,uL _,fun h=>h,jA,e⟩
   clear e;rintro t f w4 ⟨i,rfl,hi,hix,hf,e⟩ K hK;obtain ⟨g,rfl⟩:=lg _ _ hf;clear hf;have hlen:((mW n).length:Int)=n:=by rw [FZ]
   obtain hx | hx:=xw i n
   · have hx2:(mW n)[i]?=some (i:Int):=by simp [mW,hx]
     refine lU e ?_;refine oN (lU e ?_);refine jJ (kR underlying22 p9 rfl rfl rfl (e.dl 0 rfl) hx2) (jJ (kH underlying3 rfl rfl ((uY (ds:=[V (i:Int)]) (e.dl 0 rfl) hx2 (fun _ h=>h)) 0 _ rfl)) ?_);by_cases h:x=i
     · obtain rfl:q=true:=hq ▸ sP (by omega);refine lU e ?_;exact lG (jK rfl (mI rfl) ⟨rfl,e.ad [] []⟩)
     · refine lU e ?_;refine jJ (lT rfl rfl) (lU e ?_);exact hK (n - (i+1)) _ _ (by omega) ⟨i+1,rfl,by omega,by omega,jA,e⟩
   · obtain rfl:i=n:=by omega
     refine lU e ?_;exact uw (hJ _ _ ⟨kE,e,hq ▸ sS (by omega)⟩)
 clear e;rintro f w4 ⟨-,e,rfl⟩;refine lU e ?_;exact lG (jK rfl (mI rfl) ⟨rfl,e.ad [] []⟩)
theorem DZ.ge {nob:Nat}{n m:Int}{l:List yB}(h:DZ nob n l m):n<=m:=by
 induction h with
 | nil=>exact vP _
 | cons h _ ih=>unfold OB at ih;split at ih <;> omega
theorem Di.dst {nob:Nat}{n:Int}{o:yB}(h:Di nob n o):1<=o.b/\(o.b<=15->o.e=n):=by cases h <;> exact ⟨by dsimp only;omega,fun c=>by first | rfl | (dsimp only at c;omega)⟩
theorem Di.fac {nob:Nat}{n:Int}{o:yB}(h:Di nob n o):1<=o.b/\o.b<=21/\(((2<=o.b/\o.b<=16)\/o.b=18)->0<=o.A/\o.A < n)/\(((3<=o.b/\o.b<=14)\/o.b=16)->0<=o.B/\o.B < n):=by cases h <;> dsimp only <;> refine ⟨by omega,by omega,fun c=>?_,fun c=>?_⟩ <;> first | assumption | (exfalso;omega)
abbrev cG (c:nI)(a1:OA)(c1:Nat)(a2:OA)(c2:Nat)(a3:OA)(c3:Nat):List Value:=[V c.a,.slice a1 c.b.length c1,.slice a2 c.d.length c2,.slice a3 c.c.length c3]
abbrev cW (b:lN)(a1:OA)(c1:Nat)(a2:OA)(c2:Nat)(a3:OA)(c3:Nat)(a4:OA)(c4:Nat):List Value:=[V b.a,.slice a1 b.c.length c1,V b.b.b,V b.b.A,V b.b.N,.slice a2 b.b.a.length c2,V b.b.d.b.b,.slice a3 b.b.d.b.a.length c3,V b.b.d.a.b,.slice a4 b.b.d.a.a.length c4]
abbrev cOp (o:yB):List Value:=[V o.b,V o.e,V o.A,V o.B,V o.N,V o.c,V o.f,V o.d,V o.a.b,V o.a.a,V o.a.c]
theorem OX {nob:Nat}{m:Int}{b:lN}{p4 p5 p6 p7:OA}{n4 n5 n6 n7:Nat}(hp:0<=b.a/\b.a<=999)(ho:DZ nob b.a b.c m)(hm:m<=9999){w:World}{Z:Nat->Prop}(hP:Pre w Z [] [.l p4 n4 b.c]) :Calls prog 81 #[.agg (cW b p4 n4 p5 n5 p6 n6 p7 n7).toArray] w (rV fun v w'=>∃ A C Q,v=.slice A (mW m.toNat).length C/\Bx w w' Z (mD []) [.own w.heap.size A C 3 (Rp.sz Int) Q] [.els Q (mW m.toNat)]):=by
 have e:=hP.bx;clear hP;generalize hG:mD []=G at e ⊢;refine cf func81 rfl (tV (nU (qZ e (rD rfl) fun w1 b1 e=>?_)));have e:Bx w w1 Z G [.box b1 69 (cW b p4 n4 p5 n5 p6 n6 p7 n7).toArray] [.l p4 n4 b.c]:=e;refine lU e ?_;replace e:=e.Gf Int 3;obtain ⟨k,hk⟩:∃ k:Nat,b.a=k:=⟨_,(Int.toNat_of_nonneg hp.1).symm⟩;have hl:=(e.dl 1 rfl).bd;refine qQ (fun f w'=>∃ A C Q,Has f [(1,Pt b1),(3,.slice A (mW k).length C)]/\Bx w w' Z G [.own w.heap.size A C 3 (Rp.sz Int) Q,.box b1 69 (cW b p4 n4 p5 n5 p6 n6 p7 n7).toArray] [.els Q (mW k),.l p4 n4 b.c]) (fun J hJ=>?_) ?_
 · refine oN (kG (fun n f w'=>∃ (i:Nat)(A C Q:_),n=k - i/\i<=k/\Has f [(1,Pt b1),(3,.slice A (mW i).length C),(4,V i)]/\Bx w w' Z G [.own w.heap.size A C 3 (Rp.sz Int) Q,.box b1 69 (cW b p4 n4 p5 n5 p6 n6 p7 n7).toArray] [.els Q (mW i),.l p4 n4 b.c]) k ?_ ?_)
   · exact ⟨0,none,0,[],rfl,uL _,jA,e⟩
   clear e;rintro n f w4 ⟨i,A,C,Q,rfl,hi,hf,e⟩ K hK;obtain ⟨g,rfl⟩:=lg _ _ hf;clear hf;by_cases h:i < k
   · refine lU e ?_;refine oN (lU e ?_);refine o7 (jT e [[V i]] ([(i:Int)]:List Int) (DY rfl) rfl rfl ⟨rfl,trivial⟩) ?_;rintro _ w5 ⟨b5,rfl,e⟩;refine o7 (kJ e 1 1 rfl rfl underlying22 p9 rfl (nD _) rfl rfl (e.Cj 0 0 rfl rfl) (IC (by rw [FZ];simp;omega))) ?_;rintro _ w6 ⟨A6,C6,Q6,rfl,e⟩;rw [Ch] at e ⊢;refine lU e ?_;refine jJ (lT rfl rfl) (lU e ?_);exact hK (k - (i+1)) _ _ (by omega) ⟨i+1,A6,C6,Q6,rfl,by omega,jA,e.ad [1,2] [1,2]⟩
   · obtain rfl:i=k:=by omega
     refine lU e ?_;exact uw (hJ _ _ ⟨A,C,Q,jA,e⟩)
 clear e;rintro f w4 ⟨A,C,Q,hf,e⟩;obtain ⟨g,rfl⟩:=lg _ _ hf;clear hf;refine lU e ?_;refine qQ (fun f w'=>∃ A C Q,Has f [(3,.slice A (mW m.toNat).length C)]/\Bx w w' Z G [.own w.heap.size A C 3 (Rp.sz Int) Q,.box b1 69 (cW b p4 n4 p5 n5 p6 n6 p7 n7).toArray] [.els Q (mW m.toNat),.l p4 n4 b.c]) (fun J hJ=>?_) ?_
 · refine oN (kG (fun t f w'=>∃ (i n:Nat)(A C Q:_),t=b.c.length - i/\i<=b.c.length/\DZ nob n (b.c.drop i) m/\Has f [(20,V i),(1,Pt b1),(3,.slice A (mW n).length C),(18,.slice p4 b.c.length n4),(19,V b.c.length)]/\Bx w w' Z G [.own w.heap.size A C 3 (Rp.sz Int) Q,.box b1 69 (cW b p4 n4 p5 n5 p6 n6 p7 n7).toArray] [.els Q (mW n),.l p4 n4 b.c]) b.c.length ?_ ?_)
   · exact ⟨0,k,A,C,Q,rfl,uL _,hk ▸ ho,jA,e⟩
   clear e ho;rintro t f w5 ⟨i,n,A,C,Q,rfl,hi,ho,hf,e⟩ K hK;obtain ⟨g,rfl⟩:=lg _ _ hf;clear hf;obtain hx | hx:=xw i b.c.length
   · obtain ⟨o,hx2⟩:=lZ (l:=b.c) hx;rw [mV hx2] at ho;obtain ⟨l',h2⟩:∃ l',l'=b.c.drop (i+1):=⟨_,rfl⟩;rw [<-h2] at ho;cases ho with
     | cons h ho=>
     subst h2;have hge:=ho.ge;obtain ⟨hd1,hd2⟩:=h.dst;refine lU e ?_;refine oN (lU e ?_);refine jJ (kR underlying62 KR rfl rfl rfl (e.dl 1 rfl) hx2) (jJ (RG (cOp o) underlying73 KR rfl (e.dl 1 rfl) hx2) (qZ e (jN KR) fun w6 b6 e=>kV (mQ e 0 (cOp o) rfl KR rfl rfl) fun w7 e=>lU e ?_));obtain ⟨q,hq⟩:∃ q,decide (1<=o.b/\o.b<=15)=q:=⟨_,rfl⟩;refine Ia e (ec (vT func86) rfl) (T9 hq (e.pr [] [0,1,2] [] rfl)) fun w8 e=>?_;unfold OB at ho hge;cases q
     · rw [kQ (by have:=of_decide_eq_false hq;omega)] at ho hge;clear hge;refine lU e ?_;refine jJ (lT rfl rfl) (lU e ?_);exact hK (b.c.length - (i+1)) _ _ (by omega) ⟨i+1,n,A,C,Q,rfl,by omega,by rwa [Int.add_zero] at ho,jA,e.ad [1,2] [0,1]⟩
     · have hd:=Dh hq;rw [lF hd.2] at ho hge;replace hd2:=hd2 hd.2;refine lU e ?_;refine o7 (jT e [[V o.e]] ([o.e]:List Int) (DY rfl) rfl rfl ⟨rfl,trivial⟩) ?_;rintro _ w5 ⟨b5,rfl,e⟩;refine o7 (kJ e 2 1 rfl rfl underlying22 p9 rfl (nD _) rfl rfl (e.Cj 0 0 rfl rfl) (IC (by rw [FZ];simp;omega))) ?_;rintro _ w6 ⟨A6,C6,Q6,rfl,e⟩;rw [hd2,Ch] at e ⊢;refine lU e ?_;refine jJ (lT rfl rfl) (lU e ?_);exact hK (b.c.length - (i+1)) _ _ (by omega) ⟨i+1,n+1,A6,C6,Q6,rfl,by omega,ho,jA,e.ad [2,3] [1,2]⟩
   · obtain rfl:i=b.c.length:=by omega
     rw [mF] at ho;generalize hm2:m=m' at ho;cases ho;refine lU e ?_;exact uw (hJ _ _ ⟨A,C,Q,⟨by rw [hm2];rfl,trivial⟩,by rw [hm2];exact e⟩)
 clear e;rintro f w4 ⟨A,C,Q,hf,e⟩;obtain ⟨g,rfl⟩:=lg _ _ hf;clear hf;refine lU e ?_;exact lG (jK rfl (mI rfl) ⟨A,C,Q,rfl,e.ad [0] [0]⟩)
theorem LP {x:nO}{q:Bool}(h:(x.b=-1/\x.a.length=0/\q=true)\/(1<=x.b/\q=false)){a:OA}{n:Nat}{w:World}{Z:Nat->Prop}(hP:Pre w Z [] []):Calls prog 89 #[.agg #[V x.b,.slice a x.a.length n]] w (rV fun v w'=>v=.bool q/\Bx w w' Z (mD []) [] []):=by
 have e:=hP.bx;clear hP;generalize hG:mD []=G at e ⊢;refine cf func89 rfl (tV (nU (qZ e (rD rfl) fun w1 b1 e=>?_)))
 rcases h with ⟨h1,h2,rfl⟩|⟨h1,rfl⟩ <;>
  (refine lU e ?_
   exact lG (jK rfl (mI rfl) ⟨rfl,e.ad [] []⟩))
theorem Lp {c:nI}{x:nO}{m k:Nat}(h:EdC c.b m x k)(hB:∀ b ∈ c.b,b.a<=999){p1 p2 p3 p6 p8:OA}{n1 n2 n3 n6 n8:Nat}{w:World}{Z:Nat->Prop}(hP:Pre w Z [] [.l p1 n1 c.b,.l p6 n6 x.a,.l p8 n8 (mW m)]) :Calls prog 88 #[.agg (cG c p1 n1 p2 n2 p3 n3).toArray,.agg #[V x.b,.slice p6 x.a.length n6],.slice p8 (mW m).length n8,V (k:Int)] w (rV fun v w'=>v=.bool true/\Bx w w' Z (mD []) [] []):=by
 have e:=hP.bx;clear hP;generalize hG:mD []=G at e ⊢;refine cf func88 rfl (tV (nU (qZ e (rD rfl) fun w1 b1 e=>qZ e (rD rfl) fun w2 b2 e=>?_)));obtain ⟨h1,⟨b,hb,hbp⟩,hA⟩:=h;refine lU e ?_;refine Ro e [(36,.bool false),(2,.slice p8 (mW m).length n8),(5,Pt b2)] (fun J hJ=>?_) fun g w3 e=>?_
 · have hi:x.b=((x.b.toNat:Nat):Int):=by omega
   have hbl:=ku hb;have hb9:=hB b (vS hb);obtain ⟨cs,hcs,e2⟩:=e.nm 0 rfl hb;obtain ⟨q1,q2,q3,q4,q5,q6,q7,q8,rfl,-⟩:=lN.out hcs;clear e hcs hA hB;refine EM e2 [] fun e=>?_;clear e2;refine Uc e ?_;refine qP 21 e rfl rfl (fun u=>kR underlying48 CS rfl rfl hi (u.dl 1 rfl) hb) (Uc e ?_);refine qP 23 e rfl rfl (fun u=>kH underlying3 rfl rfl ((u.dc 0 rfl) 0 _ rfl)) (qP 24 e rfl rfl (fun _=>yq (rQ rfl rfl) (sS (by rw [l8 (by omega) (by omega)];omega))) (Uc e ?_));exact hD (hJ jA (e.ad [0,1] [1,2,3]))
 have hl:=(e.dl 1 rfl).bd;refine lU e ?_;refine Ro e [] (fun J hJ=>?_) fun g w3 e=>?_
 · refine oN (MW e (fun i=>[(40,V i),(38,.slice p6 x.a.length n6),(39,V x.a.length),(2,.slice p8 (mW m).length n8)]) x.a.length jA (fun g i w4 hx e K hK=>?_) fun g w4 e K=>?_)
   · obtain ⟨v,hx2⟩:=lZ (l:=x.a) hx;refine lU e ?_;refine oN (lU e ?_);refine jJ (kR underlying22 p9 rfl rfl rfl (e.dl 1 rfl) hx2) (jJ (kH underlying3 rfl rfl ((uY (ds:=[V v]) (e.dl 1 rfl) hx2 (fun _ h=>h)) 0 _ rfl)) (lU e ?_));refine Ia e (ec MI rfl) (G5 (n:=m) (sP (hA v (vS hx2))) (e.pr [] [0,1] [2] rfl)) fun w5 e=>lU e ?_;refine jJ (lT rfl rfl) (lU e ?_);exact hK jA e
   · refine lU e ?_;exact uw (hJ kE e)
 refine lU e ?_;exact lG (jK rfl (mI rfl) ⟨rfl,e.ad [] []⟩)
theorem Zz {l:List lN}{i:Nat}:Bd (l.take i)<=Bd l:=by have:=Iw (l:=l.take i) (l':=l.drop i);rw [List.take_append_drop] at this;omega
theorem adW {c:nI}(h:Bd c.b<=6000){p1 p2 p3:OA}{n1 n2 n3:Nat}{w:World}{Z:Nat->Prop}(hP:Pre w Z [] [.l p1 n1 c.b]):Calls prog 42 #[.agg (cG c p1 n1 p2 n2 p3 n3).toArray] w (rV fun v w'=>v=V (Bd c.b:Int)/\Bx w w' Z (mD []) [] []):=by
 have e:=hP.bx;clear hP;generalize hG:mD []=G at e ⊢;refine cf func42 rfl (tV (nU (qZ e (rD rfl) fun w1 b1 e=>?_)));have hl:=(e.dl 0 rfl).bd;refine lU e ?_;refine Ro e [(3,V (Bd c.b:Int))] (fun J hJ=>?_) fun g w3 e=>?_
 · refine oN (MW e (fun i=>[(9,V i),(3,V (Bd (c.b.take i):Int)),(7,.slice p1 c.b.length n1),(8,V c.b.length)]) c.b.length jA (fun g i w4 hx e K hK=>?_) fun g w4 e K=>?_)
   · obtain ⟨x,hx2⟩:=lZ (l:=c.b) hx;obtain ⟨cs,hcs,e⟩:=e.nm 0 rfl hx2;obtain ⟨a1,c1,a2,c2,a3,c3,a4,c4,rfl,-⟩:=lN.out hcs;refine lU e ?_;refine oN (lU e ?_);refine jJ (kR underlying48 CS rfl rfl rfl (e.dl 1 rfl) hx2) (jJ (lK (cW x a1 c1 a2 c2 a3 c3 a4 c4) underlying69 rfl CS rfl rfl (e.dc 0 rfl)) (qZ e (jN CS) fun w5 b5 e=>kV (mQ e 0 (cW x a1 c1 a2 c2 a3 c3 a4 c4) rfl CS rfl rfl) fun w6 e=>lU e ?_));have h1:Bd (c.b.take (i+1))=Bd (c.b.take i)+x.c.length:=by rw [List.take_add_one,hx2,Iw];simp [Bd]
     have h2:=Zz (l:=c.b) (i:=i+1);refine jJ (lT rfl rfl) ?_;rw [<-Int.natCast_add,<-h1];refine lU e ?_;refine jJ (lT rfl rfl) (lU e ?_);exact hK jA (e.ad [1] [1])
   · rw [List.take_length];refine lU e ?_;exact uw (hJ jA e)
 refine lU e ?_;exact lG (jK rfl (mI rfl) ⟨rfl,e.ad [] []⟩)
theorem XQ {nob:Nat}{n:Int}{o:yB}(h:Di nob n o){w:World}{Z:Nat->Prop}(hP:Pre w Z [] []):Calls prog 82 #[.agg (cOp o).toArray] w (rV fun v w'=>v=.bool true/\Bx w w' Z (mD []) [] []):=by
 have b:=hP.bx;clear hP;generalize hG:mD []=G at b ⊢;cases h
 case' mark hk _=>obtain rfl | rfl:=hk
 all_goals
  refine cf func82 rfl ?_;dsimp only [cOp];refine uN [(0,_)] jA fun g=>tV (nU (qZ b (rD rfl) fun w1 b1 b=>?_));refine lU b ?_;refine Ia b (ec (vT func86) rfl) (T9 (by first | exact sP (by omega)|exact sS (by omega)) (b.pr [] [0] [] rfl)) fun w2 b=>?_;refine lU b ?_;refine Ia b (ec (vT func83) rfl) (Yg (by first | exact sP (by omega)|exact sS (by omega)) (b.pr [] [0] [] rfl)) fun w3 b=>?_;refine lU b ?_;refine Ia b (ec (vT func85) rfl) (Ue (by first | exact sP (by omega)|exact sS (by omega)) (b.pr [] [0] [] rfl)) fun w4 b=>?_;refine lU b ?_;first
  | (refine jJ (lK [V 0,V 0,V 0] underlying71 rfl XK rfl rfl (Cells.part (b.bk 0 rfl).cells (o2:=8) rfl)) ?_;refine lU b ?_;refine jJ (Ec (v:=.agg #[V 0,V 0,V 0]) rfl (by kernel_rfl)) ?_;refine lU b ?_;refine jJ (ac7 underlying71 (by kernel_rfl) (by kernel_rfl) (by kernel_rfl) rfl rfl) ?_;refine lU b ?_;exact lG (jK rfl (mI rfl) ⟨rfl,b.ad [] []⟩))
  | (exact lG (jK rfl (mI rfl) ⟨rfl,b.ad [] []⟩))
end Go.Proofs.YtdkneekpdecjbaaGreat
