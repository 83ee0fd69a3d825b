/- The specification's Check of right code, walked; the law. -/
import Derived.Test.YtdkneekpdecjbaaGreatZ18
set_option linter.all false
set_option maxRecDepth 4000
set_option maxHeartbeats 12800000
namespace Go.Proofs.YtdkneekpdecjbaaGreat
open Go.RowKit Go.Fw Go.Proofs.Tryz
theorem Wo {c:nI}{s:Zy}{M:Nat}{p1 p2 p3 p4:OA}{n1 n2 n3 n4:Nat}(hs:s.b=2)(hx:0<=s.a/\s.a < M){w:World}{Z:Nat->Prop}(hP:Pre w Z [] [.l p4 n4 (mW M)]) :Calls prog 87 #[.agg (cG c p1 n1 p2 n2 p3 n3).toArray,.agg #[V s.b,V s.a,V s.c],.slice p4 (mW M).length n4] w (rV fun v w'=>v=.bool true/\Bx w w' Z (mD []) [] []):=by have e:=hP.bx;clear hP;generalize hG:mD []=G at e ⊢;refine cf func87 rfl ?_;refine tV (nU ?_);refine qZ e (rD rfl) fun w1 b1 e=>?_;refine qZ e (rD rfl) fun w2 b2 e=>?_;refine lU e ?_;refine oN ?_;refine lU e ?_;refine sc (ec MI rfl) (G5 (sP hx) (e.pr [] [0,1] [0] rfl)) ?_;rintro _ w3 ⟨rfl,hK⟩;replace e:=e.ext hK.ex;refine lU e ?_;exact lG (jK rfl (mI rfl) ⟨rfl,e.ad [] []⟩)
theorem Di.kd {nob:Nat}{n:Int}{o:yB}(h:Di nob n o):((o.b=15\/o.b=16\/o.b=17)/\0<=o.N/\o.N < nob)\/((o.b=19\/o.b=20)/\(0<=o.N/\o.N<=9999)/\o.c=0)\/(o.b=21/\o.c=0/\(0<=o.f/\o.f < 24)/\(0<=o.d/\o.d < 4)/\o.a.b=2/\0<=o.a.a/\o.a.a < n)\/(1<=o.b/\o.b<=14)\/o.b=18:=by cases h <;> dsimp only <;> omega
theorem afb (o:yB):0<=OB o:=by unfold OB;split <;> omega
theorem adS {c:nI}{b:lN}{m:Int}{p1 p2 p3 p4 p5 p6 p7:OA}{n1 n2 n3 n4 n5 n6 n7:Nat}(hp:0<=b.a/\b.a<=999)(ho:DZ c.c.length b.a b.c m)(hm:m<=9999)(hc:c.d.length=1){w:World}{Z:Nat->Prop}(hP:Pre w Z [] [.l p4 n4 b.c]) :Calls prog 61 #[.agg (cG c p1 n1 p2 n2 p3 n3).toArray,.agg (cW b p4 n4 p5 n5 p6 n6 p7 n7).toArray] w (rV fun v w'=>v=.bool true/\Bx w w' Z (mD []) [] []):=by
 have e:=hP.bx;clear hP;generalize hG:mD []=G at e ⊢;refine cf func61 rfl (tV (nU (qZ e (rD rfl) fun w1 b1 e=>qZ e (rD rfl) fun w2 b2 e=>?_)));have e:Bx w w2 Z G [.box b2 69 (cW b p4 n4 p5 n5 p6 n6 p7 n7).toArray,.box b1 52 (cG c p1 n1 p2 n2 p3 n3).toArray] [.l p4 n4 b.c]:=e;refine lU e ?_;refine jJ (kZ (cW b p4 n4 p5 n5 p6 n6 p7 n7) underlying69 CS rfl (e.bk 0 rfl)) (sc (ec (vT func81) rfl) (OX hp ho hm (e.pr [] [0,1] [0] rfl)) ?_);rintro _ w3 ⟨a8,c8,q8,rfl,hK⟩;have hL0:=e.uo.size;replace e:=e.cn [] [0,1] hK;replace e:=e.rb 0 w.heap.size rfl hL0;clear hK;refine lU e ?_;replace e:=e.Gf Int 3;obtain ⟨k,hk⟩:∃ k:Nat,b.a=k:=⟨_,(Int.toNat_of_nonneg hp.1).symm⟩;refine qQ (fun f w'=>∃ A C Q,Has f [(2,Pt b1),(3,Pt b2),(5,.slice a8 (mW m.toNat).length c8),(6,.slice A (mW k).length C)]/\Bx w w' Z G [.own w.heap.size A C 3 (Rp.sz Int) Q,.own w.heap.size a8 c8 3 (Rp.sz Int) q8,.box b2 69 (cW b p4 n4 p5 n5 p6 n6 p7 n7).toArray,.box b1 52 (cG c p1 n1 p2 n2 p3 n3).toArray] [.els Q (mW k),.els q8 (mW m.toNat),.l p4 n4 b.c]) (fun J hJ=>?_) ?_
 · refine oN (kG (fun n f w'=>∃ (i:Nat)(A C Q:_),n=k - i/\i<=k/\Has f [(2,Pt b1),(3,Pt b2),(5,.slice a8 (mW m.toNat).length c8),(6,.slice A (mW i).length C),(7,V i)]/\Bx w w' Z G [.own w.heap.size A C 3 (Rp.sz Int) Q,.own w.heap.size a8 c8 3 (Rp.sz Int) q8,.box b2 69 (cW b p4 n4 p5 n5 p6 n6 p7 n7).toArray,.box b1 52 (cG c p1 n1 p2 n2 p3 n3).toArray] [.els Q (mW i),.els q8 (mW m.toNat),.l p4 n4 b.c]) k ?_ ?_)
   · exact ⟨0,none,0,[],rfl,uL _,jA,e.ad [0,1,2,3] [0,1,2]⟩
   clear e;rintro n f w4 ⟨i,A,C,Q,rfl,hi,hf,e⟩ K hK;obtain ⟨g,rfl⟩:=lg _ _ hf;clear hf;by_cases h:i < k
   · refine lU e ?_;refine oN (lU e ?_);refine o7 (jT e [[V i]] ([(i:Int)]:List Int) (DY rfl) rfl rfl ⟨rfl,trivial⟩) ?_;rintro _ w5 ⟨b5,rfl,e⟩;refine o7 (kJ e 1 1 rfl rfl underlying22 p9 rfl (nD _) rfl rfl (e.Cj 0 0 rfl rfl) (IC (by rw [FZ];simp;omega))) ?_;rintro _ w6 ⟨A6,C6,Q6,rfl,e⟩;rw [Ch] at e ⊢;refine lU e ?_;refine jJ (mg rfl rfl) ?_;rw [l8 (by omega) (by omega)];refine lU e ?_;exact hK (k - (i+1)) _ _ (by omega) ⟨i+1,A6,C6,Q6,rfl,by omega,jA,e.ad [1,2,3,4] [1,2,3]⟩
   · obtain rfl:i=k:=by omega
     refine lU e ?_;exact uw (hJ _ _ ⟨A,C,Q,jA,e⟩)
 clear e;rintro f w4 ⟨A,C,Q,hf,e⟩;obtain ⟨g,rfl⟩:=lg _ _ hf;clear hf;refine lU e ?_;have hl:=(e.dl 2 rfl).bd;refine qQ (fun f w'=>∃ (A C:_)(l:List Int)(Q:_),Has f []/\Bx w w' Z G [.own w.heap.size A C 3 (Rp.sz Int) Q,.own w.heap.size a8 c8 3 (Rp.sz Int) q8,.box b2 69 (cW b p4 n4 p5 n5 p6 n6 p7 n7).toArray,.box b1 52 (cG c p1 n1 p2 n2 p3 n3).toArray] [.els Q l,.els q8 (mW m.toNat),.l p4 n4 b.c]) (fun J hJ=>?_) ?_
 · refine oN (kG (fun t f w'=>∃ (i n:Nat)(A C Q:_),t=b.c.length - i/\i<=b.c.length/\b.a<=n/\DZ c.c.length n (b.c.drop i) m/\Has f [(25,V i),(2,Pt b1),(3,Pt b2),(5,.slice a8 (mW m.toNat).length c8),(6,.slice A (mW n).length C),(23,.slice p4 b.c.length n4),(24,V b.c.length)]/\Bx w w' Z G [.own w.heap.size A C 3 (Rp.sz Int) Q,.own w.heap.size a8 c8 3 (Rp.sz Int) q8,.box b2 69 (cW b p4 n4 p5 n5 p6 n6 p7 n7).toArray,.box b1 52 (cG c p1 n1 p2 n2 p3 n3).toArray] [.els Q (mW n),.els q8 (mW m.toNat),.l p4 n4 b.c]) b.c.length ?_ ?_)
   · exact ⟨0,k,A,C,Q,rfl,uL _,by omega,hk ▸ ho,jA,e⟩
   clear e ho;rintro t f w5 ⟨i,n,A,C,Q,rfl,hi,hn,ho,hf,e⟩ K hK;obtain ⟨g,rfl⟩:=lg _ _ hf;clear hf;obtain hx | hx:=xw i b.c.length
   · obtain ⟨o,hx2⟩:=lZ (l:=b.c) hx;rw [mV hx2] at ho;obtain ⟨l',h2⟩:∃ l',l'=b.c.drop (i+1):=⟨_,rfl⟩;rw [<-h2] at ho;cases ho with
     | cons h ho=>
     subst h2;have hge:=ho.ge;refine lU e ?_;refine qQ (fun f w'=>∃ (n':Nat)(A C Q:_),n+OB o=n'/\Has f [(25,V i),(2,Pt b1),(3,Pt b2),(5,.slice a8 (mW m.toNat).length c8),(6,.slice A (mW n').length C),(23,.slice p4 b.c.length n4),(24,V b.c.length)]/\Bx w w' Z G [.own w.heap.size A C 3 (Rp.sz Int) Q,.own w.heap.size a8 c8 3 (Rp.sz Int) q8,.box b2 69 (cW b p4 n4 p5 n5 p6 n6 p7 n7).toArray,.box b1 52 (cG c p1 n1 p2 n2 p3 n3).toArray] [.els Q (mW n'),.els q8 (mW m.toNat),.l p4 n4 b.c]) (fun J hJ=>?_) ?_
     · clear hK;refine oN (tV (nU (jJ (kR underlying62 KR rfl rfl rfl (e.dl 2 rfl) hx2) (jJ (RG (cOp o) underlying73 KR rfl (e.dl 2 rfl) hx2) (qZ e (jN KR) fun w6 b6 e=>kV (mQ e 0 (cOp o) rfl KR rfl rfl) fun w7 e=>?_)))));clear hx2;refine sN (uN [(25,V i),(2,Pt b1),(3,Pt b2),(5,.slice a8 (mW m.toNat).length c8),(6,.slice A (mW n).length C),(23,.slice p4 b.c.length n4),(24,V b.c.length),(9,Pt b6)] jA fun g=>tV (Ro e [(65,.bool false),(25,V i),(2,Pt b1),(3,Pt b2),(5,.slice a8 (mW m.toNat).length c8),(6,.slice A (mW n).length C),(23,.slice p4 b.c.length n4),(24,V b.c.length),(9,Pt b6)] (fun J' hJ'=>?_) fun g w7 e=>?_))
       · have hF:=h.fac;clear hge hi hn hx hp hk hc hm ho;refine lU e ?_;refine jJ (kZ (cOp o) underlying73 KR rfl (e.bk 0 rfl)) (lU e ?_);refine Ia e (ec (vT func82) rfl) (XQ h (e.pr [] [0,1,2,3,4] [] rfl)) fun w8 e=>lU e ?_;obtain ⟨qA,hA⟩:∃ q,decide ((2<=o.b/\o.b<=16)\/o.b=18)=q:=⟨_,rfl⟩;refine Ia e (ec (vT func83) rfl) (Yg hA (e.pr [] [0,1,2,3,4] [] rfl)) fun w8 e=>?_;cases qA
         · have hB:=sS (p:=(3<=o.b/\o.b<=14)\/o.b=16) (by have:=of_decide_eq_false hA;clear hF;omega);clear hF;refine lU e ?_;refine Ia e (ec (vT func85) rfl) (Ue hB (e.pr [] [0,1,2,3,4] [] rfl)) fun w8 e=>lU e ?_;exact hJ' jA e
         · have hA2:=hF.2.2.1 (Dh hA);obtain ⟨qB,hB⟩:∃ q,decide ((3<=o.b/\o.b<=14)\/o.b=16)=q:=⟨_,rfl⟩;have hB2:=fun x=>hF.2.2.2 (Dh (hB.trans x));clear hF;refine lU e ?_;refine Ia e (ec MI rfl) (G5 (sP hA2) (Pre.all (Dc:=[.l A C (mW n)]) (vv (e.vw 1 0 rfl rfl).all Js))) fun w8 e=>lU e ?_;refine Ia e (ec (vT func85) rfl) (Ue hB (e.pr [] [0,1,2,3,4] [] rfl)) fun w8 e=>?_;cases qB
           · refine lU e ?_;exact hJ' jA e
           · refine lU e ?_;refine Ia e (ec MI rfl) (G5 (sP (hB2 rfl)) (Pre.all (Dc:=[.l A C (mW n)]) (vv (e.vw 1 0 rfl rfl).all Js))) fun w8 e=>lU e ?_;exact hJ' jA e
       refine lU e ?_;obtain ⟨qD,hD⟩:∃ q,decide (1<=o.b/\o.b<=15)=q:=⟨_,rfl⟩;refine Ia e (ec (vT func86) rfl) (T9 hD (e.pr [] [0,1,2,3,4] [] rfl)) fun w8 e=>sN (qQ (fun f w'=>∃ (n':Nat)(A C Q:_),n+OB o=n'/\Has f [(25,V i),(2,Pt b1),(3,Pt b2),(5,.slice a8 (mW m.toNat).length c8),(6,.slice A (mW n').length C),(23,.slice p4 b.c.length n4),(24,V b.c.length),(9,Pt b6)]/\Bx w w' Z G [.box b6 73 (cOp o).toArray,.own w.heap.size A C 3 (Rp.sz Int) Q,.own w.heap.size a8 c8 3 (Rp.sz Int) q8,.box b2 69 (cW b p4 n4 p5 n5 p6 n6 p7 n7).toArray,.box b1 52 (cG c p1 n1 p2 n2 p3 n3).toArray] [.els Q (mW n'),.els q8 (mW m.toNat),.l p4 n4 b.c]) (fun J' hJ'=>?_) ?_)
       · have hd1:=h.dst;cases qD
         · have h1:=of_decide_eq_false hD;exact jM rfl (CW (hJ' _ _ ⟨n,A,C,Q,by unfold OB;rw [kQ (by omega)];omega,jA,e⟩))
         · have h1:=Dh hD;have h2:=hd1.2 h1.2;have h3:OB o=1:=by unfold OB;rw [lF h1.2]
           rw [h3] at hge;clear hd1 ho hx hi hc;refine jQ rfl (lU e ?_);refine Ia e (ec MI rfl) (G5 (sS (by omega)) (Pre.all (Dc:=[.l A C (mW n)]) (vv (e.vw 1 0 rfl rfl).all Js))) fun w8 e=>lU e ?_;refine o7 (jT e [[V o.e]] ([o.e]:List Int) (DY rfl) rfl rfl ⟨rfl,trivial⟩) ?_;rintro _ w5 ⟨b5,rfl,e⟩;refine o7 (kJ e 2 1 rfl rfl underlying22 p9 rfl (nD _) rfl rfl (e.Cj 0 0 rfl rfl) (IC (by rw [FZ];simp;omega))) ?_;rintro _ w6 ⟨A6,C6,Q6,rfl,e⟩;rw [h2,Ch] at e ⊢;refine lU e ?_;exact hJ' _ _ ⟨n+1,A6,C6,Q6,by omega,jA,e.ad [1,2,3,4,5] [1,2,3]⟩
       clear e;rintro f w8 ⟨n',A,C,Q,h3,hf,e⟩;obtain ⟨g,rfl⟩:=lg _ _ hf;clear hf;have hk2:=h.kd;have hcl:(c.d.length:Int)=1:=by omega
       have hsv:o.b=21->o.a.a < m.toNat:=fun x=>by have:=afb o;rcases hk2 with q | q | q | q <;> omega
       clear ho hx hi hn hl;refine lU e ?_;refine oN ?_;have hE:∀ {f w7},Has f [(25,V i),(2,Pt b1),(3,Pt b2),(5,.slice a8 (mW m.toNat).length c8),(6,.slice A (mW n').length C),(23,.slice p4 b.c.length n4),(24,V b.c.length),(9,Pt b6)]->Bx w w7 Z G [.box b6 73 (cOp o).toArray,.own w.heap.size A C 3 (Rp.sz Int) Q,.own w.heap.size a8 c8 3 (Rp.sz Int) q8,.box b2 69 (cW b p4 n4 p5 n5 p6 n6 p7 n7).toArray,.box b1 52 (cG c p1 n1 p2 n2 p3 n3).toArray] [.els Q (mW n'),.els q8 (mW m.toNat),.l p4 n4 b.c]->J f w7:=fun hf e=>hJ _ _ ⟨n',A,C,Q,h3,⟨hf.1,hf.2.1,hf.2.2.1,hf.2.2.2.1,hf.2.2.2.2.1,hf.2.2.2.2.2.1,hf.2.2.2.2.2.2.1,trivial⟩,e.ad [1,2,3,4] [0,1,2]⟩;clear hJ h3 h;obtain ⟨hk | hk | hk,hN⟩|⟨hk | hk,hN,h4⟩|⟨hk,hN⟩ | hk:=hk2
       case inr.inr.inl=>
         clear hge;refine lU e ?_;refine jJ (kZ (cG c p1 n1 p2 n2 p3 n3) underlying52 zK rfl (e.bk 4 rfl)) (lU e ?_);refine jJ (lK [V o.a.b,V o.a.a,V o.a.c] underlying71 rfl XK rfl rfl (Cells.part (e.bk 0 rfl).cells (o2:=8) rfl)) (lU e ?_);refine Ia e (ec (vT func87) rfl) (Wo hN.2.2.2.1 ⟨hN.2.2.2.2.1,hsv hk⟩ (Pre.all (Dc:=[.l a8 c8 (mW m.toNat)]) (vv (e.vw 2 1 rfl rfl).all Js))) fun w8 e=>lU e ?_;exact hE jA e
       all_goals
         refine lU e ?_;exact hE jA e
     clear e;rintro f w7 ⟨n',A,C,Q,h3,hf,e⟩;obtain ⟨g,rfl⟩:=lg _ _ hf;clear hf;rw [h3] at ho hge;have hl2:=hl;refine lU e ?_;refine jJ (lT rfl rfl) (lU e ?_);exact hK (b.c.length - (i+1)) _ _ (by omega) ⟨i+1,n',A,C,Q,rfl,by omega,by have:=afb o;omega,ho,jA,e⟩
   · obtain rfl:i=b.c.length:=by omega
     refine lU e ?_;exact uw (hJ _ _ ⟨A,C,_,Q,trivial,e⟩)
 clear e;rintro f w4 ⟨A,C,l,Q,hf,e⟩;obtain ⟨g,rfl⟩:=lg _ _ hf;clear hf;refine lU e ?_;exact lG (jK rfl (mI rfl) ⟨rfl,e.ad [] []⟩)
theorem Tq.kd {Ps:List Nat}{Ed:nO->Nat->Prop}{n:Int}{t:uG}(h:Tq Ps Ed n t)(hP:Ps.length<=8/\∀ x ∈ Ps,x<=4):(∀ v ∈ t.a,0<=v/\v < n)/\ ((t.b=1/\t.A=0/\t.N=0/\t.a.length=0/\Ed t.d.b 0/\t.d.a=Je)\/(t.b=2/\(0<=t.A/\t.A < n)/\t.N=0/\t.a.length=0/\Ed t.d.b 0/\Ed t.d.a 0)\/(t.b=3/\t.A=0/\(0<=t.N/\t.N < 8)/\t.a.length<=4/\Ed t.d.b 1/\(t.d.a=Je\/Ed t.d.a 1))\/((t.b=4\/t.b=5)/\(0<=t.A/\t.A < n)/\t.N=0/\t.a.length=0/\t.d.b=Je/\t.d.a=Je)):=by
 cases h with
 | jump h=>exact ⟨fun v h=>(by cases h),.inl ⟨rfl,rfl,rfl,rfl,h,rfl⟩⟩
 | branch hv h g=>exact ⟨fun v h=>(by cases h),.inr (.inl ⟨rfl,hv,rfl,rfl,h,g⟩)⟩
 | @call k ag e g h0 hk ha h j=>
  have:=ku hk;exact ⟨ha,.inr (.inr (.inl ⟨rfl,rfl,⟨h0,by show k < 8;omega⟩,hP.2 _ (vS hk),h,j⟩))⟩
 | give hv=>exact ⟨fun v h=>(by cases h),.inr (.inr (.inr ⟨.inl rfl,hv,rfl,rfl,rfl,rfl⟩))⟩
 | throw hv=>exact ⟨fun v h=>(by cases h),.inr (.inr (.inr ⟨.inr rfl,hv,rfl,rfl,rfl,rfl⟩))⟩
abbrev cR (b:lN)(a2:OA)(c2:Nat)(a3:OA)(c3:Nat)(a4:OA)(c4:Nat):List Value:=[V b.b.b,V b.b.A,V b.b.N,.slice a2 b.b.a.length c2,V b.b.d.b.b,.slice a3 b.b.d.b.a.length c3,V b.b.d.a.b,.slice a4 b.b.d.a.a.length c4]
theorem aaB {c:nI}{b:lN}{m:Int}{nob:Nat}{Ps:List Nat}{p1 p2 p3 p4 p5 p6 p7:OA}{n1 n2 n3 n4 n5 n6 n7:Nat}(hp:0<=b.a/\b.a<=999)(ho:DZ nob b.a b.c m)(hm:m<=9999)(hT:Tq Ps (EdC c.b m) m b.b)(hPs:Ps.length<=8/\∀ x ∈ Ps,x<=4)(hB:∀ x ∈ c.b,x.a<=999){w:World}{Z:Nat->Prop}(hP:Pre w Z [] [.l p1 n1 c.b,.l p4 n4 b.c,.l p5 n5 b.b.a,.l p6 n6 b.b.d.b.a,.l p7 n7 b.b.d.a.a]):Calls prog 62 #[.agg (cG c p1 n1 p2 n2 p3 n3).toArray,.agg (cW b p4 n4 p5 n5 p6 n6 p7 n7).toArray] w (rV fun v w'=>v=.bool true/\Bx w w' Z (mD []) [] []):=by
 have e:=hP.bx;clear hP;generalize hG:mD []=G at e ⊢;refine cf func62 rfl (tV (nU (qZ e (rD rfl) fun w1 b1 e=>qZ e (rD rfl) fun w2 b2 e=>?_)));have e:Bx w w2 Z G [.box b2 69 (cW b p4 n4 p5 n5 p6 n6 p7 n7).toArray,.box b1 52 (cG c p1 n1 p2 n2 p3 n3).toArray] [.l p1 n1 c.b,.l p4 n4 b.c,.l p5 n5 b.b.a,.l p6 n6 b.b.d.b.a,.l p7 n7 b.b.d.a.a]:=e;obtain ⟨hv1,hkd⟩:=hT.kd hPs;have hva:∀ v ∈ b.b.a,0<=v/\v < ((m.toNat:Nat):Int):=fun v h=>⟨(hv1 v h).1,by have:=(hv1 v h).2;omega⟩;have hmm:((m.toNat:Nat):Int)=m:=by have:=ho.ge;omega
 clear hT hPs hv1;refine lU e ?_;refine qQ (fun f w'=>∃ (b5:Nat)(a8:OA)(c8:Nat)(q8:LV),Has f [(2,Pt b1),(5,Pt b5),(6,.slice a8 (mW m.toNat).length c8)]/\Bx w w' Z G [.own w.heap.size a8 c8 3 (Rp.sz Int) q8,.box b5 67 (cR b p5 n5 p6 n6 p7 n7).toArray,.box b2 69 (cW b p4 n4 p5 n5 p6 n6 p7 n7).toArray,.box b1 52 (cG c p1 n1 p2 n2 p3 n3).toArray] [.els q8 (mW m.toNat),.l p1 n1 c.b,.l p4 n4 b.c,.l p5 n5 b.b.a,.l p6 n6 b.b.d.b.a,.l p7 n7 b.b.d.a.a]) (fun J hJ=>?_) ?_
 · refine EM e [] fun e=>?_;have e0:=e;refine BQ e ?_;refine wN 1 rfl (dU (fun hu=>lK (cR b p5 n5 p6 n6 p7 n7) underlying67 rfl JO rfl rfl (Cells.part (hu.bk 0 rfl).cells (o2:=2) rfl)) (jL kE e) (wN 2 rfl (dU (fun hu=>kZ (cW b p4 n4 p5 n5 p6 n6 p7 n7) underlying69 CS rfl (hu.bk 0 rfl)) (jL kE e) (RH 3 4 (by kernel_rfl) (oc rfl rfl (ec (vT func81) rfl) (OX hp ho hm (e.pr [] [0,1] [1] rfl)) ?_) (oo rfl rfl (ql e (jN JO)) ?_)))))
   · rintro _ w3 ⟨a8,c8,q8,rfl,hK⟩;have hL0:=e.uo.size;replace e:=e.cn [] [0,1] hK;replace e:=e.rb 0 w.heap.size rfl hL0;clear hK;have e0:Bx w w3 Z G [.box b2 69 (cW b p4 n4 p5 n5 p6 n6 p7 n7).toArray,.box b1 52 (cG c p1 n1 p2 n2 p3 n3).toArray] [.l p1 n1 c.b,.l p4 n4 b.c,.l p5 n5 b.b.a,.l p6 n6 b.b.d.b.a,.l p7 n7 b.b.d.a.a]:=e.ad [1,2] [1,2,3,4,5];refine ⟨jL kE e0,hO 4 (oo rfl rfl (ql e (jN JO)) ?_)⟩;rintro _ w4 ⟨b5,rfl,e⟩;have e0:Bx w w4 Z G [.box b2 69 (cW b p4 n4 p5 n5 p6 n6 p7 n7).toArray,.box b1 52 (cG c p1 n1 p2 n2 p3 n3).toArray] [.l p1 n1 c.b,.l p4 n4 b.c,.l p5 n5 b.b.a,.l p6 n6 b.b.d.b.a,.l p7 n7 b.b.d.a.a]:=e.ad [2,3] [1,2,3,4,5];refine ⟨jL kE e0,hO 5 (os rfl rfl (mQ e 0 (cR b p5 n5 p6 n6 p7 n7) rfl JO rfl rfl) fun w5 e=>?_)⟩;have e0:Bx w w5 Z G [.box b2 69 (cW b p4 n4 p5 n5 p6 n6 p7 n7).toArray,.box b1 52 (cG c p1 n1 p2 n2 p3 n3).toArray] [.l p1 n1 c.b,.l p4 n4 b.c,.l p5 n5 b.b.a,.l p6 n6 b.b.d.b.a,.l p7 n7 b.b.d.a.a]:=e.ad [2,3] [1,2,3,4,5];exact ⟨jL kE e0,hO 6 (vg rfl rfl (q9 rfl) (jL kE e0) (hD (hJ _ _ ⟨b5,a8,c8,q8,jA,e.ad [1,0,2,3] [0,1,2,3,4,5]⟩)))⟩
   · rintro _ w3 ⟨b5,rfl,e⟩;have e0:Bx w w3 Z G [.box b2 69 (cW b p4 n4 p5 n5 p6 n6 p7 n7).toArray,.box b1 52 (cG c p1 n1 p2 n2 p3 n3).toArray] [.l p1 n1 c.b,.l p4 n4 b.c,.l p5 n5 b.b.a,.l p6 n6 b.b.d.b.a,.l p7 n7 b.b.d.a.a]:=e.ad [1,2] [0,1,2,3,4];refine ⟨jL kE e0,hO 3 (oc rfl rfl (ec (vT func81) rfl) (OX hp ho hm (e.pr [] [0,1,2] [1] rfl)) ?_)⟩;rintro _ w4 ⟨a8,c8,q8,rfl,hK⟩;have hL0:=e.uo.size;replace e:=e.cn [] [0,1,2] hK;replace e:=e.rb 0 w.heap.size rfl hL0;clear hK;have e0:Bx w w4 Z G [.box b2 69 (cW b p4 n4 p5 n5 p6 n6 p7 n7).toArray,.box b1 52 (cG c p1 n1 p2 n2 p3 n3).toArray] [.l p1 n1 c.b,.l p4 n4 b.c,.l p5 n5 b.b.a,.l p6 n6 b.b.d.b.a,.l p7 n7 b.b.d.a.a]:=e.ad [2,3] [1,2,3,4,5];refine ⟨jL kE e0,hO 5 (os rfl rfl (mQ e 1 (cR b p5 n5 p6 n6 p7 n7) rfl JO rfl rfl) fun w5 e=>?_)⟩;have e0:Bx w w5 Z G [.box b2 69 (cW b p4 n4 p5 n5 p6 n6 p7 n7).toArray,.box b1 52 (cG c p1 n1 p2 n2 p3 n3).toArray] [.l p1 n1 c.b,.l p4 n4 b.c,.l p5 n5 b.b.a,.l p6 n6 b.b.d.b.a,.l p7 n7 b.b.d.a.a]:=e.ad [2,3] [1,2,3,4,5];exact ⟨jL kE e0,hO 6 (vg rfl rfl (q9 rfl) (jL kE e0) (hD (hJ _ _ ⟨b5,a8,c8,q8,jA,e.ad [0,1,2,3] [0,1,2,3,4,5]⟩)))⟩
 clear e hp hm ho;rintro f w3 ⟨b5,a8,c8,q8,hf,e⟩;obtain ⟨g,rfl⟩:=lg _ _ hf;clear hf;have hkk:b.b.b=1\/b.b.b=2\/b.b.b=3\/b.b.b=4\/b.b.b=5:=by rcases hkd with q | q | q | q <;> omega
 have hkd2:=hkd;clear hkd;refine tV (qQ (fun f w'=>∃ q:Bool,decide (b.b.b=3)=q/\Has f [(7,.bool q),(2,Pt b1),(5,Pt b5),(6,.slice a8 (mW m.toNat).length c8)]/\Bx w w' Z G [.own w.heap.size a8 c8 3 (Rp.sz Int) q8,.box b5 67 (cR b p5 n5 p6 n6 p7 n7).toArray,.box b2 69 (cW b p4 n4 p5 n5 p6 n6 p7 n7).toArray,.box b1 52 (cG c p1 n1 p2 n2 p3 n3).toArray] [.els q8 (mW m.toNat),.l p1 n1 c.b,.l p4 n4 b.c,.l p5 n5 b.b.a,.l p6 n6 b.b.d.b.a,.l p7 n7 b.b.d.a.a]) (fun J hJ=>?_) ?_)
 · rcases hkk with h | h | h | h | h <;> (refine lU e ?_;exact hJ _ _ ⟨_,by first | exact sP (by omega)|exact sS (by omega),jA,e⟩)
 clear e;rintro f w3 ⟨qc,hqc,hf,e⟩;obtain ⟨g,rfl⟩:=lg _ _ hf;clear hf;refine tV (qQ (fun f w'=>∃ q:Bool,decide (b.b.b=2\/b.b.b=4\/b.b.b=5)=q/\Has f [(8,.bool q),(7,.bool qc),(2,Pt b1),(5,Pt b5),(6,.slice a8 (mW m.toNat).length c8)]/\Bx w w' Z G [.own w.heap.size a8 c8 3 (Rp.sz Int) q8,.box b5 67 (cR b p5 n5 p6 n6 p7 n7).toArray,.box b2 69 (cW b p4 n4 p5 n5 p6 n6 p7 n7).toArray,.box b1 52 (cG c p1 n1 p2 n2 p3 n3).toArray] [.els q8 (mW m.toNat),.l p1 n1 c.b,.l p4 n4 b.c,.l p5 n5 b.b.a,.l p6 n6 b.b.d.b.a,.l p7 n7 b.b.d.a.a]) (fun J hJ=>?_) ?_)
 · rcases hkk with h | h | h | h | h <;> (refine lU e ?_;exact hJ _ _ ⟨_,by first | exact sP (by omega)|exact sS (by omega),jA,e⟩)
 clear e;rintro f w3 ⟨qa,hqa,hf,e⟩;obtain ⟨g,rfl⟩:=lg _ _ hf;clear hf;refine tV (Ro e [(86,.bool false),(2,Pt b1),(5,Pt b5),(6,.slice a8 (mW m.toNat).length c8)] (fun J hJ=>?_) fun g w3 e=>?_)
 · obtain hq | hq | hq | hq:=hkd2
   · obtain rfl:qc=false:=by rw [<-hqc];exact sS (by omega)
     obtain rfl:qa=false:=by rw [<-hqa];exact sS (by omega)
     obtain ⟨h0,h1,h2,h3,-⟩:=hq;clear hkk hqc hqa;refine lU e ?_;exact hJ jA e
   case' inr.inl=>have hq:(b.b.b=2\/b.b.b=4\/b.b.b=5)/\(0<=b.b.A/\b.b.A < m)/\b.b.N=0/\b.b.a.length=0:=⟨.inl hq.1,hq.2.1,hq.2.2.1,hq.2.2.2.1⟩
   case' inr.inr.inr=>have hq:(b.b.b=2\/b.b.b=4\/b.b.b=5)/\(0<=b.b.A/\b.b.A < m)/\b.b.N=0/\b.b.a.length=0:=⟨.inr hq.1,hq.2.1,hq.2.2.1,hq.2.2.2.1⟩
   case inr.inr.inl=>
     obtain rfl:qc=true:=by rw [<-hqc];exact sP (by omega)
     obtain rfl:qa=false:=by rw [<-hqa];exact sS (by omega)
     obtain ⟨h0,h1,h2,h3,-⟩:=hq;clear hkk hqc hqa;refine lU e ?_;exact hJ jA e
   all_goals
     obtain rfl:qc=false:=by rw [<-hqc];exact sS (by omega)
     obtain rfl:qa=true:=by rw [<-hqa];exact sP (by omega)
     obtain ⟨h0,h1,h2,h3⟩:=hq;clear hkk hqc hqa;refine lU e ?_;refine Ia e (ec MI rfl) (G5 (n:=m.toNat) (sP ⟨h1.1,by omega⟩) (Pre.all (Dc:=[.l a8 c8 (mW m.toNat)]) (vv (e.vw 0 0 rfl rfl).all Js))) fun w8 e=>lU e ?_;exact hJ jA e
 clear hqc hqa;have hl:=(e.dl 3 rfl).bd;refine lU e ?_;refine Ro e [(2,Pt b1),(5,Pt b5),(6,.slice a8 (mW m.toNat).length c8)] (fun J hJ=>?_) fun g w3 e=>?_
 · refine oN (MW e (fun i=>[(90,V i),(88,.slice p5 b.b.a.length n5),(89,V b.b.a.length),(2,Pt b1),(5,Pt b5),(6,.slice a8 (mW m.toNat).length c8)]) b.b.a.length jA (fun g i w4 hx e K hK=>?_) fun g w4 e K=>?_)
   · clear hkd2 hkk;obtain ⟨v,hx2⟩:=lZ (l:=b.b.a) hx;refine lU e ?_;refine oN (lU e ?_);refine jJ (kR underlying22 p9 rfl rfl rfl (e.dl 3 rfl) hx2) (jJ (kH underlying3 rfl rfl ((uY (ds:=[V v]) (e.dl 3 rfl) hx2 (fun _ h=>h)) 0 _ rfl)) (lU e ?_));refine Ia e (ec MI rfl) (G5 (n:=m.toNat) (sP (hva v (vS hx2))) (Pre.all (Dc:=[.l a8 c8 (mW m.toNat)]) (vv (e.vw 0 0 rfl rfl).all Js))) fun w8 e=>lU e ?_;refine jJ (lT rfl rfl) (lU e ?_);exact hK jA e
   · refine lU e ?_;exact uw (hJ jA e)
 refine lU e ?_;refine oN ?_;clear hva hl;obtain ⟨h0,-,-,-,h1,h2⟩|⟨h0,-,-,-,h1,h2⟩|⟨h0,-,-,-,h1,h2⟩|⟨h0,-,-,-,h1,h2⟩:=hkd2
 · clear hkk;refine lU e ?_;refine jJ (kZ (cG c p1 n1 p2 n2 p3 n3) underlying52 zK rfl (e.bk 3 rfl)) (lU e ?_);refine jJ (Go.Fw.yR 0 underlying65 oK rfl rfl rfl (by decide)) (lU e ?_);refine jJ (lK [V b.b.d.b.b,.slice p6 b.b.d.b.a.length n6] underlying64 rfl oK rfl rfl (Cells.part (e.bk 1 rfl).cells (o2:=4) rfl)) (lU e ?_);refine Ia e (ec QB rfl) (Lp (m:=m.toNat) (k:=0) (by rw [hmm];exact h1) hB (Pre.all (Dc:=[.l p1 n1 c.b,.l p6 n6 b.b.d.b.a,.l a8 c8 (mW m.toNat)]) (vv (e.dl 1 rfl).all (vv (e.dl 4 rfl).all (vv (e.vw 0 0 rfl rfl).all Js))))) fun w8 e=>lU e ?_;refine jJ (Go.Fw.yR 1 underlying65 oK rfl rfl rfl (by decide)) (lU e ?_);refine jJ (lK [V b.b.d.a.b,.slice p7 b.b.d.a.a.length n7] underlying64 rfl oK rfl rfl (Cells.part (e.bk 1 rfl).cells (o2:=6) rfl)) (lU e ?_);refine Ia e (ec Sw rfl) (LP (.inl ⟨by rw [h2],by rw [h2];rfl,rfl⟩) (e.pr [] [0,1,2,3] [] rfl)) fun w8 e=>lU e ?_;exact lG (jK rfl (mI rfl) ⟨rfl,e.ad [] []⟩)
 · clear hkk;refine lU e ?_;refine jJ (kZ (cG c p1 n1 p2 n2 p3 n3) underlying52 zK rfl (e.bk 3 rfl)) (lU e ?_);refine jJ (Go.Fw.yR 0 underlying65 oK rfl rfl rfl (by decide)) (lU e ?_);refine jJ (lK [V b.b.d.b.b,.slice p6 b.b.d.b.a.length n6] underlying64 rfl oK rfl rfl (Cells.part (e.bk 1 rfl).cells (o2:=4) rfl)) (lU e ?_);refine Ia e (ec QB rfl) (Lp (m:=m.toNat) (k:=0) (by rw [hmm];exact h1) hB (Pre.all (Dc:=[.l p1 n1 c.b,.l p6 n6 b.b.d.b.a,.l a8 c8 (mW m.toNat)]) (vv (e.dl 1 rfl).all (vv (e.dl 4 rfl).all (vv (e.vw 0 0 rfl rfl).all Js))))) fun w8 e=>lU e ?_;refine jJ (kZ (cG c p1 n1 p2 n2 p3 n3) underlying52 zK rfl (e.bk 3 rfl)) (lU e ?_);refine jJ (Go.Fw.yR 1 underlying65 oK rfl rfl rfl (by decide)) (lU e ?_);refine jJ (lK [V b.b.d.a.b,.slice p7 b.b.d.a.a.length n7] underlying64 rfl oK rfl rfl (Cells.part (e.bk 1 rfl).cells (o2:=6) rfl)) (lU e ?_);refine Ia e (ec QB rfl) (Lp (m:=m.toNat) (k:=0) (by rw [hmm];exact h2) hB (Pre.all (Dc:=[.l p1 n1 c.b,.l p7 n7 b.b.d.a.a,.l a8 c8 (mW m.toNat)]) (vv (e.dl 1 rfl).all (vv (e.dl 5 rfl).all (vv (e.vw 0 0 rfl rfl).all Js))))) fun w8 e=>lU e ?_;exact lG (jK rfl (mI rfl) ⟨rfl,e.ad [] []⟩)
 · clear hkk;refine lU e ?_;refine jJ (kZ (cG c p1 n1 p2 n2 p3 n3) underlying52 zK rfl (e.bk 3 rfl)) (lU e ?_);refine jJ (Go.Fw.yR 0 underlying65 oK rfl rfl rfl (by decide)) (lU e ?_);refine jJ (lK [V b.b.d.b.b,.slice p6 b.b.d.b.a.length n6] underlying64 rfl oK rfl rfl (Cells.part (e.bk 1 rfl).cells (o2:=4) rfl)) (lU e ?_);refine Ia e (ec QB rfl) (Lp (m:=m.toNat) (k:=1) (by rw [hmm];exact h1) hB (Pre.all (Dc:=[.l p1 n1 c.b,.l p6 n6 b.b.d.b.a,.l a8 c8 (mW m.toNat)]) (vv (e.dl 1 rfl).all (vv (e.dl 4 rfl).all (vv (e.vw 0 0 rfl rfl).all Js))))) fun w8 e=>lU e ?_;obtain h2 | h2:=h2
   · refine jJ (Go.Fw.yR 1 underlying65 oK rfl rfl rfl (by decide)) ?_;refine lU e ?_;refine jJ (lK [V b.b.d.a.b,.slice p7 b.b.d.a.a.length n7] underlying64 rfl oK rfl rfl (Cells.part (e.bk 1 rfl).cells (o2:=6) rfl)) (lU e ?_);refine Ia e (ec Sw rfl) (LP (.inl ⟨by rw [h2],by rw [h2];rfl,rfl⟩) (e.pr [] [0,1,2,3] [] rfl)) fun w8 e=>lU e ?_;exact lG (jK rfl (mI rfl) ⟨rfl,e.ad [] []⟩)
   · refine jJ (Go.Fw.yR 1 underlying65 oK rfl rfl rfl (by decide)) ?_;refine lU e ?_;refine jJ (lK [V b.b.d.a.b,.slice p7 b.b.d.a.a.length n7] underlying64 rfl oK rfl rfl (Cells.part (e.bk 1 rfl).cells (o2:=6) rfl)) (lU e ?_);refine Ia e (ec Sw rfl) (LP (.inr ⟨h2.1,rfl⟩) (e.pr [] [0,1,2,3] [] rfl)) fun w8 e=>lU e ?_;refine jJ (kZ (cG c p1 n1 p2 n2 p3 n3) underlying52 zK rfl (e.bk 3 rfl)) (lU e ?_);refine jJ (Go.Fw.yR 1 underlying65 oK rfl rfl rfl (by decide)) (lU e ?_);refine jJ (lK [V b.b.d.a.b,.slice p7 b.b.d.a.a.length n7] underlying64 rfl oK rfl rfl (Cells.part (e.bk 1 rfl).cells (o2:=6) rfl)) (lU e ?_);refine Ia e (ec QB rfl) (Lp (m:=m.toNat) (k:=1) (by rw [hmm];exact h2) hB (Pre.all (Dc:=[.l p1 n1 c.b,.l p7 n7 b.b.d.a.a,.l a8 c8 (mW m.toNat)]) (vv (e.dl 1 rfl).all (vv (e.dl 5 rfl).all (vv (e.vw 0 0 rfl rfl).all Js))))) fun w8 e=>lU e ?_;exact lG (jK rfl (mI rfl) ⟨rfl,e.ad [] []⟩)
 · clear hkk;obtain h0 | h0:=h0
   all_goals
     refine lU e ?_;refine jJ (Go.Fw.yR 0 underlying65 oK rfl rfl rfl (by decide)) (lU e ?_);refine jJ (lK [V b.b.d.b.b,.slice p6 b.b.d.b.a.length n6] underlying64 rfl oK rfl rfl (Cells.part (e.bk 1 rfl).cells (o2:=4) rfl)) (lU e ?_);refine Ia e (ec Sw rfl) (LP (.inl ⟨by rw [h1],by rw [h1];rfl,rfl⟩) (e.pr [] [0,1,2,3] [] rfl)) fun w8 e=>lU e ?_;refine jJ (Go.Fw.yR 1 underlying65 oK rfl rfl rfl (by decide)) (lU e ?_);refine jJ (lK [V b.b.d.a.b,.slice p7 b.b.d.a.a.length n7] underlying64 rfl oK rfl rfl (Cells.part (e.bk 1 rfl).cells (o2:=6) rfl)) (lU e ?_);refine Ia e (ec Sw rfl) (LP (.inl ⟨by rw [h2],by rw [h2];rfl,rfl⟩) (e.pr [] [0,1,2,3] [] rfl)) fun w8 e=>lU e ?_;exact lG (jK rfl (mI rfl) ⟨rfl,e.ad [] []⟩)
theorem Ki:TI prog 107 (.agg #[V 0,V 0,V 0]) 3 24:=nY (by kernel_rfl)
theorem XR {c:nI}{fn:Nat}{Ps:List Nat}{p1 p2 p3:OA}{n1 n2 n3:Nat}(h:WT Ps fn c)(hf8:fn < 8){w:World}{Z:Nat->Prop}(hP:Pre w Z [] [.l p1 n1 c.b,.l p2 n2 c.d,.l p3 n3 c.c]):Calls prog 60 #[.agg (cG c p1 n1 p2 n2 p3 n3).toArray] w (rV fun v w'=>v=.bool true/\Bx w w' Z (mD []) [] []):=by
 have e:=hP.bx;clear hP;generalize hG:mD []=G at e ⊢;refine cf func60 rfl (tV (nU (qZ e (rD rfl) fun w1 b1 e=>?_)));have e:Bx w w1 Z G [.box b1 52 (cG c p1 n1 p2 n2 p3 n3).toArray] [.l p1 n1 c.b,.l p2 n2 c.d,.l p3 n3 c.c]:=e;obtain ⟨b0,hb0,hbp⟩:=h.p0;obtain ⟨hpa,hbl,-,-,hct,hol,hoo,hop,-⟩:=h;have hcl:c.d.length=1:=by rw [hct];rfl
 refine lU e ?_;refine Ro e [(37,.bool false),(1,Pt b1)] (fun J hJ=>?_) fun g w2 e=>?_
 · obtain ⟨cs,hcs,e2⟩:=e.nm 0 rfl hb0;obtain ⟨q1,q2,q3,q4,q5,q6,q7,q8,rfl,-⟩:=lN.out hcs;clear e hcs hct hoo hop;refine EM e2 [] fun e=>?_;clear e2;refine Uc e ?_;refine qP 17 e rfl rfl (fun u=>kR underlying48 CS rfl rfl rfl (u.dl 1 rfl) hb0) (Uc e ?_);refine qP 19 e rfl rfl (fun u=>kH underlying3 rfl rfl ((u.dc 0 rfl) 0 _ rfl)) (Uc e ?_);exact hD (hJ jA (e.ad [0] [1,2,3]))
 refine lU e ?_;refine Ro e [(1,Pt b1)] (fun J hJ=>?_) fun g w3 e=>?_
 · refine oN (MW e (fun i=>[(41,V i),(39,.slice p2 c.d.length n2),(40,V c.d.length),(1,Pt b1)]) 1 jA (fun g i w3 hx e K hK=>?_) fun g w3 e K=>?_)
   · obtain rfl:i=0:=by omega
     have hx2:c.d[0]?=some ⟨-1,-1,fn⟩:=by rw [hct];rfl
     clear hct hoo hop hb0 hbp;refine lU e ?_;refine oN (lU e ?_);refine jJ (kR underlying49 Ki rfl rfl rfl (e.dl 1 rfl) hx2) (jJ (RG [V (-1),V (-1),V (fn:Int)] underlying107 Ki rfl (e.dl 1 rfl) hx2) (qZ e (jN Ki) fun w4 b4 e=>lU e ?_));refine kV (mQ e 0 [V (-1),V (-1),V (fn:Int)] rfl Ki rfl rfl) fun w5 e=>lU e ?_;refine jJ (lT rfl rfl) (lU e ?_);exact hK jA (e.ad [1] [0,1,2])
   · refine lU e ?_;exact uw (hJ jA e)
 refine lU e ?_;refine Ro e [] (fun J hJ=>?_) fun g w4 e=>?_
 · refine oN (MW e (fun i=>[(97,V i),(95,.slice p3 c.c.length n3),(96,V c.c.length),(1,Pt b1)]) c.c.length jA (fun g i w4 hx e K hK=>?_) fun g w4 e K=>?_)
   · obtain ⟨x,hx2⟩:=lZ (l:=c.c) hx;have hxo:=hoo x (vS hx2);refine lU e ?_;refine Ro e [(97,V i),(95,.slice p3 c.c.length n3),(96,V c.c.length),(1,Pt b1)] (fun J hJ=>?_) fun g w5 e=>?_
     · clear hK hct;refine oN (lU e ?_);refine jJ (kR underlying50 Ql rfl rfl rfl (e.dl 2 rfl) hx2) (jJ (RG [V x.c,V x.f,V x.a] underlying57 Ql rfl (e.dl 2 rfl) hx2) (qZ e (jN Ql) fun w5 b5 e=>lU e ?_));refine kV (mQ e 0 [V x.c,V x.f,V x.a] rfl Ql rfl rfl) fun w6 e=>lU e ?_;refine oN (MW e (fun k=>[(7,V k),(5,V i),(6,Pt b5),(97,V i),(95,.slice p3 c.c.length n3),(96,V c.c.length),(1,Pt b1)]) i jA (fun g k w7 hkx e K hK=>?_) fun g w7 e K=>?_)
       · obtain ⟨y,hy⟩:=lZ (l:=c.c) (Nat.lt_trans hkx hx);have hyo:=hoo y (vS hy);have hyx:=(List.pairwise_iff_getElem.1 hop) k i (Nat.lt_trans hkx hx) hx hkx;rw [(List.getElem?_eq_some_iff.1 hy).2,(List.getElem?_eq_some_iff.1 hx2).2] at hyx;clear hx2 hJ hoo hop hb0 hbp;refine lU e ?_;refine oN (lU e ?_);refine Ro e [(157,.bool false),(7,V k),(5,V i),(6,Pt b5),(97,V i),(95,.slice p3 c.c.length n3),(96,V c.c.length),(1,Pt b1)] (fun J hJ=>?_) fun g w8 e=>?_
         · refine EM e [] fun e=>?_;refine Uc e ?_;refine qP 3 e rfl rfl (fun u=>kR underlying50 Ql rfl rfl rfl (u.dl 2 rfl) hy) (Uc e ?_);refine qP 5 e rfl rfl (fun u=>kH underlying3 rfl rfl ((uY (ds:=[V y.c,V y.f,V y.a]) (u.dl 2 rfl) hy (fun _ h=>h)) 0 _ rfl)) (Uc e ?_);refine qP 13 e rfl rfl (fun u=>kR underlying50 Ql rfl rfl rfl (u.dl 2 rfl) hy) (Uc e ?_);refine qP 15 e rfl rfl (fun u=>kH underlying3 rfl rfl ((uY (ds:=[V y.c,V y.f,V y.a]) (u.dl 2 rfl) hy (fun _ h=>h)) 1 _ rfl)) (Uc e ?_);exact hD (hJ jA e)
         refine lU e ?_;refine jJ (mg rfl rfl) ?_;rw [l8 (by omega) (by omega)];refine lU e ?_;exact hK jA e
       · refine lU e ?_;exact uw (hJ jA (e.ad [1] [0,1,2]))
     refine lU e ?_;refine jJ (lT rfl rfl) (lU e ?_);exact hK jA e
   · refine lU e ?_;exact uw (hJ kE e)
 refine lU e ?_;exact lG (jK rfl (mI rfl) ⟨rfl,e.ad [] []⟩)
theorem aaF {c:nI}{fn:Nat}{Ps:List Nat}{p1 p2 p3:OA}{n1 n2 n3:Nat}(h:WT Ps fn c)(hf8:fn < 8)(hPs:Ps.length<=8/\∀ x ∈ Ps,x<=4){w:World}{Z:Nat->Prop}(hP:Pre w Z [] [.l p1 n1 c.b,.l p2 n2 c.d,.l p3 n3 c.c]):Calls prog 31 #[.agg (cG c p1 n1 p2 n2 p3 n3).toArray] w (rV fun v w'=>v=V 0/\Bx w w' Z (mD []) [] []):=by
 have e:=hP.bx;clear hP;generalize hG:mD []=G at e ⊢;refine cf func31 rfl (tV (nU (qZ e (rD rfl) fun w1 b1 e=>?_)));have e:Bx w w1 Z G [.box b1 52 (cG c p1 n1 p2 n2 p3 n3).toArray] [.l p1 n1 c.b,.l p2 n2 c.d,.l p3 n3 c.c]:=e;have hh:=h;obtain ⟨-,hbl,hso,-,hct,hol,-,-,hbk⟩:=h;have hcl:c.d.length=1:=by rw [hct];rfl
 have hB:∀ x ∈ c.b,x.a<=999:=fun x hx=>(hbk x hx).1.2;clear hct;refine lU e ?_;refine jJ (kZ (cG c p1 n1 p2 n2 p3 n3) underlying52 zK rfl (e.bk 0 rfl)) (lU e ?_);refine Ia e (ec (vT func42) rfl) (adW hso (e.pr [] [0] [0] rfl)) fun w2 e=>lU e ?_;refine jJ (kZ (cG c p1 n1 p2 n2 p3 n3) underlying52 zK rfl (e.bk 0 rfl)) (lU e ?_);refine sc (ec (vT func60) rfl) (XR hh hf8 (e.pr [] [0] [0,1,2] rfl)) ?_;rintro _ w2 ⟨rfl,hK⟩;replace e:=e.ext hK.ex;clear hK hh;refine lU e ?_;have hl:=(e.dl 0 rfl).bd;refine Ro e [] (fun J hJ=>?_) fun g w4 e=>?_
 · refine oN (MW e (fun i=>[(32,V i),(30,.slice p1 c.b.length n1),(31,V c.b.length),(1,Pt b1)]) c.b.length jA (fun g i w4 hx e K hK=>?_) fun g w4 e K=>?_)
   · obtain ⟨x,hx2⟩:=lZ (l:=c.b) hx;obtain ⟨hxp,m,hm,ho,hT⟩:=hbk x (vS hx2);obtain ⟨cs,hcs,e⟩:=e.nm 0 rfl hx2;obtain ⟨a1,c1,a2,c2,a3,c3,a4,c4,rfl,r1,r2,r3,r4⟩:=lN.out hcs;replace e:=e.ko (d:=.l a1 c1 x.c) r1;replace e:=e.ko (d:=.l a2 c2 x.b.a) r2;replace e:=e.ko (d:=.l a3 c3 x.b.d.b.a) r3;replace e:=e.ko (d:=.l a4 c4 x.b.d.a.a) r4;clear r1 r2 r3 r4 hcs;refine lU e ?_;refine oN (lU e ?_);refine jJ (kR underlying48 CS rfl rfl rfl (e.dl 5 rfl) hx2) (jJ (lK (cW x a1 c1 a2 c2 a3 c3 a4 c4) underlying69 rfl CS rfl rfl (e.dc 4 rfl)) (qZ e (jN CS) fun w5 b5 e=>kV (mQ e 0 (cW x a1 c1 a2 c2 a3 c3 a4 c4) rfl CS rfl rfl) fun w6 e=>lU e ?_));refine jJ (kZ (cG c p1 n1 p2 n2 p3 n3) underlying52 zK rfl (e.bk 1 rfl)) (lU e ?_);refine jJ (kZ (cW x a1 c1 a2 c2 a3 c3 a4 c4) underlying69 CS rfl (e.bk 0 rfl)) (lU e ?_);refine Ia e (ec (vT func61) rfl) (adS hxp ho hm hcl (e.pr [] [0,1] [3] rfl)) fun w7 e=>lU e ?_;refine jJ (kZ (cG c p1 n1 p2 n2 p3 n3) underlying52 zK rfl (e.bk 1 rfl)) (lU e ?_);refine jJ (kZ (cW x a1 c1 a2 c2 a3 c3 a4 c4) underlying69 CS rfl (e.bk 0 rfl)) (lU e ?_);refine Ia e (ec (vT func62) rfl) (aaB hxp ho hm hT hPs hB (e.pr [] [0,1] [5,3,2,1,0] rfl)) fun w8 e=>lU e ?_;refine jJ (lT rfl rfl) (lU e ?_);exact hK jA (e.ad [1] [5,6,7])
   · refine lU e ?_;exact uw (hJ kE e)
 refine lU e ?_;exact lG (jK rfl (mI rfl) ⟨rfl,e.ad [] []⟩)
theorem OZ (fu:Nat):OP (Du fu):=by
 intro w Z m p n r0 hP hM;unfold Du at hM;split at hM
 case isFalse=>cases hM
 rename_i hm;cases hM;obtain ⟨h8,hC⟩:=hm;obtain ⟨Ps,hps⟩:∃ Ps,Ps=m.b.map fun c=>c.a.toNat:=⟨_,rfl⟩;rw [<-hps] at hC;have hPs:Ps.length<=8/\∀ x ∈ Ps,x<=4:=by subst hps;refine ⟨by rw [Dg];exact h8,fun x hx=>?_⟩;obtain ⟨c,hc,rfl⟩:=List.mem_map.1 hx;obtain ⟨k,hk⟩:=QK hc;have:=(hC k c hk).pa;omega
 have e:=hP.bx;clear hP;generalize hG:mD []=G at e ⊢;refine cf func16 rfl (tV (nU (qZ e (rD rfl) fun w1 b1 e=>?_)));have e:Bx w w1 Z G [.box b1 36 #[.slice p m.b.length n]] [.l p n m.b]:=e;refine lU e ?_;refine Ro e [(1,Pt b1)] (fun J hJ=>?_) fun g w4 e=>?_
 · refine oN (MW e (fun i=>[(20,V i),(18,.slice p m.b.length n),(19,V m.b.length),(1,Pt b1)]) m.b.length jA (fun g i w4 hx e K hK=>?_) fun g w4 e K=>?_)
   · obtain ⟨x,hx2⟩:=lZ (l:=m.b) hx;have hc:=hC i x hx2;obtain ⟨cs,hcs,e⟩:=e.nm 0 rfl hx2;obtain ⟨a1,c1,a2,c2,a3,c3,rfl,r1,r2,r3⟩:=nI.out hcs;replace e:=e.ko (d:=.l a1 c1 x.b) r1;replace e:=e.ko (d:=.l a2 c2 x.d) r2;replace e:=e.ko (d:=.l a3 c3 x.c) r3;clear r1 r2 r3 hcs;refine lU e ?_;refine oN (lU e ?_);refine jJ (kR underlying34 zK rfl rfl rfl (e.dl 4 rfl) hx2) (jJ (lK (cG x a1 c1 a2 c2 a3 c3) underlying52 rfl zK rfl rfl (e.dc 3 rfl)) (qZ e (jN zK) fun w5 b5 e=>kV (mQ e 0 (cG x a1 c1 a2 c2 a3 c3) rfl zK rfl rfl) fun w6 e=>lU e ?_));refine jJ (kZ (cG x a1 c1 a2 c2 a3 c3) underlying52 zK rfl (e.bk 0 rfl)) (lU e ?_);refine Ia e (ec (vT func31) rfl) (aaF hc (by omega) hPs (e.pr [] [0,1] [2,1,0] rfl)) fun w7 e=>lU e ?_;refine jJ (lT rfl rfl) (lU e ?_);exact hK jA (e.ad [1] [4])
   · refine lU e ?_;exact uw (hJ jA e)
 refine lU e ?_;refine Ro e [] (fun J hJ=>?_) fun g w4 e=>?_
 · refine oN (MW e (fun i=>[(33,V i),(31,.slice p m.b.length n),(32,V m.b.length),(1,Pt b1)]) m.b.length jA (fun g i w4 hx e K hK=>?_) fun g w4 e K=>?_)
   · refine lU e ?_;refine Ro e [(33,V i),(31,.slice p m.b.length n),(32,V m.b.length),(1,Pt b1)] (fun J hJ=>?_) fun g w5 e=>?_
     · clear hK;obtain ⟨x,hx2⟩:=lZ (l:=m.b) hx;have hc:=hC i x hx2;obtain ⟨cs,hcs,e⟩:=e.nm 0 rfl hx2;obtain ⟨a1,c1,a2,c2,a3,c3,rfl,r1,r2,r3⟩:=nI.out hcs;replace e:=e.ko (d:=.l a1 c1 x.b) r1;replace e:=e.ko (d:=.l a2 c2 x.d) r2;replace e:=e.ko (d:=.l a3 c3 x.c) r3;clear r1 r2 r3 hcs;refine oN (lU e ?_);refine jJ (kR underlying34 zK rfl rfl rfl (e.dl 4 rfl) hx2) (jJ (lK (cG x a1 c1 a2 c2 a3 c3) underlying52 rfl zK rfl rfl (e.dc 3 rfl)) (qZ e (jN zK) fun w5 b7 e=>lU e ?_));refine kV (mQ e 0 (cG x a1 c1 a2 c2 a3 c3) rfl zK rfl rfl) fun w6 e=>?_;have e:Bx w w6 Z G [.box b7 52 (cG x a1 c1 a2 c2 a3 c3).toArray,.box b1 36 #[.slice p m.b.length n]] [.l a2 c2 x.d,.l a1 c1 x.b,.l p n m.b]:=e.ad [0,1] [1,2,4];have hcl:x.d.length=1:=by rw [hc.ct];rfl
       refine lU e ?_;refine Ro e [(6,V i),(7,Pt b7),(33,V i),(31,.slice p m.b.length n),(32,V m.b.length),(1,Pt b1)] (fun J hJ=>?_) fun g w7 e=>?_
       · refine oN (MW e (fun k=>[(41,V k),(39,.slice a2 x.d.length c2),(40,V x.d.length),(6,V i),(7,Pt b7),(33,V i),(31,.slice p m.b.length n),(32,V m.b.length),(1,Pt b1)]) 1 jA (fun g k w3 hkx e K hK=>?_) fun g w3 e K=>?_)
         · obtain rfl:k=0:=by omega
           have hy:x.d[0]?=some ⟨-1,-1,i⟩:=by rw [hc.ct];rfl
           refine lU e ?_;refine oN (lU e ?_);refine jJ (kR underlying49 Ki rfl rfl rfl (e.dl 0 rfl) hy) (jJ (RG [V (-1),V (-1),V (i:Int)] underlying107 Ki rfl (e.dl 0 rfl) hy) (qZ e (jN Ki) fun w4 b4 e=>lU e ?_));refine kV (mQ e 0 [V (-1),V (-1),V (i:Int)] rfl Ki rfl rfl) fun w5 e=>lU e ?_;refine jJ (lT rfl rfl) (lU e ?_);exact hK jA (e.ad [1,2] [0,1,2])
         · refine lU e ?_;exact uw (hJ jA e)
       have hl:=(e.dl 1 rfl).bd;refine lU e ?_;refine oN (MW e (fun k=>[(66,V k),(64,.slice a1 x.b.length c1),(65,V x.b.length),(6,V i),(7,Pt b7),(33,V i),(31,.slice p m.b.length n),(32,V m.b.length),(1,Pt b1)]) x.b.length jA (fun g k w3 hkx e K hK=>?_) fun g w3 e K=>?_)
       · obtain ⟨y,hy⟩:=lZ (l:=x.b) hkx;obtain ⟨-,m2,-,-,hT⟩:=hc.bk y (vS hy);obtain ⟨cs,hcs,e⟩:=e.nm 1 rfl hy;obtain ⟨q1,k1,q2,k2,q3,k3,q4,k4,rfl,-⟩:=lN.out hcs;clear hcs;refine lU e ?_;refine oN (lU e ?_);refine jJ (kR underlying48 CS rfl rfl rfl (e.dl 2 rfl) hy) (jJ (lK (cW y q1 k1 q2 k2 q3 k3 q4 k4) underlying69 rfl CS rfl rfl (e.dc 0 rfl)) (qZ e (jN CS) fun w5 b11 e=>kV (mQ e 0 (cW y q1 k1 q2 k2 q3 k3 q4 k4) rfl CS rfl rfl) fun w6 e=>lU e ?_));refine jJ (lK (cR y q2 k2 q3 k3 q4 k4) underlying67 rfl JO rfl rfl (Cells.part (e.bk 0 rfl).cells (o2:=2) rfl)) (qZ e (jN JO) fun w7 b12 e=>kV (mQ e 0 (cR y q2 k2 q3 k3 q4 k4) rfl JO rfl rfl) fun w8 e=>lU e ?_);refine Ro e [(100,.bool false),(66,V k),(64,.slice a1 x.b.length c1),(65,V x.b.length),(6,V i),(7,Pt b7),(33,V i),(31,.slice p m.b.length n),(32,V m.b.length),(1,Pt b1)] (fun J hJ=>?_) fun g w8 e=>?_
         · clear hK hx;by_cases h3:y.b.b=3
           · obtain ⟨k',z,hN,hz,hzp⟩:∃ (k':Nat)(z:nI),y.b.N=(k':Int)/\m.b[k']?=some z/\z.a=y.b.a.length:=by
              subst hps;generalize y.b=T at hT h3;cases hT with
              | @call k ag e g h0 hk ha h j=>
               rw [zZ] at hk;cases hz:m.b[k.toNat]? with
               | none=>rw [hz] at hk;cases hk
               | some z=>
               rw [hz] at hk;simp only [Option.map_some,Dk] at hk;have:=(hC _ z hz).pa;exact ⟨k.toNat,z,by show k=_;omega,hz,by show z.a=(ag.length:Int);omega⟩
              | jump=>cases h3
              | branch=>cases h3
              | give=>cases h3
              | throw=>cases h3
             have hz2:=ku hz;obtain ⟨cs,hcs,e2⟩:=e.nm 3 rfl hz;obtain ⟨j1,l1,j2,l2,j3,l3,rfl,-⟩:=nI.out hcs;clear e hcs hc hT hy hx2;refine EM e2 [] fun e=>?_;clear e2;refine Uc e ?_;refine qP 23 e rfl rfl (fun u=>kR underlying34 zK rfl rfl hN (u.dl 4 rfl) hz) (Uc e ?_);refine qP 25 e rfl rfl (fun u=>kH underlying3 rfl rfl ((u.dc 0 rfl) 0 _ rfl)) (Uc e ?_);exact hD (hJ jA (e.ad [0,1,2,3] [1,2,3,4]))
           · have h6:y.b.b≠6:=by have:=(hT.kd hPs).2;intro h;rcases this with q | q | q | q <;> omega
             clear hc hT hy hx2;refine EM e [] fun e=>Uc e ?_;exact hD (hJ jA e)
         refine lU e ?_;refine jJ (lT rfl rfl) (lU e ?_);exact hK jA (e.ad [2,3] [1,2,3])
       · refine lU e ?_;exact uw (hJ jA (e.ad [1] [2]))
     refine lU e ?_;refine jJ (lT rfl rfl) (lU e ?_);exact hK jA e
   · refine lU e ?_;exact uw (hJ kE e)
 refine lU e ?_;exact lG (jK rfl (mI rfl) ⟨rfl,e.ad [] []⟩)
noncomputable section
def I8 (m:(List Int)->Option Bool):Prop:=∀ {c f}{d:(List Int)}{a b e},Pre c f [] [.l a b d]->m d=some e-> Calls prog 5 #[.slice a d.length b] c (rV fun v w=>v=.bool e/\Bx c w f (mD []) [] [])
def mY (fu:Nat)(b:nI):List iA→Nat→Int→Option (Ld (Int) (Bool))
 | [],_,a=>some (.go a)
 | e :: f,c,a=>
 if e.b=3 then
  if (b.c.length:Int)≤a then
   some (.out false)
  else
   (ix b.c a).bind fun d=>
   if ¬ [d.c,d.f,d.a]=[0,(c:Int),e.a] then
    some (.out false)
   else
    mY fu b f (c+1) (wr (a+1))
 else
  mY fu b f (c+1) a
def oJ (fu:Nat)(a:jW):List nI→Nat→Option (Ld (Unit) (Bool))
 | [],_=>some (.go ())
 | b :: e,c=>
 (ix a.c (c:Int)).bind fun f=>
 (mY fu b f 0 0).bind fun i=>i.el (fun d=>
 (ix a.a.b (c:Int)).bind fun h=>
 if d≠(b.c.length:Int) then
  some (.out false)
 else
  if b.a≠(h.a.length:Int) then
   some (.out false)
  else
   if (b.d.length:Int)≠1 then
    some (.out false)
   else
    oJ fu a e (c+1)
 ) (fun o=>some (.out o))
def wT (fu:Nat)(j:(List Int)):Option Bool:=(xG fu j).bind fun k=>jB k fun b h=>if (!h)=true then (yw fu).bind fun i=>some i else (vH fu b).bind fun k=>jB k fun a c=>if c≠0 then if c=5 then if (a.b.length:Int)=0 then (yw fu).bind fun d=>some d else some false else some false else (Du fu a).bind fun e=>if e≠0 then some false else if (a.b.length:Int)≠(b.a.b.length:Int) then some false else (oJ fu b a.b 0).bind fun k=>k.el (fun _=>(yw fu).bind fun f=>some f) (fun o=>some o)
theorem Ip (fu:Nat):I8 (wT fu):=by
 intro w0 bK x0 a9 aa r0 hP E;unfold wT at E;have b:=hP.bx;clear hP;generalize hG:mD []=G at b ⊢;refine QY func5 r (Nat.le_of_ble_eq_true r) (by kernel_rfl) ?_;refine tV (nU (jJ (lM r) (sN (tV (nU (jJ (vR r) ?_))))));obtain ⟨⟨a,aX⟩,h1,E⟩:=bs E;replace E:=pi E;have hc:=(LG fu) (b.pr [] [] [0] r)  h1;refine BN (jO (vT func9) r) hc ?_;clear hc;rintro _ w1 ⟨o,p,t,u,v,x,z,A,rfl,hK⟩;replace b:=b.cl [] [] r hK r;try dsimp only [pick,nth,List.cons_append,List.nil_append] at b
 refine jJ wY (jJ (kL r r) (jJ (kL r r) (o7 (ql b (jN zR)) ?_)));rintro _ w2 ⟨b2,rfl,b⟩;refine kV (QZ b 0 [.slice o a.a.a.length p,.slice t a.a.b.length u,.slice v a.c.length x,.slice z a.b.length A] r zR r r r r r (show _=#[.slice o a.a.a.length p,.slice t a.a.b.length u,.slice v a.c.length x,.slice z a.b.length A] from r)) ?_;intro w3 b;try dsimp only [List.set] at b
 refine jJ (lM r) (sN (tV (tV (nU (jJ (mh r) (jJ (EY r) (sN ?_)))))));obtain ⟨h4,E⟩|⟨h4,E⟩:=jI E
 ·refine jQ (congrArg Value.bool h4) (tV (nU ?_));obtain ⟨aY,h5,E⟩:=bs E;have hc:=(Ev fu) (b.pr [] [0] [] r)  h5;refine BN (jO (vT func10) r) hc ?_;clear hc;rintro _ w5 ⟨rfl,hK⟩;replace b:=b.cl [] [0] r hK r;try dsimp only [pick,nth,List.cons_append,List.nil_append] at b
  refine jJ (lM r) (sN (lG ?_));obtain rfl:=sm E;refine jK (P:=prog) (fn:=f5) r (mI r) ?_;exact ⟨r,(b.arr [] r).dp []⟩
 replace h4:=nt h4;refine jM (congrArg Value.bool h4) (CW (tV (nU (jJ (lK [.slice o a.a.a.length p,.slice t a.a.b.length u,.slice v a.c.length x,.slice z a.b.length A] underlying30 r zR r r (Cells.part (b.bk 0 r).cells (o2:=0) r)) ?_))));obtain ⟨⟨B,aZ⟩,h6,E⟩:=bs E;replace E:=pi E;have hc:=(FR fu) (b.pr [] [0] [0,1,2,3] r)  h6;refine BN (jO (vT func11) r) hc ?_;clear hc;rintro _ w6 ⟨e,C,rfl,hK⟩;replace b:=b.cl [] [0] r hK r;try dsimp only [pick,nth,List.cons_append,List.nil_append] at b
 refine jJ wY (jJ (kL r r) (jJ (kL r r) (o7 (ql b (jN NH)) ?_)));rintro _ w7 ⟨b7,rfl,b⟩;refine kV (QZ b 0 [.slice e B.b.length C] r NH r r r r r (show _=#[.slice e B.b.length C] from r)) ?_;intro w8 b;try dsimp only [List.set] at b
 refine jJ (KY r) (sN (tV (tV (nU (jJ (E9 r) (jJ (rQ r r) (sN ?_)))))));obtain ⟨h9,E⟩|⟨h9,E⟩:=jI E
 ·refine jQ (bt h9) (tV (nU (jJ (E9 r) (jJ (kI r r) (jJ (mh r) ?_)))));obtain ⟨ac,E⟩|⟨ac,E⟩:=jI E
  ·rw [sP ac];refine kY r (jJ (yF r r r r) (kY r (jJ (yL r (b.bk 0 r) r r r) (kY r (jJ (yN r r r) (kY r (jJ (kI r r) (jJ (mK r r) (jJ (mh r) ?_)))))))));obtain ⟨ae,E⟩|⟨ae,E⟩:=jI E
   ·rw [sP ae];obtain ⟨aQ,aR,E⟩:=bs E;refine kY r ?_;have hc:=(Ev fu) (b.pr [] [0,1] [] r)  aR;refine BN (jO (vT func10) r) hc ?_;clear hc;rintro _ bh ⟨rfl,hK⟩;replace b:=b.cl [] [0,1] r hK r;try dsimp only [pick,nth,List.cons_append,List.nil_append] at b
    refine jJ (mK r r) (jJ (lM r) (sN (lG ?_)));obtain rfl:=sm E;refine jK (P:=prog) (fn:=f5) r (mI r) ?_;exact ⟨r,(b.arr [] r).dp []⟩
   rw [sS ae];refine kX r (jJ (lu r r) (jJ (lM r) (sN (lG ?_))));obtain rfl:=sm E;refine jK (P:=prog) (fn:=f5) r (mI r) ?_;exact ⟨r,(b.arr [] r).dp []⟩
  rw [sS ac];refine kX r (kX r (kX r (kX r (jJ (lu r r) (jJ (mh r) (kX r (jJ (lu r r) (jJ (lM r) (sN (lG ?_))))))))));obtain rfl:=sm E;refine jK (P:=prog) (fn:=f5) r (mI r) ?_;exact ⟨r,(b.arr [] r).dp []⟩
 refine jM (bf h9) (CW (tV (tV (nU (jJ (lK [.slice e B.b.length C] underlying36 r NH r r (Cells.part (b.bk 0 r).cells (o2:=0) r)) ?_)))));obtain ⟨aS,aT,E⟩:=bs E;have hc:=(OZ fu) (b.pr [] [0,1] [0] r)  aT;refine BN (jO (vT func16) r) hc ?_;clear hc;rintro _ bi ⟨rfl,hK⟩;replace b:=b.cl [] [0,1] r hK r;try dsimp only [pick,nth,List.cons_append,List.nil_append] at b
 refine jJ (rQ r r) (jJ (mh r) ?_);obtain ⟨af,E⟩|⟨af,E⟩:=jI E
 ·rw [sP af];refine kX r (kX r (kX r (kX r (kX r (kX r (kX r (kX r (jJ (mK r r) (sN (jQ r (tV (nU (jJ (lM r) ?_)))))))))))));refine sN (lG ?_);obtain rfl:=sm E;refine jK (P:=prog) (fn:=f5) r (mI r) ?_;exact ⟨r,(b.arr [] r).dp []⟩
 rw [sS af];refine kY r (jJ (yF r r r r) (kY r (jJ (yL r (b.bk 0 r) r r r) (kY r (jJ (yN r r r) (kY r (jJ (yF r r r r) (kY r (jJ (yF r r r r) (kY r (jJ (yL r (b.bk 1 r) r r r) (kY r (jJ (yN r r r) ?_)))))))))))));refine kY r (jJ (rQ r r) (jJ (lu r r) (sN ?_)));obtain ⟨ag,E⟩|⟨ag,E⟩:=jI E
 ·refine jQ (bt ag) (tV (nU (jJ (lM r) (sN (lG ?_)))));obtain rfl:=sm E;refine jK (P:=prog) (fn:=f5) r (mI r) ?_;exact ⟨r,(b.arr [] r).dp []⟩
 refine jM (bf ag) (CW (tV (tV (nU (jJ (yF r r r r) (jJ (yL r (b.bk 0 r) r r r) (jJ (yN r r r) (jJ (E9 r) (sN ?_)))))))));have b0:=(b.dl 0 r).bd;obtain ⟨aA,c,E⟩:=bs E;refine qQ (fun f w=>Has f []/\Bx w0 w bK G [.box b2 30 #[.slice o a.a.a.length p,.slice t a.a.b.length u,.slice v a.c.length x,.slice z a.b.length A]] [.l e C B.b,.l o p a.a.a,.l t u a.a.b,.l v x a.c,.l z A a.b]/\Ld.go ()=aA) (fun bj aB=>?_) ?_
 ·refine oN (kG (fun bM f w=>∃ (Q:Nat),bM=B.b.length - Q/\Q<=B.b.length/\Has f [(54,Vi (Q:Int)),(3,Pt b2),(52,.slice e B.b.length C),(53,Vi (B.b.length:Int))]/\Bx w0 w bK G [.box b2 30 #[.slice o a.a.a.length p,.slice t a.a.b.length u,.slice v a.c.length x,.slice z a.b.length A]] [.l e C B.b,.l o p a.a.a,.l t u a.a.b,.l v x a.c,.l z A a.b]/\oJ fu a (B.b.drop Q) Q=some aA) B.b.length ⟨0,r,uL _,⟨r,r,r,r,kE⟩,(b.arr [1] r).dp [0,1,2,3,4],c⟩ ?_);clear b c;rintro bM f w ⟨Q,rfl,b1,hf,b,c⟩ bl aC;obtain ⟨bL,rfl⟩:=lg _ _ hf;clear hf;obtain a6 | a6:=xw Q B.b.length
  ·obtain ⟨m,a3⟩:=lZ (l:=B.b) a6;rw [mV a3,oJ] at c;obtain ⟨b3,aD,b⟩:=b.nm 0 rfl a3;obtain ⟨H,I,J,K,L,M,rfl,ah,ai,aj⟩:=nI.out aD;replace b:=b.ko (d:=.l H I m.b) ah;replace b:=b.ko (d:=.l J K m.d) ai;replace b:=b.ko (d:=.l L M m.c) aj;refine tV (nU (jJ (vC r r) (sN (tV (jQ r (CW (tV (oN (tV (nU (jJ (E9 r) (jJ (kR underlying34 zK r r r (b.dl 4 r) a3) (jJ (lK [Vi m.a,.slice H m.b.length I,.slice J m.d.length K,.slice L m.c.length M] underlying52 r zK r r (b.dc 3 r)) ?_)))))))))))));refine o7 (ql b (jN zK)) ?_;rintro _ bm ⟨a5,rfl,b⟩;refine jJ (KY r) (kV (QZ b 0 [Vi m.a,.slice H m.b.length I,.slice J m.d.length K,.slice L m.c.length M] r zK r r r r r (show _=#[Vi m.a,.slice H m.b.length I,.slice J m.d.length K,.slice L m.c.length M] from r)) ?_);intro bn b;try dsimp only [List.set] at b
   refine sN (tV (nU (jJ (KY r) (sN (tV (tV (nU (jJ (yF r r r r) (jJ (yL r (b.bk 1 r) r r r) (jJ (E9 r) ?_))))))))));obtain ⟨R,X,c⟩:=bs c;obtain ⟨bo,aE,X⟩:=kU X;obtain ⟨b4,aF,b⟩:=b.nm 7 rfl X;obtain ⟨U,W,rfl,ak⟩:=aF;replace b:=b.ko (d:=.l U W R) ak;refine jJ (kR underlying27 Gj r r aE (b.dl 9 r) X) (jJ (kH underlying53 r r ((b.dc 1 r) 0 _ r)) (jJ (yN r r r) (jJ (E9 r) (sN ?_))));have b5:=(b.dl 0 r).bd;obtain ⟨aG,D,c⟩:=bs c;refine qQ (fun f w=>∃ (N:Int),Has f [(3,Pt b2),(7,Vi (Q:Int)),(8,Pt a5),(9,Vi N),(52,.slice e B.b.length C),(53,Vi (B.b.length:Int)),(54,Vi (Q:Int))]/\Bx w0 w bK G [.box a5 52 #[Vi m.a,.slice H m.b.length I,.slice J m.d.length K,.slice L m.c.length M],.box b2 30 #[.slice o a.a.a.length p,.slice t a.a.b.length u,.slice v a.c.length x,.slice z a.b.length A]] [.l U W R,.l L M m.c,.l J K m.d,.l H I m.b,.at (oH e) (qo e+Q * Rp.sz nI) [Vi m.a,.slice H m.b.length I,.slice J m.d.length K,.slice L m.c.length M],.l e C B.b,.l o p a.a.a,.l t u a.a.b,.l v x a.c,.l z A a.b]/\Ld.go N=aG) (fun bp aH=>?_) ?_
   ·refine oN (kG (fun bM f w=>∃ (S:Nat)(N:Int),bM=R.length - S/\S<=R.length/\Has f [(65,Vi (S:Int)),(3,Pt b2),(7,Vi (Q:Int)),(8,Pt a5),(9,Vi N),(52,.slice e B.b.length C),(53,Vi (B.b.length:Int)),(54,Vi (Q:Int)),(63,.slice U R.length W),(64,Vi (R.length:Int))]/\Bx w0 w bK G [.box a5 52 #[Vi m.a,.slice H m.b.length I,.slice J m.d.length K,.slice L m.c.length M],.box b2 30 #[.slice o a.a.a.length p,.slice t a.a.b.length u,.slice v a.c.length x,.slice z a.b.length A]] [.l U W R,.l L M m.c,.l J K m.d,.l H I m.b,.at (oH e) (qo e+Q * Rp.sz nI) [Vi m.a,.slice H m.b.length I,.slice J m.d.length K,.slice L m.c.length M],.l e C B.b,.l o p a.a.a,.l t u a.a.b,.l v x a.c,.l z A a.b]/\mY fu m (R.drop S) S N=some aG) R.length ⟨0,0,r,uL _,⟨r,r,r,r,r,r,r,r,r,r,kE⟩,b.dp [0,2,3,4,5,6,7,8,9,10],D⟩ ?_);clear b D;rintro bM f w ⟨S,N,rfl,b6,hf,b,D⟩ bq a7;obtain ⟨bL,rfl⟩:=lg _ _ hf;clear hf;obtain a8 | a8:=xw S R.length
    ·obtain ⟨F,a4⟩:=lZ (l:=R) a8;rw [mV a4,mY] at D;refine tV (nU (jJ (vC r r) (sN (tV (jQ r (CW (tV (oN (tV (nU (jJ (E9 r) (jJ (kR underlying53 vE r r r (b.dl 0 r) a4) (jJ (lK [Vt F.c,Vi F.b,Vi F.f,Vi F.a,.bool F.g,Vi F.e,Vi F.d] underlying55 r vE r r (uY (ds:=[Vt F.c,Vi F.b,Vi F.f,Vi F.a,.bool F.g,Vi F.e,Vi F.d]) (b.dl 0 r) a4 (fun _ h=>h))) ?_)))))))))))));refine o7 (ql b (jN vE)) ?_;rintro _ br ⟨bu,rfl,b⟩;refine jJ (KY r) (kV (QZ b 0 [Vt F.c,Vi F.b,Vi F.f,Vi F.a,.bool F.g,Vi F.e,Vi F.d] r vE r r r r r (show _=#[Vt F.c,Vi F.b,Vi F.f,Vi F.a,.bool F.g,Vi F.e,Vi F.d] from r)) ?_);intro bv b;try dsimp only [List.set] at b
     refine sN (tV (nU (jJ (yF r r r r) (jJ (yL r (b.bk 0 r) r r r) (jJ (kI r r) (sN ?_))))));obtain ⟨al,D⟩|⟨al,D⟩:=jI D
     ·refine jQ (bt al) (tV (tV (rz b [0,1] [1] [] (by kernel_rfl) ?_)));replace b:=b.drew;have j:=(b.arr [0,1] r).dp [1];refine Ke j ?_;refine G9 j ?_;obtain ⟨am,D⟩|⟨am,D⟩:=jI D
      ·rw [sP am];have j:=(b.arr [0,1] r).dp [1];refine F6 j ?_;refine Qx j ?_;refine Jq (by kernel_rfl) (jQ r (tV ?_));refine nU (jJ (lM r) (sN (lG ?_)));obtain rfl:=sm D;replace c:=oi c;obtain rfl:=sm c;replace E:=oi E;obtain rfl:=sm E;refine jK (P:=prog) (fn:=f5) r (mI r) ?_;exact ⟨r,(b.arr [] r).dp []⟩
      rw [sS am];have j:=(b.arr [0,1] r).dp [1];refine Qx j ?_;obtain ⟨a1,Y,D⟩:=bs D;obtain ⟨bw,aI,Y⟩:=kU Y;refine tP 9 r (fun _=>kR underlying50 Ql r r aI (b.dl 1 r) Y) (sF j) ?_;refine tU 10 r (fun _ hS=>lK [Vi a1.c,Vi a1.f,Vi a1.a] underlying57 r Ql r r (uY (ds:=[Vi a1.c,Vi a1.f,Vi a1.a]) (hS.dl 0 r) Y (fun _ h=>h))) (sF j) ?_;refine Qx j ?_;refine tP 14 r (fun _=>Xf r r) (sF j) ?_;refine tP 15 r (fun _=>adt underlying57 (by kernel_rfl) (by kernel_rfl) (by kernel_rfl) r r) (sF j) ?_;refine yc j ?_;refine Jq (by kernel_rfl) ?_;obtain ⟨an,D⟩|⟨an,D⟩:=jI D
      ·refine jQ (bt an) (tV (nU (jJ (lM r) (sN (lG ?_)))));obtain rfl:=sm D;replace c:=oi c;obtain rfl:=sm c;replace E:=oi E;obtain rfl:=sm E;refine jK (P:=prog) (fn:=f5) r (mI r) ?_;exact ⟨r,(b.arr [] r).dp []⟩
      refine jM (bf an) (CW (nU (jJ (E9 r) (jJ (mg r r) (jJ (KY r) (sN (nU (jJ (lT r r) (jJ (E9 r) (sN ?_))))))))));exact a7 (R.length - (S+1)) _ _ (by omega) ⟨S+1,wr (N+1),r,by omega,⟨r,r,r,r,r,r,r,r,r,r,kE⟩,b.arr [1,2] r,D⟩
     refine jM (bf al) (CW (nU (jJ (lT r r) (jJ (E9 r) (sN ?_)))));exact a7 (R.length - (S+1)) _ _ (by omega) ⟨S+1,N,r,by omega,⟨r,r,r,r,r,r,r,r,r,r,kE⟩,b.arr [1,2] r,D⟩
    obtain rfl:S=R.length:=by omega
    rw [mF,mY] at D;refine tV (nU (jJ (u6 r r) (sN (tV (jM r (uw ?_))))));exact aH _ _ ⟨N,⟨r,r,r,r,r,r,r,kE⟩,b,sm D⟩
   clear b;rintro f w ⟨N,hf,b,aJ⟩;obtain ⟨bL,rfl⟩:=lg _ _ hf;clear hf;subst aJ;replace c:=gi c;refine tV ?_;obtain ⟨aK,a0,c⟩:=bs c;obtain ⟨bz,aL,a0⟩:=kU a0;obtain ⟨b8,aM,b⟩:=b.nm 7 rfl a0;obtain ⟨ao,ap,aq,ar,rfl,au,av⟩:=kC.out aM;replace b:=b.ko (d:=.l ao ap aK.a) au;replace b:=b.ko (d:=.l aq ar aK.d) av;refine rz b [0,1] [0,1,2,10] [] (by kernel_rfl) ?_;replace b:=b.drew;have j:=b.dp [0,1,2,10];refine Ke j ?_;refine G9 j ?_;obtain ⟨aw,c⟩|⟨aw,c⟩:=jI c
   ·rw [sP aw];have j:=b.dp [0,1,2,10];refine F6 j ?_;refine Ke j ?_;refine G9 j ?_;refine Ke j ?_;refine Jq (by kernel_rfl) (jQ r (tV (nU (jJ (lM r) (sN (lG ?_))))));obtain rfl:=sm c;replace E:=oi E;obtain rfl:=sm E;refine jK (P:=prog) (fn:=f5) r (mI r) ?_;exact ⟨r,(b.arr [] r).dp []⟩
   rw [sS aw];have j:=b.dp [0,1,2,10];refine Ke j ?_;refine G9 j ?_;refine tP 12 r (fun _=>kR underlying24 oU r r aL (b.dl 10 r) a0) (sF j) ?_;refine yc j ?_;refine tU 14 r (fun _ hS=>kH underlying58 r r ((hS.dc 2 r) 2 _ r)) (sF j) ?_;refine Ke j ?_;obtain ⟨ax,c⟩|⟨ax,c⟩:=jI c
   ·rw [sP ax];have j:=b.dp [0,1,2,10];refine Ke j ?_;refine yc j ?_;refine Jq (by kernel_rfl) (jQ r (tV (nU (jJ (lM r) (sN (lG ?_))))));obtain rfl:=sm c;replace E:=oi E;obtain rfl:=sm E;refine jK (P:=prog) (fn:=f5) r (mI r) ?_;exact ⟨r,(b.arr [] r).dp []⟩
   rw [sS ax];have j:=b.dp [0,1,2,10];refine Ke j ?_;refine yc j ?_;refine Jq (by kernel_rfl) ?_;obtain ⟨ay,c⟩|⟨ay,c⟩:=jI c
   ·refine jQ (bt ay) (tV (nU (jJ (lM r) (sN (lG ?_)))));obtain rfl:=sm c;replace E:=oi E;obtain rfl:=sm E;refine jK (P:=prog) (fn:=f5) r (mI r) ?_;exact ⟨r,(b.arr [] r).dp []⟩
   refine jM (bf ay) (CW (nU (jJ (lT r r) (jJ (E9 r) (sN ?_)))));exact aC (B.b.length - (Q+1)) _ _ (by omega) ⟨Q+1,r,by omega,⟨r,r,r,r,kE⟩,(b.arr [1] r).dp [8,9,10,11,12],c⟩
  obtain rfl:Q=B.b.length:=by omega
  rw [mF,oJ] at c;refine tV (nU (jJ (u6 r r) (sN (tV (jM r (uw ?_))))));exact aB _ _ ⟨kE,b,sm c⟩
 clear b;rintro f w ⟨hf,b,aN⟩;obtain ⟨bL,rfl⟩:=lg _ _ hf;clear hf;subst aN;replace E:=gi E;refine tV (nU ?_);obtain ⟨aU,aV,E⟩:=bs E;have hc:=(Ev fu) (b.pr [] [0] [] r)  aV;refine BN (jO (vT func10) r) hc ?_;clear hc;rintro _ bA ⟨rfl,hK⟩;replace b:=b.cl [] [0] r hK r;try dsimp only [pick,nth,List.cons_append,List.nil_append] at b
 refine jJ (lM r) (sN (lG ?_));obtain rfl:=sm E;refine jK (P:=prog) (fn:=f5) r (mI r) ?_;exact ⟨r,(b.arr [] r).dp []⟩
end
theorem RF {fu:Nat}(hf:10100<=fu){l:List Int}:kP (xG fu l) (fun r=>jB r fun s b=>b=true->Gs7 s/\aaf s/\s.a.b.length<=8):=by
 unfold xG;refine .bd aaw fun l2 h2=>.bd (acF (by omega) (by omega)) fun t _=>?_;refine .bp (Z5 (by omega)) fun p r hr=>.pp hr fun a e hp=>.ite (fun _=>.mk fun z=>(by cases z)) fun c=>?_;have hp:=hp (by omega);refine .XT (ZJ hf hp) fun v ev hv=>?_;obtain ⟨s,ln,e⟩:=v;rw [pl] at hv ⊢;rw [pl] at hv ⊢;refine .mk fun z=>?_;have he:e=0:=Dh z;have q:=hv he;subst he;have hw:=aaD (by omega) hp ev;have hl:s.a.b.length=p.b.length:=by rw [<-hw.1,q.1.1.1]
 refine ⟨⟨⟨fun V hV=>(q.1.1.2 V hV).2,q.2⟩,hw,q.1.2,?_⟩,aaE (by omega) hp ev,by rw [hl];exact ZG (by omega) hp ev⟩;rw [hl];exact hp.e
theorem ac6 {s:jW}(hg:Gs7 s)(hX:∀ (k:Nat) fn,s.a.b[k]?=some fn->∃ V,s.c[k]?=some V/\fn.a.length<=4/\V.length<=24/\∀ x ∈ V,VO s.a.a x)(h8:s.a.b.length<=8){res:List nI}(hl:res.length=s.a.b.length)(h:Rs' s (zW s.a.b) res):Zv ⟨res⟩:=by
 have hP:res.map (fun c=>c.a.toNat)=zW s.a.b:=by
  refine List.ext_getElem? fun k=>?_;unfold zW;rw [zZ,zZ];cases hc:res[k]? with
  | none=>
   have:=List.getElem?_eq_none_iff.1 hc;rw [List.getElem?_eq_none_iff.2 (by omega)];rfl
  | some c=>
   obtain ⟨fn,V,h1,h2,h3⟩:=h k c hc;rw [h1];have:=h3.pa;show some c.a.toNat=some fn.a.length;rw [this,ET]
 refine ⟨by dsimp only;omega,fun f c hc=>?_⟩;dsimp only at hc;obtain ⟨fn,V,h1,h2,h3⟩:=h f c hc;obtain ⟨V',g1,g2,g3,g4⟩:=hX f fn h1;rw [h2] at g1;cases g1;obtain ⟨o1,o2,o3⟩:=Rk (i:=0) g4;obtain ⟨b0,p1,p2⟩:=h3.p0;rw [show (sW.b ⟨res⟩)=res from rfl,hP];refine ⟨by rw [h3.pa];omega,h3.bl,h3.so,⟨b0,p1,by rw [p2,h3.pa]⟩,h3.ct,by rw [h3.ob];omega,fun o ho=>?_,by rw [h3.ob];exact o3,h3.bk⟩;rw [h3.ob] at ho;obtain ⟨k1,k2,k3⟩:=o2 o ho;exact ⟨k1,⟨by omega,by have:=k2.2;omega⟩,k3⟩
section
variable {fu:Nat}
theorem MG {c:nI}(hs:c.c.length≤100):∀ (l:List iA)(k:Nat)(pre:List xQ),c.c=pre ++ wK l k→mY fu c l k (pre.length:Int)=some (.go (c.c.length:Int))
 | [],k,pre,h=>by rw [mY,h];simp [wK]
 | v :: l,k,pre,h=>by
  rw [mY];unfold wK at h;by_cases hk:v.b=3
  · rw [lF hk] at h ⊢;have hlen:c.c.length=pre.length+1+(wK l (k+1)).length:=by rw [h];simp;omega
    have hix:ix c.c (pre.length:Int)=some ⟨0,(k:Int),v.a⟩:=by unfold ix;rw [kQ (by omega),ET,h,EX (nD _),Nat.sub_self];rfl
    rw [kQ (by omega),hix,Option.bind_some,kQ (by simp),Kh (by omega) (by omega)];have:=MG hs l (k+1) (pre ++ [⟨0,(k:Int),v.a⟩]) (by rw [h];simp);rw [F9,agu] at this;exact this
  · rw [kQ hk] at h ⊢;exact MG hs l (k+1) pre h
theorem SC {s:jW}{Ps:List Nat}{res:List nI}(h:Rs' s Ps res)(hm:Zv ⟨res⟩):∀ (l:List nI)(k:Nat),l=res.drop k→oJ fu s l k=some (.go ())
 | [],_,_=>rfl
 | c :: l,k,hl=>by
  have hx:res[k]?=some c:=by
   have q:(res.drop k)[0]?=some c:=by rw [<-hl];rfl
   rw [List.getElem?_drop] at q;exact q
  have hl':l=res.drop (k+1):=by rw [mV hx] at hl;exact (List.cons.inj hl).2
  obtain ⟨fn,V,h1,h2,h3⟩:=h k c hx;have hc:=hm.2 k c hx;have e1:ix s.c (k:Int)=some V:=by unfold ix;rw [kQ (by omega),ET];exact h2
  have e2:ix s.a.b (k:Int)=some fn:=by unfold ix;rw [kQ (by omega),ET];exact h1
  have h0:=MG (fu:=fu) (c:=c) (by have:=hc.ol;omega) V 0 [] h3.ob;rw [oJ,e1,Option.bind_some,show (0:Int)=(([]:List xQ).length:Int) from rfl,h0,Option.bind_some,Ld.el,e2,Option.bind_some,kQ (by simp),kQ (by rw [h3.pa];simp),kQ (by rw [h3.ct];simp)];exact SC h hm l (k+1) hl'
end
theorem UC (l:List Int):wT 10100 l=some true:=by
 unfold wT;obtain ⟨⟨s,b⟩,hc,hg⟩:=RF (fu:=10100) (nD _) (l:=l);rw [hc,Option.bind_some,pl];rw [pl] at hg;cases b with
 | false=>
  rw [Uz];rfl
 | true=>
  obtain ⟨hg,hsc,h8⟩:=hg rfl;show (vH 10100 s).bind _=_;obtain ⟨⟨m,e⟩,hl⟩:=aan (fu:=10100) hg.szs (by omega) (by omega) (by omega);rw [hl,Option.bind_some,pl];obtain ⟨q,hq,he⟩:=Option.map_eq_some_iff.1 hl;obtain ⟨res,e'⟩:=q;cases he;have hv24:∀ V ∈ s.c,V.length<=24:=fun V hV=>by have:=hg.ci.vn V hV;omega
  have hvi:∀ (j:Nat) V st,s.c[j]?=some V->jS 10100 s (j:Int) st=some (yg st V 0):=fun j V st hV=>by rw [Ww hv24];unfold ab6;rw [kQ (by omega),ET,hV]
  rcases YJ (Ps:=zW s.a.b) (fun k fn hfn=>by obtain ⟨V,h,_⟩:=aa6 hg hsc hvi k fn hfn;exact ⟨V,h⟩) s.a.b.length 0 [] rfl (by omega) (fun k c h=>by simp at h) hq with ⟨rfl,hlen,hR⟩|⟨rfl,rfl⟩
  · have hm:Zv ⟨res⟩:=ac6 hg (fun k fn hfn=>by obtain ⟨V,h,z⟩:=aa6 hg hsc hvi k fn hfn;exact ⟨V,h.va,z⟩) h8 hlen hR;rw [kQ (by simp)];unfold Du;rw [lF hm,Option.bind_some,kQ (by simp),kQ (by simp [hlen]),SC (fu:=10100) hR hm res 0 rfl,Uz];rfl
  · rw [lF (by decide),lF rfl,Uz];rfl
end Go.Proofs.YtdkneekpdecjbaaGreat
namespace Go.Proofs.YtdkneekpdecjbaaGreat
open Go.ChangeShapes Go.WideShapes Go.ChangeAt Go.RowKit Go.Fw Go.Joins Go.Proofs.Tryz
theorem own:ownKnob prog.godebug=none:=by kernel_rfl
theorem laidOut:laidOutB prog=true:=by kernel_rfl
theorem XI {w:World}{a:Addr}{v:Value}(h:w.cell? a=some v):∃ b o,a=⟨b,o,none⟩/\b < w.heap.size:=by have h1:=World.cell?_spot h;obtain ⟨b,o,s⟩:=a;simp only at h1;subst h1;exact ⟨b,o,rfl,World.block_lt_of_cell? w _ h⟩
theorem open_list {H:Type}{enc:TypeId × Value->H}{w:World}{base:Nat}{spare:Nat->Bool}{held:Bool}{fuel:Nat}{cs:List Value}{x:DataW H × List MemPlace}(h:DataW.trod enc prog w base spare held fuel 22 cs=some x) :∃ A c zs,cs=[.slice A zs.length c]/\l5 (α:=Int) (fun _=>True) w A c zs:=by
 obtain ⟨rfl,hx⟩|⟨a,len,cap,zs,rfl,hb,hl,hm,hz,hx,hcell,hwz⟩:=open_ints underlying22 underlying3 (by kernel_rfl) h
 · exact ⟨none,0,[],rfl,l5.nil⟩
 · have hlz:len<=zs.length:=by rw [hz];split <;> omega
   have hlt:(zs.take len).length=len:=by rw [zM];omega
   refine ⟨some a,cap,zs.take len,by rw [hlt],by omega,hm,fun h0=>?_⟩;have h1:=hcell 0 (by omega);rw [Addr.add_zero'] at h1;obtain ⟨b,o,rfl,hbb⟩:=XI h1;refine ⟨rfl,trivial,hbb,fun i z hi=>⟨[.int .i64 z],?_,rfl⟩⟩;rw [List.getElem?_take] at hi;split at hi
   · rename_i hj;have h2:=hcell i (by omega);rw [Addr.add_lit] at h2;intro k v hk;obtain _ | k:=k
     · obtain rfl:Value.int .i64 z=v:=Kj hk;have hd:zs.getD i 0=z:=by rw [ag8,hi];rfl
       rw [hd] at h2;exact (by simpa [Rp.sz,oH,qo] using h2)
     · cases hk
   · cases hi
theorem Yr {w:World}{A:OA}{c:Nat}{l:List Int}(h:l5 (fun _=>True) w A c l):Pre w (fun _=>True) [] [.l A c l]:=⟨fun it hi=>(by cases hi),fun it hi=>(by cases hi),List.Pairwise.nil,fun d hd=>by
 simp only [nM,Dl,or_false] at hd;subst hd;exact h⟩
theorem Ku (w:World){A0:OA}{c0:Nat}{x0:List Int}(h0:l5 (fun _=>True) w A0 c0 x0):Calls prog 5 #[.slice A0 x0.length c0] w (rV fun v w'=>v=.bool true/\Ext w w'):=
 (Ip 10100 (Yr h0) (UC x0)).mono fun e w' he=>by obtain ⟨v,rfl,hv,hb⟩:=he;exact ⟨v,rfl,hv,hb.ex⟩
set_option maxRecDepth 100000 in
theorem IV (os:Os)(started:os.Started)(H:Type)(enc:TypeId × Value->H) :ReturnsInHanded {} checked os 5 .any (Rows.lowerRightSpec.pre6 enc prog f5 Rows.lowerRightRow.domain false) (Rows.lowerRightSpec.post enc prog f5 false true false false):=by
 refine returnsInHanded_of_change (C:=checked) own started (by kernel_rfl) func5
  (ChangeSpec.witness6 (enc:=enc) (C:=checked) false ⟨#[],#[.slice none 0 0],[]⟩ 8 (by kernel_rfl) (by kernel_rfl) (by kernel_rfl) (by kernel_rfl)) ?_
 intro W base args ds gs before hval0 hW hcnd _;have hval:∀ (j:Nat) t v,f5.params[j]?=some t->args[j]?=some v->Value.okWide prog W .any base t v:=hval0;have hW':=hW;obtain ⟨p,q,hA0,hV,rfl,hfz,hnd⟩:=hW;have hA:DataW.TrodAll enc prog W 0 (fun _=>true) true f5.params.toList args.toList ds p:=hA0;rw [params5] at hA hval;obtain ⟨v0,vs0,d0,ds0,p0,q0,hargs,rfl,rfl,h0,r0⟩:=trodAll_cons hA;obtain ⟨rfl,rfl,rfl⟩:=trodAll_nil r0;obtain rfl:args=#[v0]:=by cases args;simp_all
 obtain ⟨rfl,rfl⟩:=trodVars_none hV;have k0:=h0;have lt0:∀ x ∈ p0,x.block < W.heap.size:=by obtain ⟨m,hm⟩:=k0;exact DataW.trod_lt m _ _ _ hm
 obtain ⟨a0,n0,c0,rfl⟩:=okWide_slice underlying22 (hval 0 22 v0 rfl rfl);obtain ⟨f0,hf0⟩:=h0;obtain ⟨A0,e0,l0,hcs0,hl0⟩:=open_list hf0;simp [Value.cells] at hcs0;obtain ⟨rfl,rfl,rfl⟩:=hcs0;clear hA0 hval0;refine (Ku W hl0).mono fun e W' he=>?_;obtain ⟨v,rfl,rfl,bel⟩:=he;exact ⟨_,rfl,_,_,_,[],_,[],hW',trodAll_mk1 (shut_bool underlying4 _),trodAll_cons_mk (Below.trod laidOut (by kernel_rfl) (Dh (by kernel_rfl)) k0 bel lt0) trodAll_mk0,rfl,Below.frame bel _,fun h=>by cases h⟩
theorem lowerRight_holds:Rows.LowerRightSaid:=
 OpenClaim.holds_of_wide 5 f5 rfl rfl rfl rfl rfl rfl rfl ⟨rfl,rfl,rfl,rfl,rfl⟩ rfl rfl rfl rfl rfl (by kernel_rfl) func5 (by kernel_rfl)
  (Dh (by kernel_rfl)) (by unfold Func.isWrapper;first | (rw [lF (by decide +kernel)];kernel_rfl)|(rw [kQ (by decide +kernel)];exact ⟨rfl,rfl⟩))
  (fun os started H enc _=>IV os started H enc)
end Go.Proofs.YtdkneekpdecjbaaGreat
