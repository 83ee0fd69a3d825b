/- The text of a made program: the printer answers, and the text is not long. -/
import Derived.Test.YtfglbdkfnphjgaaGreatZ14
import Derived.Test.YtfglbdkfnphjgaaGreatLd
import Derived.Test.YtfglbdkfnphjgaaGreatZ3
import Derived.Recover
import Derived.Test.YtfglbdkfnphjgaaGreatZ4
import Derived.Laws.StructEq
set_option linter.unusedVariables false
set_option linter.unusedSimpArgs false
namespace Go.Fw
open Go.RowKit
theorem kS.cl {α:Type}{P:α->Prop}{s t:ByteArray}{f:ByteArray->Option α}(n:Nat)(h:t.size=n)(hs:s.size+n<=1000000000)(k:∀ r,r.size=s.size+n->kS (f r) P):kS ((Go.Fw.cat s t).bind f) P:=.bd (.cat (by omega)) fun r hr=>k r (by rw [hr,BK,h])
theorem kS.cv {α:Type}{P:α->Prop}{s t:ByteArray}{f:ByteArray->Option α}(hs:s.size+t.size<=1000000000)(k:∀ r,r.size=s.size+t.size->kS (f r) P):kS ((Go.Fw.cat s t).bind f) P:=.bd (.cat hs) fun r hr=>k r (by rw [hr,BK])
theorem kS.cr {α:Type}{P:α->Prop}{s t:ByteArray}{f:ByteArray->Option α}(n:Nat)(h:s.size=n)(hs:n+t.size<=1000000000)(k:∀ r,r.size=n+t.size->kS (f r) P):kS ((Go.Fw.cat s t).bind f) P:=.bd (.cat (by omega)) fun r hr=>k r (by rw [hr,BK,h])
end Go.Fw
namespace Go.Proofs.YtfglbdkfnphjgaaGreat
open Go.RowKit Go.Fw Go.Proofs.Tryz
def EB:Nat→Nat
 | 0=>6
 | d+1=>2 * EB d+8
theorem EB.lo:∀ d,6≤EB d∧EB d+8≤14 * 2 ^ d
 | 0=>by decide
 | d+1=>by have h:=EB.lo d;have e:EB (d+1)=2 * EB d+8:=rfl;have:1<=2 ^ d:=Nat.one_le_two_pow;rw [Nat.pow_succ];omega
theorem Yw {fu:Nat}{op:Int}:kS (BD fu op) (fun r=>(1<=r/\r<=6)/\(r=5->4<=op/\op<=5)/\(r < 5->6<=op/\op<=17)):=by
 unfold BD;have hJ0:kS (zM fu op) (qh (fun b=>b=true->14<=op/\op<=17) (fun _=>False)):=by unfold zM;refine .ite (fun _=>.go fun _=>by omega) fun _=>.ite (fun _=>.go fun _=>by omega) fun _=>.ite (fun _=>.go fun _=>by omega) fun _=>.go fun z=>by have:=Bw z;omega
 have hJ1:kS (zS fu op) (qh (fun b=>b=true->11<=op/\op<=13) (fun _=>False)):=by unfold zS;refine .ite (fun _=>.go fun _=>by omega) fun _=>.ite (fun _=>.go fun _=>by omega) fun _=>.go fun z=>by have:=Bw z;omega
 have hJ2:kS (zT fu op) (qh (fun b=>b=true->6<=op/\op<=7) (fun _=>False)):=by unfold zT;refine .ite (fun _=>.go fun _=>by omega) fun _=>.go fun z=>by have:=Bw z;omega
 refine .el hJ0 (fun b hb=>.ite (fun z=>.mk (by have:=hb z;omega)) fun _=>?_) fun _ z=>z.elim;refine .el hJ1 (fun b hb=>.ite (fun z=>.mk (by have:=hb z;omega)) fun _=>?_) fun _ z=>z.elim;refine .el hJ2 (fun b hb=>.ite (fun z=>.mk (by have:=hb z;omega)) fun _=>?_) fun _ z=>z.elim;refine .ite (fun _=>.mk (by omega)) fun _=>.ite (fun _=>.mk (by omega)) fun _=>.ite (fun _=>.mk (by omega)) fun _=>.ite (fun _=>.mk (by omega)) fun _=>.ite (fun _=>.mk (by omega)) fun _=>.mk (by omega)
theorem WE:∀ x ∈ ([(⟨#[43]⟩:ByteArray),(⟨#[45]⟩:ByteArray),(⟨#[42]⟩:ByteArray),(⟨#[47]⟩:ByteArray),(⟨#[37]⟩:ByteArray),(⟨#[38]⟩:ByteArray),(⟨#[124]⟩:ByteArray),(⟨#[94]⟩:ByteArray),(⟨#[60]⟩:ByteArray),(⟨#[60,61]⟩:ByteArray),(⟨#[61,61]⟩:ByteArray),(⟨#[33,61]⟩:ByteArray)]:List ByteArray),x.size<=2:=by intro x hx;simp only [qK,BS,or_false] at hx;rcases hx with rfl | rfl | rfl | rfl | rfl | rfl | rfl | rfl | rfl | rfl | rfl | rfl <;> decide
theorem Rf:∀ x ∈ ([(⟨#[45]⟩:ByteArray),(⟨#[33]⟩:ByteArray)]:List ByteArray),x.size<=2:=by intro x hx;simp only [qK,BS,or_false] at hx;rcases hx with rfl | rfl <;> decide
theorem TR:∀ {d fu:Nat}{x:jA}{l:Int},GE d x→d≤5→d+19≤fu→kS (qy fu x l) (fun s=>s.size≤EB d)
 | 0,_,_,_,h,_,_=>h.elim
 | d+1,0,_,_,_,_,h=>by omega
 | d+1,fu+1,x,l,h,hd,hf=>by
  show kS (BG fu (qy fu) x l) _;obtain ⟨⟨h1,h2,h3,h4⟩,h5,h6⟩:=h;have hE:EB (d+1)=2 * EB d+8:=rfl;have hlo:=EB.lo d;have hp:(2:Nat) ^ d<=2 ^ 5:=Nat.pow_le_pow_right (by decide) (by omega);have h32:(2:Nat) ^ 5=32:=by decide
  unfold BG;refine .bd Yw fun r hr=>?_;have sub:∀ {y:jA}{l:Int},y ∈ x.a->kS (qy fu y l) (fun s=>s.size<=EB d):=fun hy=>TR (h6 _ hy) (by omega) (by omega);have hJ:kS (zX fu (qy fu) x r) (qh (fun s=>s.size<=2 * EB d+6) (fun _=>False)):=by
   unfold zX;refine .ite (fun _=>.bd (DI (d:=18) h3 (by omega) (by decide) (by decide) (by omega)) fun s hs=>.go (by omega)) fun _=>?_;refine .ite (fun _=>.cl 1 rfl (by omega) fun g e1=>.cv (by omega) fun g2 e2=>.go (by omega)) fun _=>?_;have hJ1:kS (zY fu (qy fu) x) (qh (fun b=>b=true->0 < x.a.length) (fun _=>False)):=by unfold zY;exact .ite (fun _=>.go fun z=>by have:=Bw z;omega) fun _=>.go fun z=>(by cases z)
   refine .Ep hJ1 fun b hb=>.ite (fun z=>?_) fun _=>?_
   · have:=hb z;refine .bd (.ix (by decide) (by omega)) fun y hy=>.cl 1 rfl (by omega) fun g e1=>.bd (sub (wC hy)) fun s hs=>.cv (by omega) fun g2 e2=>.cl 1 rfl (by omega) fun g3 e3=>.go (by omega)
   have hJ2:kS (zW fu (qy fu) x r) (qh (fun b=>b=true->r=5/\0 < x.a.length) (fun _=>False)):=by unfold zW;exact .ite (fun _=>.go fun z=>by have:=Bw z;omega) fun _=>.go fun z=>(by cases z)
   refine .Ep hJ2 fun b hb=>.ite (fun z=>?_) fun _=>?_
   · obtain ⟨q1,q2⟩:=hb z;have q3:=hr.2.1 q1;rw [lM (by omega) (by omega)];exact .bd (.ix (by decide) (by omega)) fun y hy=>.bd (.ix (by omega) (by simp only [tT,uR];omega)) fun n hn=>.bd (sub (wC hy)) fun s hs=>.cv (by have:=Rf n (wC hn);omega) fun g e=>.go (by have:=Rf n (wC hn);omega)
   refine .ite (fun q1=>.ite (fun q2=>?_) fun _=>.go (by omega)) fun _=>.go (by omega);have hJ3:kS (zR fu (qy fu) r) (qh (fun _=>True) (fun _=>False)):=by unfold zR;exact .ite (fun _=>.go lF) fun _=>.go lF
   have q3:=hr.2.2 q1;refine .Ep hJ3 fun lv _=>?_;rw [lM (n:=x.e - 6) (by omega) (by omega)];refine .bd (.ix (by decide) (by omega)) fun y hy=>.bd (.ix (by decide) (by omega)) fun y' hy'=>.bd (.ix (by omega) (by simp only [tT,uR];omega)) fun n hn=>?_;have hn2:=WE n (wC hn);exact .bd (sub (wC hy)) fun s hs=>.cl 1 rfl (by omega) fun g e1=>.cv (by omega) fun g2 e2=>.cl 1 rfl (by omega) fun g3 e3=>.bd (sub (wC hy')) fun s' hs'=>.cv (by omega) fun g4 e4=>.go (by omega)
  refine .el hJ (fun s hs=>?_) fun _ z=>z.elim;exact .ite (fun _=>.cr 1 rfl (by omega) fun g e1=>.cl 1 rfl (by omega) fun g2 e2=>.mk (by omega)) fun _=>.mk (by omega)
theorem QL {fu:Nat}(hf:30<=fu){x:jA}{l:Int}(h:GE 4 x):kS (qy fu x l) (fun s=>s.size<=216):=TR h (by decide) (by omega)
theorem Lh {fu:Nat}(hf:30≤fu){O:ByteArray→Prop}:∀ (l:List jA)(k:Nat)(s:ByteArray),(∀ y ∈ l,GE 4 y)→s.size+l.length * 218≤1000000→kS (tJ fu l k s) (qh (fun r=>r.size≤s.size+l.length * 218) O)
 | [],k,s,h,hs=>.go (by simp only [uR];omega)
 | x :: l,k,s,h,hs=>by
  rw [tJ];rw [tT] at hs ⊢;have hJ:kS (zJ fu s k) (qh (fun r=>r.size<=s.size+2) O):=by unfold zJ;exact .ite (fun _=>.cl 2 rfl (by omega) fun g e=>.go (by omega)) fun _=>.go (by omega)
  refine .Ep hJ fun s2 h2=>.bd (QL hf (h x (Bn ..))) fun t ht=>.cv (by omega) fun g e=>?_;exact (Lh hf l (k+1) g (fun y hy=>h y (wI _ hy)) (by omega)).imp fun v hv=>by
   cases v with
   | go r=>exact q9 (show r.size<=_ from hv) (by omega)
   | out o=>exact hv
theorem U4 {fu:Nat}(hf:30<=fu){l:List jA}(h:l.length<=4/\∀ y ∈ l,GE 4 y):kS (zH fu l) (fun r=>r.size<=872):=by unfold zH;have h0:(⟨#[]⟩:ByteArray).size=0:=rfl;exact .el (Lh hf l 0 _ h.2 (O:=fun _=>False) (by omega)) (fun s hs=>.mk (by omega)) fun _ z=>z.elim
theorem IK {fu:Nat}{O:ByteArray→Prop}:∀ (l:List ByteArray)(k:Nat)(s:ByteArray),(∀ y ∈ l,y.size≤4)→s.size+l.length * 6≤1000000→kS (pY fu l k s) (qh (fun r=>r.size≤s.size+l.length * 6) O)
 | [],k,s,h,hs=>.go (by simp only [uR];omega)
 | x :: l,k,s,h,hs=>by
  rw [pY];rw [tT] at hs ⊢;have hx:=h x (Bn ..);have go:∀ g:ByteArray,g.size<=s.size+6->kS (pY fu l (k+1) g) (qh (fun r=>r.size<=s.size+(l.length+1) * 6) O):=fun g hg=>(IK l (k+1) g (fun y hy=>h y (wI _ hy)) (by omega)).imp fun v hv=>by
   cases v with
   | go r=>exact q9 (show r.size<=_ from hv) (by omega)
   | out o=>exact hv
  exact .ite (fun _=>.cl 2 rfl (by omega) fun g e=>.cv (by omega) fun g2 e2=>go g2 (by omega)) fun _=>.cv (by omega) fun g2 e2=>go g2 (by omega)
theorem Rx {fu:Nat}{l:List ByteArray}(h:l.length<=4/\∀ y ∈ l,y.size<=4):kS (xV fu l) (fun r=>r.size<=24):=by unfold xV;have h0:(⟨#[]⟩:ByteArray).size=0:=rfl;exact .el (IK l 0 _ h.2 (O:=fun _=>False) (by omega)) (fun s hs=>.mk (by omega)) fun _ z=>z.elim
theorem VY {fu:Nat}(hf:30<=fu){k:Nat}{x:jI}(h:GS k x):kS (qL fu x) (fun r=>r.size<=878):=by
 obtain _ | k:=k
 · exact h.elim
 unfold qL;have h1:=h.1.2.2.1;exact .ite (fun _=>.cl 1 rfl (by omega) fun g e=>.bd (U4 hf h.2.2.1) fun s hs=>.cv (by omega) fun g2 e2=>.cl 1 rfl (by omega) fun g3 e3=>.mk (by omega)) fun _=>.bd (U4 hf h.2.2.1) fun s hs=>.mk (by omega)
def CB:Nat→Nat
 | 0=>0
 | k+1=>1200+18 * CB k
theorem RL:∀ {k fu:Nat}{l:List jI}{tb:ByteArray},k≤4→(∀ y ∈ l,GS k y)→l.length≤22→tb.size+k≤5→k+40≤fu→kS (o8 fu l tb) (fun r=>r.size≤l.length * CB k)
 | _,0,_,_,_,_,_,_,h=>by omega
 | 0,fu+1,l,tb,_,h,_,_,_=>by
  cases l with
  | nil=>exact .mk (uy _)
  | cons x l=>exact (h x (Bn ..)).elim
 | k+1,fu+1,l,tb,hk,h,hl,ht,hf=>by
  show kS (AL fu (o8 fu) l tb) _;unfold AL;have hC:CB (k+1)=1200+18 * CB k:=rfl;have hC3:CB k<=411600:=by
   obtain _ | _ | _ | _ | k:=k
   · simp only [CB];decide
   · simp only [CB];decide
   · simp only [CB];decide
   · simp only [CB];decide
   · omega
  have hB:∀ {m:List jI}{u:ByteArray},(m.length<=9/\∀ y ∈ m,GS k y)->u.size=tb.size+1->kS (o8 fu m u) (fun r=>r.size<=9 * CB k):=fun hm hu=>(RL (by omega) hm.2 (by omega) (by omega) (by omega)).imp fun r hr=>q9 hr (Nat.mul_le_mul_right _ hm.1);have hL:∀ (l:List jI)(i:Nat)(s:ByteArray),(∀ y ∈ l,GS (k+1) y)->s.size+l.length * CB (k+1)<=500000000->kS (lS fu (o8 fu) tb l i s) (qh (fun r=>r.size<=s.size+l.length * CB (k+1)) (fun _=>False)):=by
   intro l
   induction l with
   | nil=>intro i s _ hs;exact .go (by simp only [uR];omega)
   | cons x l ih=>
     intro i s hy hs;rw [tT,Nat.succ_mul] at hs ⊢;have hx:=hy x (Bn ..);have go:∀ g:ByteArray,g.size<=s.size+CB (k+1)->kS (lS fu (o8 fu) tb l (i+1) g) (qh (fun r=>r.size<=s.size+(l.length * CB (k+1)+CB (k+1))) (fun _=>False)):=fun g hg=>(ih (i+1) g (fun y hy'=>hy y (wI _ hy')) (by omega)).imp fun v hv=>by
       cases v with
       | go r=>exact q9 (show r.size<=_ from hv) (by omega)
       | out o=>exact hv
     have hv:kS (qL fu x) (fun r=>r.size<=878):=VY (by omega) hx;obtain ⟨⟨a1,a2,a3,a4,a5⟩,hx2,hx3,hx4,hx5⟩:=hx;rw [lS];have hJ1:kS (yJ fu (o8 fu) x) (qh (fun s=>s.size<=219) (fun _=>False)):=by unfold yJ;exact .ite (fun _=>.bd (.ix (by decide) (by omega)) fun y hy=>.bd (QL (by omega) (hx2.2 y (wC hy))) fun s hs=>.cl 3 rfl (by omega) fun g e=>.go (by omega)) fun _=>.go (uy _)
     refine .Ep hJ1 fun tg htg=>.ite (fun _=>?_) fun _=>?_
     · have hJ2:kS (yD fu (o8 fu) x) (qh (fun s=>s.size<=4) (fun _=>False)):=by unfold yD;exact .ite (fun _=>.go (by decide)) fun _=>.go a2
       have hJ3:∀ u:ByteArray,u.size<=4->kS (y7 fu (o8 fu) x u) (qh (fun s=>s.size<=8) (fun _=>False)):=by intro u hu;unfold y7;exact .ite (fun _=>.bd (DI (d:=1) a4 (by omega) (by decide) (by decide) (by omega)) fun s hs=>.cr 4 rfl (by omega) fun g e=>.cl 1 rfl (by omega) fun g2 e2=>.go (by omega)) fun _=>.go (by omega)
       refine .Ep hJ2 fun u hu=>.Ep (hJ3 u hu) fun ty hty=>?_;exact .cv (by omega) fun g1 e1=>.cl 4 rfl (by omega) fun g2 e2=>.cv (by omega) fun g3 e3=>.cl 2 rfl (by omega) fun g4 e4=>.cv (by omega) fun g5 e5=>.cl 2 rfl (by omega) fun g6 e6=>go g6 (by omega)
     have hJ4:kS (x9 fu (o8 fu) x) (qh (fun _=>True) (fun _=>False)):=by unfold x9;exact .ite (fun _=>.go lF) fun _=>.go lF
     refine .Ep hJ4 fun b _=>.ite (fun _=>?_) fun _=>.ite (fun _=>?_) fun _=>.ite (fun _=>?_) fun _=>.ite (fun _=>?_) fun _=>.ite (fun _=>?_) fun _=>.ite (fun _=>?_) fun _=>.ite (fun _=>?_) fun _=>go s (by omega)
     · exact .cv (by omega) fun g1 e1=>.cv (by omega) fun g2 e2=>.bd hv fun v k1=>.cv (by omega) fun g3 e3=>.cl 2 rfl (by omega) fun g4 e4=>go g4 (by omega)
     · exact .cv (by omega) fun g1 e1=>.cl 7 rfl (by omega) fun g2 e2=>.bd hv fun v k1=>.cv (by omega) fun g3 e3=>.cl 2 rfl (by omega) fun g4 e4=>go g4 (by omega)
     · exact .cv (by omega) fun g1 e1=>.cl 6 rfl (by omega) fun g2 e2=>.bd hv fun v k1=>.cv (by omega) fun g3 e3=>.cl 2 rfl (by omega) fun g4 e4=>go g4 (by omega)
     · exact .cv (by omega) fun g1 e1=>.cl 6 rfl (by omega) fun g2 e2=>.bd hv fun v k1=>.cv (by omega) fun g3 e3=>.cl 2 rfl (by omega) fun g4 e4=>go g4 (by omega)
     · refine .cv (by omega) fun g1 e1=>.cl 3 rfl (by omega) fun g2 e2=>.cl 1 rfl (by omega) fun t1 t2=>.bd hv fun v k1=>.cv (by omega) fun g3 e3=>.cl 3 rfl (by omega) fun g4 e4=>.bd (hB hx4 t2) fun b1 k2=>.cv (by omega) fun g5 e5=>.ite (fun _=>?_) fun _=>?_
       · exact .cv (by omega) fun g6 e6=>.cl 9 rfl (by omega) fun g7 e7=>.cl 1 rfl (by omega) fun t3 t4=>.bd (hB hx5 t4) fun b2 k3=>.cv (by omega) fun g8 e8=>.cv (by omega) fun g9 e9=>.cl 2 rfl (by omega) fun g10 e10=>go g10 (by omega)
       · exact .cv (by omega) fun g6 e6=>.cl 2 rfl (by omega) fun g10 e10=>go g10 (by omega)
     · exact .cv (by omega) fun g1 e1=>.cl 6 rfl (by omega) fun g2 e2=>.cl 1 rfl (by omega) fun t1 t2=>.bd hv fun v k1=>.cv (by omega) fun g3 e3=>.cl 3 rfl (by omega) fun g4 e4=>.bd (hB hx4 t2) fun b1 k2=>.cv (by omega) fun g5 e5=>.cv (by omega) fun g6 e6=>.cl 2 rfl (by omega) fun g10 e10=>go g10 (by omega)
     · exact .cv (by omega) fun g1 e1=>.cl 6 rfl (by omega) fun g2 e2=>.cl 1 rfl (by omega) fun t1 t2=>.cl 1 rfl (by omega) fun t3 t4=>.bd (hB hx4 t2) fun b1 k2=>.cv (by omega) fun g5 e5=>.cv (by omega) fun g6 e6=>.cl 8 rfl (by omega) fun g7 e7=>.cv (by omega) fun g8 e8=>.cl 3 rfl (by omega) fun g9 e9=>.bd (hB hx5 t4) fun b2 k3=>.cv (by omega) fun g10 e10=>.cv (by omega) fun g11 e11=>.cl 2 rfl (by omega) fun g12 e12=>go g12 (by omega)
  have hlen:l.length * CB (k+1)<=22 * CB (k+1):=Nat.mul_le_mul_right _ hl;have h0:(⟨#[]⟩:ByteArray).size=0:=rfl;refine .el (hL l 0 _ h (by omega)) (fun s hs=>.mk (by omega)) fun _ z=>z.elim
theorem Ji {fu:Nat}(hf:50≤fu){B:Nat}(hB:B=163100000){O:ByteArray→Prop}:∀ (l:List kW)(k:Nat)(s:ByteArray),(∀ f ∈ l,GF f)→s.size+l.length * B≤700000000→kS (og fu l k s) (qh (fun r=>r.size≤s.size+l.length * B) O)
 | [],k,s,h,hs=>.go (Nat.le_add_right _ _)
 | x :: l,k,s,h,hs=>by
  rw [og];rw [tT,Nat.succ_mul] at hs ⊢;obtain ⟨a1,a2,a3⟩:=h x (Bn ..);have h9:(⟨#[9]⟩:ByteArray).size=1:=rfl;refine .cl 5 rfl (by omega) fun g1 e1=>.cv (by omega) fun g2 e2=>.cl 1 rfl (by omega) fun g3 e3=>.bd (Rx a2) fun w hw=>.cv (by omega) fun g4 e4=>.cl 4 rfl (by omega) fun g5 e5=>.bd (RL (k:=4) (by decide) a3.2 a3.1 (by omega) (by omega)) fun b hb=>?_;have hb2:b.size<=22 * CB 4:=q9 hb (Nat.mul_le_mul_right _ a3.1);have hc4:CB 4=7410000:=by simp only [CB]
  refine .cv (by omega) fun g6 e6=>.cl 2 rfl (by omega) fun g7 e7=>?_;exact (Ji hf hB l (k+1) g7 (fun y hy=>h y (wI _ hy)) (by omega)).imp fun v hv=>by
   cases v with
   | go r=>exact q9 (show r.size<=_ from hv) (by omega)
   | out o=>exact hv
theorem WU {fu:Nat}(hf:50<=fu){p:jS}(h:GPr p):kS (vN fu p) (fun s=>s.size<=700000000):=by
 unfold vN;have h0:(⟨#[]⟩:ByteArray).size=0:=rfl;rw [h.recs];have hR:kS (pJ fu [⟨⟨#[80]⟩,[⟨#[120]⟩,⟨#[121]⟩]⟩] 0 ⟨#[]⟩) (qh (fun s=>s.size<=100) (fun _=>False)):=by rw [pJ];have h1:(⟨⟨#[80]⟩,[⟨#[120]⟩,⟨#[121]⟩]⟩:kI).b.size=1:=rfl;refine .cl 7 rfl (by omega) fun g1 e1=>.cv (by omega) fun g2 e2=>.cl 3 rfl (by omega) fun g3 e3=>.bd (Rx ⟨by decide,MX⟩) fun w hw=>.cv (by omega) fun g4 e4=>.cl 3 rfl (by omega) fun g5 e5=>?_;rw [pJ];exact .go (by omega)
 have hl:=h.e.2;have hl2:p.b.length * 163100000<=4 * 163100000:=Nat.mul_le_mul_right _ hl;refine .el hR (fun s hs=>?_) fun _ z=>z.elim;exact .el (Ji hf rfl p.b 0 s h.el (O:=fun _=>False) (by omega)) (fun s hs=>.mk (by omega)) fun _ z=>z.elim
theorem sb {α β:Type}{x:α}{f:α->Option β}{X:Option β}(h:(some x).bind f=X):f x=X:=h
def Dp:ByteArray:=⟨#[114,101,99,111,114,100,32,80,32,123,32,120,44,32,121,32,125,10,102,117,110,99,32]⟩
def FV (s r:ByteArray):Prop:=∃ t,r=s ++ t
theorem FV.rfl' {s:ByteArray}:FV s s:=⟨ByteArray.empty,by rw [ByteArray.append_empty]⟩
theorem FV.trans {s r t:ByteArray}(h:FV s r)(k:FV r t):FV s t:=by obtain ⟨a,rfl⟩:=h;obtain ⟨b,rfl⟩:=k;exact ⟨a ++ b,ByteArray.append_assoc⟩
theorem FV.cat {s t r:ByteArray}(h:cat s t=some r):FV s r:=⟨t,(RH h).2.symm⟩
theorem aau {fu:Nat}:∀ (l:List kW)(k:Nat)(s:ByteArray)(r:Ld ByteArray ByteArray),og fu l k s=some r→∃ q,r=.go q∧FV s q
 | [],k,s,r,h=>by rw [og] at h;exact ⟨s,(sm h).symm,.rfl'⟩
 | x :: l,k,s,r,h=>by rw [og] at h;obtain ⟨g1,e1,h⟩:=bs h;obtain ⟨g2,e2,h⟩:=bs h;obtain ⟨g3,e3,h⟩:=bs h;obtain ⟨w1,_,h⟩:=bs h;obtain ⟨g4,e4,h⟩:=bs h;obtain ⟨g5,e5,h⟩:=bs h;obtain ⟨w2,_,h⟩:=bs h;obtain ⟨g6,e6,h⟩:=bs h;obtain ⟨g7,e7,h⟩:=bs h;obtain ⟨q,h1,h2⟩:=aau l (k+1) g7 r h;exact ⟨q,h1,(FV.cat e1).trans <| (FV.cat e2).trans <| (FV.cat e3).trans <| (FV.cat e4).trans <| (FV.cat e5).trans <| (FV.cat e6).trans <| (FV.cat e7).trans h2⟩
theorem aag:pJ 10100 [⟨⟨#[80]⟩,[⟨#[120]⟩,⟨#[121]⟩]⟩] 0 ⟨#[]⟩=some (.go ⟨#[114,101,99,111,114,100,32,80,32,123,32,120,44,32,121,32,125,10]⟩):=by kernel_rfl
theorem adG:cat ⟨#[114,101,99,111,114,100,32,80,32,123,32,120,44,32,121,32,125,10]⟩ ⟨#[102,117,110,99,32]⟩=some Dp:=by kernel_rfl
theorem Xi {p:jS}(hp:GPr p){s:ByteArray}(h:vN 10100 p=some s):FV Dp s:=by
 unfold vN at h;rw [hp.recs,aag] at h;obtain ⟨r,h1,h⟩:=bs h;obtain rfl:=sm h1;replace h:=gi h;obtain ⟨r,h2,h⟩:=bs h;cases hF:p.b with
 | nil=>have:=hp.e.1;rw [hF] at this;exact absurd this (by decide)
 | cons f l=>
  rw [hF,og] at h2;obtain ⟨g1,e1,h2⟩:=bs h2;rw [adG] at e1;obtain rfl:=sm e1;obtain ⟨g2,e2,h2⟩:=bs h2;obtain ⟨g3,e3,h2⟩:=bs h2;obtain ⟨w1,_,h2⟩:=bs h2;obtain ⟨g4,e4,h2⟩:=bs h2;obtain ⟨g5,e5,h2⟩:=bs h2;obtain ⟨w2,_,h2⟩:=bs h2;obtain ⟨g6,e6,h2⟩:=bs h2;obtain ⟨g7,e7,h2⟩:=bs h2;obtain ⟨q,rfl,h3⟩:=aau l _ g7 r h2;obtain rfl:=sm h;exact (FV.cat e2).trans <| (FV.cat e3).trans <| (FV.cat e4).trans <| (FV.cat e5).trans <| (FV.cat e6).trans <| (FV.cat e7).trans h3
theorem Ay:Dp.size=23:=rfl
section
variable {s:ByteArray}(H:FV Dp s)
include H
theorem JN:23<=s.size:=by obtain ⟨t,rfl⟩:=H;rw [BK,Ay];omega
theorem Ra {i:Int}(h:i < 23):ixs s i=ixs Dp i:=by
 obtain ⟨t,rfl⟩:=H;unfold Go.Fw.ixs;by_cases c:i < 0
 · rw [kg c,kg c]
 rw [jR c,jR c];have hk:i.toNat < Dp.size:=by rw [Ay];omega
 rw [getElem?_pos (Dp ++ t) i.toNat (by rw [BK];omega),getElem?_pos Dp i.toNat hk,ByteArray.getElem_append_left hk]
theorem TG {i j:Int}(h:j<=23):Py s i j=Py Dp i j:=by
 have hs:=JN H;obtain ⟨t,rfl⟩:=H;unfold Go.Fw.Py;by_cases c:0<=i/\i<=j/\j<=Dp.size
 · rw [kg c,kg ⟨c.1,c.2.1,by omega⟩,ByteArray.extract_append];have h0:j.toNat - Dp.size=0:=by rw [Ay];omega
   have h1:t.extract (i.toNat - Dp.size) (j.toNat - Dp.size)=ByteArray.empty:=by rw [h0];apply ByteArray.size_eq_zero_iff.1;rw [ByteArray.size_extract];omega
   rw [h1,ByteArray.append_empty]
 · rw [jR c,jR fun z=>c ⟨z.1,z.2.1,by rw [Ay];omega⟩]
theorem Us {fu:Nat}:∀ (n:Nat)(p q:Int),nR fu Dp n p=some (.go q)→q < 23→nR fu s n p=some (.go q)
 | 0,_,_,h,_=>by cases h
 | n+1,p,q,h,hq=>by
  rw [nR] at h ⊢;by_cases c:p < 23
  · have e:pO fu s p=pO fu Dp p:=by unfold pO;have:=JN H;rw [Ra H c,kg (by omega),kg (by rw [Ay];omega)]
    rw [e];obtain ⟨r,h1,h⟩:=bs h;rw [h1];show Option.bind (some r) _=_;cases r with
    | out o=>cases h
    | go b=>
     show (if b=true then _ else _)=_;replace h:=gi h;rcases jB h with ⟨h2,h⟩|⟨h2,h⟩
     · rw [kg h2];exact Us n _ _ h hq
     · rw [jR h2];exact h
  · have e:pO fu Dp p=some (.go false):=by unfold pO;rw [jR (by rw [Ay];omega)]
    rw [e] at h;have:q=p:=by have h2:=sm (show some (Ld.go (ρ:=kE × Int × Int) p)=some (.go q) from h);injection h2 with h2;exact h2.symm
    omega
theorem QJ {fu:Nat}{p:Int}(hp:p+2≤23)(h0:0≤p):∀ (l:List ByteArray)(k:Nat),oN fu s p l k=oN fu Dp p l k
 | [],_=>rfl
 | x :: l,k=>by rw [oN,oN,lM (by omega) (by omega),TG H hp,QJ hp h0 l]
theorem QU {fu:Nat}{p:Int}(hp:p+2≤23)(h0:0≤p):∀ (l:List FM)(k:Nat),oJ fu s p l k=oJ fu Dp p l k
 | [],_=>rfl
 | x :: l,k=>by rw [oJ,oJ,lM (by omega) (by omega),Ra H (by omega),TG H (by omega),QU hp h0 l]
theorem Zl {fu:Nat}{p:Int}(hp:p+2<=23)(h0:0<=p):vM fu s p=vM fu Dp p:=by have:=JN H;unfold vM xk;rw [QU H hp h0,QJ H hp h0,lM (by omega) (by omega),kg (by omega),kg (by rw [Ay];omega)]
theorem abn {fu:Nat}{p ln q g:Int}{b:Bool}(hp:p+2<=23)(h0:0<=p)(hg:ixs Dp p=some g)(hb:oO fu g=some b)(hd:qI fu g=some false)(hq:q < 23)(hw:b=true->nR fu Dp fu p=some (.go q)):tY fu s p ln=tY fu Dp p ln:=by
 unfold tY;rw [Ra H (by omega),Zl H hp h0,hg];show (oO fu g).bind _=(oO fu g).bind _;rw [hb];show (if b=true then _ else _)=(if b=true then _ else _);cases b with
 | true=>
  rw [kg rfl,kg rfl,Us H fu p q (hw rfl) hq,hw rfl];show (if _ then _ else Option.bind (Py s p q) _)=(if _ then _ else Option.bind (Py Dp p q) _);rw [TG H (by omega)]
 | false=>
  rw [jR (by decide),jR (by decide)];show (qI fu g).bind _=(qI fu g).bind _;rw [hd];rfl
end
theorem b47 {p g:Int}(h:ixs Dp p=some g):g≠47/\p < 23:=by
 obtain ⟨k,rfl,b,h1,rfl⟩:=Rz h;have hk:k < 23:=by
  by_cases c:k < Dp.size
  · exact c
  · rw [getElem?_neg Dp k c] at h1;cases h1
 refine ⟨fun z=>?_,by omega⟩;have hall:∀ j:Nat,j < 23->∀ b,Dp[j]?=some b->b.toNat≠47:=by decide
 exact hall k hk b h1 (by omega)
theorem PO {s:ByteArray}(H:FV Dp s){fu:Nat}:∀ (n:Nat)(p l:Int)(v:Int × Int),nu fu Dp n p l=some (.out v)→nu fu s n p l=some (.out v)
 | 0,_,_,_,h=>by cases h
 | n+1,p,l,v,h=>by
  have hs:=JN H;rw [nu] at h ⊢;rcases jB h with ⟨c,h⟩|⟨_,h⟩
  · rw [Ay] at c;rw [kg (by omega),Ra H c];obtain ⟨g,hg,h⟩:=bs h;rw [hg];show (tC fu s p g).bind _=_;have e:∀ u,tC fu u p g=some (.go false):=fun u=>by unfold tC;rw [jR (b47 hg).1]
    rw [e s];rw [e Dp] at h;show (wU fu p l g).bind _=_;replace h:=gi (sb h);rw [jR (by decide)] at h;obtain ⟨r,h1,h⟩:=bs h;rw [h1];cases r with
    | out o=>exact h
    | go u=>
     show (if g=10 then _ else _)=_;replace h:=gi h;rcases jB h with ⟨h2,h⟩|⟨h2,h⟩
     · rw [kg h2];exact PO H n _ _ _ h
     · rw [jR h2];exact PO H n _ _ _ h
  · cases h
theorem Cj {s:ByteArray}(H:FV Dp s){fu:Nat}{p l p' l':Int}(h:nu fu Dp fu p l=some (.out (p',l'))):tL fu s p l=some (p',l'):=by unfold tL;rw [PO H fu p l _ h];rfl
theorem X6 {fu:Nat}{s:ByteArray}:∀ (n:Nat)(p l:Int)(out:List kE)(a b:Int)(o:List kE),nk fu s n p l out=some (.go (a,b,o))→∃ t,o=out ++ t
 | 0,_,_,_,_,_,_,h=>by cases h
 | n+1,p,l,out,a,b,o,h=>by
  rw [nk] at h;rcases jB h with ⟨_,h⟩|⟨_,h⟩
  · obtain ⟨⟨v0,v1,v2⟩,_,h⟩:=bs h;replace h:=pi (pi h);obtain ⟨r,_,h⟩:=bs h;cases r with
    | out o=>cases h
    | go e=>
     replace h:=gi h;rcases jB h with ⟨_,h⟩|⟨_,h⟩
     · cases h
     · obtain ⟨r,hr,h⟩:=bs h;obtain ⟨⟨w0,w1⟩,_,h⟩:=bs h;replace h:=pi h;obtain ⟨t,rfl⟩:=X6 n _ _ _ _ _ _ h;rw [<-(qG hr).2];exact ⟨[v0] ++ t,by rw [Em]⟩
  · have h:=sm h;injection h with h;injection h with _ h;injection h with _ h;exact ⟨[],by rw [vJ,h]⟩
theorem XJ {fu:Nat}{s:ByteArray}:∀ (n:Nat)(p l:Int)(out a:List kE)(b e:Int),nk fu s n p l out=some (.out (a,b,e))→e≠0
 | 0,_,_,_,_,_,_,h=>by cases h
 | n+1,p,l,out,a,b,e,h=>by
  rw [nk] at h;rcases jB h with ⟨_,h⟩|⟨_,h⟩
  · obtain ⟨⟨v0,v1,v2⟩,_,h⟩:=bs h;replace h:=pi (pi h);obtain ⟨r,hr,h⟩:=bs h;cases r with
    | out o=>
     unfold rG at hr;rcases jB hr with ⟨_,hr⟩|⟨_,hr⟩
     · rcases jB hr with ⟨_,hr⟩|⟨_,hr⟩ <;> cases hr
     · cases hr
    | go x=>
     replace h:=gi h;rcases jB h with ⟨hx,h⟩|⟨_,h⟩
     · have h:=sm h;injection h with h;injection h with _ h;injection h with _ h;rw [<-h];exact hx
     · obtain ⟨r,hr,h⟩:=bs h;obtain ⟨⟨w0,w1⟩,_,h⟩:=bs h;exact XJ n _ _ _ _ _ _ (pi h)
  · cases h
theorem Fe {fu:Nat}{s:ByteArray}{n:Nat}{p l q p' l':Int}{out:List kE}{t:kE}(hp:p < s.size)(h1:tY fu s p l=some (t,q,0))(h2:out.length < 2000)(h3:tL fu s q l=some (p',l')) :nk fu s (n+1) p l out=nk fu s n p' l' (out ++ [t]):=by
 rw [nk,kg hp,h1];show (rG fu out 0).bind _=_;have e:rG fu out 0=some (.go 0):=by unfold rG;rw [kg rfl,jR (by omega)]
 rw [e];show (app out [t]).bind _=_;have e2:app out [t]=some (out ++ [t]):=kg (by simp only [tT,uR];omega);rw [e2];show (tL fu s q l).bind _=_;rw [h3];rfl
def tk7:List kE:=[⟨3,1,⟨#[114,101,99,111,114,100]⟩,0⟩,⟨1,1,⟨#[80]⟩,0⟩,⟨4,1,⟨#[123]⟩,0⟩,⟨1,1,⟨#[120]⟩,0⟩,⟨4,1,⟨#[44]⟩,0⟩,⟨1,1,⟨#[121]⟩,0⟩,⟨4,1,⟨#[125]⟩,0⟩]
def tk8:kE:=⟨3,2,⟨#[102,117,110,99]⟩,0⟩
theorem Zt {s:ByteArray}(H:FV Dp s){l:List kE}{ln:Int}(h:xM 10100 s=some (l,ln,0)):∃ t,l=tk7 ++ [tk8] ++ t:=by
 have hs:=JN H;unfold xM at h;rcases jB h with ⟨_,h⟩|⟨_,h⟩
 · have h:=sm h;injection h with _ h;injection h with _ h;exact absurd h (by decide)
 rw [Cj H (show nu 10100 Dp 10100 0 1=some (.out (0,1)) by kernel_rfl)] at h;replace h:=pi (sb h);obtain ⟨r,h1,h⟩:=bs h;have one:∀ {p ln q g:Int}{b:Bool}{t:kE}(q':Int),p+2<=23->0<=p->ixs Dp p=some g->oO 10100 g=some b->qI 10100 g=some false->q' < 23->(b=true->nR 10100 Dp 10100 p=some (.go q'))->tY 10100 Dp p ln=some (t,q,0)->tY 10100 s p ln=some (t,q,0):=fun q' a1 a2 a3 a4 a5 a6 a7 a8=>by rw [abn H a1 a2 a3 a4 a5 a6 a7];exact a8
 rw [Fe (by omega) (one (t:=⟨3,1,⟨#[114,101,99,111,114,100]⟩,0⟩) (q:=6) (g:=114) (b:=true) 6 (by decide) (by decide) (by kernel_rfl) (by kernel_rfl) (by kernel_rfl) (by decide) (fun _=>by kernel_rfl) (by kernel_rfl)) (by decide) (Cj H (p':=7) (l':=1) (by kernel_rfl)),
   Fe (by omega) (one (t:=⟨1,1,⟨#[80]⟩,0⟩) (q:=8) (g:=80) (b:=true) 8 (by decide) (by decide) (by kernel_rfl) (by kernel_rfl) (by kernel_rfl) (by decide) (fun _=>by kernel_rfl) (by kernel_rfl)) (by decide) (Cj H (p':=9) (l':=1) (by kernel_rfl)),
   Fe (by omega) (one (t:=⟨4,1,⟨#[123]⟩,0⟩) (q:=10) (g:=123) (b:=false) 0 (by decide) (by decide) (by kernel_rfl) (by kernel_rfl) (by kernel_rfl) (by decide) (fun z=>(by cases z)) (by kernel_rfl)) (by decide) (Cj H (p':=11) (l':=1) (by kernel_rfl)),
   Fe (by omega) (one (t:=⟨1,1,⟨#[120]⟩,0⟩) (q:=12) (g:=120) (b:=true) 12 (by decide) (by decide) (by kernel_rfl) (by kernel_rfl) (by kernel_rfl) (by decide) (fun _=>by kernel_rfl) (by kernel_rfl)) (by decide) (Cj H (p':=12) (l':=1) (by kernel_rfl)),
   Fe (by omega) (one (t:=⟨4,1,⟨#[44]⟩,0⟩) (q:=13) (g:=44) (b:=false) 0 (by decide) (by decide) (by kernel_rfl) (by kernel_rfl) (by kernel_rfl) (by decide) (fun z=>(by cases z)) (by kernel_rfl)) (by decide) (Cj H (p':=14) (l':=1) (by kernel_rfl)),
   Fe (by omega) (one (t:=⟨1,1,⟨#[121]⟩,0⟩) (q:=15) (g:=121) (b:=true) 15 (by decide) (by decide) (by kernel_rfl) (by kernel_rfl) (by kernel_rfl) (by decide) (fun _=>by kernel_rfl) (by kernel_rfl)) (by decide) (Cj H (p':=16) (l':=1) (by kernel_rfl)),
   Fe (by omega) (one (t:=⟨4,1,⟨#[125]⟩,0⟩) (q:=17) (g:=125) (b:=false) 0 (by decide) (by decide) (by kernel_rfl) (by kernel_rfl) (by kernel_rfl) (by decide) (fun z=>(by cases z)) (by kernel_rfl)) (by decide) (Cj H (p':=18) (l':=2) (by kernel_rfl))] at h1
 rw [nk,kg (by omega),one (t:=tk8) (q:=22) (g:=102) (b:=true) 22 (by decide) (by decide) (by kernel_rfl) (by kernel_rfl) (by kernel_rfl) (by decide) (fun _=>by kernel_rfl) (by kernel_rfl)] at h1;replace h1:=pi (pi (sb h1));obtain ⟨r1,h2,h1⟩:=bs h1;obtain rfl:Ld.go (0:Int)=r1:=sm h2;replace h1:=gi h1;rw [jR (by decide)] at h1;obtain ⟨r2,h3,h1⟩:=bs h1;obtain ⟨⟨v0,v1⟩,_,h1⟩:=bs h1;replace h1:=pi h1;obtain ⟨_,rfl⟩:=qG h3;cases r with
 | out o=>
   obtain ⟨a,b,e⟩:=o;have h:=sm (show some (a,b,e)=some (l,ln,0) from h);injection h with _ h;injection h with _ h;exact absurd h (XJ _ _ _ _ _ _ _ h1)
 | go u=>
   obtain ⟨a,b,o⟩:=u;obtain ⟨t,rfl⟩:=X6 _ _ _ _ _ _ _ h1;replace h:=gi h;replace h:=pi (pi h);obtain ⟨r2,h3,h⟩:=bs h;have h:=sm h;injection h with h _;subst h;rw [<-(qG h3).2];exact ⟨t ++ _,by rw [Em];rfl⟩
end Go.Proofs.YtfglbdkfnphjgaaGreat
namespace Go.Fw
open Go.RowKit
def RP (R:Value→World→Prop)(V:List PanicEntry→World→Prop):Ending→World→Prop
 | .returned v,w=>R v w
 | .panicked c,w=>V c w
 | .outgrown,_=>False
def Pch (v:Value)(c:List PanicEntry):Prop:=∃ l:List PanicEntry,c=⟨v,false,false⟩ :: l/\∀ e ∈ l,e.goexit=false
theorem zo (v:Value):Pch v [⟨v,false,false⟩]:=⟨[],rfl,fun _ h=>by cases h⟩
section
variable {P:Program}{N:Fz}{ops:Array Oper}{K:KK}{rest:List Oper}{f:Fr}{w:World}{d:Option Nat}{op:Op}{ty:TypeId}{pos:String}{af:Array Edge}
theorem Nk {w':World}{g:FuncId}{args:Array Value}{R:Value->World->Prop}{V:List PanicEntry->World->Prop}(h:(execOp (ev f) ⟨d,op,ty,pos,af,none⟩).run P w=.ok (.enter g args) w')(hc:Calls P g args w' (RP R V))(kp:∀ c w'',V c w''->K.p f c w'')(k:∀ v w'',R v w''->pV P N ops K rest (nU f d v) w'') :pV P N ops K (⟨d,op,ty,pos,af,none⟩ :: rest) f w:=by
 unfold pV;intro hok a ha;have h1:=hok _ (Bn ..);refine wpList_plain rfl fun K' hK=>?_;unfold Oper.wp;rw [ha.yT,h];refine hc.mono fun e w'' he=>?_;cases e with
 | returned v=>
  have:=k v w'' he;unfold pV at this;exact hK _ _ (this (fun o ho=>hok o (wI _ ho)) _ (ha.put d (rX h1) v))
 | panicked c=>exact ⟨f,ha,kp c w'' he⟩
 | outgrown=>exact he.elim
theorem Xo {w':World}{v:Value}(h:(execOp (ev f) ⟨d,op,ty,pos,af,none⟩).run P w=.halt (.panic v) w')(kp:K.p f [⟨v,false,false⟩] w') :pV P N ops K (⟨d,op,ty,pos,af,none⟩ :: rest) f w:=by unfold pV;intro hok a ha;refine wpList_plain rfl fun K' hK=>?_;unfold Oper.wp;rw [ha.yT,h];exact ⟨f,ha,kp⟩
theorem Cq {x:Operand}{t:TypeId}{v:Value}(hx:ev f x=.iface t v)(kp:K.p f [⟨.iface t v,false,false⟩] w):pV P N ops K (⟨d,.panic x,ty,pos,af,none⟩ :: rest) f w:=
 Xo (v:=.iface t v) (by simp [execOp,hx,Instr.panic,goPanic]) kp
end
section
variable {P:Program}{w:World}{ρ:Operand->Value}{d:Option Nat}{ty:TypeId}{pos:String}{af:Array Edge}{g:Option (Nat × Bool)}
def Rt (P:Program)(ρ:Operand->Value)(o:Oper)(w:World):Prop:=∃ w' v,(execOp ρ o).run P w=.halt (.panic (.iface P.rt.boundsError v)) w'/\(w'=w\/w'=w.drew)
theorem Rv {t e:TypeId}{x y:Operand}{n c:Nat}{k:IntKind}{i:Int}(ht:P.underlying t=some (.slice e)){a:Option Addr}(hx:ρ x=.slice a n c)(hy:ρ y=.int k i)(hi:¬ (0<=i/\i < n)):Rt P ρ ⟨d,.indexAddr t x y,ty,pos,af,g⟩ w:=by
 have hb:∀ m:Int,∃ w' v,(boundsPanic (α:=Value) k i m .index).run P w=.halt (.panic (.iface P.rt.boundsError v)) w'/\(w'=w\/w'=w.drew):=fun m=>by
  unfold boundsPanic;by_cases h:(k != .u64 && decide (0<=i) && decide (i<=31))=true
  · refine ⟨w.drew,?_⟩;simp [h,runtimePanic,goPanic,Question.forced]
  · refine ⟨w,?_⟩;simp [h,runtimePanic,goPanic]
 have h2:(execOp ρ ⟨d,.indexAddr t x y,ty,pos,af,g⟩).run P w=((boundsPanic (α:=Value) k i (if a=none then 0 else n) .index).run P w).andThen fun v w=>.ok (.value v) w:=by
  cases a with
  | none=>simp [execOp,hx,hy,Instr.indexAt,run_underlying ht,asIntOf]
  | some a=>simp [execOp,hx,hy,Instr.indexAt,run_underlying ht,asIntOf,hi]
 obtain ⟨w',v,h3,h4⟩:=hb (if a=none then 0 else n);exact ⟨w',v,by rw [h2,h3];rfl,h4⟩
end
section
variable {P:Program}{N:Fz}{ops:Array Oper}{S1 S:World->Prop}{T:List Nat}{K:KK}{f:Fr}{w:World}{n:Nat}{L:Array Bool}
theorem TD {i:Nat}{oi:Oper}{w':World}{g:FuncId}{args:Array Value}{R:Value->World->Prop}{V:List PanicEntry->World->Prop}(hi:ops[i]?=some oi)(hw:uV ops f oi.guard=true)(h:(execOp (ev f) oi).run P w=.ok (.enter g args) w')(hc:Calls P g args w' (RP R V))(kp:∀ c w'',V c w''->∀ f,K.p f c w'')(k:∀ v w'',R v w''->GN S1 T S (L.setIfInBounds i true) w''/\tK P N ops S1 S T K n (L.setIfInBounds i true) (nU f oi.dst v) w''):CS P N ops S1 S T K n L f w i:=by
 unfold CS;intro hok hcl a ha;have hd:wL N oi=true:=hok oi (by have:=Array.mem_of_getElem? hi;simpa using this);unfold wpOp;simp only [hi];rw [kg (by rw [u6 ha];exact hw)];left;unfold Oper.wp;rw [ha.yT,h];refine hc.mono fun e w'' he=>?_;cases e with
 | returned v=>
  have h2:=(k v w'' he).2;unfold tK at h2;exact ⟨(k v w'' he).1,h2 hok hcl _ (ha.put _ (rX hd) v)⟩
 | panicked c=>exact ⟨f,ha,kp c w'' he⟩
 | outgrown=>exact he.elim
theorem Yz {i:Nat}{oi:Oper}{w':World}{v:Value}(hi:ops[i]?=some oi)(hw:uV ops f oi.guard=true)(h:(execOp (ev f) oi).run P w=.halt (.panic v) w')(kp:∀ f,K.p f [⟨v,false,false⟩] w'):CS P N ops S1 S T K n L f w i:=by unfold CS;intro hok hcl a ha;unfold wpOp;simp only [hi];rw [kg (by rw [u6 ha];exact hw)];left;unfold Oper.wp;rw [ha.yT,h];exact ⟨f,ha,kp⟩
end
section
variable {P:Program}{N:Fz}
theorem xZ {g:FuncId}{fn:Func}{c:Code}{args:Array Value}{w:World}{R:Value->World->Prop}{V:List PanicEntry->World->Prop}(hf:P.funcs[g]?=some fn)(hb:fn.body=some c)(h:WP P (fn.ntmps,[]) c ⟨Reads P fn R,fun _ _ _=>False,Reads P fn R,fun _ c w=>V c w⟩ (zD args) w)(hs:Nat.ble args.size fn.ntmps=true:=by exact rfl)(hok:Fj (fn.ntmps,[]) c=true:=by kernel_rfl):Calls P g args w (RP R V):=by
 have hs:=Nat.le_of_ble_eq_true hs;unfold WP at h;refine calls_of_wp hf hb (Code.wp_mono (fun e a w q=>?_) (h hok _ ⟨by simp;omega,fun t=>?_,rfl⟩))
 · cases e with
   | normal=>
     obtain ⟨f,h1,h2⟩:=q;unfold Reads at h2;obtain ⟨v,hv,hR⟩:=h2 a.tmps h1.get;exact ⟨h1.dfr,v,hv,hR⟩
   | ret=>
     obtain ⟨f,h1,h2⟩:=q;unfold Reads at h2;obtain ⟨v,hv,hR⟩:=h2 a.tmps h1.get;exact ⟨h1.dfr,v,hv,hR⟩
   | exit i=>obtain ⟨f,h1,h2⟩:=q;exact h2.elim
   | panic c=>obtain ⟨f,h1,h2⟩:=q;exact ⟨h1.dfr,h2⟩
   | _=>exact q.elim
 · unfold zD;simp only [Array.getD_eq_getD_getElem?];rw [Array.getElem?_append];split
   · rfl
   · rename_i hlt;rw [Array.getElem?_replicate];split
     · rw [Array.getElem?_eq_none (by omega)];rfl
     · rw [Array.getElem?_eq_none (by omega)]
theorem Dj {args:Array Value}{n:Nat}(hs:args.size<=n):Fg (n,[]) (zD args) { tmps:=args ++ Array.replicate (n - args.size) undef,defers:=[] }:=by
 refine ⟨by simp;omega,fun t=>?_,rfl⟩;unfold zD;simp only [Array.getD_eq_getD_getElem?];rw [Array.getElem?_append];split
 · rfl
 · rename_i hlt;rw [Array.getElem?_replicate];split
   · rw [Array.getElem?_eq_none (by omega)];rfl
   · rw [Array.getElem?_eq_none (by omega)]
def PE (P:Program)(N:Fz)(c:Code)(Q:Exit->Act->World->Prop)(f:Fr)(w:World):Prop:=Fj N c=true->∀ a,Fg N f a->c.wp P Q a w
theorem Xu {c:Code}{Q:Post}{Q':Exit->Act->World->Prop}{f:Fr}{w:World}(h:WP P N c Q f w)(k:∀ e a w,lift N Q e a w->Q' e a w):PE P N c Q' f w:=fun hok a ha=>by unfold WP at h;exact Code.wp_mono (fun e a w q=>k e a w q) (h hok a ha)
theorem Zz {x y:Code}{Q:Exit→Act→World→Prop}{X:Nat→Fr→World→Prop}{R:Fr→World→Prop}{V:Fr→List PanicEntry→World→Prop}{f:Fr}{w:World}
  (h:WP P N x ⟨fun f w=>PE P N y Q f w,X,R,V⟩ f w) (k:∀ e a w,lift N ⟨fun _ _=>False,X,R,V⟩ e a w->Q e a w):PE P N (.seq x y) Q f w:=fun hok a ha=>by
 unfold WP at h;simp only [Fj,Dx] at hok;refine wp_seq (Code.wp_mono (fun e a w q=>?_) (h hok.1 a ha));cases e with
 | normal=>obtain ⟨f,h1,h2⟩:=q;exact h2 hok.2 a h1
 | _=>exact k _ a w q
theorem Bj {n:Nat}{d e:List Deferred}:∀ (c:Code),Fj (n,d) c=true→Fj (n,e) c=true
 | .region _ _ _,h=>h
 | .seq a b,h=>by simp only [Fj,Dx] at h ⊢;exact ⟨Bj a h.1,Bj b h.2⟩
 | .cond _ a b,h=>by simp only [Fj,Dx] at h ⊢;exact ⟨Bj a h.1,Bj b h.2⟩
 | .block _ c,h=>Bj c h
 | .loop c,h=>Bj c h
 | .scope c,h=>Bj c h
 | .skip,_=>rfl
 | .ret,_=>rfl
 | .exit _,_=>rfl
 | .rangeFunc _ _ _ _,_=>rfl
 | .label _,_=>rfl
 | .goto _,_=>rfl
 | .refuse _,_=>rfl
theorem UR {i:Nat}{o1 o2:Oper}{y:Code}{Q:Exit→Act→World→Prop}{f:Fr}{w:World}{v:Value}{d:Deferred}
  (e1:(execOp (ev f) o1).run P w=.ok (.value v) w) (e2:(execOp (ev (nU f o1.dst v)) o2).run P w=.ok (.defer d) w)
  (k:PE P (N.1,d :: N.2) y Q (nU f o1.dst v) w) (h1:o1.guard=none:=by rfl) (h2:o2.guard=none:=by rfl) (h3:o2.dst=none:=by rfl) :
  PE P N (.seq (.region i #[o1,o2] false) y) Q f w:=fun hok a ha=>by
 simp only [Fj,Dx] at hok;have hd1:wL N o1=true:=by have:=hok.1;simp at this;exact this.1
 have hp:=ha.put o1.dst (rX hd1) v;refine wp_seq (wp_region_lit (l:=[o1,o2]) ?_);refine wpList_plain h1 fun K1 hK1=>?_;unfold Oper.wp;rw [ha.yT,e1];refine hK1 _ _ (wpList_plain h2 fun K2 hK2=>?_);unfold Oper.wp;rw [hp.yT,e2];refine hK2 _ _ (wpList_nil ?_);rw [h3];refine k (Bj y hok.2) _ ⟨hp.size,hp.get,?_⟩;show d :: (a.put o1.dst v).defers=d :: N.2;rw [hp.dfr]
theorem KS {g:FuncId}{fn:Func}{c:Code}{args:Array Value}{w:World}{R:Ending->World->Prop}(hf:P.funcs[g]?=some fn)(hb:fn.body=some c)(h:PE P (fn.ntmps,[]) c (bodyPostD P fn R) (zD args) w)(hs:Nat.ble args.size fn.ntmps=true:=by exact rfl)(hok:Fj (fn.ntmps,[]) c=true:=by kernel_rfl):Calls P g args w R:=
 calls_of_wp_defers hf hb (h hok _ (Dj (Nat.le_of_ble_eq_true hs)))
def CZ:FrameMode→Value × FrameMode
 | .panicking (⟨v,false,false⟩ :: l)=>(v,.panicking (⟨v,true,false⟩ :: l))
 | m=>(.nilIface,m)
def RD (u:FrameMode)(R:World→Prop)(V:List PanicEntry→World→Prop):Ending→FrameMode→World→Prop
 | .returned _,u',w=>u'=u/\R w
 | .panicked c,u',w=>u'=u/\V c w
 | .outgrown,_,_=>False
theorem abJ {i:Nat}{o:Oper}{Q:Exit->Act->List Frame->World->Prop}{a:Act}{c:Frame}{cs:List Frame}{w:World}(hg:o.guard=none)(he:(execOp a.eval o).run P w=.ok .recover w)(k:Q .normal (a.put o.dst (CZ c.mode).1) ({ c with mode:=(CZ c.mode).2 } :: cs) w):(Code.region i #[o] false).wpS P Q a (c :: cs) w:=by
 refine wpS_region ?_;show wpOpsS P #[o] Q [0] a (c :: cs) w;simp only [wpOpsS,List.getElem?_toArray,EW,Region.wanted,hg,if_true,he];have e:∀ m,c.mode=m->({ c with mode:=m }:Frame)=c:=fun m h=>by subst h;rfl
 cases hm:c.mode with
 | panicking l=>
  cases l with
  | nil=>simp only [recoverD,hm];rw [hm] at k;simp only [CZ] at k;rw [e _ hm] at k;exact k
  | cons e l=>
   obtain ⟨v,r,g⟩:=e;cases r <;> cases g <;> simp only [recoverD,hm] <;> (rw [hm] at k;simp only [CZ] at k;first | exact k | (rw [e _ hm] at k;exact k))
 | _=>simp only [recoverD,hm];rw [hm] at k;simp only [CZ] at k;rw [e _ hm] at k;exact k
theorem GJ {g:FuncId}{fn:Func}{i:Nat}{o:Oper}{y:Code}{args:Array Value}{u:FrameMode}{w:World}{R:World->Prop}{V:List PanicEntry->World->Prop}(hf:P.funcs[g]?=some fn)(hb:fn.body=some (.seq (.region i #[o] false) y))(hr:fn.results=#[])(he:(execOp (ev (zD args)) o).run P w=.ok .recover w)(h:WP P (fn.ntmps,[]) y ⟨fun _ w=>R w,fun _ _ _=>False,fun _ w=>R w,fun _ c w=>V c w⟩ (nU (zD args) o.dst (CZ u).1) w)(hg:o.guard=none:=by rfl)(hs:Nat.ble args.size fn.ntmps=true:=by exact rfl)(hok:Fj (fn.ntmps,[]) (.seq (.region i #[o] false) y)=true:=by kernel_rfl) :CallsD P g args u w (RD (CZ u).2 R V):=by
 refine callsD_of_wpS hf hb fun c cs hu=>?_;subst hu;simp only [Fj,Dx] at hok;have ha:=Dj (Nat.le_of_ble_eq_true hs);have hd1:wL (fn.ntmps,[]) o=true:=by have:=hok.1;simp at this;exact this
 refine wpS_seq (abJ hg (by rw [ha.yT];exact he) (wpS_of_wp ?_));unfold WP at h;refine Code.wp_mono (fun e a w q=>?_) (h hok.2 _ (ha.put o.dst (rX hd1) _));cases e with
 | normal=>obtain ⟨f,h1,h2⟩:=q;exact ⟨h1.dfr,_,rfl,_,results_none hr _ P w,rfl,h2⟩
 | ret=>obtain ⟨f,h1,h2⟩:=q;exact ⟨h1.dfr,_,rfl,_,results_none hr _ P w,rfl,h2⟩
 | panic c=>obtain ⟨f,h1,h2⟩:=q;exact ⟨h1.dfr,_,rfl,rfl,h2⟩
 | exit i=>obtain ⟨f,h1,h2⟩:=q;exact h2.elim
 | _=>exact q.elim
theorem Qz {g:FuncId}{fn:Func}{i:Nat}{o:Oper}{y z:Code}{args:Array Value}{u:FrameMode}{w:World}{R:World->Prop}{V:List PanicEntry->World->Prop}(hf:P.funcs[g]?=some fn)(hb:fn.body=some (.seq (.seq (.region i #[o] false) y) z))(hr:fn.results=#[])(he:(execOp (ev (zD args)) o).run P w=.ok .recover w)(h:WP P (fn.ntmps,[]) y ⟨fun f w=>WP P (fn.ntmps,[]) z ⟨fun _ w=>R w,fun _ _ _=>False,fun _ w=>R w,fun _ c w=>V c w⟩ f w,fun _ _ _=>False,fun _ w=>R w,fun _ c w=>V c w⟩ (nU (zD args) o.dst (CZ u).1) w)(hg:o.guard=none:=by rfl)(hs:Nat.ble args.size fn.ntmps=true:=by exact rfl)(hok:Fj (fn.ntmps,[]) (.seq (.seq (.region i #[o] false) y) z)=true:=by kernel_rfl) :CallsD P g args u w (RD (CZ u).2 R V):=by
 refine callsD_of_wpS hf hb fun c cs hu=>?_;subst hu;simp only [Fj,Dx] at hok;have ha:=Dj (Nat.le_of_ble_eq_true hs);have hd1:wL (fn.ntmps,[]) o=true:=by have:=hok.1.1;simp at this;exact this
 refine wpS_seq (wpS_seq (abJ hg (by rw [ha.yT];exact he) (wpS_of_wp ?_)));unfold WP at h;have fin:∀ (e:Exit)(a:Act)(w:World),lift (fn.ntmps,[]) ⟨fun _ w=>R w,fun _ _ _=>False,fun _ w=>R w,fun _ c w=>V c w⟩ e a w->bodyPostS P fn c cs (RD (CZ c.mode).2 R V) e a ({ c with mode:=(CZ c.mode).2 } :: cs) w:=fun e a w q=>by
  cases e with
  | normal=>obtain ⟨f,h1,h2⟩:=q;exact ⟨h1.dfr,_,rfl,_,results_none hr _ P w,rfl,h2⟩
  | ret=>obtain ⟨f,h1,h2⟩:=q;exact ⟨h1.dfr,_,rfl,_,results_none hr _ P w,rfl,h2⟩
  | panic c=>obtain ⟨f,h1,h2⟩:=q;exact ⟨h1.dfr,_,rfl,rfl,h2⟩
  | exit i=>obtain ⟨f,h1,h2⟩:=q;exact h2.elim
  | _=>exact q.elim
 refine Code.wp_mono (fun e a w q=>?_) (h hok.1.2 _ (ha.put o.dst (rX hd1) _));cases e with
 | normal=>
  obtain ⟨f,h1,h2⟩:=q;exact wpS_of_wp (Code.wp_mono (fun e a w q=>fin e a w q) (h2 hok.2 _ h1))
 | ret=>exact fin .ret a w q
 | panic c=>exact fin (.panic c) a w q
 | exit i=>obtain ⟨f,h1,h2⟩:=q;exact h2.elim
 | _=>exact q.elim
end
end Go.Fw
namespace Go.Proofs.YtfglbdkfnphjgaaGreat
open Go.RowKit Go.Fw Go.Proofs.Tryz
def Ij (f:BitVec 64->BitVec 64->BitVec 64)(a b:Int):Int:=wr (f (BitVec.ofInt 64 a) (BitVec.ofInt 64 b)).toNat
section
variable {P:Program}{w:World}{ρ:Operand->Value}{d:Option Nat}{ty:TypeId}{pos:String}{af:Array Edge}{g:Option (Nat × Bool)}{t t':TypeId}{x y:Operand}{a b:Int}
theorem aaY (hx:ρ x=V a)(hy:ρ y=V b):Yl P ρ (.binOp .and t x y t') d ty pos af g w (V (Ij (· &&& ·) a b)):=by have h:Op.intBits .and .i64 a b=pure (V (Ij (· &&& ·) a b)):=rfl;simp [Yl,execOp,hx,hy,binOp,eqGuard,h]
theorem ad8 (hx:ρ x=V a)(hy:ρ y=V b):Yl P ρ (.binOp .or t x y t') d ty pos af g w (V (Ij (· ||| ·) a b)):=by have h:Op.intBits .or .i64 a b=pure (V (Ij (· ||| ·) a b)):=rfl;simp [Yl,execOp,hx,hy,binOp,eqGuard,h]
theorem aaW (hx:ρ x=V a)(hy:ρ y=V b):Yl P ρ (.binOp .xor t x y t') d ty pos af g w (V (Ij (· ^^^ ·) a b)):=by have h:Op.intBits .xor .i64 a b=pure (V (Ij (· ^^^ ·) a b)):=rfl;simp [Yl,execOp,hx,hy,binOp,eqGuard,h]
theorem acd (hx:ρ x=V a):Yl P ρ (.unOp .neg t x) d ty pos af g w (V (wr (0 - a))):=by simp [Yl,execOp,hx,Op.unary,Op.intArith,wr]
theorem MS {v:Value}(h:∃ D,P.underlying t=some D/\(match D with | .interface _=>false | _=>true)=true)(hx:ρ x=v):Yl P ρ (.makeInterface t x) d ty pos af g w (.iface t v):=by obtain ⟨D,h1,h2⟩:=h;cases D <;> simp_all [Yl,execOp,Instr.makeInterface,run_underlying h1]
end
section
variable {P:Program}{N:Fz}{ops:Array Oper}{K:KK}{rest:List Oper}{f:Fr}{w:World}{d:Option Nat}{ty:TypeId}{pos:String}{af:Array Edge}
theorem acr {op:Op}{g:Nat × Bool}(h:uV ops f (some g)=true)(k:pV P N ops K (⟨d,op,ty,pos,af,none⟩ :: rest) f w):pV P N ops K (⟨d,op,ty,pos,af,some g⟩ :: rest) f w:=kG h k
theorem acN {op:Op}{g:Nat × Bool}(h:uV ops f (some g)=false)(k:pV P N ops K rest (nU f d undef) w):pV P N ops K (⟨d,op,ty,pos,af,some g⟩ :: rest) f w:=jM h k
theorem aa0 {x:Operand}{p:Option Addr}(h:ev f x=.pointer p)(k:pV P N ops K rest (nU f d (.pointer p)) w):pV P N ops K (⟨d,.move x,ty,pos,af,none⟩ :: rest) f w:=kr (oF h) k
theorem abd {x:Operand}{n:Int}(h:ev f x=V n)(k:pV P N ops K rest (nU f d (V n)) w):pV P N ops K (⟨d,.move x,ty,pos,af,none⟩ :: rest) f w:=kr (Qw h) k
theorem acM {x:Operand}{p:Option Addr}{n m:Nat}(h:ev f x=.slice p n m)(k:pV P N ops K rest (nU f d (.slice p n m)) w):pV P N ops K (⟨d,.move x,ty,pos,af,none⟩ :: rest) f w:=kr (mK h) k
theorem aar {x:Operand}{b:Bool}(h:ev f x=.bool b)(k:pV P N ops K rest (nU f d (.bool b)) w):pV P N ops K (⟨d,.move x,ty,pos,af,none⟩ :: rest) f w:=kr (kV h) k
theorem acw {x:Operand}{b:ByteArray}(h:ev f x=T b)(k:pV P N ops K rest (nU f d (T b)) w):pV P N ops K (⟨d,.move x,ty,pos,af,none⟩ :: rest) f w:=kr (lI h) k
theorem aNl {x:Operand}{a:Addr}(h:ev f x=.pointer (some a))(k:pV P N ops K rest (nU f d (.pointer (some a))) w):pV P N ops K (⟨d,.nilCheck x,ty,pos,af,none⟩ :: rest) f w:=kr (Yv h) k
theorem abM {x:Operand}{n:Int}(h:ev f x=V n)(k:pV P N ops K rest (nU f d (V n)) w):pV P N ops K (⟨d,.assign x,ty,pos,af,none⟩ :: rest) f w:=kr (Kv h) k
theorem ab9 {x:Operand}{b:Bool}(h:ev f x=.bool b)(k:pV P N ops K rest (nU f d (.bool b)) w):pV P N ops K (⟨d,.assign x,ty,pos,af,none⟩ :: rest) f w:=kr (kD h) k
theorem abx {x:Operand}{p:Option Addr}{n m:Nat}(h:ev f x=.slice p n m)(k:pV P N ops K rest (nU f d (.slice p n m)) w):pV P N ops K (⟨d,.assign x,ty,pos,af,none⟩ :: rest) f w:=kr (mh h) k
theorem ab5 {x:Operand}{p:Option Addr}(h:ev f x=.pointer p)(k:pV P N ops K rest (nU f d (.pointer p)) w):pV P N ops K (⟨d,.assign x,ty,pos,af,none⟩ :: rest) f w:=kr (P5 h) k
theorem aaI {x:Operand}{b:ByteArray}(h:ev f x=T b)(k:pV P N ops K rest (nU f d (T b)) w):pV P N ops K (⟨d,.assign x,ty,pos,af,none⟩ :: rest) f w:=kr (mX h) k
theorem abL {t t':TypeId}{x y:Operand}{n m:Int}(h:ev f x=V n)(h2:ev f y=V m)(k:pV P N ops K rest (nU f d (.bool (decide (n=m)))) w):pV P N ops K (⟨d,.binOp .eql t x y t',ty,pos,af,none⟩ :: rest) f w:=kr (kT h h2) k
theorem aal {t t':TypeId}{x y:Operand}{n m:Int}(h:ev f x=V n)(h2:ev f y=V m)(k:pV P N ops K rest (nU f d (.bool (decide (n≠m)))) w):pV P N ops K (⟨d,.binOp .neq t x y t',ty,pos,af,none⟩ :: rest) f w:=kr (rz h h2) k
theorem aaG {t t':TypeId}{x y:Operand}{n m:Int}(h:ev f x=V n)(h2:ev f y=V m)(k:pV P N ops K rest (nU f d (.bool (decide (n < m)))) w):pV P N ops K (⟨d,.binOp .lss t x y t',ty,pos,af,none⟩ :: rest) f w:=kr (qC h h2) k
theorem aaK {t t':TypeId}{x y:Operand}{n m:Int}(h:ev f x=V n)(h2:ev f y=V m)(k:pV P N ops K rest (nU f d (.bool (decide (n<=m)))) w):pV P N ops K (⟨d,.binOp .leq t x y t',ty,pos,af,none⟩ :: rest) f w:=kr (M4 h h2) k
theorem acL {t t':TypeId}{x y:Operand}{n m:Int}(h:ev f x=V n)(h2:ev f y=V m)(k:pV P N ops K rest (nU f d (.bool (decide (m < n)))) w):pV P N ops K (⟨d,.binOp .gtr t x y t',ty,pos,af,none⟩ :: rest) f w:=kr (wO h h2) k
theorem abk {t t':TypeId}{x y:Operand}{n m:Int}(h:ev f x=V n)(h2:ev f y=V m)(k:pV P N ops K rest (nU f d (.bool (decide (m<=n)))) w):pV P N ops K (⟨d,.binOp .geq t x y t',ty,pos,af,none⟩ :: rest) f w:=kr (CF h h2) k
theorem abE {x:Operand}{i:Nat}{vs:Array Value}{v:Value}(h:ev f x=.tuple vs)(h2:vs[i]?=some v)(k:pV P N ops K rest (nU f d v) w):pV P N ops K (⟨d,.extract x i,ty,pos,af,none⟩ :: rest) f w:=kr (jX h h2) k
theorem ab7 {t t':TypeId}{x y:Operand}{n m:Int}(h:ev f x=V n)(h2:ev f y=V m)(k:pV P N ops K rest (nU f d (V (wr (n+m)))) w):pV P N ops K (⟨d,.binOp .add t x y t',ty,pos,af,none⟩ :: rest) f w:=kr (kU h h2) k
theorem abC {t t':TypeId}{x y:Operand}{n m:Int}(h:ev f x=V n)(h2:ev f y=V m)(k:pV P N ops K rest (nU f d (V (wr (n - m)))) w):pV P N ops K (⟨d,.binOp .sub t x y t',ty,pos,af,none⟩ :: rest) f w:=kr (wY h h2) k
theorem abq {t t':TypeId}{x y:Operand}{n m:Int}(h:ev f x=V n)(h2:ev f y=V m)(k:pV P N ops K rest (nU f d (V (wr (n * m)))) w):pV P N ops K (⟨d,.binOp .mul t x y t',ty,pos,af,none⟩ :: rest) f w:=kr (Ya h h2) k
theorem aci {t t':TypeId}{x y:Operand}{n m:Int}(h:ev f x=V n)(h2:ev f y=V m)(k:pV P N ops K rest (nU f d (V (Ij (· &&& ·) n m))) w):pV P N ops K (⟨d,.binOp .and t x y t',ty,pos,af,none⟩ :: rest) f w:=kr (aaY h h2) k
theorem aOr {t t':TypeId}{x y:Operand}{n m:Int}(h:ev f x=V n)(h2:ev f y=V m)(k:pV P N ops K rest (nU f d (V (Ij (· ||| ·) n m))) w):pV P N ops K (⟨d,.binOp .or t x y t',ty,pos,af,none⟩ :: rest) f w:=kr (ad8 h h2) k
theorem aa4 {t t':TypeId}{x y:Operand}{n m:Int}(h:ev f x=V n)(h2:ev f y=V m)(k:pV P N ops K rest (nU f d (V (Ij (· ^^^ ·) n m))) w):pV P N ops K (⟨d,.binOp .xor t x y t',ty,pos,af,none⟩ :: rest) f w:=kr (aaW h h2) k
theorem abU {t:TypeId}{x:Operand}{n:Int}(h:ev f x=V n)(k:pV P N ops K rest (nU f d (V (wr (0 - n)))) w):pV P N ops K (⟨d,.unOp .neg t x,ty,pos,af,none⟩ :: rest) f w:=kr (acd h) k
theorem abH {c x y:Operand}{b:Bool}(h:ev f c=.bool true)(h2:ev f x=.bool b)(k:pV P N ops K rest (nU f d (.bool b)) w):pV P N ops K (⟨d,.pick c x y,ty,pos,af,none⟩ :: rest) f w:=kr (kP h h2) k
theorem acQ {c x y:Operand}{b:Bool}(h:ev f c=.bool false)(h2:ev f y=.bool b)(k:pV P N ops K rest (nU f d (.bool b)) w):pV P N ops K (⟨d,.pick c x y,ty,pos,af,none⟩ :: rest) f w:=kr (ko h h2) k
theorem aam {t:TypeId}{x:Operand}{b:Bool}(h:ev f x=.bool b)(k:pV P N ops K rest (nU f d (.bool (!b))) w):pV P N ops K (⟨d,.unOp .not t x,ty,pos,af,none⟩ :: rest) f w:=kr (BU h) k
end
section
variable {P:Program}{N:Fz}{Q:Post}{f:Fr}{w:World}
theorem ou {c:Operand}{x y:Code}{p:Prop}[Decidable p](hc:ev f c=.bool (decide p))(ht:p->WP P N x Q f w)(hf:¬ p->WP P N y Q f w):WP P N (.cond c x y) Q f w:=
 if h:p then jN (hc.trans (bt h)) (ht h) else jK (hc.trans (bf h)) (hf h)
end
theorem go {G R:Prop}(k:R) (h:R->G:=by
 intro k
 repeat (first
  | refine Im ?_
  | refine AX ?_
  | refine LH ?_
  | refine Hz ?_
  | refine pG ?_
  | refine aa0 rfl ?_
  | refine abd rfl ?_
  | refine acM rfl ?_
  | refine aar rfl ?_
  | refine acw rfl ?_
  | refine aNl rfl ?_
  | refine abM rfl ?_
  | refine ab9 rfl ?_
  | refine abx rfl ?_
  | refine ab5 rfl ?_
  | refine aaI rfl ?_
  | refine abL rfl rfl ?_
  | refine aal rfl rfl ?_
  | refine aaG rfl rfl ?_
  | refine aaK rfl rfl ?_
  | refine acL rfl rfl ?_
  | refine abk rfl rfl ?_
  | refine abE rfl rfl ?_
  | refine ab7 rfl rfl ?_
  | refine abC rfl rfl ?_
  | refine abq rfl rfl ?_
  | refine aci rfl rfl ?_
  | refine aOr rfl rfl ?_
  | refine aa4 rfl rfl ?_
  | refine abU rfl ?_
  | refine abH rfl rfl ?_
  | refine acQ rfl rfl ?_
  | refine aam rfl ?_
  | refine acr rfl ?_
  | refine acN rfl ?_
  | refine jN rfl ?_
  | refine jK rfl ?_)
 exact k):G:=h k
def Bl (b:Bool):Int:=if b then 1 else 0
theorem DV {b:Bool}{w:World}:Calls prog 95 #[.bool b] w (pU fun v w'=>v=V (Bl b)/\w'=w):=by
 refine cf func95 rfl ?_;refine lG [(0,.bool b)] ⟨rfl,trivial⟩ fun av=>?_;cases b with
 | true=>
  refine go ?_;refine kH ?_;exact jC rfl (kL rfl) ⟨rfl,rfl⟩
 | false=>
  refine go ?_;refine kH ?_;exact jC rfl (kL rfl) ⟨rfl,rfl⟩
section
variable {P:Program}{w:World}{ρ:Operand->Value}{d:Option Nat}{ty:TypeId}{pos:String}{af:Array Edge}{g:Option (Nat × Bool)}{t t':TypeId}{x y:Operand}{a b:Bool}
theorem ad2 (ht:P.underlying t=some .bool)(hx:ρ x=.bool a)(hy:ρ y=.bool b):Yl P ρ (.binOp .eql t x y t') d ty pos af g w (.bool (decide (a=b))):=by have h:=run_equalIn_bool' (P:=P) w (Op.maxDepth - 1) t a b ht;have hd:Op.maxDepth - 1+1=Op.maxDepth:=rfl;rw [hd] at h;simp [Yl,execOp,hx,hy,binOp,eqGuard,Op.equal,h];cases a <;> cases b <;> rfl
theorem adA (ht:P.underlying t=some .bool)(hx:ρ x=.bool a)(hy:ρ y=.bool b):Yl P ρ (.binOp .neq t x y t') d ty pos af g w (.bool (decide (¬ a=b))):=by have h:=run_equalIn_bool' (P:=P) w (Op.maxDepth - 1) t a b ht;have hd:Op.maxDepth - 1+1=Op.maxDepth:=rfl;rw [hd] at h;simp [Yl,execOp,hx,hy,binOp,eqGuard,Op.equal,h];cases a <;> cases b <;> rfl
end
end Go.Proofs.YtfglbdkfnphjgaaGreat
