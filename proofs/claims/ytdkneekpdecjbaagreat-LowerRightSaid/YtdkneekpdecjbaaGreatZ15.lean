/- Lemmas. -/
import Derived.Test.YtdkneekpdecjbaaGreatZ14
import Derived.Test.YtdkneekpdecjbaaGreatLd
import Derived.Test.YtdkneekpdecjbaaGreatZ9
import Derived.Test.YtdkneekpdecjbaaGreatZ10
import Derived.Test.YtdkneekpdecjbaaGreatZ12
set_option linter.all false
namespace Go.Fw
open Go.RowKit
theorem kP.cl {α:Type}{P:α->Prop}{s t:ByteArray}{f:ByteArray->Option α}(n:Nat)(h:t.size=n)(hs:s.size+n<=1000000000)(k:∀ r,r.size=s.size+n->kP (f r) P):kP ((Go.Fw.cat s t).bind f) P:=.bd (.cat (by omega)) fun r hr=>k r (by rw [hr,FL,h])
theorem kP.cv {α:Type}{P:α->Prop}{s t:ByteArray}{f:ByteArray->Option α}(hs:s.size+t.size<=1000000000)(k:∀ r,r.size=s.size+t.size->kP (f r) P):kP ((Go.Fw.cat s t).bind f) P:=.bd (.cat hs) fun r hr=>k r (by rw [hr,FL])
theorem kP.cr {α:Type}{P:α->Prop}{s t:ByteArray}{f:ByteArray->Option α}(n:Nat)(h:s.size=n)(hs:n+t.size<=1000000000)(k:∀ r,r.size=n+t.size->kP (f r) P):kP ((Go.Fw.cat s t).bind f) P:=.bd (.cat (by omega)) fun r hr=>k r (by rw [hr,FL,h])
end Go.Fw
namespace Go.Proofs.YtdkneekpdecjbaaGreat
open Go.RowKit Go.Fw Go.Proofs.Tryz
def EB:Nat→Nat
 | 0=>6
 | d+1=>2 * EB d+8
theorem EB.lo:∀ d,6≤EB d∧EB d+8≤14 * 2 ^ d
 | 0=>by decide
 | d+1=>by have h:=EB.lo d;have e:EB (d+1)=2 * EB d+8:=rfl;have:1<=2 ^ d:=Nat.one_le_two_pow;rw [Nat.pow_succ];omega
theorem adk {fu:Nat}{op:Int}:kP (Ck fu op) (fun r=>(1<=r/\r<=6)/\(r=5->4<=op/\op<=5)/\(r < 5->6<=op/\op<=17)):=by
 unfold Ck;have hJ0:kP (Ao fu op) (qp (fun b=>b=true->14<=op/\op<=17) (fun _=>False)):=by unfold Ao;refine .ite (fun _=>.go fun _=>by omega) fun _=>.ite (fun _=>.go fun _=>by omega) fun _=>.ite (fun _=>.go fun _=>by omega) fun _=>.go fun z=>by have:=Dh z;omega
 have hJ1:kP (Ar fu op) (qp (fun b=>b=true->11<=op/\op<=13) (fun _=>False)):=by unfold Ar;refine .ite (fun _=>.go fun _=>by omega) fun _=>.ite (fun _=>.go fun _=>by omega) fun _=>.go fun z=>by have:=Dh z;omega
 have hJ2:kP (Bb fu op) (qp (fun b=>b=true->6<=op/\op<=7) (fun _=>False)):=by unfold Bb;refine .ite (fun _=>.go fun _=>by omega) fun _=>.go fun z=>by have:=Dh z;omega
 refine .el hJ0 (fun b hb=>.ite (fun z=>.mk (by have:=hb z;omega)) fun _=>?_) fun _ z=>z.elim;refine .el hJ1 (fun b hb=>.ite (fun z=>.mk (by have:=hb z;omega)) fun _=>?_) fun _ z=>z.elim;refine .el hJ2 (fun b hb=>.ite (fun z=>.mk (by have:=hb z;omega)) fun _=>?_) fun _ z=>z.elim;refine .ite (fun _=>.mk (by omega)) fun _=>.ite (fun _=>.mk (by omega)) fun _=>.ite (fun _=>.mk (by omega)) fun _=>.ite (fun _=>.mk (by omega)) fun _=>.ite (fun _=>.mk (by omega)) fun _=>.mk (by omega)
theorem aaH:∀ x ∈ ([(⟨#[43]⟩:BA),(⟨#[45]⟩:BA),(⟨#[42]⟩:BA),(⟨#[47]⟩:BA),(⟨#[37]⟩:BA),(⟨#[38]⟩:BA),(⟨#[124]⟩:BA),(⟨#[94]⟩:BA),(⟨#[60]⟩:BA),(⟨#[60,61]⟩:BA),(⟨#[61,61]⟩:BA),(⟨#[33,61]⟩:BA)]:List BA),x.size<=2:=by intro x hx;simp only [nM,Dl,or_false] at hx;rcases hx with rfl | rfl | rfl | rfl | rfl | rfl | rfl | rfl | rfl | rfl | rfl | rfl <;> decide
theorem Vd:∀ x ∈ ([(⟨#[45]⟩:BA),(⟨#[33]⟩:BA)]:List BA),x.size<=2:=by intro x hx;simp only [nM,Dl,or_false] at hx;rcases hx with rfl | rfl <;> decide
theorem Xw:∀ {d fu:Nat}{x:jD}{l:Int},GE d x→d≤5→d+19≤fu→kP (qC fu x l) (fun s=>s.size≤EB d)
 | 0,_,_,_,h,_,_=>h.elim
 | d+1,0,_,_,_,_,h=>by omega
 | d+1,fu+1,x,l,h,hd,hf=>by
  show kP (CO fu (qC fu) x l) _;obtain ⟨⟨h1,h2,h3,h4⟩,h5,h6⟩:=h;have hE:EB (d+1)=2 * EB d+8:=rfl;have hlo:=EB.lo d;have hp:(2:Nat) ^ d<=2 ^ 5:=Nat.pow_le_pow_right (by decide) (by omega);have h32:(2:Nat) ^ 5=32:=by decide
  unfold CO;refine .bd adk fun r hr=>?_;have sub:∀ {y:jD}{l:Int},y ∈ x.a->kP (qC fu y l) (fun s=>s.size<=EB d):=fun hy=>Xw (h6 _ hy) (by omega) (by omega);have hJ:kP (Av fu (qC fu) x r) (qp (fun s=>s.size<=2 * EB d+6) (fun _=>False)):=by
   unfold Av;refine .ite (fun _=>.bd (Fp (d:=18) h3 (by omega) (by decide) (by decide) (by omega)) fun s hs=>.go (by omega)) fun _=>?_;refine .ite (fun _=>.cl 1 rfl (by omega) fun g e1=>.cv (by omega) fun g2 e2=>.go (by omega)) fun _=>?_;have hJ1:kP (AL fu (qC fu) x) (qp (fun b=>b=true->0 < x.a.length) (fun _=>False)):=by unfold AL;exact .ite (fun _=>.go fun z=>by have:=Dh z;omega) fun _=>.go fun z=>(by cases z)
   refine .Gp hJ1 fun b hb=>.ite (fun z=>?_) fun _=>?_
   · have:=hb z;refine .bd (.ix (by decide) (by omega)) fun y hy=>.cl 1 rfl (by omega) fun g e1=>.bd (sub (vS hy)) fun s hs=>.cv (by omega) fun g2 e2=>.cl 1 rfl (by omega) fun g3 e3=>.go (by omega)
   have hJ2:kP (z8 fu (qC fu) x r) (qp (fun b=>b=true->r=5/\0 < x.a.length) (fun _=>False)):=by unfold z8;exact .ite (fun _=>.go fun z=>by have:=Dh z;omega) fun _=>.go fun z=>(by cases z)
   refine .Gp hJ2 fun b hb=>.ite (fun z=>?_) fun _=>?_
   · obtain ⟨q1,q2⟩:=hb z;have q3:=hr.2.1 q1;rw [l8 (by omega) (by omega)];exact .bd (.ix (by decide) (by omega)) fun y hy=>.bd (.ix (by omega) (by simp only [uM,yG];omega)) fun n hn=>.bd (sub (vS hy)) fun s hs=>.cv (by have:=Vd n (vS hn);omega) fun g e=>.go (by have:=Vd n (vS hn);omega)
   refine .ite (fun q1=>.ite (fun q2=>?_) fun _=>.go (by omega)) fun _=>.go (by omega);have hJ3:kP (AY fu (qC fu) r) (qp (fun _=>True) (fun _=>False)):=by unfold AY;exact .ite (fun _=>.go kE) fun _=>.go kE
   have q3:=hr.2.2 q1;refine .Gp hJ3 fun lv _=>?_;rw [l8 (n:=x.e - 6) (by omega) (by omega)];refine .bd (.ix (by decide) (by omega)) fun y hy=>.bd (.ix (by decide) (by omega)) fun y' hy'=>.bd (.ix (by omega) (by simp only [uM,yG];omega)) fun n hn=>?_;have hn2:=aaH n (vS hn);exact .bd (sub (vS hy)) fun s hs=>.cl 1 rfl (by omega) fun g e1=>.cv (by omega) fun g2 e2=>.cl 1 rfl (by omega) fun g3 e3=>.bd (sub (vS hy')) fun s' hs'=>.cv (by omega) fun g4 e4=>.go (by omega)
  refine .el hJ (fun s hs=>?_) fun _ z=>z.elim;exact .ite (fun _=>.cr 1 rfl (by omega) fun g e1=>.cl 1 rfl (by omega) fun g2 e2=>.mk (by omega)) fun _=>.mk (by omega)
theorem U9 {fu:Nat}(hf:30<=fu){x:jD}{l:Int}(h:GE 4 x):kP (qC fu x l) (fun s=>s.size<=216):=Xw h (by decide) (by omega)
theorem NY {fu:Nat}(hf:30≤fu){O:BA→Prop}:∀ (l:List jD)(k:Nat)(s:BA),(∀ y ∈ l,GE 4 y)→s.size+l.length * 218≤1000000→kP (tT fu l k s) (qp (fun r=>r.size≤s.size+l.length * 218) O)
 | [],k,s,h,hs=>.go (by simp only [yG];omega)
 | x :: l,k,s,h,hs=>by
  rw [tT];rw [uM] at hs ⊢;have hJ:kP (Ba fu s k) (qp (fun r=>r.size<=s.size+2) O):=by unfold Ba;exact .ite (fun _=>.cl 2 rfl (by omega) fun g e=>.go (by omega)) fun _=>.go (by omega)
  refine .Gp hJ fun s2 h2=>.bd (U9 hf (h x (Ca ..))) fun t ht=>.cv (by omega) fun g e=>?_;exact (NY hf l (k+1) g (fun y hy=>h y (yO _ hy)) (by omega)).imp fun v hv=>by
   cases v with
   | go r=>exact sO (show r.size<=_ from hv) (by omega)
   | out o=>exact hv
theorem XF {fu:Nat}(hf:30<=fu){l:List jD}(h:l.length<=4/\∀ y ∈ l,GE 4 y):kP (zS fu l) (fun r=>r.size<=872):=by unfold zS;have h0:(⟨#[]⟩:BA).size=0:=rfl;exact .el (NY hf l 0 _ h.2 (O:=fun _=>False) (by omega)) (fun s hs=>.mk (by omega)) fun _ z=>z.elim
theorem Mh {fu:Nat}{O:BA→Prop}:∀ (l:List BA)(k:Nat)(s:BA),(∀ y ∈ l,y.size≤4)→s.size+l.length * 6≤1000000→kP (qb fu l k s) (qp (fun r=>r.size≤s.size+l.length * 6) O)
 | [],k,s,h,hs=>.go (by simp only [yG];omega)
 | x :: l,k,s,h,hs=>by
  rw [qb];rw [uM] at hs ⊢;have hx:=h x (Ca ..);have go:∀ g:BA,g.size<=s.size+6->kP (qb fu l (k+1) g) (qp (fun r=>r.size<=s.size+(l.length+1) * 6) O):=fun g hg=>(Mh l (k+1) g (fun y hy=>h y (yO _ hy)) (by omega)).imp fun v hv=>by
   cases v with
   | go r=>exact sO (show r.size<=_ from hv) (by omega)
   | out o=>exact hv
  exact .ite (fun _=>.cl 2 rfl (by omega) fun g e=>.cv (by omega) fun g2 e2=>go g2 (by omega)) fun _=>.cv (by omega) fun g2 e2=>go g2 (by omega)
theorem Vn {fu:Nat}{l:List BA}(h:l.length<=4/\∀ y ∈ l,y.size<=4):kP (yJ fu l) (fun r=>r.size<=24):=by unfold yJ;have h0:(⟨#[]⟩:BA).size=0:=rfl;exact .el (Mh l 0 _ h.2 (O:=fun _=>False) (by omega)) (fun s hs=>.mk (by omega)) fun _ z=>z.elim
theorem aap {fu:Nat}(hf:30<=fu){k:Nat}{x:jC}(h:GS k x):kP (qO fu x) (fun r=>r.size<=878):=by
 obtain _ | k:=k
 · exact h.elim
 unfold qO;have h1:=h.1.2.2.1;exact .ite (fun _=>.cl 1 rfl (by omega) fun g e=>.bd (XF hf h.2.2.1) fun s hs=>.cv (by omega) fun g2 e2=>.cl 1 rfl (by omega) fun g3 e3=>.mk (by omega)) fun _=>.bd (XF hf h.2.2.1) fun s hs=>.mk (by omega)
def CB:Nat→Nat
 | 0=>0
 | k+1=>1200+18 * CB k
theorem Vm:∀ {k fu:Nat}{l:List jC}{tb:BA},k≤4→(∀ y ∈ l,GS k y)→l.length≤22→tb.size+k≤5→k+40≤fu→kP (oZ fu l tb) (fun r=>r.size≤l.length * CB k)
 | _,0,_,_,_,_,_,_,h=>by omega
 | 0,fu+1,l,tb,_,h,_,_,_=>by
  cases l with
  | nil=>exact .mk (uL _)
  | cons x l=>exact (h x (Ca ..)).elim
 | k+1,fu+1,l,tb,hk,h,hl,ht,hf=>by
  show kP (Bn fu (oZ fu) l tb) _;unfold Bn;have hC:CB (k+1)=1200+18 * CB k:=rfl;have hC3:CB k<=411600:=by
   obtain _ | _ | _ | _ | k:=k
   · simp only [CB];decide
   · simp only [CB];decide
   · simp only [CB];decide
   · simp only [CB];decide
   · omega
  have hB:∀ {m:List jC}{u:BA},(m.length<=9/\∀ y ∈ m,GS k y)->u.size=tb.size+1->kP (oZ fu m u) (fun r=>r.size<=9 * CB k):=fun hm hu=>(Vm (by omega) hm.2 (by omega) (by omega) (by omega)).imp fun r hr=>sO hr (Nat.mul_le_mul_right _ hm.1);have hL:∀ (l:List jC)(i:Nat)(s:BA),(∀ y ∈ l,GS (k+1) y)->s.size+l.length * CB (k+1)<=500000000->kP (lW fu (oZ fu) tb l i s) (qp (fun r=>r.size<=s.size+l.length * CB (k+1)) (fun _=>False)):=by
   intro l
   induction l with
   | nil=>intro i s _ hs;exact .go (by simp only [yG];omega)
   | cons x l ih=>
     intro i s hy hs;rw [uM,Nat.succ_mul] at hs ⊢;have hx:=hy x (Ca ..);have go:∀ g:BA,g.size<=s.size+CB (k+1)->kP (lW fu (oZ fu) tb l (i+1) g) (qp (fun r=>r.size<=s.size+(l.length * CB (k+1)+CB (k+1))) (fun _=>False)):=fun g hg=>(ih (i+1) g (fun y hy'=>hy y (yO _ hy')) (by omega)).imp fun v hv=>by
       cases v with
       | go r=>exact sO (show r.size<=_ from hv) (by omega)
       | out o=>exact hv
     have hv:kP (qO fu x) (fun r=>r.size<=878):=aap (by omega) hx;obtain ⟨⟨a1,a2,a3,a4,a5⟩,hx2,hx3,hx4,hx5⟩:=hx;rw [lW];have hJ1:kP (yT fu (oZ fu) x) (qp (fun s=>s.size<=219) (fun _=>False)):=by unfold yT;exact .ite (fun _=>.bd (.ix (by decide) (by omega)) fun y hy=>.bd (U9 (by omega) (hx2.2 y (vS hy))) fun s hs=>.cl 3 rfl (by omega) fun g e=>.go (by omega)) fun _=>.go (uL _)
     refine .Gp hJ1 fun tg htg=>.ite (fun _=>?_) fun _=>?_
     · have hJ2:kP (yX fu (oZ fu) x) (qp (fun s=>s.size<=4) (fun _=>False)):=by unfold yX;exact .ite (fun _=>.go (by decide)) fun _=>.go a2
       have hJ3:∀ u:BA,u.size<=4->kP (zf fu (oZ fu) x u) (qp (fun s=>s.size<=8) (fun _=>False)):=by intro u hu;unfold zf;exact .ite (fun _=>.bd (Fp (d:=1) a4 (by omega) (by decide) (by decide) (by omega)) fun s hs=>.cr 4 rfl (by omega) fun g e=>.cl 1 rfl (by omega) fun g2 e2=>.go (by omega)) fun _=>.go (by omega)
       refine .Gp hJ2 fun u hu=>.Gp (hJ3 u hu) fun ty hty=>?_;exact .cv (by omega) fun g1 e1=>.cl 4 rfl (by omega) fun g2 e2=>.cv (by omega) fun g3 e3=>.cl 2 rfl (by omega) fun g4 e4=>.cv (by omega) fun g5 e5=>.cl 2 rfl (by omega) fun g6 e6=>go g6 (by omega)
     have hJ4:kP (y8 fu (oZ fu) x) (qp (fun _=>True) (fun _=>False)):=by unfold y8;exact .ite (fun _=>.go kE) fun _=>.go kE
     refine .Gp hJ4 fun b _=>.ite (fun _=>?_) fun _=>.ite (fun _=>?_) fun _=>.ite (fun _=>?_) fun _=>.ite (fun _=>?_) fun _=>.ite (fun _=>?_) fun _=>.ite (fun _=>?_) fun _=>.ite (fun _=>?_) fun _=>go s (by omega)
     · exact .cv (by omega) fun g1 e1=>.cv (by omega) fun g2 e2=>.bd hv fun v k1=>.cv (by omega) fun g3 e3=>.cl 2 rfl (by omega) fun g4 e4=>go g4 (by omega)
     · exact .cv (by omega) fun g1 e1=>.cl 7 rfl (by omega) fun g2 e2=>.bd hv fun v k1=>.cv (by omega) fun g3 e3=>.cl 2 rfl (by omega) fun g4 e4=>go g4 (by omega)
     · exact .cv (by omega) fun g1 e1=>.cl 6 rfl (by omega) fun g2 e2=>.bd hv fun v k1=>.cv (by omega) fun g3 e3=>.cl 2 rfl (by omega) fun g4 e4=>go g4 (by omega)
     · exact .cv (by omega) fun g1 e1=>.cl 6 rfl (by omega) fun g2 e2=>.bd hv fun v k1=>.cv (by omega) fun g3 e3=>.cl 2 rfl (by omega) fun g4 e4=>go g4 (by omega)
     · refine .cv (by omega) fun g1 e1=>.cl 3 rfl (by omega) fun g2 e2=>.cl 1 rfl (by omega) fun t1 t2=>.bd hv fun v k1=>.cv (by omega) fun g3 e3=>.cl 3 rfl (by omega) fun g4 e4=>.bd (hB hx4 t2) fun b1 k2=>.cv (by omega) fun g5 e5=>.ite (fun _=>?_) fun _=>?_
       · exact .cv (by omega) fun g6 e6=>.cl 9 rfl (by omega) fun g7 e7=>.cl 1 rfl (by omega) fun t3 t4=>.bd (hB hx5 t4) fun b2 k3=>.cv (by omega) fun g8 e8=>.cv (by omega) fun g9 e9=>.cl 2 rfl (by omega) fun g10 e10=>go g10 (by omega)
       · exact .cv (by omega) fun g6 e6=>.cl 2 rfl (by omega) fun g10 e10=>go g10 (by omega)
     · exact .cv (by omega) fun g1 e1=>.cl 6 rfl (by omega) fun g2 e2=>.cl 1 rfl (by omega) fun t1 t2=>.bd hv fun v k1=>.cv (by omega) fun g3 e3=>.cl 3 rfl (by omega) fun g4 e4=>.bd (hB hx4 t2) fun b1 k2=>.cv (by omega) fun g5 e5=>.cv (by omega) fun g6 e6=>.cl 2 rfl (by omega) fun g10 e10=>go g10 (by omega)
     · exact .cv (by omega) fun g1 e1=>.cl 6 rfl (by omega) fun g2 e2=>.cl 1 rfl (by omega) fun t1 t2=>.cl 1 rfl (by omega) fun t3 t4=>.bd (hB hx4 t2) fun b1 k2=>.cv (by omega) fun g5 e5=>.cv (by omega) fun g6 e6=>.cl 8 rfl (by omega) fun g7 e7=>.cv (by omega) fun g8 e8=>.cl 3 rfl (by omega) fun g9 e9=>.bd (hB hx5 t4) fun b2 k3=>.cv (by omega) fun g10 e10=>.cv (by omega) fun g11 e11=>.cl 2 rfl (by omega) fun g12 e12=>go g12 (by omega)
  have hlen:l.length * CB (k+1)<=22 * CB (k+1):=Nat.mul_le_mul_right _ hl;have h0:(⟨#[]⟩:BA).size=0:=rfl;refine .el (hL l 0 _ h (by omega)) (fun s hs=>.mk (by omega)) fun _ z=>z.elim
theorem Ls {fu:Nat}(hf:50≤fu){B:Nat}(hB:B=163100000){O:BA→Prop}:∀ (l:List kC)(k:Nat)(s:BA),(∀ f ∈ l,GF f)→s.size+l.length * B≤700000000→kP (sG fu l k s) (qp (fun r=>r.size≤s.size+l.length * B) O)
 | [],k,s,h,hs=>.go (Nat.le_add_right _ _)
 | x :: l,k,s,h,hs=>by
  rw [sG];rw [uM,Nat.succ_mul] at hs ⊢;obtain ⟨a1,a2,a3⟩:=h x (Ca ..);have h9:(⟨#[9]⟩:BA).size=1:=rfl;refine .cl 5 rfl (by omega) fun g1 e1=>.cv (by omega) fun g2 e2=>.cl 1 rfl (by omega) fun g3 e3=>.bd (Vn a2) fun w hw=>.cv (by omega) fun g4 e4=>.cl 4 rfl (by omega) fun g5 e5=>.bd (Vm (k:=4) (by decide) a3.2 a3.1 (by omega) (by omega)) fun b hb=>?_;have hb2:b.size<=22 * CB 4:=sO hb (Nat.mul_le_mul_right _ a3.1);have hc4:CB 4=7410000:=by simp only [CB]
  refine .cv (by omega) fun g6 e6=>.cl 2 rfl (by omega) fun g7 e7=>?_;exact (Ls hf hB l (k+1) g7 (fun y hy=>h y (yO _ hy)) (by omega)).imp fun v hv=>by
   cases v with
   | go r=>exact sO (show r.size<=_ from hv) (by omega)
   | out o=>exact hv
theorem Z0 {fu:Nat}(hf:50<=fu){p:jV}(h:GPr p):kP (Bz fu p) (fun s=>s.size<=700000000):=by
 unfold Bz;have h0:(⟨#[]⟩:BA).size=0:=rfl;rw [h.recs];have hR:kP (qM fu [⟨⟨#[80]⟩,[⟨#[120]⟩,⟨#[121]⟩]⟩] 0 ⟨#[]⟩) (qp (fun s=>s.size<=100) (fun _=>False)):=by rw [qM];have h1:(⟨⟨#[80]⟩,[⟨#[120]⟩,⟨#[121]⟩]⟩:jX).c.size=1:=rfl;refine .cl 7 rfl (by omega) fun g1 e1=>.cv (by omega) fun g2 e2=>.cl 3 rfl (by omega) fun g3 e3=>.bd (Vn ⟨by decide,Qe⟩) fun w hw=>.cv (by omega) fun g4 e4=>.cl 3 rfl (by omega) fun g5 e5=>?_;rw [qM];exact .go (by omega)
 have hl:=h.e.2;have hl2:p.b.length * 163100000<=4 * 163100000:=Nat.mul_le_mul_right _ hl;refine .el hR (fun s hs=>?_) fun _ z=>z.elim;exact .el (Ls hf rfl p.b 0 s h.el (O:=fun _=>False) (by omega)) (fun s hs=>.mk (by omega)) fun _ z=>z.elim
def yg (i:Int):List iA→Nat→List Int
 | [],_=>[]
 | x :: r,k=>if x.e<=i/\i<=x.d then (k:Int) :: yg i r (k+1) else yg i r (k+1)
theorem Te {i:Int}:∀ (r:List iA)(k:Nat),(yg i r k).length≤r.length
 | [],_=>nD _
 | x :: r,k=>by
  have h:=Te (i:=i) r (k+1);unfold yg;split
  · exact Nat.succ_le_succ h
  · exact Nat.le_succ_of_le h
theorem II {i q:Int}:∀ (r:List iA)(k:Nat),q ∈ yg i r k→∃ (j:Nat)(x:iA),q=((k+j:Nat):Int)∧r[j]?=some x∧x.e≤i∧i≤x.d
 | [],_,h=>by cases h
 | x :: r,k,h=>by
  unfold yg at h;have go:q ∈ yg i r (k+1)->∃ (j:Nat)(y:iA),q=((k+j:Nat):Int)/\(x :: r)[j]?=some y/\y.e<=i/\i<=y.d:=fun h=>by obtain ⟨j,y,h1,h2,h3⟩:=II r (k+1) h;exact ⟨j+1,y,by omega,h2,h3⟩
  by_cases c:x.e<=i/\i<=x.d
  · rw [lF c] at h;obtain h | h:=nM.1 h
    · exact ⟨0,x,h,rfl,c⟩
    · exact go h
  · rw [kQ c] at h;exact go h
theorem Vk {i:Int}:∀ (r:List iA)(k:Nat),(yg i r k).Pairwise (· < ·)
 | [],_=>List.Pairwise.nil
 | x :: r,k=>by
  have h:=Vk (i:=i) r (k+1);unfold yg;split
  · refine List.Pairwise.cons (fun q hq=>?_) h;obtain ⟨j,y,h1,_⟩:=II r (k+1) hq;omega
  · exact h
theorem Ic {fu:Nat}{i:Int}:∀ (r:List iA)(k:Nat)(acc:List Int),acc.length+r.length≤1000000000→kS fu i r k acc=some (.go (acc ++ yg i r k))
 | [],k,acc,_=>by rw [kS,yg,EW]
 | x :: r,k,acc,h=>by
  rw [uM] at h;rw [kS,yg];by_cases c1:x.e<=i
  · by_cases c2:i<=x.d
    · rw [lF c1,lF c2,lF ⟨c1,c2⟩];have:app acc [((k:Nat):Int)]=some (acc ++ [((k:Nat):Int)]):=lF (by simp only [uM,yG];omega);rw [this];show kS fu i r (k+1) (acc ++ [((k:Nat):Int)])=_;rw [Ic r (k+1) _ (by simp only [F9,uM,yG];omega),ES];rfl
    · rw [lF c1,kQ c2,kQ fun z=>c2 z.2];exact Ic r (k+1) acc (by omega)
  · rw [kQ c1,kQ fun z=>c1 z.1];exact Ic r (k+1) acc (by omega)
def ab6 (s:jW)(f i:Int):List Int:=if f < 0 then [] else match s.c[f.toNat]? with
 | none=>[]
 | some V=>yg i V 0
theorem Ww {fu:Nat}{s:jW}{f i:Int}(h:∀ V ∈ s.c,V.length<=24):jS fu s f i=some (ab6 s f i):=by
 unfold jS ab6;by_cases c:f < 0
 · rw [lF c,lF c]
 rw [kQ c,kQ c];by_cases d:(s.c.length:Int)<=f
 · rw [lF d,List.getElem?_eq_none (by omega)]
 rw [kQ d];obtain ⟨V,hV⟩:=lZ (l:=s.c) (k:=f.toNat) (by omega);have:ix s.c f=some V:=by unfold Go.Fw.ix;rw [kQ (by omega),hV]
 rw [this,hV];show (kS fu i V 0 []).bind _=_;rw [Ic V 0 [] (by have:=h V (vS hV);rw [yG];omega),BZ];rfl
theorem acF {fu:Nat}(hf:50<=fu){l:List Int}(hl:l.length<=1000):kP (CR fu l) (fun s=>s.size<=700000000):=by unfold CR;exact .bd (V8 (by omega) hl) fun p hp=>.bd (Z0 hf hp) fun s hs=>.mk hs
structure CI (s:jW):Prop where
 vn:∀ V ∈ s.c,V.length<=24
 fx:∀ f ∈ s.a.b,FX f
set_option maxRecDepth 4000
def G7 (V:List iA)(v:Int):List Pc:=match ix? V v with
 | none=>[]
 | some x=>if x.b=3 then [] else (List.range x.a.toNat).map fun i=>(v,((i:Nat):Int))
def pG (V:List iA):List Int→List Pc
 | []=>[]
 | v :: O=>G7 V v ++ pG V O
theorem IW {V:List iA}{P:List Int}:∀ {O:List Int},pG V (O ++ P)=pG V O ++ pG V P
 | []=>rfl
 | v :: O=>by simp [pG,IW (O:=O)]
theorem Pj {V:List iA}{p:Pc}:∀ {O:List Int},p ∈ pG V O ↔ ∃ v ∈ O,p ∈ G7 V v
 | []=>by simp [pG]
 | v :: O=>by simp [pG,Pj (O:=O)]
inductive Di (nob:Nat)(n:Int):yB→Prop
 | const {k:Int}:Di nob n ⟨1,n,0,0,k,0,0,0,tY⟩
 | copy {a:Int} (h:0<=a/\a < n):Di nob n ⟨2,n,a,0,0,0,0,0,tY⟩
 | bin {k a b:Int} (hk:3<=k/\k<=14) (h:0<=a/\a < n) (g:0<=b/\b < n):Di nob n ⟨k,n,a,b,0,0,0,0,tY⟩
 | load {a o:Int} (h:0<=a/\a < n) (g:0<=o/\o < nob):Di nob n ⟨15,n,a,0,o,0,0,0,tY⟩
 | store {a b o:Int} (h:0<=a/\a < n) (h2:0<=b/\b < n) (g:0<=o/\o < nob):Di nob n ⟨16,0,a,b,o,0,0,0,tY⟩
 | zero {o:Int} (g:0<=o/\o < nob):Di nob n ⟨17,0,0,0,o,0,0,0,tY⟩
 | print {a:Int} (h:0<=a/\a < n):Di nob n ⟨18,0,a,0,0,0,0,0,tY⟩
 | mark {k i:Int} (h:k=19\/k=20) (g:0<=i/\i<=9999):Di nob n ⟨k,0,0,0,i,0,0,0,tY⟩
 | bind {v i x:Int} (h:0<=v/\v < 24) (g:0<=i/\i < 4) (hx:0<=x/\x < n):Di nob n ⟨21,0,0,0,0,0,v,i,⟨2,x,0⟩⟩
def OB (o:yB):Int:=if o.b<=15 then 1 else 0
inductive DZ (nob:Nat):Int→List yB→Int→Prop
 | nil {n:Int}:DZ nob n [] n
 | cons {n m:Int} {o:yB} {l:List yB} (h:Di nob n o) (k:DZ nob (n+OB o) l m):DZ nob n (o :: l) m
theorem DZ.snoc {nob:Nat}{n m:Int}{l:List yB}{o:yB}(h:DZ nob n l m)(k:Di nob m o):DZ nob n (l ++ [o]) (m+OB o):=by
 induction h with
 | nil=>exact .cons k .nil
 | cons h _ ih=>exact .cons h (ih k)
structure En where
 V:List iA
 f:Int
 ob:List xQ
 om:List (Int × Int)
 Ps:List Nat
 a0:Nat
 pa:Int
 cx:List Bf
abbrev Vl (n v:Int):Prop:=0<=v/\v < n
abbrev Lbs:=List (Int × List Pc)
def aaS (labs:Lbs)(AR:List Nat)(n:Int)(e:nO)(more:Nat):Prop:=(∃ (i:Nat)(t:Int × List Pc),labs[i]?=some t/\t.1=e.b/\1<=t.1/\AR[i]?=some (e.a.length+more))/\∀ v ∈ e.a,Vl n v
inductive Tq (Ps:List Nat)(Ed:nO→Nat→Prop)(n:Int):uG→Prop
 | jump {e:nO} (h:Ed e 0):Tq Ps Ed n ⟨1,0,0,[],⟨e,Je⟩⟩
 | branch {v:Int} {e g:nO} (hv:Vl n v) (h:Ed e 0) (k:Ed g 0):Tq Ps Ed n ⟨2,v,0,[],⟨e,g⟩⟩
 | call {k:Int} {ag:List Int} {e g:nO} (h0:0<=k) (hk:Ps[k.toNat]?=some ag.length) (ha:∀ v ∈ ag,Vl n v) (h:Ed e 1) (j:g=Je\/Ed g 1):Tq Ps Ed n ⟨3,0,k,ag,⟨e,g⟩⟩
 | give {v:Int} (hv:Vl n v):Tq Ps Ed n ⟨4,v,0,[],⟨Je,Je⟩⟩
 | throw {v:Int} (hv:Vl n v):Tq Ps Ed n ⟨5,v,0,[],⟨Je,Je⟩⟩
theorem Tq.mono {Ps:List Nat}{Ed Ed':nO->Nat->Prop}{n:Int}{t:uG}(h:Tq Ps Ed n t)(k:∀ e m,Ed e m->Ed' e m):Tq Ps Ed' n t:=by
 cases h with
 | jump h=>exact .jump (k _ _ h)
 | branch hv h g=>exact .branch hv (k _ _ h) (k _ _ g)
 | call h0 hk ha h j=>exact .call h0 hk ha (k _ _ h) (j.imp id (k _ _))
 | give hv=>exact .give hv
 | throw hv=>exact .throw hv
def YD (E:En)(labs:Lbs)(AR:List Nat)(b:lN):Prop:=0<=b.a/\b.a<=999/\∃ n,DZ E.ob.length b.a b.c n/\Tq E.Ps (aaS labs AR n) n b.b
def ZN (l l':Lbs):Prop:=∀ (i:Nat) t,l[i]?=some t->0<=t.1->l'[i]?=some t
theorem aaS.mono {labs labs':Lbs}{AR AR':List Nat}{n:Int}{e:nO}{m:Nat}(h:aaS labs AR n e m)(k:ZN labs labs')(j:∀ (i:Nat) a,AR[i]?=some a->AR'[i]?=some a):aaS labs' AR' n e m:=by obtain ⟨⟨i,t,h1,h2,h3,h4⟩,h5⟩:=h;exact ⟨⟨i,t,k i t h1 (by omega),h2,h3,j i _ h4⟩,h5⟩
theorem YD.mono {E:En}{labs labs':Lbs}{AR AR':List Nat}{b:lN}(h:YD E labs AR b)(k:ZN labs labs')(j:∀ (i:Nat) a,AR[i]?=some a->AR'[i]?=some a):YD E labs' AR' b:=by obtain ⟨h1,h2,n,h3,h4⟩:=h;exact ⟨h1,h2,n,h3,h4.mono fun e m q=>q.mono k j⟩
def Bd:List lN→Nat
 | []=>0
 | b :: l=>b.c.length+Bd l
theorem Iw {l':List lN}:∀ {l:List lN},Bd (l ++ l')=Bd l+Bd l'
 | []=>by simp [Bd]
 | b :: l=>by simp [Bd,Iw (l:=l)];omega
theorem Mj {b b':lN}:∀ {l:List lN}{k:Nat},l[k]?=some b→Bd (l.set k b')+b.c.length=Bd l+b'.c.length
 | c :: l,0,h=>by simp only [EC,Dk] at h;subst h;simp only [List.set_cons_zero,Bd];omega
 | c :: l,k+1,h=>by have:=Mj (b':=b') (l:=l) (k:=k) (by simpa using h);simp only [List.set_cons_succ,Bd];omega
 | [],_,h=>by simp at h
abbrev Sz:=List (Nat × List Int × Nat)
structure Ny (E:En)(F:List Nat)(K:Sz)(B AR:List Nat)(s:Lw):Prop where
 ff:s.f=E.f
 ob:s.objs=E.ob
 om:s.omap=E.om
 pm:s.b=E.pa
 cx:s.ctxs=E.cx
 o0:s.ops=(Bd s.blocks:Int)
 o1:s.ops<=6000
 bl:s.blocks.length<=400
 al:AR.length=s.labs.length
 lb:∀ (i:Nat) t,s.labs[i]?=some t->t.1 < (s.blocks.length:Int)
 inj:∀ (i j:Nat) t u,s.labs[i]?=some t->s.labs[j]?=some u->t.1=u.1->0<=t.1->i=j
 bk:∀ (k:Nat) b,s.blocks[k]?=some b->YD E s.labs AR b\/(s.opn=true/\s.blk=(k:Int))\/∃ i ∈ F,∃ t,s.labs[i]?=some t/\t.1=(k:Int)
 bg:∀ (i:Nat) t,s.labs[i]?=some t->0<=t.1->i ∈ F\/∃ b,ix? s.blocks t.1=some b/\AR[i]?=some b.a.toNat/\0<=b.a
 fr:∀ i ∈ F,i < s.labs.length/\Fs s i
 nd:F.Nodup
 kn:∀ x ∈ K,∃ t,s.labs[x.1]?=some t/\t.2=pG E.V x.2.1/\AR[x.1]?=some x.2.2/\(0<=t.1->1<=t.1)
 bn:∀ i ∈ B,∃ t,s.labs[i]?=some t/\0<=t.1
 bz:∃ t,s.labs[0]?=some t/\t.1=0/\AR[0]?=some E.a0
def Cu (E:En)(s:Lw):Prop:=(∃ l b,s.vals=some l/\ix? s.blocks s.blk=some b/\(∀ p v,pE l p=some v->Vl s.next v)/\DZ E.ob.length b.a b.c s.next/\0<=b.a/\b.a<=999)/\0<=s.next/\s.next<=999+s.ops/\∀ v ∈ s.pend,Vl s.next v
def Cw (E:En)(O:List Int)(s:Lw):Prop:=∃ l,s.vals=some l/\∀ p ∈ pG E.V O,(pE l p).isSome=true
section
variable {E:En}{F:List Nat}{K:Sz}{B AR:List Nat}{s s':Lw}
theorem Ny.same (h:Ny E F K B AR s)(h0:s'.f=s.f)(ho:s'.objs=s.objs)(hm:s'.omap=s.omap)(hpm:s'.b=s.b)(hcx:s'.ctxs=s.ctxs)(h1:s'.ops=s.ops)(h2:s'.blocks=s.blocks)(h3:s'.labs=s.labs)(h4:s'.vals=s.vals)(h5:s'.blk=s.blk)(h6:s'.opn=s.opn):Ny E F K B AR s':=
 ⟨h0.trans h.ff,ho.trans h.ob,hm.trans h.om,hpm.trans h.pm,hcx.trans h.cx,by rw [h1,h2];exact h.o0,by rw [h1];exact h.o1,by rw [h2];exact h.bl,by rw [h3];exact h.al,by rw [h3,h2];exact h.lb,by rw [h3];exact h.inj,by rw [h2,h3,h6,h5];exact h.bk,by rw [h3,h2];exact h.bg,by unfold Fs;rw [h3,h4,h5,h2];exact h.fr,h.nd,by rw [h3];exact h.kn,by rw [h3];exact h.bn,by rw [h3];exact h.bz⟩
theorem Ny.put (h:Ny E F K B AR s){b b':lN}(hb:ix? s.blocks s.blk=some b)(hp:b'.a=b.a)(hop:(s'.opn=true/\s'.blk=s.blk)\/YD E s.labs AR b')(h0:s'.f=s.f)(ho:s'.objs=s.objs)(hm:s'.omap=s.omap)(hpm:s'.b=s.b)(hcx:s'.ctxs=s.ctxs)(h2:s'.blocks=s.blocks.set s.blk.toNat b')(hO:s'.ops+b.c.length=s.ops+b'.c.length)(h6:s'.ops<=6000)(h3:s'.labs=s.labs)(h4:s.vals≠none)(h5:s'.blk=s.blk):Ny E F K B AR s':=by
 obtain ⟨c0,c1,c2⟩:=ix?_nat hb;have hs:=Mj (b':=b') c2;refine ⟨h0.trans h.ff,ho.trans h.ob,hm.trans h.om,hpm.trans h.pm,hcx.trans h.cx,?_,h6,by rw [h2,wR];exact h.bl,by rw [h3];exact h.al,by rw [h3,h2,wR];exact h.lb,by rw [h3];exact h.inj,fun k x hx=>?_,fun i t ht h1=>?_,fun i hi=>⟨by rw [h3];exact (h.fr i hi).1,fun t ht h1=>?_⟩,h.nd,by rw [h3];exact h.kn,by rw [h3];exact h.bn,by rw [h3];exact h.bz⟩
 · have:=h.o0;rw [h2];omega
 · rw [h2] at hx;rw [h3];by_cases c:s.blk.toNat=k
   · subst c;rw [DJ c1] at hx;cases hx;obtain ⟨hop,hop2⟩ | hop:=hop
     · exact .inr (.inl ⟨hop,by rw [hop2];omega⟩)
     · exact .inl hop
   · rw [zV c] at hx;obtain q | ⟨_,q⟩ | q:=h.bk k x hx
     · exact .inl q
     · omega
     · exact .inr (.inr q)
 · rw [h3] at ht;rw [h2];obtain q | ⟨y,q1,q2⟩:=h.bg i t ht h1
   · exact .inl q
   · refine .inr ?_;by_cases c:t.1=s.blk
     · rw [c,hb] at q1;cases q1;exact ⟨b',by rw [c];exact ix?_set_eq hb,by rw [hp];exact q2⟩
     · exact ⟨y,ix?_set_ne q1 c c0,q2⟩
 · rw [h3] at ht;obtain ⟨k1,y,hy,k3⟩:=(h.fr i hi).2 t ht h1;have hne:=k1 h4;rw [h5,h2];exact ⟨fun _=>hne,y,ix?_set_ne hy hne c0,k3⟩
end
def Lo.sat {α:Type}(q:Lo α)(Q:α->Lw->Prop):Prop:=match q with
 | .ok a s=>Q a s
 | .lim=>True
 | .rt=>False
def Hr {α:Type}(P:Lw->Prop)(c:LM α)(Q:α->Lw->Prop):Prop:=∀ s q,c s=some q->P s->q.sat Q
section
variable {α β:Type}{c:LM α}{f:α->LM β}{P:Lw->Prop}{Q:α->Lw->Prop}{R:β->Lw->Prop}
theorem rb (h:Hr P c Q)(k:∀ a,Hr (Q a) (f a) R):Hr P (c.bind f) R:=by
 intro s q e hp;unfold LM.bind at e;obtain ⟨q1,h1,e⟩:=bs e;have:=h s q1 h1 hp;cases q1 with
 | ok a s1=>exact k a s1 q e this
 | lim=>cases e;trivial
 | rt=>exact this.elim
theorem Hr.mono {P':Lw->Prop}{Q':α->Lw->Prop}(h:Hr P c Q)(hp:∀ s,P' s->P s)(hq:∀ a s,Q a s->Q' a s):Hr P' c Q':=fun s q e hs=>by
 have:=h s q e (hp _ hs);cases q with
 | ok a s1=>exact hq _ _ this
 | lim=>trivial
 | rt=>exact this.elim
theorem Hr.pre {P':Lw->Prop}(h:Hr P c Q)(hp:∀ s,P' s->P s):Hr P' c Q:=h.mono hp fun _ _=>id
theorem Hr.post {Q':α->Lw->Prop}(h:Hr P c Q)(hq:∀ a s,Q a s->Q' a s):Hr P c Q':=h.mono (fun _=>id) hq
theorem FC {a:α}(h:∀ s,P s->Q a s):Hr P (oL a) Q:=fun s q e hp=>by cases e;exact h _ hp
theorem EZ {l:List β}{k:β->LM α}(hl:l≠[])(h:∀ x ∈ l,Hr P (k x) Q):Hr P (zG l k) Q:=by
 cases l with
 | nil=>exact absurd rfl hl
 | cons x l=>exact h x (Ca ..)
theorem ael {l:List β}{k:β->LM α}(hl:2<=l.length)(h:∀ x ∈ l,Hr P (k x) Q):Hr P (ZY l k) Q:=by
 cases l with
 | nil=>simp at hl
 | cons x l=>
  cases l with
  | nil=>simp at hl
  | cons y l=>exact h y (yO _ (Ca ..))
theorem wo {p:Prop}[Decidable p]{a b:LM α}(h:p->Hr P a Q)(k:¬ p->Hr P b Q):Hr P (if p then a else b) Q:=by
 split
 · exact h ‹_›
 · exact k ‹_›
end
structure Wq (E:En)(a:Int)(O:List Int)(H:List Nat)(N:Nat)(F:List Nat)(K:Sz)(B:List Nat)(L:List Int)(G:List (nO × Nat))(s:Lw):Prop where
 w:∃ AR,Ny E F K B AR s
 st:s.stmt=a
 hn:s.hnd=H
 pn:s.pend.length=N
 nz:N<=1000000000
 op:s.opn=true
 cu:Cu E s
 cw:Cw E O s
 lv:∀ v ∈ L,Vl s.next v
 ge:∀ x ∈ G,(∃ i O' t,(i,O',x.1.a.length+x.2) ∈ K/\s.labs[i]?=some t/\t.1=x.1.b/\1<=t.1)/\∀ v ∈ x.1.a,Vl s.next v
structure Wx (E:En)(a:Int)(H:List Nat)(N:Nat)(F:List Nat)(K:Sz)(B:List Nat)(s:Lw):Prop where
 w:∃ AR,Ny E F K B AR s
 st:s.stmt=a
 hn:s.hnd=H
 pn:s.pend.length=N
 nz:N<=1000000000
 op:s.opn=false
section
variable {E:En}{a:Int}{O:List Int}{H:List Nat}{N:Nat}{F:List Nat}{K:Sz}{B:List Nat}{L:List Int}{G:List (nO × Nat)}{s s':Lw}
theorem Wq.l (h:Wq E a O H N F K B L G s){L':List Int}(k:∀ v ∈ L',v ∈ L):Wq E a O H N F K B L' G s:=⟨h.w,h.st,h.hn,h.pn,h.nz,h.op,h.cu,h.cw,fun v hv=>h.lv v (k v hv),h.ge⟩
theorem ade {o:yB}{q:Lo Unit}{n:Int}(h:Wq E a O H N F K B L G s)(ho:Di E.ob.length s.next o)(hn:n=s.next+OB o)(e:lop [o] { s with next:=n }=some q):q.sat fun _ t=>Wq E a O H N F K B L G t/\t.next=n/\t.vals=s.vals:=by
 obtain ⟨⟨l,b,c1,c2,c3,c4,c5,c6⟩,n0,n1,pd⟩:=h.cu;obtain ⟨AR,hw⟩:=h.w;have h0:=hw.o0;have h1:=hw.o1;have hd:0<=OB o/\OB o<=1:=by unfold OB;split <;> omega
 unfold lop at e;dsimp only at e;have hwr:wr (s.ops+([o]:List yB).length)=s.ops+1:=Kh (by simp;omega) (by simp;omega);rw [hwr,c2] at e;dsimp only at e;split at e
 · cases e;trivial
 obtain ⟨os,hos,e⟩:=bs e;rw [CQ hos] at e;cases e;have up:∀ v,Vl s.next v->Vl n v:=fun v hv=>⟨hv.1,by have:=hv.2;omega⟩;refine ⟨⟨⟨AR,hw.put c2 (b':=⟨b.a,b.c ++ [o],b.b⟩) rfl (.inl ⟨h.op,rfl⟩) rfl rfl rfl rfl rfl rfl (by simp;omega) (by dsimp only;omega) rfl (by rw [c1];simp) rfl⟩,h.st,h.hn,h.pn,h.nz,h.op,⟨⟨l,_,c1,ix?_set_eq c2,fun p v hp=>up v (c3 p v hp),?_,c5,c6⟩,?_,?_,fun v hv=>up v (pd v hv)⟩,h.cw,fun v hv=>up v (h.lv v hv),fun x hx=>⟨(h.ge x hx).1,fun v hv=>up v ((h.ge x hx).2 v hv)⟩⟩,rfl,rfl⟩
 · dsimp only;rw [hn];exact c4.snoc ho
 · dsimp only;omega
 · dsimp only;omega
theorem q_op {o:yB}(ho:∀ n,(∀ v ∈ L,Vl n v)->Di E.ob.length n o)(hk:¬ o.b<=15):Hr (Wq E a O H N F K B L G) (lop [o]) fun _=>Wq E a O H N F K B L G:=fun s q e h=>by
 have:=ade h (ho _ h.lv) (n:=s.next) (by unfold OB;rw [kQ hk];omega) e;cases q with
 | ok u s1=>exact this.1
 | lim=>trivial
 | rt=>exact this
theorem aa5 {o:yB}{q:Lo Int}(h:Wq E a O H N F K B L G s)(ho:Di E.ob.length s.next { o with e:=s.next })(hk:o.b<=15)(e:KG o s=some q):q.sat fun v t=>Wq E a O H N F K B (v :: L) G t/\t.vals=s.vals:=by
 obtain ⟨_,n0,n1,_⟩:=h.cu;obtain ⟨AR,hw⟩:=h.w;have:=hw.o1;have hwr:wr (s.next+1)=s.next+1:=Kh (by omega) (by omega);refine rb (P:=fun t=>t={ s with next:=s.next+1 }) (Q:=fun _ t=>Wq E a O H N F K B L G t/\t.next=s.next+1/\t.vals=s.vals) (R:=fun v t=>Wq E a O H N F K B (v :: L) G t/\t.vals=s.vals) (c:=lop [{ o with e:=s.next }]) (f:=fun _=>oL s.next) (fun t q2 e2 ht=>?_) (fun _=>FC fun t ht=>?_) _ _ e (by rw [hwr])
 · subst ht;exact ade h ho (by unfold OB;rw [lF hk]) e2
 · refine ⟨⟨ht.1.w,ht.1.st,ht.1.hn,ht.1.pn,ht.1.nz,ht.1.op,ht.1.cu,ht.1.cw,fun v hv=>?_,ht.1.ge⟩,ht.2.2⟩;obtain rfl | hv:=nM.1 hv
   · exact ⟨n0,by rw [ht.2.1];omega⟩
   · exact ht.1.lv v hv
theorem L9 {o:yB}(ho:∀ n,(∀ v ∈ L,Vl n v)->Di E.ob.length n { o with e:=n })(hk:o.b<=15):Hr (Wq E a O H N F K B L G) (KG o) fun v=>Wq E a O H N F K B (v :: L) G:=fun s q e h=>by
 have:=aa5 h (ho _ h.lv) hk e;cases q with
 | ok u s1=>exact this.1
 | lim=>trivial
 | rt=>exact this
theorem Ey {k:Int}:Hr (Wq E a O H N F K B L G) (uy k) fun v=>Wq E a O H N F K B (v :: L) G:=L9 (fun n _=>.const) (by simp)
theorem aci (ha:0<=a/\a<=9999):Hr (Wq E a O H N F K B L G) Tn fun _=>Wq E a O H N F K B L G:=fun s q e h=>q_op (o:=⟨20,0,0,0,s.stmt,0,0,0,tY⟩) (fun n _=>.mark (.inr rfl) (by rw [h.st];exact ha)) (by simp) _ _ e h
theorem UA (ha:0<=a/\a<=9999):Hr (Wq E a O H N F K B L G) I9 fun _=>Wq E a O H N F K B L G:=fun s q e h=>q_op (o:=⟨19,0,0,0,s.stmt,0,0,0,tY⟩) (fun n _=>.mark (.inl rfl) (by rw [h.st];exact ha)) (by simp) _ _ e h
theorem Jg {v:Int}(hv:v ∈ L):Hr (Wq E a O H N F K B L G) (Gt v) fun _=>Wq E a O H (N+1) F K B L G:=fun s q e h=>by
 obtain ⟨p,hp,e⟩:=bs e;rw [CQ hp] at e;cases e;obtain ⟨c1,n0,n1,pd⟩:=h.cu;obtain ⟨AR,hw⟩:=h.w;refine ⟨⟨AR,hw.same rfl rfl rfl rfl rfl rfl rfl rfl rfl rfl rfl⟩,h.st,h.hn,by simp [h.pn],by have q:=Z7 hp;rw [CQ hp,F9,h.pn] at q;exact q,h.op,⟨c1,n0,n1,fun x hx=>?_⟩,h.cw,h.lv,h.ge⟩;obtain hx | hx:=qg.1 hx
 · exact pd x hx
 · rw [List.mem_singleton.1 hx];exact h.lv v hv
theorem Od:Hr (Wq E a O H (N+1) F K B L G) Ik fun v=>Wq E a O H N F K B (v :: L) G:=fun s q e h=>by
 obtain ⟨c1,n0,n1,pd⟩:=h.cu;obtain ⟨AR,hw⟩:=h.w;have hl:=h.pn;unfold Ik at e;split at e
 · rename_i c;rw [List.getLast?_eq_none_iff] at c;rw [c] at hl;simp at hl
 rename_i v hv;cases e;refine ⟨⟨AR,hw.same rfl rfl rfl rfl rfl rfl rfl rfl rfl rfl rfl⟩,h.st,h.hn,by simp [hl],by have:=h.nz;omega,h.op,⟨c1,n0,n1,fun x hx=>pd x (List.dropLast_subset _ hx)⟩,h.cw,fun x hx=>?_,h.ge⟩;obtain rfl | hx:=nM.1 hx
 · exact pd x (List.mem_of_getLast? hv)
 · exact h.lv x hx
theorem Xx:Hr (Wq E a O H (N+1) F K B L G) Kg fun v=>Wq E a O H (N+1) F K B (v :: L) G:=fun s q e h=>by
 obtain ⟨c1,n0,n1,pd⟩:=h.cu;have hl:=h.pn;unfold Kg at e;split at e
 · rename_i c;rw [List.getLast?_eq_none_iff] at c;rw [c] at hl;simp at hl
 rename_i v hv;cases e;refine ⟨h.w,h.st,h.hn,h.pn,h.nz,h.op,h.cu,h.cw,fun x hx=>?_,h.ge⟩;obtain rfl | hx:=nM.1 hx
 · exact pd x (List.mem_of_getLast? hv)
 · exact h.lv x hx
theorem PY {p:Pc}{v:Int}{s:Lw}{q:Lo Unit}(h:Wq E a O H N F K B L G s)(hv:Vl s.next v)(hp:(0<=p.1/\p.1 < 24)/\0<=p.2/\p.2 < 4)(e:vB p v s=some q):q.sat fun _ t=>Wq E a O H N F K B L G t/\t.next=s.next/\∃ l,s.vals=some l/\t.vals=some (yt l p v):=by
 obtain ⟨l,hl,e⟩:=bs e;obtain ⟨⟨l',b,c1,c2,c3,c4,c5,c6⟩,n0,n1,pd⟩:=h.cu;obtain rfl:l'=l:=by rw [hl] at c1;exact (Kj c1).symm
 obtain ⟨AR,hw⟩:=h.w;have h2:Wq E a O H N F K B L G { s with vals:=some (yt l' p v) }:=by
  refine ⟨⟨AR,?_⟩,h.st,h.hn,h.pn,h.nz,h.op,⟨⟨_,b,rfl,c2,fun p1 u hu=>?_,c4,c5,c6⟩,n0,n1,pd⟩,?_,h.lv,h.ge⟩
  · exact ⟨hw.ff,hw.ob,hw.om,hw.pm,hw.cx,hw.o0,hw.o1,hw.bl,hw.al,hw.lb,hw.inj,hw.bk,hw.bg,fun i hi=>⟨(hw.fr i hi).1,fun t ht h0=>⟨fun _=>((hw.fr i hi).2 t ht h0).1 (by rw [hl];simp),((hw.fr i hi).2 t ht h0).2⟩⟩,hw.nd,hw.kn,hw.bn,hw.bz⟩
  · rw [xK] at hu;split at hu
    · cases hu;exact hv
    · exact c3 p1 u hu
  · obtain ⟨l2,d1,d2⟩:=h.cw;rw [hl] at d1;cases d1;refine ⟨_,rfl,fun r hr=>?_⟩;rw [xK];split
    · rfl
    · exact d2 r hr
 have:=ade h2 (o:=⟨21,0,0,0,0,0,p.1,p.2,⟨2,v,0⟩⟩) (.bind hp.1 hp.2 hv) (n:=s.next) (by simp [OB]) e;cases q with
 | lim=>trivial
 | rt=>exact this
 | ok u s1=>
  exact ⟨this.1,this.2.1,l',hl,this.2.2⟩
theorem Xc {p:Pc}{v:Int}(hv:v ∈ L)(hp:(0<=p.1/\p.1 < 24)/\0<=p.2/\p.2 < 4):Hr (Wq E a O H N F K B L G) (vB p v) fun _=>Wq E a O H N F K B L G:=fun s q e h=>by
 have:=PY h (h.lv v hv) hp e;cases q with
 | ok u s1=>exact this.1
 | lim=>trivial
 | rt=>exact this
end
def cov (V:List iA)(O:List Int)(P:Pc->Prop):Prop:=∀ v ∈ O,∀ x,ix? V v=some x->x.b≠3->∀ i:Nat,i < x.a.toNat->P (v,(i:Int))
abbrev has (l:List (Pc × Int))(p:Pc):Prop:=(pE l p).isSome=true
theorem cov.mono {V:List iA}{O:List Int}{P Q:Pc->Prop}(h:cov V O P)(k:∀ p,P p->Q p):cov V O Q:=fun v hv x hx hk i hi=>k _ (h v hv x hx hk i hi)
theorem ZC {l:List (Pc × Int)}{p q:Pc}{v:Int}(h:has l p):has (yt l q v) p:=by
 unfold has;rw [xK];split
 · rfl
 · exact h
theorem Sd {l:List (Pc × Int)}{q:Pc}{v:Int}:has (yt l q v) q:=by unfold has;rw [xK,lF rfl];rfl
def BM (V:List iA)(ops:List yB):Prop:=∀ (k:Nat) o,ops[k]?=some o->(o.b=21->o.c=0)/\(o.b=19->cov V (yg o.N V 0) (has (G8 (ops.take k))))
theorem BM.nil {V:List iA}:BM V []:=fun k o h=>by simp at h
theorem BM.snoc {V:List iA}{ops:List yB}{o:yB}(h:BM V ops)(h1:o.b=21->o.c=0)(h2:o.b=19->cov V (yg o.N V 0) (has (G8 ops))):BM V (ops ++ [o]):=by
 intro k x hx;by_cases c:k < ops.length
 · rw [zQ c] at hx;rw [List.take_append_of_le_length (by omega)];exact h k x hx
 · have hk:k=ops.length:=by have:=(List.getElem?_eq_some_iff.1 hx).1;simp at this;omega
   subst hk;simp at hx;subst hx;rw [List.take_left];exact ⟨h1,h2⟩
structure Bw0 (V:List iA)(f:Int)(s:Lw):Prop where
 ff:s.f=f
 o0:0<=s.ops
 o1:s.ops<=6000
 bo:∀ b ∈ s.blocks,BM V b.c/\(b.c.length:Int)<=s.ops
 lb:∀ (i:Nat) t,s.labs[i]?=some t->t.1 < (s.blocks.length:Int)
 inj:∀ (i j:Nat) t u,s.labs[i]?=some t->s.labs[j]?=some u->t.1=u.1->0<=t.1->i=j
structure Bw' (V:List iA)(f:Int)(s:Lw):Prop extends Bw0 V f s where
 cu:∃ l b,s.vals=some l/\ix? s.blocks s.blk=some b/\G8 b.c=l
def Lc' (V:List iA)(s:Lw)(j:Nat)(O:List Int):Prop:=∃ t,s.labs[j]?=some t/\cov V O (· ∈ t.2)
structure WG (V:List iA)(f:Int)(F:List (Nat × List Int))(s:Lw):Prop where
 ow:Bw' V f s
 nd:(F.map (·.1)).Nodup
 fs:∀ j ∈ F,j.1 < s.labs.length/\Fs s j.1/\Lc' V s j.1 j.2
section
variable {V:List iA}{f:Int}{F:List (Nat × List Int)}{s s':Lw}
theorem WG.tl {i:Nat × List Int}(h:WG V f (i :: F) s):WG V f F s:=⟨h.ow,(List.nodup_cons.1 h.nd).2,fun j hj=>h.fs j (yO _ hj)⟩
theorem WG.perm {F':List (Nat × List Int)}(h:WG V f F s)(p:F.Perm F'):WG V f F' s:=⟨h.ow,(p.map _).nodup_iff.1 h.nd,fun j hj=>h.fs j (p.mem_iff.2 hj)⟩
def Cv (V:List iA)(O:List Int)(s:Lw):Prop:=∃ l,s.vals=some l/\cov V O (has l)
structure Wa (V:List iA)(f a:Int)(F:List (Nat × List Int))(s:Lw):Prop where
 w:WG V f F s
 st:s.stmt=a
 cv:Cv V (yg a V 0) s
theorem WG.same (h:WG V f F s)(h0:s'.f=s.f)(h1:s'.ops=s.ops)(h2:s'.blocks=s.blocks)(h3:s'.labs=s.labs)(h4:s'.vals=s.vals)(h5:s'.blk=s.blk):WG V f F s':=
 ⟨⟨⟨by rw [h0];exact h.ow.ff,by rw [h1];exact h.ow.o0,by rw [h1];exact h.ow.o1,by rw [h2,h1];exact h.ow.bo,by rw [h3,h2];exact h.ow.lb,by rw [h3];exact h.ow.inj⟩,by rw [h4,h2,h5];exact h.ow.cu⟩,h.nd,fun j hj=>by unfold Fs Lc';rw [h3,h4,h5,h2];exact h.fs j hj⟩
theorem Cv.same {O:List Int}(h:Cv V O s)(h4:s'.vals=s.vals):Cv V O s':=by unfold Cv;rw [h4];exact h
theorem Wa.same {a:Int}(h:Wa V f a F s)(h0:s'.f=s.f)(h1:s'.ops=s.ops)(h2:s'.blocks=s.blocks)(h3:s'.labs=s.labs)(h4:s'.vals=s.vals)(h5:s'.blk=s.blk)(h6:s'.stmt=s.stmt):Wa V f a F s':=⟨h.w.same h0 h1 h2 h3 h4 h5,h6.trans h.st,h.cv.same h4⟩
theorem WG.put (h:WG V f F s){b b':lN}(hb:ix? s.blocks s.blk=some b){l:List (Pc × Int)}(hB:BM V b'.c)(hl:G8 b'.c=l)(h0:s'.f=s.f)(h2:s'.blocks=s.blocks.set s.blk.toNat b')(h4:s'.vals=some l)(ho:s.ops<=s'.ops/\s'.ops<=6000)(hL:(b'.c.length:Int)<=s'.ops)(h3:s'.labs=s.labs)(h5:s'.blk=s.blk):WG V f F s':=by
 obtain ⟨c0,c1,c2⟩:=ix?_nat hb;refine ⟨⟨⟨h0.trans h.ow.ff,Int.le_trans h.ow.o0 ho.1,ho.2,fun x hx=>?_,fun i t ht=>?_,by rw [h3];exact h.ow.inj⟩,l,b',h4,?_,hl⟩,h.nd,fun j hj=>⟨by rw [h3];exact (h.fs j hj).1,fun t ht h0=>?_,by unfold Lc';rw [h3];exact (h.fs j hj).2.2⟩⟩
 · rw [h2] at hx;obtain hx | rfl:=Jw hx
   · exact ⟨(h.ow.bo x hx).1,Int.le_trans (h.ow.bo x hx).2 ho.1⟩
   · exact ⟨hB,hL⟩
 · rw [h3] at ht;rw [h2,wR];exact h.ow.lb i t ht
 · rw [h2,h5];exact ix?_set_eq hb
 · rw [h3] at ht;obtain ⟨k1,y,hy,k3⟩:=(h.fs j hj).2.1 t ht h0;obtain ⟨_,_,hvs,_⟩:=h.ow.cu;have hne:=k1 (by rw [hvs];simp);rw [h5,h2];exact ⟨fun _=>hne,y,ix?_set_ne hy hne c0,k3⟩
end
section
variable {vis:Int->Int->Option (List Int)}{vars:List (List iA)}{V:List iA}{f:Int}{F:List (Nat × List Int)}{a:Int}
structure Sv (vis:Int->Int->Option (List Int))(vars:List (List iA))(V:List iA)(f:Int):Prop where
 vi:∀ st,vis f st=some (yg st V 0)
 va:ix? vars f=some V
end
theorem Qm {V:List iA}:∀ (l:List Int)(acc:List Pc)(r:Option (List Pc)),(∀ v ∈ l,∃ x,ix? V v=some x)→NK (some V) l acc=some r→r=some (acc ++ pG V l)
 | [],acc,r,_,e=>by cases e;simp [pG]
 | k :: l,acc,r,h,e=>by
  obtain ⟨x,hx⟩:=h k (.head _);rw [NK] at e;have hx':((some V).bind fun vs=>ix? vs k)=some x:=hx;rw [hx'] at e;dsimp only at e;unfold pG G7;rw [hx];dsimp only;split at e
  · rename_i hk;rw [lF hk,BZ];exact Qm l acc r (fun v hv=>h v (.tail _ hv)) e
  · rename_i hk;obtain ⟨a2,h2,e⟩:=bs e;rw [CQ h2] at e;rw [kQ hk,<-ES];exact Qm l _ r (fun v hv=>h v (.tail _ hv)) e
theorem U0 {V:List iA}{i:Int}:∀ v ∈ yg i V 0,∃ x,ix? V v=some x:=fun v hv=>by obtain ⟨n,x,e1,e2,_⟩:=II _ _ hv;exact ⟨x,by unfold ix?;rw [e1,kQ (by omega),DV,ET];exact e2⟩
section
variable {vis:Int->Int->Option (List Int)}{vars:List (List iA)}
variable {E:En}{a:Int}{O:List Int}{H:List Nat}{N:Nat}{F:List Nat}{K:Sz}{B:List Nat}{L:List Int}{G:List (nO × Nat)}{s s':Lw}
theorem AV (ar:Nat)(hS:Sv vis vars E.V E.f){st:Int}(hst:st=a)(hv:yg a E.V 0=O):Hr (Wq E a O H N F K B L G) (sM vis vars st) fun n=>Wq E a O H N (n :: F) ((n,O,ar) :: K) B L G:=fun s q e h=>by
 obtain ⟨AR,hw⟩:=h.w;obtain ⟨l,hl,e⟩:=bs e;obtain ⟨r,hr,e⟩:=bs e;rw [hw.ff,hS.vi,hst] at hl;cases hl;rw [hw.ff,hS.va] at hr;obtain rfl:=Qm _ _ _ U0 hr;rw [BZ,hv] at e;cases e;have hx:ZN s.labs (s.labs ++ [(-1,pG E.V O)]):=fun i t ht _=>by rw [zQ (List.getElem?_eq_some_iff.1 ht).1];exact ht
 have ha:∀ (i:Nat) x,AR[i]?=some x->(AR ++ [ar])[i]?=some x:=fun i x hx=>by rw [zQ (List.getElem?_eq_some_iff.1 hx).1];exact hx
 have hlt:∀ {i:Nat}{t},(s.labs ++ [(-1,pG E.V O)])[i]?=some t->s.labs[i]?=some t\/i=s.labs.length/\t=(-1,pG E.V O):=fun {i t} ht=>by
   by_cases c:i < s.labs.length
   · rw [zQ c] at ht;exact .inl ht
   · have:=(List.getElem?_eq_some_iff.1 ht).1;simp at this;have hi:i=s.labs.length:=by omega
     subst hi;simp at ht;exact .inr ⟨rfl,ht.symm⟩
 refine ⟨⟨AR ++ [ar],⟨hw.ff,hw.ob,hw.om,hw.pm,hw.cx,hw.o0,hw.o1,hw.bl,by simp [hw.al],fun i t ht=>?_,fun i j t u ht hu htu h0=>?_,fun k b hb=>?_,fun i t ht h0=>?_,fun i hi=>?_,List.nodup_cons.2 ⟨fun c=>?_,hw.nd⟩,fun x hx'=>?_,fun i hi=>?_,by obtain ⟨t,z1,z2,z3⟩:=hw.bz;exact ⟨t,hx 0 t z1 (by omega),z2,ha _ _ z3⟩⟩⟩,h.st,h.hn,h.pn,h.nz,h.op,h.cu,h.cw,h.lv,fun x hx'=>?_⟩
 · obtain ht | ⟨_,rfl⟩:=hlt ht
   · exact hw.lb i t ht
   · dsimp only;omega
 · obtain ht | ⟨_,rfl⟩:=hlt ht
   · obtain hu | ⟨_,rfl⟩:=hlt hu
     · exact hw.inj i j t u ht hu htu h0
     · dsimp only at htu;omega
   · dsimp only at h0;omega
 · obtain q | q | ⟨i,q1,t,q2,q3⟩:=hw.bk k b hb
   · exact .inl (q.mono hx ha)
   · exact .inr (.inl q)
   · exact .inr (.inr ⟨i,.tail _ q1,t,hx i t q2 (by omega),q3⟩)
 · obtain ht | ⟨_,rfl⟩:=hlt ht
   · obtain q | ⟨b,q1,q2,q3⟩:=hw.bg i t ht h0
     · exact .inl (.tail _ q)
     · exact .inr ⟨b,q1,ha _ _ q2,q3⟩
   · dsimp only at h0;omega
 · obtain rfl | hi:=nM.1 hi
   · refine ⟨by simp,fun t ht h0=>?_⟩;simp at ht;subst ht;simp at h0
   · obtain ⟨k1,k2⟩:=hw.fr i hi;refine ⟨by simp;omega,fun t ht h0=>?_⟩;dsimp only at ht;rw [zQ k1] at ht;exact k2 t ht h0
 · have:=(hw.fr _ c).1;omega
 · obtain rfl | hx':=nM.1 hx'
   · exact ⟨(-1,pG E.V O),by simp,rfl,by dsimp only;rw [<-hw.al];simp,fun c=>by dsimp only at c;omega⟩
   · obtain ⟨t,k1,k2,k3,k4⟩:=hw.kn x hx';exact ⟨t,by dsimp only;rw [List.getElem?_append_left (List.getElem?_eq_some_iff.1 k1).1];exact k1,k2,ha _ _ k3,k4⟩
 · obtain ⟨t,k1,k2⟩:=hw.bn i hi;exact ⟨t,hx i t k1 k2,k2⟩
 · obtain ⟨⟨i,O',t,k1,k2,k3,k4⟩,k5⟩:=h.ge x hx';exact ⟨⟨i,O',t,.tail _ k1,hx i t k2 (by omega),k3,k4⟩,k5⟩
theorem Vp (ar:Nat)(hS:Sv vis vars E.V E.f)(hv:yg a E.V 0=O){β:Type}{k:Nat->LM β}{Q:β->Lw->Prop}(h:∀ n,Hr (Wq E a O H N (n :: F) ((n,O,ar) :: K) B L G) (k n) Q):Hr (Wq E a O H N F K B L G) (QO vis vars k) Q:=fun s q e hs=>rb (AV ar hS hs.st hv) h _ _ e hs
theorem Zb {i:Nat}(hi:i ∈ F\/i ∈ B)(hk:∃ O' ar,(i,O',ar) ∈ K):Hr (Wq E a O H N F K B L G) (wQ i) fun _=>Wq E a O H N F K (i :: B) L G:=fun s q e h=>by
 obtain ⟨AR,hw⟩:=h.w;obtain ⟨t,ht,e⟩:=bs e;split at e
 · rename_i c;cases e;refine ⟨⟨AR,⟨hw.ff,hw.ob,hw.om,hw.pm,hw.cx,hw.o0,hw.o1,hw.bl,hw.al,hw.lb,hw.inj,hw.bk,hw.bg,hw.fr,hw.nd,hw.kn,fun j hj=>?_,hw.bz⟩⟩,h.st,h.hn,h.pn,h.nz,h.op,h.cu,h.cw,h.lv,h.ge⟩;obtain rfl | hj:=nM.1 hj
   · exact ⟨t,ht,c⟩
   · exact hw.bn j hj
 rename_i ct;have hF:i ∈ F:=by
   obtain hi | hi:=hi
   · exact hi
   · obtain ⟨t2,k1,k2⟩:=hw.bn i hi;rw [ht] at k1;cases k1;exact absurd k2 ct
 split at e
 · cases e;trivial
 rename_i cl;cases e;obtain ⟨⟨l,b,c1,c2,c3,c4,c5,c6⟩,n0,n1,pd⟩:=h.cu;obtain ⟨b0,b1,_⟩:=ix?_nat c2;have hil:i < s.labs.length:=(List.getElem?_eq_some_iff.1 ht).1;have hx:ZN s.labs (s.labs.set i ((s.blocks.length:Int),t.2)):=fun j u hu h0=>by rw [zV (fun c=>by subst c;rw [ht] at hu;cases hu;exact ct h0)];exact hu
 have hlt:∀ {j:Nat}{u},(s.labs.set i ((s.blocks.length:Int),t.2))[j]?=some u->j=i/\u=((s.blocks.length:Int),t.2)\/j≠i/\s.labs[j]?=some u:=fun {j u} hu=>by
   by_cases c:i=j
   · subst c;rw [DJ hil] at hu;exact .inl ⟨rfl,(Kj hu).symm⟩
   · rw [zV c] at hu;exact .inr ⟨fun z=>c z.symm,hu⟩
 refine ⟨⟨AR,⟨hw.ff,hw.ob,hw.om,hw.pm,hw.cx,?_,hw.o1,by simp;omega,by simp [hw.al],fun j u hu=>?_,fun j k u v hu hv huv h0=>?_,fun k x hx'=>?_,fun j u hu h0=>?_,fun j hj=>⟨by simp;exact (hw.fr j hj).1,fun u hu h0=>?_⟩,hw.nd,fun x hx'=>?_,fun j hj=>?_,by obtain ⟨t,z1,z2,z3⟩:=hw.bz;exact ⟨t,hx 0 t z1 (by omega),z2,z3⟩⟩⟩,h.st,h.hn,h.pn,h.nz,h.op,⟨⟨l,b,c1,ix?_app c2,c3,c4,c5,c6⟩,n0,n1,pd⟩,h.cw,h.lv,fun x hx'=>?_⟩
 · dsimp only;rw [Iw];exact hw.o0
 · obtain ⟨_,rfl⟩|⟨_,hu⟩:=hlt hu
   · simp;omega
   · have:=hw.lb j u hu;simp;omega
 · obtain ⟨e1,rfl⟩|⟨_,hu⟩:=hlt hu
   · obtain ⟨e2,rfl⟩|⟨_,hv⟩:=hlt hv
     · rw [e1,e2]
     · have:=hw.lb k v hv;dsimp only at huv;omega
   · obtain ⟨e2,rfl⟩|⟨_,hv⟩:=hlt hv
     · have:=hw.lb j u hu;dsimp only at huv;omega
     · exact hw.inj j k u v hu hv huv h0
 · dsimp only at hx';by_cases c:k < s.blocks.length
   · rw [zQ c] at hx';obtain q | q | ⟨j,q1,u,q2,q3⟩:=hw.bk k x hx'
     · exact .inl (q.mono hx fun _ _=>id)
     · exact .inr (.inl q)
     · exact .inr (.inr ⟨j,q1,u,hx j u q2 (by omega),q3⟩)
   · have hkl:k=s.blocks.length:=by have:=(List.getElem?_eq_some_iff.1 hx').1;simp at this;omega
     exact .inr (.inr ⟨i,hF,_,List.getElem?_set_self hil,by dsimp only;omega⟩)
 · obtain ⟨rfl,_⟩|⟨_,hu⟩:=hlt hu
   · exact .inl hF
   · obtain q | ⟨y,q1,q2⟩:=hw.bg j u hu h0
     · exact .inl q
     · exact .inr ⟨y,ix?_app q1,q2⟩
 · obtain ⟨_,rfl⟩|⟨_,hu⟩:=hlt hu
   · exact ⟨fun _=>by dsimp only;omega,MB,ix?_end,rfl⟩
   · obtain ⟨k1,y,hy,k3⟩:=(hw.fr j hj).2 u hu h0;exact ⟨k1,y,ix?_app hy,k3⟩
 · obtain ⟨u,k1,k2,k3,k4⟩:=hw.kn x hx';by_cases c:i=x.1
   · rw [<-c,ht] at k1;cases k1;exact ⟨((s.blocks.length:Int),t.2),by rw [<-c];exact List.getElem?_set_self hil,k2,k3,fun _=>by dsimp only;omega⟩
   · exact ⟨u,by dsimp only;rw [List.getElem?_set_ne c];exact k1,k2,k3,k4⟩
 · obtain rfl | hj:=nM.1 hj
   · exact ⟨_,List.getElem?_set_self hil,by dsimp only;omega⟩
   · obtain ⟨u,k1,k2⟩:=hw.bn j hj;exact ⟨u,hx j u k1 k2,k2⟩
 · obtain ⟨⟨j,O',u,k1,k2,k3,k4⟩,k5⟩:=h.ge x hx';exact ⟨⟨j,O',u,k1,hx j u k2 (by omega),k3,k4⟩,k5⟩
theorem zH {i:Nat}{l O':List Int}{ar:Nat}(more:Nat)(hi:i ∈ F\/i ∈ B)(hk:(i,O',ar) ∈ K)(hc:∀ p ∈ pG E.V O',p ∈ pG E.V O)(hl:∀ v ∈ l,v ∈ L)(har:ar=l.length+(pG E.V O').length+more):Hr (Wq E a O H N F K B L G) (yE i l) fun e=>Wq E a O H N F K (i :: B) L ((e,more) :: G):=
 rb (Zb hi ⟨_,_,hk⟩) fun _ s q e h=>by
  obtain ⟨AR,hw⟩:=h.w;obtain ⟨t,ht,e⟩:=bs e;obtain ⟨vs,hvs,e⟩:=bs e;obtain ⟨xs,hxs,e⟩:=bs e;cases e;obtain ⟨t2,k1,k2,k3,k4⟩:=hw.kn _ hk;dsimp only at k1 k2;rw [ht] at k1;cases k1;obtain ⟨t3,j1,j2⟩:=hw.bn i (.head _);rw [ht] at j1;cases j1;obtain ⟨⟨l',b,c1,c2,c3,c4⟩,_⟩:=h.cu;rw [hvs] at c1;cases c1;obtain ⟨l2,d1,d2⟩:=h.cw;rw [hvs] at d1;cases d1;have hx:=CQ hxs;refine ⟨h.w,h.st,h.hn,h.pn,h.nz,h.op,h.cu,h.cw,h.lv,fun x hx'=>?_⟩;obtain rfl | hx':=nM.1 hx'
  · refine ⟨⟨i,O',t,?_,ht,rfl,k4 j2⟩,fun v hv=>?_⟩
    · have:ar=xs.length+more:=by rw [hx,har,F9,Dg,k2]
      dsimp only;rw [<-this];exact hk
    · dsimp only at hv;rw [hx] at hv;obtain hv | hv:=qg.1 hv
      · exact h.lv v (hl v hv)
      · obtain ⟨p,hp,rfl⟩:=List.mem_map.1 hv;rw [k2] at hp;obtain ⟨w,hw2⟩:=Option.isSome_iff_exists.1 (d2 p (hc p hp));rw [hw2];exact c3 p w hw2
  · exact h.ge x hx'
theorem UJ {i:Nat}{O':List Int}{ar:Nat}(more:Nat)(hi:i ∈ F\/i ∈ B)(hk:(i,O',ar) ∈ K)(hc:∀ p ∈ pG E.V O',p ∈ pG E.V O)(har:ar=(pG E.V O').length+N+more):Hr (Wq E a O H N F K B L G) (MX i) fun e=>Wq E a O H N F K (i :: B) L ((e,more) :: G):=
 rb (zH (N+more) hi hk hc (fun v hv=>by cases hv) (by simp;omega)) fun x s q e h=>by
  obtain ⟨xs,hxs,e⟩:=bs e;cases e;have hx:=CQ hxs;obtain ⟨_,_,_,pd⟩:=h.cu;refine ⟨h.w,h.st,h.hn,h.pn,h.nz,h.op,h.cu,h.cw,h.lv,fun y hy=>?_⟩;obtain rfl | hy:=nM.1 hy
  · obtain ⟨⟨j,O2,t,k1,k2,k3,k4⟩,k5⟩:=h.ge (x,N+more) (.head _);refine ⟨⟨j,O2,t,?_,k2,k3,k4⟩,fun v hv=>?_⟩
    · dsimp only at k1 ⊢;rw [hx,F9,h.pn,Nat.add_assoc];exact k1
    · dsimp only at hv;rw [hx] at hv;obtain hv | hv:=qg.1 hv
      · exact k5 v hv
      · exact pd v hv
  · exact h.ge y (.tail _ hy)
theorem Dw {t:uG}(hT:∀ (n:Int) (Ed:nO->Nat->Prop),(∀ v ∈ L,Vl n v)->(∀ x ∈ G,Ed x.1 x.2)->Tq E.Ps Ed n t):Hr (Wq E a O H N F K B L G) (lend t) fun _=>Wx E a H N F K B:=fun s q e h=>by obtain ⟨AR,hw⟩:=h.w;obtain ⟨⟨l,b,c1,c2,c3,c4,c5,c6⟩,n0,n1,pd⟩:=h.cu;unfold lend at e;rw [c2] at e;cases e;refine ⟨⟨AR,hw.put c2 (b':=⟨b.a,b.c,t⟩) rfl (.inr ⟨c5,c6,s.next,c4,hT _ _ h.lv fun x hx=>?_⟩) rfl rfl rfl rfl rfl rfl rfl hw.o1 rfl (by rw [c1];simp) rfl⟩,h.st,h.hn,h.pn,h.nz,rfl⟩;obtain ⟨⟨i,O',t,k1,k2,k3,k4⟩,k5⟩:=h.ge x hx;obtain ⟨t2,j1,j2,j3,j4⟩:=hw.kn _ k1;exact ⟨⟨i,t,k2,k3,k4,j3⟩,k5⟩
theorem ab4 {l:List yB}{s s':Lw}{x:List Int}{u:Unit}(e:lop l s=some (.ok u s')):s'.pend=s.pend/\lop l { s with pend:=x }=some (.ok u { s' with pend:=x }):=by
 unfold lop at e ⊢;dsimp only at e ⊢;split at e
 · cases e
 rename_i c;rw [kQ c];split at e
 · cases e
 obtain ⟨os,hos,e⟩:=bs e;rw [hos];cases e;exact ⟨rfl,rfl⟩
theorem ZM {l:List yB}{s:Lw}{x:List Int}(e:lop l s=some .rt):lop l { s with pend:=x }=some .rt:=by
 unfold lop at e ⊢;dsimp only at e ⊢;split at e
 · cases e
 rename_i c;rw [kQ c];split at e
 · rfl
 · obtain ⟨os,_,e⟩:=bs e;cases e
theorem Yb {p:Pc}{v:Int}{s s':Lw}{x:List Int}{u:Unit}(e:vB p v s=some (.ok u s')):s'.pend=s.pend/\vB p v { s with pend:=x }=some (.ok u { s' with pend:=x }):=by obtain ⟨vs,hvs,h1⟩:=bs e;have q:=ab4 (x:=x) h1;refine ⟨q.1,?_⟩;have:vB p v { s with pend:=x }=s.vals.bind fun l=>lop [⟨21,0,0,0,0,0,p.1,p.2,⟨2,v,0⟩⟩] { s with vals:=some (yt l p v),pend:=x }:=rfl;rw [this,hvs];exact q.2
theorem VT {p:Pc}{v:Int}{s:Lw}{x:List Int}(e:vB p v s=some .rt):vB p v { s with pend:=x }=some .rt:=by obtain ⟨vs,hvs,h1⟩:=bs e;have q:=ZM (x:=x) h1;have:vB p v { s with pend:=x }=s.vals.bind fun l=>lop [⟨21,0,0,0,0,0,p.1,p.2,⟨2,v,0⟩⟩] { s with vals:=some (yt l p v),pend:=x }:=rfl;rw [this,hvs];exact q
def ahi (x:List Int)(s:Lw)(c:LM Unit)(q:Lo Unit):Prop:=match q with
 | .ok u s'=>s'.pend=s.pend/\c { s with pend:=x }=some (.ok u { s' with pend:=x })
 | .lim=>True
 | .rt=>c { s with pend:=x }=some .rt
theorem QN {x:List Int}:∀ {l:List Pc}{k:Int}{i:Nat}{s:Lw}{q:Lo Unit},yh l k i s=some q→ahi x s (yh l k i) q
 | [],_,_,s,q,e=>by cases e;exact ⟨rfl,rfl⟩
 | p :: l,k,i,s,q,e=>by
  rw [yh] at e ⊢;unfold LM.bind at e;obtain ⟨q1,h1,e⟩:=bs e;cases q1 with
  | lim=>cases e;trivial
  | rt=>
   cases e;show LM.bind _ _ _=_;unfold LM.bind;rw [VT (x:=x) h1];rfl
  | ok u s1=>
   obtain ⟨a1,a2⟩:=Yb (x:=x) h1;have ih:=QN (x:=x) (show yh l k (i+1) s1=some q from e);have hb2:((vB p (wr (k+i))).bind fun _=>yh l k (i+1)) { s with pend:=x }=yh l k (i+1) { s1 with pend:=x }:=by unfold LM.bind;rw [a2];rfl
   cases q with
   | lim=>trivial
   | rt=>exact hb2.trans ih
   | ok u2 s2=>exact ⟨ih.1.trans a1,hb2.trans ih.2⟩
theorem PZ {n:Int}(hn:n≤1000):∀ {l:List Pc}{k:Int}{i:Nat}{D:List Pc}{s:Lw}{q:Lo Unit},0≤k→k+i+l.length≤n→(∀ p ∈ l,(0≤p.1∧p.1 < 24)∧0≤p.2∧p.2 < 4)→Wq E a O H N F K B L G s→s.next=n→(∃ vs,s.vals=some vs∧∀ p ∈ D,(pE vs p).isSome=true)→yh l k i s=some q→
  q.sat fun _ t=>Wq E a O H N F K B L G t/\t.next=n/\∃ vs,t.vals=some vs/\∀ p,p ∈ D\/p ∈ l->(pE vs p).isSome=true
 | [],_,_,D,s,q,_,_,_,h,h1,⟨vs,h2,h3⟩,e=>by cases e;exact ⟨h,h1,vs,h2,fun p hp=>hp.elim (h3 p) fun c=>by cases c⟩
 | p :: l,k,i,D,s,q,hk,hl,hp,h,h1,⟨vs,h2,h3⟩,e=>by
  simp only [uM] at hl;have hw:wr (k+(i:Int))=k+i:=Kh (by omega) (by omega);rw [yh,hw] at e;unfold LM.bind at e;obtain ⟨q1,e1,e⟩:=bs e;have:=PY h (v:=k+i) ⟨by omega,by omega⟩ (hp p (.head _)) e1;cases q1 with
  | lim=>cases e;trivial
  | rt=>exact this.elim
  | ok u s1=>
   obtain ⟨w1,w2,l1,w3,w4⟩:=this;rw [h2] at w3;cases w3;have ih:=PZ hn (D:=p :: D) (i:=i+1) hk (by omega) (fun r hr=>hp r (.tail _ hr)) w1 (w2.trans h1) ⟨_,w4,fun r hr=>?_⟩ (show yh l k (i+1) s1=some q from e)
   · cases q with
     | lim=>trivial
     | rt=>exact ih
     | ok u2 s2=>
       obtain ⟨z1,z2,vs2,z3,z4⟩:=ih;refine ⟨z1,z2,vs2,z3,fun r hr=>z4 r ?_⟩;obtain hr | hr:=hr
       · exact .inl (.tail _ hr)
       · obtain rfl | hr:=nM.1 hr
         · exact .inl (.head _)
         · exact .inr hr
   · rw [xK];split
     · rfl
     · rename_i c;obtain rfl | hr:=nM.1 hr
       · exact absurd rfl c
       · exact h3 r hr
end
theorem acW {α β γ:Type}{mm:LM α}{k:α->LM β}{j:β->LM γ}:(mm.bind k).bind j=mm.bind fun a=>(k a).bind j:=funext fun s=>by
 unfold LM.bind;cases mm s with
 | none=>rfl
 | some q=>cases q <;> rfl
abbrev aaQ (p:Pc):Prop:=(0<=p.1/\p.1 < 24)/\0<=p.2/\p.2 < 4
section
variable {vis:Int->Int->Option (List Int)}{vars:List (List iA)}
variable {E:En}{a:Int}{O:List Int}{H:List Nat}{N:Nat}{F:List Nat}{K:Sz}{B:List Nat}{L:List Int}{G:List (nO × Nat)}{s s':Lw}
structure Zq (E:En):Prop where
 ok:∀ O p,p ∈ pG E.V O->aaQ p
 ln:∀ i,(pG E.V (yg i E.V 0)).length<=1000
theorem LU {i:Nat}{k:Int}{ar:Nat}{AR:List Nat}{t:Int × List Pc}{q:Lo Unit}(hE:Zq E)(hk0:0<=k)(hk1:k<=1)(hO:(pG E.V O).length<=1000)(hL:∀ v ∈ L,0<=v/\v < k)(hw:Ny E (i :: F) K B AR s)(h:Wx E a H N (i :: F) K B s)(k1:s.labs[i]?=some t)(j2:0<=t.1)(k2:t.2=pG E.V O)(k3:AR[i]?=some ar)(har:ar=k.toNat+(pG E.V O).length+N)(e:ou i k s=some q):q.sat fun _=>Wq E a O H N F K B L []:=by
 have hpn:=h.pn;have hnz:=h.nz;have htl:t.2.length<=1000:=by rw [k2];exact hO
 unfold ou at e;rw [k1,Option.bind_some] at e;have hnn:wr (wr (k+t.2.length)+s.pend.length)=k+t.2.length+N:=by rw [Kh (n:=k+t.2.length) (by omega) (by omega),hpn];exact Kh (by omega) (by omega)
 dsimp only at e;rw [hnn] at e;split at e
 · cases e;trivial
 rename_i hlim;have hlb:=hw.lb i t k1;obtain ⟨b,hbk⟩:∃ b,ix? s.blocks t.1=some b:=by obtain ⟨b,hb⟩:=lZ (l:=s.blocks) (k:=t.1.toNat) (by omega);exact ⟨b,by unfold ix?;rw [kQ (by omega)];exact hb⟩
 rw [hbk] at e;dsimp only at e;obtain ⟨b0,b1,b2⟩:=ix?_nat hbk;obtain ⟨_,y,hy,hyo⟩:=(hw.fr i (.head _)).2 t k1 j2;obtain rfl:y=b:=by rw [hbk] at hy;exact (Kj hy).symm
 have hn:=List.nodup_cons.1 hw.nd;have W1:Wq E a [] H 0 F K B L [] { s with blk:=t.1,opn:=true,next:=k+t.2.length+N,blocks:=s.blocks.set t.1.toNat { y with a:=k+t.2.length+N },vals:=some [],pend:=[] }:=by
   have hs:=Mj (b':={ y with a:=k+t.2.length+N }) b2;dsimp only at hs;refine ⟨⟨AR,⟨hw.ff,hw.ob,hw.om,hw.pm,hw.cx,?_,hw.o1,by simp;exact hw.bl,hw.al,fun i u hu=>by dsimp only;rw [List.length_set];exact hw.lb i u hu,hw.inj,fun j x hx=>?_,fun j u hu h0=>?_,fun j hj=>⟨(hw.fr j (.tail _ hj)).1,fun u hu h0=>?_⟩,hn.2,hw.kn,hw.bn,hw.bz⟩⟩,h.st,h.hn,rfl,Nat.zero_le _,rfl,⟨⟨[],{ y with a:=k+t.2.length+N },rfl,ix?_set_eq hbk,(fun p v hp=>by cases hp),by dsimp only;rw [hyo];exact .nil,by dsimp only;omega,by dsimp only;omega⟩,by dsimp only;omega,by have:=hw.o0;dsimp only;omega,fun v hv=>(by cases hv)⟩,⟨[],rfl,fun p hp=>(by cases hp)⟩,fun v hv=>?_,fun x hx=>(by cases hx)⟩
   · have:=hw.o0;dsimp only;omega
   · dsimp only at hx;by_cases c:t.1.toNat=j
     · exact .inr (.inl ⟨rfl,by dsimp only;omega⟩)
     · rw [zV c] at hx;obtain z | ⟨z,_⟩|⟨i2,z1,u,z2,z3⟩:=hw.bk j x hx
       · exact .inl z
       · rw [h.op] at z;cases z
       · obtain rfl | z1:=nM.1 z1
         · rw [k1] at z2;cases z2;omega
         · exact .inr (.inr ⟨i2,z1,u,z2,z3⟩)
   · dsimp only at hu ⊢;by_cases c:i=j
     · subst c;rw [k1] at hu;cases hu;exact .inr ⟨_,ix?_set_eq hbk,by rw [k3,har,<-k2];dsimp only;congr 1;omega,by dsimp only;omega⟩
     · have hne:u.1≠t.1:=fun z=>c (hw.inj j i u t hu k1 z h0).symm;obtain z | ⟨x,z1,z2⟩:=hw.bg j u hu h0
       · obtain z | z:=nM.1 z
         · exact absurd z.symm c
         · exact .inl z
       · exact .inr ⟨x,ix?_set_ne z1 hne b0,z2⟩
   · have hne:u.1≠t.1:=fun z=>hn.1 (by rw [<-hw.inj j i u t hu k1 z h0];exact hj);obtain ⟨_,x,hx,hxo⟩:=(hw.fr j (.tail _ hj)).2 u hu h0;exact ⟨fun _=>hne,x,ix?_set_ne hx hne b0,hxo⟩
   · have:=hL v hv;exact ⟨this.1,by have:=this.2;dsimp only;omega⟩
 unfold LM.bind at e;obtain ⟨q1,h1,e⟩:=bs e;have hpv:=QN (x:=[]) h1;cases q1 with
 | lim=>cases e;trivial
 | rt=>
   have:=PZ (n:=k+t.2.length+N) (by omega) (D:=[]) (i:=0) hk0 (by omega) (fun p hp=>hE.ok O p (by rw [<-k2];exact hp)) W1 rfl ⟨[],rfl,fun p hp=>by cases hp⟩ hpv;exact this.elim
 | ok u s2=>
   obtain ⟨p1,p2⟩:=hpv;obtain ⟨z1,z2,vs,z3,z4⟩:=PZ (n:=k+t.2.length+N) (by omega) (D:=[]) (i:=0) hk0 (by omega) (fun p hp=>hE.ok O p (by rw [<-k2];exact hp)) W1 rfl ⟨[],rfl,fun p hp=>by cases hp⟩ p2;cases e;obtain ⟨AR2,w2⟩:=z1.w;obtain ⟨c1,c2,c3,_⟩:=z1.cu;have z2':s2.next=k+t.2.length+N:=z2;have hp3:s2.pend.length=N:=by rw [p1];exact hpn
   refine ⟨⟨AR2,w2.same rfl rfl rfl rfl rfl rfl rfl rfl rfl rfl rfl⟩,z1.st,z1.hn,by simp [hp3],hnz,z1.op,⟨c1,c2,c3,fun v hv=>?_⟩,⟨vs,z3,fun p hp=>z4 p (.inr (by rw [k2];exact hp))⟩,z1.lv,fun x hx=>by cases hx⟩;obtain ⟨j,hj,rfl⟩:=List.mem_map.1 hv;have hj:=List.mem_range.1 hj;have e1:wr (k+(t.2.length:Int))=k+t.2.length:=Kh (by omega) (by omega);have e2:wr (k+(t.2.length:Int)+(j:Nat))=k+t.2.length+j:=Kh (by omega) (by omega);rw [e1,e2];dsimp only;exact ⟨by omega,by omega⟩
theorem Au {i:Nat}{k:Int}{ar:Nat}(hE:Zq E)(hk0:0<=k)(hk1:k<=1)(hO:(pG E.V O).length<=1000)(hL:∀ v ∈ L,0<=v/\v < k)(hB:i ∈ B)(hk:(i,O,ar) ∈ K)(har:ar=k.toNat+(pG E.V O).length+N):Hr (Wx E a H N (i :: F) K B) (ou i k) fun _=>Wq E a O H N F K B L []:=fun s q e h=>by obtain ⟨AR,hw⟩:=h.w;obtain ⟨t,k1,k2,k3,k4⟩:=hw.kn _ hk;obtain ⟨t2,j1,j2⟩:=hw.bn i hB;dsimp only at k1;rw [k1] at j1;cases j1;exact LU hE hk0 hk1 hO hL hw h k1 j2 k2 k3 har e
def JK (E:En)(O:List Int)(H F:List Nat)(K:Sz)(B:List Nat):Prop:=∀ h ∈ H,∃ O',(h,O',1+(pG E.V O').length) ∈ K/\(h ∈ F\/h ∈ B)/\∀ p ∈ pG E.V O',p ∈ pG E.V O
theorem JK.mono {F' B':List Nat}{K':Sz}(h:JK E O H F K B)(h1:∀ x ∈ F,x ∈ F')(h2:∀ x ∈ K,x ∈ K')(h3:∀ x ∈ B,x ∈ B'):JK E O H F' K' B':=fun x hx=>by obtain ⟨O',k1,k2,k3⟩:=h x hx;exact ⟨O',h2 _ k1,k2.imp (h1 _) (h3 _),k3⟩
theorem UK {v:Int}(hH:JK E O H F K B)(hv:v ∈ L):Hr (Wq E a O H N F K B L []) (xA v) fun _=>Wx E a H N F K B:=fun s q e h=>by
 unfold xA at e;split at e
 · rename_i x hx;rw [h.hn] at hx;obtain ⟨O',k1,k2,k3⟩:=hH x (List.mem_of_getLast? hx);exact rb (zH 0 k2 k1 k3 (fun u hu=>by rw [List.mem_singleton.1 hu];exact hv) (by simp)) (fun ed=>(Dw fun n Ed _ hG=>.jump (hG _ (.head _))).post fun _ s z=>⟨by obtain ⟨AR,w⟩:=z.w;exact ⟨AR,w.ff,w.ob,w.om,w.pm,w.cx,w.o0,w.o1,w.bl,w.al,w.lb,w.inj,w.bk,w.bg,w.fr,w.nd,w.kn,fun i hi=>w.bn i (.tail _ hi),w.bz⟩,z.st,z.hn,z.pn,z.nz,z.op⟩) s q e h
 · exact Dw (fun n Ed hL _=>.throw (hL _ hv)) s q e h
theorem aaN {k:nO->LM Unit}{Q:Unit->Lw->Prop}(hH:JK E O H F K B)(h0:Hr (Wq E a O H N F K B L G) (k Je) Q)(h1:∀ e,Hr (Wq E a O H N F K B L ((e,1) :: G)) (k e) Q):Hr (Wq E a O H N F K B L G) (Fy k) Q:=fun s q e h=>by
 unfold Fy at e;split at e
 · rename_i x hx;rw [h.hn] at hx;obtain ⟨O',k1,k2,k3⟩:=hH x (List.mem_of_getLast? hx);refine rb (zH 1 k2 k1 k3 (fun u hu=>by cases hu) (by simp;omega)) (fun ed=>(h1 ed).pre fun s z=>⟨?_,z.st,z.hn,z.pn,z.nz,z.op,z.cu,z.cw,z.lv,z.ge⟩) s q e h;obtain ⟨AR,w⟩:=z.w;exact ⟨AR,w.ff,w.ob,w.om,w.pm,w.cx,w.o0,w.o1,w.bl,w.al,w.lb,w.inj,w.bk,w.bg,w.fr,w.nd,w.kn,fun i hi=>w.bn i (.tail _ hi),w.bz⟩
 · exact h0 s q e h
theorem Si {i ar:Nat}(hE:Zq E)(ha:0<=a/\a<=9999)(hO:(pG E.V O).length<=1000)(hB:i ∈ B)(hk:(i,O,ar) ∈ K)(har:ar=(pG E.V O).length+N):Hr (Wx E a H N (i :: F) K B) (Ja i) fun _=>Wq E a O H N F K B [] []:=
 rb (Au hE (by omega) (by omega) hO (fun v hv=>by cases hv) hB hk (by simp;omega)) fun _=>aci ha
theorem Ve {i ar:Nat}{n:Int}(hE:Zq E)(ha:0<=a/\a<=9999)(hO:(pG E.V O).length<=1000)(hH:JK E O H F K B)(hB:i ∈ B)(hk:(i,O,ar) ∈ K)(har:ar=(pG E.V O).length):Hr (Wx E a H N (i :: F) K B) (GY i n) fun _=>Wx E a H N F K B:=fun s q e h=>by
 have e:((ou i 0 |>.bind fun _=>Tn |>.bind fun _=>uy n |>.bind fun c=>xA c).bind fun _ s'=>some (.ok () { s' with pend:=s.pend })) { s with pend:=[] }=some q:=by
   rw [acW];have hx:(fun x:Unit=>LM.bind (Tn.bind fun _=>(uy n).bind fun c=>xA c) fun _ (s':Lw)=>some (Lo.ok () { s' with pend:=s.pend }))=fun x=>Tn.bind fun _=>(uy n).bind fun c=>(xA c).bind fun _ (s':Lw)=>some (Lo.ok () { s' with pend:=s.pend }):=by
    funext x;rw [acW]
    congr 1
    funext y;rw [acW]
   rw [hx];exact e
 refine rb (P:=Wx E a H 0 (i :: F) K B) (R:=fun _=>Wx E a H N F K B) (rb (Au (L:=[]) hE (by omega) (by omega) hO (fun v hv=>by cases hv) hB hk (by simp;omega)) fun _=>rb (aci ha) fun _=>rb Ey fun c=>UK hH (.head _)) (fun _ s2 q2 e2 h2=>?_) { s with pend:=[] } q e ?_
 · cases e2;obtain ⟨AR,w⟩:=h2.w;exact ⟨⟨AR,w.same rfl rfl rfl rfl rfl rfl rfl rfl rfl rfl rfl⟩,h2.st,h2.hn,h.pn,h.nz,h2.op⟩
 · obtain ⟨AR,w⟩:=h.w;exact ⟨⟨AR,w.same rfl rfl rfl rfl rfl rfl rfl rfl rfl rfl rfl⟩,h.st,h.hn,rfl,uL _,h.op⟩
end
inductive XG (E:En)(O:List Int):jD→Prop
 | mk {e:jD} (op:0<=e.e/\e.e<=17) (ar:e.a.length=if e.e < 3 then 0 else if e.e < 6 then 1 else 2) (pc:e.e=1\/e.e=2->xP e ∈ pG E.V O) (ob:e.e=3->(∃ x,ix? E.V e.f=some x)/\∃ n,pE E.om e.f=some n/\0<=n/\n < (E.ob.length:Int)) (k:∀ y ∈ e.a,XG E O y):XG E O e
section
variable {vis:Int->Int->Option (List Int)}{vars:List (List iA)}
variable {E:En}{a:Int}{O:List Int}{H:List Nat}{N:Nat}{F:List Nat}{K:Sz}{B:List Nat}{L:List Int}{G:List (nO × Nat)}{s s':Lw}
theorem Ny.dr {AR:List Nat}{K':Sz}{B':List Nat}(w:Ny E F K B AR s)(h1:∀ x ∈ K',x ∈ K)(h2:∀ x ∈ B',x ∈ B):Ny E F K' B' AR s:=⟨w.ff,w.ob,w.om,w.pm,w.cx,w.o0,w.o1,w.bl,w.al,w.lb,w.inj,w.bk,w.bg,w.fr,w.nd,fun x hx=>w.kn x (h1 x hx),fun i hi=>w.bn i (h2 i hi),w.bz⟩
theorem Wq.dr {K':Sz}{B':List Nat}(h:Wq E a O H N F K B L G s)(h1:∀ x ∈ K',x ∈ K)(h2:∀ x ∈ B',x ∈ B):Wq E a O H N F K' B' L [] s:=by obtain ⟨AR,w⟩:=h.w;exact ⟨⟨AR,w.dr h1 h2⟩,h.st,h.hn,h.pn,h.nz,h.op,h.cu,h.cw,h.lv,fun x hx=>(by cases hx)⟩
theorem abv (hS:Sv vis vars E.V E.f){β:Type}{v:Int}{x:iA}(hx:ix? E.V v=some x){k:iA->LM β}{Q:β->Lw->Prop}(h:Hr (Wq E a O H N F K B L G) (k x) Q):Hr (Wq E a O H N F K B L G) (Sm vars v k) Q:=fun s q e hs=>by obtain ⟨AR,w⟩:=hs.w;unfold Sm at e;rw [w.ff,hS.va] at e;have hx':((some E.V).bind fun l=>ix? l v)=some x:=hx;rw [hx'] at e;exact h s q e hs
theorem Zo {β:Type}{v n:Int}(hn:pE E.om v=some n){k:Int->LM β}{Q:β->Lw->Prop}(h:Hr (Wq E a O H N F K B L G) (k n) Q):Hr (Wq E a O H N F K B L G) (PG v k) Q:=fun s q e hs=>by obtain ⟨AR,w⟩:=hs.w;unfold PG at e;rw [w.om,hn] at e;exact h s q e hs
structure Ctx (E:En)(vis:Int->Int->Option (List Int))(vars:List (List iA))(a:Int)(O:List Int):Prop where
 pf:Zq E
 sv:Sv vis vars E.V E.f
 a0:0<=a/\a<=9999
 vi:yg a E.V 0=O
theorem Ctx.ln (C:Ctx E vis vars a O):(pG E.V O).length<=1000:=by rw [<-C.vi];exact C.pf.ln a
theorem ZQ (C:Ctx E vis vars a O)(hH:JK E O H F K B):Hr (Wq E a O H (N+1) F K B [] []) (Py vis vars) fun _=>Wq E a O H (N+1) F K B [] []:=
 rb Xx fun d=>Vp ((pG E.V O).length+(N+1)) C.sv C.vi fun nx=>Vp (pG E.V O).length C.sv C.vi fun ft=>
  rb (UJ 0 (.inl (by simp)) (yO _ (.head _)) (fun _=>id) rfl) fun yes=>rb (zH 0 (.inl (.head _)) (.head _) (fun _=>id) (fun _ h=>by cases h) (by simp)) fun no=>
  rb (Dw fun n Ed hL hG=>.branch (hL _ (.head _)) (hG _ (.tail _ (.head _))) (hG _ (.head _))) fun _=>
  rb (Ve C.pf C.a0 C.ln (hH.mono (fun _ h=>.tail _ h) (fun _ h=>.tail _ (.tail _ h)) fun _ h=>.tail _ (.tail _ h)) (.head _) (.head _) rfl) fun _=>
  (Si (N:=N+1) C.pf C.a0 C.ln (.tail _ (.head _)) (yO _ (.head _)) rfl).post fun _ s h=>h.dr (fun _ h=>.tail _ (.tail _ h)) fun _ h=>.tail _ (.tail _ h)
theorem Vg (C:Ctx E vis vars a O)(hH:JK E O H F K B){ex:jD->LM Unit}{x:jD}{i:iA}(hx:x.a≠[])(hi:ix? E.V x.f=some i)(h:∀ y ∈ x.a,Hr (Wq E a O H N F K B [] []) (ex y) fun _=>Wq E a O H (N+1) F K B [] []):Hr (Wq E a O H N F K B [] []) (JG vis vars ex x) fun _=>Wq E a O H (N+1) F K B [] []:=
 rb (EZ hx h) fun _=>rb Xx fun i=>rb Ey fun z=>rb (L9 (fun n hL=>.bin (by simp) (hL _ (.tail _ (.head _))) (hL _ (.head _))) (by simp)) fun below=>
 abv C.sv hi <| rb Ey fun n=>rb (L9 (fun m hL=>.bin (by simp) (hL _ (.head _)) (hL _ (.tail _ (.tail _ (.tail _ (.head _)))))) (by simp)) fun above=>rb (L9 (fun m hL=>.bin (by simp) (hL _ (.tail _ (.tail _ (.head _)))) (hL _ (.head _))) (by simp)) fun out=>
 Vp ((pG E.V O).length+(N+1)) C.sv C.vi fun nx=>Vp (pG E.V O).length C.sv C.vi fun ft=>rb (zH 0 (.inl (.head _)) (.head _) (fun _=>id) (fun _ h=>by cases h) (by simp)) fun yes=>
 rb (UJ 0 (.inl (by simp)) (yO _ (.head _)) (fun _=>id) rfl) fun no=>rb (Dw fun n Ed hL hG=>.branch (hL _ (.head _)) (hG _ (.tail _ (.head _))) (hG _ (.head _))) fun _=>
 rb (Ve C.pf C.a0 C.ln (hH.mono (fun _ h=>.tail _ h) (fun _ h=>.tail _ (.tail _ h)) fun _ h=>.tail _ (.tail _ h)) (.tail _ (.head _)) (.head _) rfl) fun _=>
 (Si (N:=N+1) C.pf C.a0 C.ln (.head _) (yO _ (.head _)) rfl).post fun _ s h=>h.dr (fun _ h=>.tail _ (.tail _ h)) fun _ h=>.tail _ (.tail _ h)
theorem JH {k:Int}(hk:3<=k/\k<=14):Hr (Wq E a O H (N+2) F K B L []) (Cz k) fun _=>Wq E a O H (N+1) F K B [] []:=
 rb Od fun b=>rb Od fun a=>rb (L9 (fun n hL=>.bin hk (hL _ (.head _)) (hL _ (.tail _ (.head _)))) (by dsimp only;omega)) fun _=>(Jg (.head _)).post fun _ s h=>h.l fun _ h=>by cases h
theorem Lh (C:Ctx E vis vars a O)(hH:JK E O H F K B):∀ (fu:Nat)(e:jD),XG E O e→∀ N,Hr (Wq E a O H N F K B [] []) (lexpr vis vars fu e) fun _=>Wq E a O H (N+1) F K B [] []
 | 0,_,_,_=>fun s q h=>by cases h
 | fu+1,e,h,N=>by
  cases h with
  | mk op ar pc ob k=>
  have ih:∀ y ∈ e.a,∀ N,Hr (Wq E a O H N F K B [] []) (lexpr vis vars fu y) fun _=>Wq E a O H (N+1) F K B [] []:=fun y hy=>Lh C hH fu y (k y hy);have nl:∀ {N:Nat}{L:List Int}{s:Lw},Wq E a O H N F K B L [] s->Wq E a O H N F K B [] [] s:=fun h=>h.l fun _ h=>by cases h
  unfold lexpr;refine wo (fun _=>rb Ey fun _=>(Jg (.head _)).post fun _ s h=>nl h) fun c0=>wo (fun c1 s q e1 hs=>?_) fun c1=>wo (fun c3=>?_) fun c3=>wo (fun c4=>?_) fun c4=>wo (fun c5=>?_) fun c5=>?_
  · obtain ⟨⟨l',b,d1,d2,d3,d4⟩,_⟩:=hs.cu;obtain ⟨l,hl,e1⟩:=bs e1;rw [hl] at d1;cases d1;obtain ⟨l2,f1,f2⟩:=hs.cw;rw [hl] at f1;cases f1;obtain ⟨w,hw⟩:=Option.isSome_iff_exists.1 (f2 _ (pc c1));rw [hw] at e1;have h2:Wq E a O H N F K B [w] [] s:=⟨hs.w,hs.st,hs.hn,hs.pn,hs.nz,hs.op,hs.cu,hs.cw,fun v hv=>by rw [List.mem_singleton.1 hv];exact d3 _ w hw,hs.ge⟩;exact ((Jg (v:=w) (.head _)).post fun _ s h=>nl h) s q e1 h2
  · obtain ⟨⟨x,hx⟩,n,hn,n0,n1⟩:=ob c3;have hne:e.a≠[]:=fun c=>by rw [c,kQ (by omega),lF (by omega)] at ar;cases ar
    exact rb (Vg C hH hne hx fun y hy=>ih y hy N) fun _=>rb Od fun v=>Zo hn <| rb (L9 (fun m hL=>.load (hL _ (.head _)) ⟨n0,n1⟩) (by simp)) fun _=>(Jg (.head _)).post fun _ s h=>nl h
  · have hne:e.a≠[]:=fun c=>by rw [c,kQ (by omega),lF (by omega)] at ar;cases ar
    exact rb (rb Ey fun _=>(Jg (.head _)).post fun _ s h=>nl h) fun _=>rb (EZ hne fun y hy=>ih y hy (N+1)) fun _=>JH (by decide)
  · have hne:e.a≠[]:=fun c=>by rw [c,kQ (by omega),lF (by omega)] at ar;cases ar
    exact rb (EZ hne fun y hy=>ih y hy N) fun _=>rb (rb Ey fun _=>(Jg (.head _)).post fun _ s h=>nl h) fun _=>JH (by decide)
  · have hl:e.a.length=2:=by rw [kQ (by omega),kQ (by omega)] at ar;exact ar
    have hne:e.a≠[]:=fun c=>by rw [c] at hl;cases hl
    have hw:wr (wr (e.e - 6)+3)=e.e - 3:=by
     have h1:wr (e.e - 6)=e.e - 6:=by unfold wr;rw [Tp (by omega) (by omega)]
     rw [h1];unfold wr;rw [Tp (by omega) (by omega)];omega
    rw [hw];exact rb (EZ hne fun y hy=>ih y hy N) fun _=>rb (ael (by omega) fun y hy=>ih y hy (N+1)) fun _=>rb (wo (fun _=>ZQ C hH) fun _=>FC fun _=>id) fun _=>JH (by omega)
theorem Vq (C:Ctx E vis vars a O)(hH:JK E O H F K B){fu:Nat}:∀ {l:List jD}{N:Nat},(∀ y ∈ l,XG E O y)→Hr (Wq E a O H N F K B [] []) (He vis vars fu l) fun _=>Wq E a O H (N+l.length) F K B [] []
 | [],_,_=>FC fun _=>id
 | x :: l,N,h=>by rw [uM,show N+(l.length+1)=N+1+l.length by omega];exact rb (Lh C hH fu x (h x (.head _)) N) fun _=>Vq C hH fun y hy=>h y (.tail _ hy)
theorem F5 (C:Ctx E vis vars a O)(hH:JK E O H F K B){fu:Nat}{e:jD}(h:XG E O e):Hr (Wq E a O H N F K B [] []) (lvalue vis vars fu e) fun v=>Wq E a O H N F K B [v] []:=rb (Lh C hH fu e h N) fun _=>Od
theorem UN {v:Int}(hv:0≤v∧v < 24):∀ {n:Nat}{i:Int}{s:Lw}{q:Lo Unit}{l:List (Pc × Int)},0≤i→i+n≤4→Wq E a O H N F K B [] [] s→s.vals=some l→DF v n i s=some q→q.sat fun _ t=>Wq E a O H N F K B [] [] t∧∃ l',t.vals=some l'∧(∀ p,has l p→has l' p)∧∀ j:Nat,j < n→has l' (v,i+j)
 | 0,i,s,q,l,_,_,h,hl,e=>by cases e;exact ⟨h,l,hl,fun _=>id,fun j hj=>by omega⟩
 | n+1,i,s,q,l,hi,hn,h,hl,e=>by
  rw [DF] at e;unfold LM.bind at e;obtain ⟨q1,h1,e⟩:=bs e;have k1:=aa5 h (o:=⟨1,0,0,0,0,0,0,0,tY⟩) .const (by simp) h1;cases q1 with
  | lim=>cases e;trivial
  | rt=>exact k1.elim
  | ok c s1=>
  have e:((vB (v,i) c).bind fun _=>DF v n (i+1)) s1=some q:=e;unfold LM.bind at e;obtain ⟨q2,h2,e⟩:=bs e;have k2:=PY k1.1 (k1.1.lv c (.head _)) (p:=(v,i)) ⟨hv,by dsimp only;omega⟩ h2;cases q2 with
  | lim=>cases e;trivial
  | rt=>exact k2.elim
  | ok c2 s2=>
  obtain ⟨w1,_,l2,w3,w4⟩:=k2;rw [k1.2,hl] at w3;cases w3;have k3:=UN hv (n:=n) (i:=i+1) (by omega) (by omega) (w1.l fun _ h=>by cases h) w4 (show DF v n (i+1) s2=some q from e);cases q with
  | lim=>trivial
  | rt=>exact k3
  | ok u s3=>
  obtain ⟨y1,l',y2,y3,y4⟩:=k3;refine ⟨y1,l',y2,fun p hp=>y3 p (ZC hp),fun j hj=>?_⟩;cases j with
  | zero=>rw [show i+((0:Nat):Int)=i by omega];exact y3 _ Sd
  | succ j=>
   have:=y4 j (by omega);rw [show i+1+(j:Int)=i+((j+1:Nat):Int) by omega] at this;exact this
theorem Xv (C:Ctx E vis vars a O)(hH:JK E O H F K B){fu:Nat}{x:jC}(hx:x.n=a)(ha:∀ y ∈ x.a,XG E O y)(h0:0<=x.h)(hk:E.Ps[x.h.toNat]?=some x.a.length):Hr (Wq E a O H 0 F K B [] []) (FQ vis vars fu x) fun _=>Wq E a O H 0 F K B [0] []:=
 rb (Vq C hH ha) fun _ s q e hs=>by
  have hpl:s.pend.length=x.a.length:=by rw [hs.pn];omega
  obtain ⟨c1,c2,c3,pd⟩:=hs.cu;obtain ⟨AR,w⟩:=hs.w;have W:Wq E a O H 0 F K B s.pend [] { s with pend:=[] }:=⟨⟨AR,w.same rfl rfl rfl rfl rfl rfl rfl rfl rfl rfl rfl⟩,hs.st,hs.hn,rfl,uL _,hs.op,⟨c1,c2,c3,fun v hv=>by cases hv⟩,hs.cw,pd,fun x hx=>by cases hx⟩;have T:∀ (e h:nO)(G:List (nO × Nat)),(e,1) ∈ G->(h=Je\/(h,1) ∈ G)->∀ (n:Int)(Ed:nO->Nat->Prop),(∀ v ∈ s.pend,Vl n v)->(∀ x ∈ G,Ed x.1 x.2)->Tq E.Ps Ed n ⟨3,0,x.h,s.pend,⟨e,h⟩⟩:=fun e h G h1 h2 n Ed hL hG=>.call h0 (by rw [hpl];exact hk) hL (hG _ h1) (h2.imp id fun z=>hG _ z);refine rb (AV (1+(pG E.V O).length) C.sv hx C.vi) (fun nx=>rb (zH 1 (.inl (.head _)) (.head _) (fun _=>id) (fun _ h=>by cases h) (by simp;omega)) fun ed=>?_) _ q e W;have fin:Hr (Wx E a H 0 (nx :: F) ((nx,O,1+(pG E.V O).length) :: K) (nx :: B)) ((ou nx 1).bind fun _=>Tn) fun _=>Wq E a O H 0 F K B [0] []:=rb (Au (L:=[0]) C.pf (by omega) (by omega) C.ln (fun v hv=>by rw [List.mem_singleton.1 hv];omega) (.head _) (.head _) (by simp)) fun _=>(aci C.a0).post fun _ s h=>h.dr (fun _ h=>.tail _ h) fun _ h=>.tail _ h;exact aaN (hH.mono (fun _ h=>.tail _ h) (fun _ h=>.tail _ h) fun _ h=>.tail _ h) (rb (Dw (T ed Je _ (.head _) (.inl rfl))) fun _=>fin) fun g=>rb (Dw (T ed g _ (.tail _ (.head _)) (.inr (.head _)))) fun _=>fin
end
def VO (R:List jX)(v:iA):Prop:=(v.b=1/\v.a=1)\/(v.b=2/\∃ r,ix R v.f=some r/\v.a=r.a.length)\/(v.b=3/\0 < v.a/\v.a<=8)
def Vr (V V':List iA):Prop:=∀ (i:Nat)(v:iA),V[i]?=some v->∃ v',V'[i]?=some v'/\v'.b=v.b/\v'.f=v.f/\v'.a=v.a/\v'.e=v.e
theorem Vr.rfl' {V:List iA}:Vr V V:=fun i v h=>⟨v,h,rfl,rfl,rfl,rfl⟩
theorem Vr.trans {V V1 V2:List iA}(h:Vr V V1)(k:Vr V1 V2):Vr V V2:=fun i v hv=>by obtain ⟨v1,h1,a1,a2,a3,a4⟩:=h i v hv;obtain ⟨v2,h2,b1,b2,b3,b4⟩:=k i v1 h1;exact ⟨v2,h2,b1.trans a1,b2.trans a2,b3.trans a3,b4.trans a4⟩
theorem U3 {V V':List iA}(h:Vr V V'){i:Int}{v:iA}(hv:ix V i=some v):∃ v',ix V' i=some v'/\v'.b=v.b/\v'.f=v.f/\v'.a=v.a/\v'.e=v.e:=by obtain ⟨k,rfl,hk⟩:=kU hv;obtain ⟨v',h1,h2⟩:=h k v hk;exact ⟨v',by unfold Go.Fw.ix;rw [kQ (by omega),ET,h1],h2⟩
inductive RX (V:List iA):jD→Prop
 | mk {e:jD} (h:e.e=1\/e.e=2\/e.e=3->∃ v,ix V e.f=some v/\v.b=e.e/\(e.e=2->0<=e.d/\e.d < v.a)) (k:∀ y ∈ e.a,RX V y):RX V e
theorem RX.mono {V V':List iA}(hv:Vr V V'){e:jD}(h:RX V e):RX V' e:=by
 induction h with
 | mk h k ih=>
  refine .mk (fun z=>?_) ih;obtain ⟨v,h1,h2,h3⟩:=h z;obtain ⟨v',a1,a2,a3,a4,a5⟩:=U3 hv h1;exact ⟨v',a1,a2.trans h2,fun z=>by rw [a4];exact h3 z⟩
inductive SW (K:List jR)(V:List iA)(Ps:List Nat)(f:Int):List jC→Nat→Nat→Prop
 | nil {a:Nat}:SW K V Ps f [] a a
 | cons {x:jC} {l:List jC} {a c d b:Nat} (id:x.n=a) (kd:K[a]?=some ⟨f,x.b,x.g⟩) (tg:∀ y ∈ x.e,RX V y) (ar:∀ y ∈ x.a,RX V y) (de:x.b=1→∃ v,ix V x.f=some v)
  (tr:x.b=8->∃ v,ix V x.f=some v/\v.b=1/\v.e=(c:Int)) (ca:x.k≠be->ix Ps x.h=some x.a.length) (ct:∀ y ∈ x.e,(x.b=3->y.e=1)/\1<=y.e/\y.e<=3)
  (bo:SW K V Ps f x.d (a+1) c) (el:SW K V Ps f x.i c d) (nx:SW K V Ps f l d b):SW K V Ps f (x :: l) a b
theorem SW.mono {K K':List jR}{V V':List iA}{Ps:List Nat}{f:Int}(hk:K <+: K')(hv:Vr V V'){l:List jC}{a b:Nat}(h:SW K V Ps f l a b):SW K' V' Ps f l a b:=by
 induction h with
 | nil=>exact .nil
 | cons id kd tg ar de tr ca ct _ _ _ ih1 ih2 ih3=>
  obtain ⟨t,rfl⟩:=hk;refine .cons id (by rw [zQ (ku kd)];exact kd) (fun y hy=>(tg y hy).mono hv) (fun y hy=>(ar y hy).mono hv) (fun z=>?_) (fun z=>?_) ca ct ih1 ih2 ih3
  · obtain ⟨v,h1⟩:=de z;obtain ⟨v',h2,_⟩:=U3 hv h1;exact ⟨v',h2⟩
  · obtain ⟨v,h1,h3,h4⟩:=tr z;obtain ⟨v',h2,a1,a2,a3,a4⟩:=U3 hv h1;exact ⟨v',h2,a1.trans h3,a4.trans h4⟩
theorem SW.le {K:List jR}{V:List iA}{Ps:List Nat}{f:Int}{l:List jC}{a b:Nat}(h:SW K V Ps f l a b):a<=b:=by
 induction h with
 | nil=>exact nD _
 | cons _ _ _ _ _ _ _ _ _ _ _ h1 h2 h3=>omega
theorem SW.app {K:List jR}{V:List iA}{Ps:List Nat}{f:Int}{l m:List jC}{a b c:Nat}(h:SW K V Ps f l a b)(k:SW K V Ps f m b c):SW K V Ps f (l ++ m) a c:=by
 induction h with
 | nil=>exact k
 | cons id kd tg ar de tr ca ct bo el _ _ _ ih=>exact .cons id kd tg ar de tr ca ct bo el (ih k)
structure Up (S:fV)(V:List iA)(S':fV)(V':List iA):Prop where
 e:S.e=0
 f:S'.f=S.f
 pg:S'.a.a=S.a.a
 k:S.a.b <+: S'.a.b
 v:ix S'.a.c S.f=some V'
 vs:∀ i:Nat,(i:Int)≠S.f->S'.a.c[i]?=S.a.c[i]?
 vl:S'.a.c.length=S.a.c.length
 vr:Vr V V'
 vo:∀ x ∈ V',VO S.a.a.a x
structure Wd (S:fV)(V:List iA):Prop where
 v:ix S.a.c S.f=some V
 vo:∀ x ∈ V,VO S.a.a.a x
theorem Up.wd {S S':fV}{V V':List iA}(h:Up S V S' V'):Wd S' V':=⟨by rw [h.f];exact h.v,by rw [h.pg];exact h.vo⟩
theorem Up.rfl' {S:fV}{V:List iA}(h:Wd S V)(e:S.e=0):Up S V S V:=⟨e,rfl,rfl,RY,h.v,fun _ _=>rfl,rfl,.rfl',h.vo⟩
theorem Up.trans {S S1 S2:fV}{V V1 V2:List iA}(h:Up S V S1 V1)(k:Up S1 V1 S2 V2):Up S V S2 V2:=
 ⟨h.e,k.f.trans h.f,k.pg.trans h.pg,h.k.trans k.k,by rw [<-h.f];exact k.v,fun i hi=>(k.vs i (by rw [h.f];exact hi)).trans (h.vs i hi),k.vl.trans h.vl,h.vr.trans k.vr,by rw [<-h.pg];exact k.vo⟩
structure Ox (S S':fV):Prop where
 out:S'.a=S.a
 f:S'.f=S.f
 op:S'.b=S.b
 e:S'.e=0->S.e=0
theorem Ox.rfl' {S:fV}:Ox S S:=⟨rfl,rfl,rfl,id⟩
theorem Ox.trans {S S1 S2:fV}(h:Ox S S1)(k:Ox S1 S2):Ox S S2:=⟨k.out.trans h.out,k.f.trans h.f,k.op.trans h.op,fun z=>h.e (k.e z)⟩
theorem Ox.up {S S':fV}{V:List iA}(k:Ox S S')(h:Wd S V)(e:S'.e=0):Up S V S' V:=⟨k.e e,k.f,by rw [k.out],by rw [k.out];exact RY,by rw [k.out];exact h.v,fun i _=>by rw [k.out],by rw [k.out],.rfl',h.vo⟩
theorem Ox.wd {S S':fV}{V:List iA}(k:Ox S S')(h:Wd S V):Wd S' V:=⟨by rw [k.out,k.f];exact h.v,by rw [k.out];exact h.vo⟩
theorem sK {fu:Nat}{S S':fV}{ln e:Int}(he:e≠0)(h:mO fu S ln e=some S'):Ox S S'/\S'.e≠0:=by
 unfold mO at h;obtain ⟨c,h⟩|⟨c,h⟩:=jI h
 · cases h;exact ⟨⟨rfl,rfl,rfl,fun z=>absurd z he⟩,he⟩
 · cases h;exact ⟨.rfl',c⟩
section
variable {fu:Nat}{f:fV->jD->Int->Option (jD × fV)}{g:fV->List jD->Int->Option (List jD × fV)}
def Xe (f:fV->jD->Int->Option (jD × fV)):Prop:=∀ S x ln x' S' V,f S x ln=some (x',S')->Wd S V->Ox S S'/\x'.e=x.e/\(S'.e=0->RX V x')
def Xes (g:fV->List jD->Int->Option (List jD × fV)):Prop:=∀ S l ln l' S' V,g S l ln=some (l',S')->Wd S V->Ox S S'/\l'.map jD.e=l.map jD.e/\(S'.e=0->∀ y ∈ l',RX V y)
theorem acH {x:jD}{b:Nat}:∀ (l:List BA)(k:Nat)(a n:Int),oz fu g f x l k a=some (.go n)→k+l.length≤b→a < b→n < b
 | [],_,a,n,h,_,ha=>by cases h;exact ha
 | u :: r,k,a,n,h,hk,ha=>by
  rw [uM] at hk;rw [oz] at h;obtain ⟨_,h⟩|⟨_,h⟩:=jI h
  · exact acH r _ _ n h (by omega) (by omega)
  · exact acH r _ _ n h (by omega) ha
theorem ae6 {S:fV}{x:jD}{ln:Int}{V:List iA}{d c:Int}{a1:List jX}{a2 a3 a4:Int}{a5:List kC}{a6:List (List iA)}{a7:List jR}{a8:List Int}(hw:Wd S V)(h:oF fu g f S x ln=some (.go (d,c,a1,a2,a3,a4,a5,a6,a7,a8))):Ox S ⟨⟨⟨a1,a5⟩,a6,a7⟩,a2,a8,a3,a4⟩/\(a4=0->x.e=1\/x.e=2\/x.e=3->∃ v,ix V c=some v/\v.b=x.e/\(x.e=2->0<=d/\d < v.a)):=by
 unfold oF at h;obtain ⟨v,hv,h⟩:=bs h;cases v with
 | out o=>cases h
 | go b=>
  have hb:b=true ↔ (x.e=1\/x.e=2\/x.e=3):=by
    unfold rF at hv;obtain ⟨h1,hv⟩|⟨h1,hv⟩:=jI hv
    · cases hv;simp [h1]
    · obtain ⟨h2,hv⟩|⟨h2,hv⟩:=jI hv
      · cases hv;simp [h2]
      · cases hv;simp [h1,h2]
  replace h:=gi h;obtain ⟨h1,h⟩|⟨h1,h⟩:=jI h
  · have hop:=hb.1 h1;obtain ⟨⟨c',i⟩,_,h⟩:=bs h;replace h:=pi h;obtain ⟨_,h⟩|⟨_,h⟩:=jI h
    · obtain ⟨j,_,h⟩:=bs h;cases h
    · obtain ⟨t,ht,h⟩:=bs h;rw [hw.v] at ht;cases ht;obtain ⟨m,hm,h⟩:=bs h;obtain ⟨_,h⟩|⟨hk,h⟩:=jI h
      · obtain ⟨k,_,h⟩:=bs h;cases h
      · have hk:m.b=x.e:=by have e1:wr (1+x.e)=1+x.e:=l8 (by omega) (by omega);rw [e1,l8 (by omega) (by omega)] at hk;have:=Decidable.not_not.1 hk;omega
        obtain ⟨h2,h⟩|⟨h2,h⟩:=jI h
        · obtain ⟨u,hu,h⟩:=bs h;obtain ⟨v,hv2,h⟩:=bs h;cases v with
          | out o=>cases h
          | go d'=>
           replace h:=gi h;have hlt:=acH (b:=u.a.length) _ 0 _ _ hv2 (by omega) (by omega);obtain ⟨_,h⟩|⟨h3,h⟩:=jI h
           · obtain ⟨a,ha,h⟩:=bs h;cases h;obtain ⟨k1,k2⟩:=sK (by decide) ha;exact ⟨k1,fun z=>absurd z k2⟩
           · cases h;refine ⟨.rfl',fun _ _=>⟨m,hm,hk,fun _=>⟨by omega,?_⟩⟩⟩;obtain ⟨q,rfl,hq⟩:=kU hm;obtain ⟨h5,_⟩|⟨_,r,h5,h6⟩|⟨h5,_⟩:=hw.vo m (vS hq)
             · omega
             · rw [hu] at h5;cases h5;rw [h6];exact hlt
             · omega
        · cases h;exact ⟨.rfl',fun _ _=>⟨m,hm,hk,fun z=>absurd z h2⟩⟩
  · cases h;exact ⟨.rfl',fun _ z=>absurd (hb.2 z) h1⟩
theorem abt {S:fV}{x:jD}{ln:Int}{V:List iA}{x':jD}{S':fV}(h:oF fu g f S x ln=some (.out (x',S'))):Ox S S'/\x'=x/\S'.e≠0:=by
 unfold oF at h;obtain ⟨v,hv,h⟩:=bs h;cases v with
 | out o=>
  unfold rF at hv;obtain ⟨_,hv⟩|⟨_,hv⟩:=jI hv
  · cases hv
  · rcases jI hv with ⟨_,hv⟩|⟨_,hv⟩ <;> cases hv
 | go b=>
  replace h:=gi h;obtain ⟨_,h⟩|⟨_,h⟩:=jI h
  · obtain ⟨⟨c,i⟩,_,h⟩:=bs h;replace h:=pi h;obtain ⟨_,h⟩|⟨_,h⟩:=jI h
    · obtain ⟨j,hj,h⟩:=bs h;cases h;have k:=sK (by decide) hj;exact ⟨k.1,rfl,k.2⟩
    · obtain ⟨t,_,h⟩:=bs h;obtain ⟨m,_,h⟩:=bs h;obtain ⟨_,h⟩|⟨_,h⟩:=jI h
      · obtain ⟨k,hk,h⟩:=bs h;cases h;have k:=sK (by decide) hk;exact ⟨k.1,rfl,k.2⟩
      · obtain ⟨_,h⟩|⟨_,h⟩:=jI h
        · obtain ⟨u,_,h⟩:=bs h;obtain ⟨v,hv,h⟩:=bs h;cases v with
          | out o=>exact (aay _ _ _ _ hv).elim
          | go d=>
           replace h:=gi h;obtain ⟨_,h⟩|⟨_,h⟩:=jI h
           · obtain ⟨a,_,h⟩:=bs h;cases h
           · cases h
        · cases h
  · cases h
theorem adO (hg:Xes g):Xe (sI fu g f):=by
 intro S x ln x' S' V h hw;unfold sI at h;obtain ⟨c,h⟩|⟨_,h⟩:=jI h
 · cases h;exact ⟨.rfl',rfl,fun z=>absurd z c⟩
 · obtain ⟨v,hv,h⟩:=bs h;cases v with
   | out o=>
    cases h;obtain ⟨k1,rfl,k2⟩:=abt (V:=V) hv;exact ⟨k1,rfl,fun z=>absurd z k2⟩
   | go s=>
    obtain ⟨a1,a2,a3,a4,a5,a6,a7,a8,a9,a10⟩:=s;replace h:=gi h;simp only [pl] at h;obtain ⟨⟨l',S1⟩,h1,h⟩:=bs h;rw [pl] at h;cases h;obtain ⟨k1,k2⟩:=ae6 hw hv;obtain ⟨k3,k4,k5⟩:=hg _ _ _ _ _ V h1 (k1.wd hw);exact ⟨k1.trans k3,rfl,fun z=>.mk (k2 (k3.e z)) (k5 z)⟩
theorem GJ (hf:Xe f){ln:Int}{V:List iA}{S0:fV}(hw:Wd S0 V):∀ (l:List jD)(k:Nat)(out:List jD)(S:fV)(v:Ld (List jD × List jX × Int × Int × Int × List kC × List (List iA) × List jR × List Int) (List jD × fV)),Ox S0 S→
  nk fu g f ln l k out S.a.a.a S.f S.c S.e S.a.a.b S.a.c S.a.b S.b=some v->(S.e=0->∀ y ∈ out,RX V y)->∃ o a1 a2 a3 a4 a5 a6 a7 a8,v=.go (o,a1,a2,a3,a4,a5,a6,a7,a8)/\Ox S0 ⟨⟨⟨a1,a5⟩,a6,a7⟩,a2,a8,a3,a4⟩/\o.map jD.e=out.map jD.e ++ l.map jD.e/\(a4=0->∀ y ∈ o,RX V y)
 | [],_,out,S,v,hS,h,ho=>by cases h;exact ⟨_,_,_,_,_,_,_,_,_,rfl,hS,by rw [List.map_nil,EW],ho⟩
 | u :: r,k,out,S,v,hS,h,ho=>by rw [nk] at h;obtain ⟨⟨x,S1⟩,h1,h⟩:=bs h;rw [pl] at h;obtain ⟨w,hw',h⟩:=bs h;obtain ⟨_,rfl⟩:=pY hw';obtain ⟨k1,k2,k3⟩:=hf _ _ _ _ _ V h1 (hS.wd hw);obtain ⟨o,a1,a2,a3,a4,a5,a6,a7,a8,e,h2,h3,h4⟩:=GJ hf hw r _ _ S1 v (hS.trans k1) h (fun z=>oO (ho (k1.e z)) (k3 z));exact ⟨o,a1,a2,a3,a4,a5,a6,a7,a8,e,h2,by rw [h3,List.map_append,ES,List.map_cons,List.map_cons,k2];rfl,h4⟩
theorem ZX (hf:Xe f):Xes (qK fu g f):=by intro S l ln l' S' V h hw;unfold qK at h;obtain ⟨v,hv,h⟩:=bs h;obtain ⟨o,a1,a2,a3,a4,a5,a6,a7,a8,rfl,h2,h3,h4⟩:=GJ hf hw l _ _ S v .rfl' hv (fun _ y hy=>by cases hy);replace h:=gi h;simp only [pl] at h;cases h;exact ⟨h2,h3,h4⟩
end
theorem Hg:∀ fu:Nat,Xe (yu fu)∧Xes (rP fu)
 | 0=>⟨fun _ _ _ _ _ _ h=>(by cases h),fun _ _ _ _ _ _ h=>(by cases h)⟩
 | fu+1=>⟨adO (Hg fu).2,ZX (Hg fu).1⟩
end Go.Proofs.YtdkneekpdecjbaaGreat
namespace Go.Fw
theorem kP.of' {α:Type}{x:Option α}{P:α->Prop}{v:α}(h:kP x P)(e:x=some v):P v:=by obtain ⟨u,h1,h2⟩:=h;rw [e] at h1;cases h1;exact h2
end Go.Fw
