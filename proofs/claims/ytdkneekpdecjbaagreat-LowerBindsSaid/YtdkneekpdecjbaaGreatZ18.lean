/- The text of a made program: the printer answers, and the text is not long. -/
import Derived.Test.YtdkneekpdecjbaaGreatZ16
import Derived.Test.YtdkneekpdecjbaaGreatLd
import Derived.Test.YtdkneekpdecjbaaGreatZ5
import Derived.Test.YtdkneekpdecjbaaGreatLb
import Derived.Test.YtdkneekpdecjbaaGreatLc
import Derived.Test.YtdkneekpdecjbaaGreatLg
import Derived.Test.YtdkneekpdecjbaaGreatLa
import Derived.Test.YtdkneekpdecjbaaGreatZ6
set_option linter.unusedVariables false
set_option linter.unusedSimpArgs false
namespace Go.Fw
open Go.RowKit
theorem kS.cl {α:Type}{P:α->Prop}{s t:ByteArray}{f:ByteArray->Option α}(n:Nat)(h:t.size=n)(hs:s.size+n<=1000000000)(k:∀ r,r.size=s.size+n->kS (f r) P):kS ((Go.Fw.cat s t).bind f) P:=.bd (.cat (by omega)) fun r hr=>k r (by rw [hr,EH,h])
theorem kS.cv {α:Type}{P:α->Prop}{s t:ByteArray}{f:ByteArray->Option α}(hs:s.size+t.size<=1000000000)(k:∀ r,r.size=s.size+t.size->kS (f r) P):kS ((Go.Fw.cat s t).bind f) P:=.bd (.cat hs) fun r hr=>k r (by rw [hr,EH])
theorem kS.cr {α:Type}{P:α->Prop}{s t:ByteArray}{f:ByteArray->Option α}(n:Nat)(h:s.size=n)(hs:n+t.size<=1000000000)(k:∀ r,r.size=n+t.size->kS (f r) P):kS ((Go.Fw.cat s t).bind f) P:=.bd (.cat (by omega)) fun r hr=>k r (by rw [hr,EH,h])
end Go.Fw
namespace Go.Proofs.YtdkneekpdecjbaaGreat
open Go.RowKit Go.Fw Go.Proofs.Tryz
def EB:Nat→Nat
 | 0=>6
 | d+1=>2 * EB d+8
theorem EB.lo:∀ d,6≤EB d∧EB d+8≤14 * 2 ^ d
 | 0=>by decide
 | d+1=>by have h:=EB.lo d;have e:EB (d+1)=2 * EB d+8:=rfl;have:1<=2 ^ d:=Nat.one_le_two_pow;rw [Nat.pow_succ];omega
theorem aa2 {fu:Nat}{op:Int}:kS (BX fu op) (fun r=>(1<=r/\r<=6)/\(r=5->4<=op/\op<=5)/\(r < 5->6<=op/\op<=17)):=by
 unfold BX;have hJ0:kS (zR fu op) (qg (fun b=>b=true->14<=op/\op<=17) (fun _=>False)):=by unfold zR;refine .ite (fun _=>.go fun _=>by omega) fun _=>.ite (fun _=>.go fun _=>by omega) fun _=>.ite (fun _=>.go fun _=>by omega) fun _=>.go fun z=>by have:=Ey z;omega
 have hJ1:kS (Ao fu op) (qg (fun b=>b=true->11<=op/\op<=13) (fun _=>False)):=by unfold Ao;refine .ite (fun _=>.go fun _=>by omega) fun _=>.ite (fun _=>.go fun _=>by omega) fun _=>.go fun z=>by have:=Ey z;omega
 have hJ2:kS (Av fu op) (qg (fun b=>b=true->6<=op/\op<=7) (fun _=>False)):=by unfold Av;refine .ite (fun _=>.go fun _=>by omega) fun _=>.go fun z=>by have:=Ey z;omega
 refine .el hJ0 (fun b hb=>.ite (fun z=>.mk (by have:=hb z;omega)) fun _=>?_) fun _ z=>z.elim;refine .el hJ1 (fun b hb=>.ite (fun z=>.mk (by have:=hb z;omega)) fun _=>?_) fun _ z=>z.elim;refine .el hJ2 (fun b hb=>.ite (fun z=>.mk (by have:=hb z;omega)) fun _=>?_) fun _ z=>z.elim;refine .ite (fun _=>.mk (by omega)) fun _=>.ite (fun _=>.mk (by omega)) fun _=>.ite (fun _=>.mk (by omega)) fun _=>.ite (fun _=>.mk (by omega)) fun _=>.ite (fun _=>.mk (by omega)) fun _=>.mk (by omega)
theorem Yv:∀ x ∈ ([(⟨#[43]⟩:ByteArray),(⟨#[45]⟩:ByteArray),(⟨#[42]⟩:ByteArray),(⟨#[47]⟩:ByteArray),(⟨#[37]⟩:ByteArray),(⟨#[38]⟩:ByteArray),(⟨#[124]⟩:ByteArray),(⟨#[94]⟩:ByteArray),(⟨#[60]⟩:ByteArray),(⟨#[60,61]⟩:ByteArray),(⟨#[61,61]⟩:ByteArray),(⟨#[33,61]⟩:ByteArray)]:List ByteArray),x.size<=2:=by intro x hx;simp only [oM,CF,or_false] at hx;rcases hx with rfl | rfl | rfl | rfl | rfl | rfl | rfl | rfl | rfl | rfl | rfl | rfl <;> decide
theorem Ut:∀ x ∈ ([(⟨#[45]⟩:ByteArray),(⟨#[33]⟩:ByteArray)]:List ByteArray),x.size<=2:=by intro x hx;simp only [oM,CF,or_false] at hx;rcases hx with rfl | rfl <;> decide
theorem WR:∀ {d fu:Nat}{x:jB}{l:Int},GE d x→d≤5→d+19≤fu→kS (qx fu x l) (fun s=>s.size≤EB d)
 | 0,_,_,_,h,_,_=>h.elim
 | d+1,0,_,_,_,_,h=>by omega
 | d+1,fu+1,x,l,h,hd,hf=>by
  show kS (Cn fu (qx fu) x l) _;obtain ⟨⟨h1,h2,h3,h4⟩,h5,h6⟩:=h;have hE:EB (d+1)=2 * EB d+8:=rfl;have hlo:=EB.lo d;have hp:(2:Nat) ^ d<=2 ^ 5:=Nat.pow_le_pow_right (by decide) (by omega);have h32:(2:Nat) ^ 5=32:=by decide
  unfold Cn;refine .bd aa2 fun r hr=>?_;have sub:∀ {y:jB}{l:Int},y ∈ x.a->kS (qx fu y l) (fun s=>s.size<=EB d):=fun hy=>WR (h6 _ hy) (by omega) (by omega);have hJ:kS (zX fu (qx fu) x r) (qg (fun s=>s.size<=2 * EB d+6) (fun _=>False)):=by
   unfold zX;refine .ite (fun _=>.bd (EL (d:=18) h3 (by omega) (by decide) (by decide) (by omega)) fun s hs=>.go (by omega)) fun _=>?_;refine .ite (fun _=>.cl 1 rfl (by omega) fun g e1=>.cv (by omega) fun g2 e2=>.go (by omega)) fun _=>?_;have hJ1:kS (zO fu (qx fu) x) (qg (fun b=>b=true->0 < x.a.length) (fun _=>False)):=by unfold zO;exact .ite (fun _=>.go fun z=>by have:=Ey z;omega) fun _=>.go fun z=>(by cases z)
   refine .FL hJ1 fun b hb=>.ite (fun z=>?_) fun _=>?_
   · have:=hb z;refine .bd (.ix (by decide) (by omega)) fun y hy=>.cl 1 rfl (by omega) fun g e1=>.bd (sub (vM hy)) fun s hs=>.cv (by omega) fun g2 e2=>.cl 1 rfl (by omega) fun g3 e3=>.go (by omega)
   have hJ2:kS (Ar fu (qx fu) x r) (qg (fun b=>b=true->r=5/\0 < x.a.length) (fun _=>False)):=by unfold Ar;exact .ite (fun _=>.go fun z=>by have:=Ey z;omega) fun _=>.go fun z=>(by cases z)
   refine .FL hJ2 fun b hb=>.ite (fun z=>?_) fun _=>?_
   · obtain ⟨q1,q2⟩:=hb z;have q3:=hr.2.1 q1;rw [mo (by omega) (by omega)];exact .bd (.ix (by decide) (by omega)) fun y hy=>.bd (.ix (by omega) (by simp only [uK,xX];omega)) fun n hn=>.bd (sub (vM hy)) fun s hs=>.cv (by have:=Ut n (vM hn);omega) fun g e=>.go (by have:=Ut n (vM hn);omega)
   refine .ite (fun q1=>.ite (fun q2=>?_) fun _=>.go (by omega)) fun _=>.go (by omega);have hJ3:kS (zN fu (qx fu) r) (qg (fun _=>True) (fun _=>False)):=by unfold zN;exact .ite (fun _=>.go kL) fun _=>.go kL
   have q3:=hr.2.2 q1;refine .FL hJ3 fun lv _=>?_;rw [mo (n:=x.e - 6) (by omega) (by omega)];refine .bd (.ix (by decide) (by omega)) fun y hy=>.bd (.ix (by decide) (by omega)) fun y' hy'=>.bd (.ix (by omega) (by simp only [uK,xX];omega)) fun n hn=>?_;have hn2:=Yv n (vM hn);exact .bd (sub (vM hy)) fun s hs=>.cl 1 rfl (by omega) fun g e1=>.cv (by omega) fun g2 e2=>.cl 1 rfl (by omega) fun g3 e3=>.bd (sub (vM hy')) fun s' hs'=>.cv (by omega) fun g4 e4=>.go (by omega)
  refine .el hJ (fun s hs=>?_) fun _ z=>z.elim;exact .ite (fun _=>.cr 1 rfl (by omega) fun g e1=>.cl 1 rfl (by omega) fun g2 e2=>.mk (by omega)) fun _=>.mk (by omega)
theorem Tx {fu:Nat}(hf:30<=fu){x:jB}{l:Int}(h:GE 4 x):kS (qx fu x l) (fun s=>s.size<=216):=WR h (by decide) (by omega)
theorem Nb {fu:Nat}(hf:30≤fu){O:ByteArray→Prop}:∀ (l:List jB)(k:Nat)(s:ByteArray),(∀ y ∈ l,GE 4 y)→s.size+l.length * 218≤1000000→kS (tC fu l k s) (qg (fun r=>r.size≤s.size+l.length * 218) O)
 | [],k,s,h,hs=>.go (by simp only [xX];omega)
 | x :: l,k,s,h,hs=>by
  rw [tC];rw [uK] at hs ⊢;have hJ:kS (zU fu s k) (qg (fun r=>r.size<=s.size+2) O):=by unfold zU;exact .ite (fun _=>.cl 2 rfl (by omega) fun g e=>.go (by omega)) fun _=>.go (by omega)
  refine .FL hJ fun s2 h2=>.bd (Tx hf (h x (Bl ..))) fun t ht=>.cv (by omega) fun g e=>?_;exact (Nb hf l (k+1) g (fun y hy=>h y (yw _ hy)) (by omega)).imp fun v hv=>by
   cases v with
   | go r=>exact rE (show r.size<=_ from hv) (by omega)
   | out o=>exact hv
theorem Wh {fu:Nat}(hf:30<=fu){l:List jB}(h:l.length<=4/\∀ y ∈ l,GE 4 y):kS (zL fu l) (fun r=>r.size<=872):=by unfold zL;have h0:(⟨#[]⟩:ByteArray).size=0:=rfl;exact .el (Nb hf l 0 _ h.2 (O:=fun _=>False) (by omega)) (fun s hs=>.mk (by omega)) fun _ z=>z.elim
theorem LB {fu:Nat}{O:ByteArray→Prop}:∀ (l:List ByteArray)(k:Nat)(s:ByteArray),(∀ y ∈ l,y.size≤4)→s.size+l.length * 6≤1000000→kS (pQ fu l k s) (qg (fun r=>r.size≤s.size+l.length * 6) O)
 | [],k,s,h,hs=>.go (by simp only [xX];omega)
 | x :: l,k,s,h,hs=>by
  rw [pQ];rw [uK] at hs ⊢;have hx:=h x (Bl ..);have go:∀ g:ByteArray,g.size<=s.size+6->kS (pQ fu l (k+1) g) (qg (fun r=>r.size<=s.size+(l.length+1) * 6) O):=fun g hg=>(LB l (k+1) g (fun y hy=>h y (yw _ hy)) (by omega)).imp fun v hv=>by
   cases v with
   | go r=>exact rE (show r.size<=_ from hv) (by omega)
   | out o=>exact hv
  exact .ite (fun _=>.cl 2 rfl (by omega) fun g e=>.cv (by omega) fun g2 e2=>go g2 (by omega)) fun _=>.cv (by omega) fun g2 e2=>go g2 (by omega)
theorem TK {fu:Nat}{l:List ByteArray}(h:l.length<=4/\∀ y ∈ l,y.size<=4):kS (yh fu l) (fun r=>r.size<=24):=by unfold yh;have h0:(⟨#[]⟩:ByteArray).size=0:=rfl;exact .el (LB l 0 _ h.2 (O:=fun _=>False) (by omega)) (fun s hs=>.mk (by omega)) fun _ z=>z.elim
theorem Ze {fu:Nat}(hf:30<=fu){k:Nat}{x:jA}(h:GS k x):kS (qC fu x) (fun r=>r.size<=878):=by
 obtain _ | k:=k
 · exact h.elim
 unfold qC;have h1:=h.1.2.2.1;exact .ite (fun _=>.cl 1 rfl (by omega) fun g e=>.bd (Wh hf h.2.2.1) fun s hs=>.cv (by omega) fun g2 e2=>.cl 1 rfl (by omega) fun g3 e3=>.mk (by omega)) fun _=>.bd (Wh hf h.2.2.1) fun s hs=>.mk (by omega)
def CB:Nat→Nat
 | 0=>0
 | k+1=>1200+18 * CB k
theorem Tw:∀ {k fu:Nat}{l:List jA}{tb:ByteArray},k≤4→(∀ y ∈ l,GS k y)→l.length≤22→tb.size+k≤5→k+40≤fu→kS (oP fu l tb) (fun r=>r.size≤l.length * CB k)
 | _,0,_,_,_,_,_,_,h=>by omega
 | 0,fu+1,l,tb,_,h,_,_,_=>by
  cases l with
  | nil=>exact .mk (uN _)
  | cons x l=>exact (h x (Bl ..)).elim
 | k+1,fu+1,l,tb,hk,h,hl,ht,hf=>by
  show kS (Bf fu (oP fu) l tb) _;unfold Bf;have hC:CB (k+1)=1200+18 * CB k:=rfl;have hC3:CB k<=411600:=by
   obtain _ | _ | _ | _ | k:=k
   · simp only [CB];decide
   · simp only [CB];decide
   · simp only [CB];decide
   · simp only [CB];decide
   · omega
  have hB:∀ {m:List jA}{u:ByteArray},(m.length<=9/\∀ y ∈ m,GS k y)->u.size=tb.size+1->kS (oP fu m u) (fun r=>r.size<=9 * CB k):=fun hm hu=>(Tw (by omega) hm.2 (by omega) (by omega) (by omega)).imp fun r hr=>rE hr (Nat.mul_le_mul_right _ hm.1);have hL:∀ (l:List jA)(i:Nat)(s:ByteArray),(∀ y ∈ l,GS (k+1) y)->s.size+l.length * CB (k+1)<=500000000->kS (lS fu (oP fu) tb l i s) (qg (fun r=>r.size<=s.size+l.length * CB (k+1)) (fun _=>False)):=by
   intro l
   induction l with
   | nil=>intro i s _ hs;exact .go (by simp only [xX];omega)
   | cons x l ih=>
     intro i s hy hs;rw [uK,Nat.succ_mul] at hs ⊢;have hx:=hy x (Bl ..);have go:∀ g:ByteArray,g.size<=s.size+CB (k+1)->kS (lS fu (oP fu) tb l (i+1) g) (qg (fun r=>r.size<=s.size+(l.length * CB (k+1)+CB (k+1))) (fun _=>False)):=fun g hg=>(ih (i+1) g (fun y hy'=>hy y (yw _ hy')) (by omega)).imp fun v hv=>by
       cases v with
       | go r=>exact rE (show r.size<=_ from hv) (by omega)
       | out o=>exact hv
     have hv:kS (qC fu x) (fun r=>r.size<=878):=Ze (by omega) hx;obtain ⟨⟨a1,a2,a3,a4,a5⟩,hx2,hx3,hx4,hx5⟩:=hx;rw [lS];have hJ1:kS (zk fu (oP fu) x) (qg (fun s=>s.size<=219) (fun _=>False)):=by unfold zk;exact .ite (fun _=>.bd (.ix (by decide) (by omega)) fun y hy=>.bd (Tx (by omega) (hx2.2 y (vM hy))) fun s hs=>.cl 3 rfl (by omega) fun g e=>.go (by omega)) fun _=>.go (uN _)
     refine .FL hJ1 fun tg htg=>.ite (fun _=>?_) fun _=>?_
     · have hJ2:kS (zf fu (oP fu) x) (qg (fun s=>s.size<=4) (fun _=>False)):=by unfold zf;exact .ite (fun _=>.go (by decide)) fun _=>.go a2
       have hJ3:∀ u:ByteArray,u.size<=4->kS (yE fu (oP fu) x u) (qg (fun s=>s.size<=8) (fun _=>False)):=by intro u hu;unfold yE;exact .ite (fun _=>.bd (EL (d:=1) a4 (by omega) (by decide) (by decide) (by omega)) fun s hs=>.cr 4 rfl (by omega) fun g e=>.cl 1 rfl (by omega) fun g2 e2=>.go (by omega)) fun _=>.go (by omega)
       refine .FL hJ2 fun u hu=>.FL (hJ3 u hu) fun ty hty=>?_;exact .cv (by omega) fun g1 e1=>.cl 4 rfl (by omega) fun g2 e2=>.cv (by omega) fun g3 e3=>.cl 2 rfl (by omega) fun g4 e4=>.cv (by omega) fun g5 e5=>.cl 2 rfl (by omega) fun g6 e6=>go g6 (by omega)
     have hJ4:kS (yB fu (oP fu) x) (qg (fun _=>True) (fun _=>False)):=by unfold yB;exact .ite (fun _=>.go kL) fun _=>.go kL
     refine .FL hJ4 fun b _=>.ite (fun _=>?_) fun _=>.ite (fun _=>?_) fun _=>.ite (fun _=>?_) fun _=>.ite (fun _=>?_) fun _=>.ite (fun _=>?_) fun _=>.ite (fun _=>?_) fun _=>.ite (fun _=>?_) fun _=>go s (by omega)
     · exact .cv (by omega) fun g1 e1=>.cv (by omega) fun g2 e2=>.bd hv fun v k1=>.cv (by omega) fun g3 e3=>.cl 2 rfl (by omega) fun g4 e4=>go g4 (by omega)
     · exact .cv (by omega) fun g1 e1=>.cl 7 rfl (by omega) fun g2 e2=>.bd hv fun v k1=>.cv (by omega) fun g3 e3=>.cl 2 rfl (by omega) fun g4 e4=>go g4 (by omega)
     · exact .cv (by omega) fun g1 e1=>.cl 6 rfl (by omega) fun g2 e2=>.bd hv fun v k1=>.cv (by omega) fun g3 e3=>.cl 2 rfl (by omega) fun g4 e4=>go g4 (by omega)
     · exact .cv (by omega) fun g1 e1=>.cl 6 rfl (by omega) fun g2 e2=>.bd hv fun v k1=>.cv (by omega) fun g3 e3=>.cl 2 rfl (by omega) fun g4 e4=>go g4 (by omega)
     · refine .cv (by omega) fun g1 e1=>.cl 3 rfl (by omega) fun g2 e2=>.cl 1 rfl (by omega) fun t1 t2=>.bd hv fun v k1=>.cv (by omega) fun g3 e3=>.cl 3 rfl (by omega) fun g4 e4=>.bd (hB hx4 t2) fun b1 k2=>.cv (by omega) fun g5 e5=>.ite (fun _=>?_) fun _=>?_
       · exact .cv (by omega) fun g6 e6=>.cl 9 rfl (by omega) fun g7 e7=>.cl 1 rfl (by omega) fun t3 t4=>.bd (hB hx5 t4) fun b2 k3=>.cv (by omega) fun g8 e8=>.cv (by omega) fun g9 e9=>.cl 2 rfl (by omega) fun g10 e10=>go g10 (by omega)
       · exact .cv (by omega) fun g6 e6=>.cl 2 rfl (by omega) fun g10 e10=>go g10 (by omega)
     · exact .cv (by omega) fun g1 e1=>.cl 6 rfl (by omega) fun g2 e2=>.cl 1 rfl (by omega) fun t1 t2=>.bd hv fun v k1=>.cv (by omega) fun g3 e3=>.cl 3 rfl (by omega) fun g4 e4=>.bd (hB hx4 t2) fun b1 k2=>.cv (by omega) fun g5 e5=>.cv (by omega) fun g6 e6=>.cl 2 rfl (by omega) fun g10 e10=>go g10 (by omega)
     · exact .cv (by omega) fun g1 e1=>.cl 6 rfl (by omega) fun g2 e2=>.cl 1 rfl (by omega) fun t1 t2=>.cl 1 rfl (by omega) fun t3 t4=>.bd (hB hx4 t2) fun b1 k2=>.cv (by omega) fun g5 e5=>.cv (by omega) fun g6 e6=>.cl 8 rfl (by omega) fun g7 e7=>.cv (by omega) fun g8 e8=>.cl 3 rfl (by omega) fun g9 e9=>.bd (hB hx5 t4) fun b2 k3=>.cv (by omega) fun g10 e10=>.cv (by omega) fun g11 e11=>.cl 2 rfl (by omega) fun g12 e12=>go g12 (by omega)
  have hlen:l.length * CB (k+1)<=22 * CB (k+1):=Nat.mul_le_mul_right _ hl;have h0:(⟨#[]⟩:ByteArray).size=0:=rfl;refine .el (hL l 0 _ h (by omega)) (fun s hs=>.mk (by omega)) fun _ z=>z.elim
theorem KR {fu:Nat}(hf:50≤fu){B:Nat}(hB:B=163100000){O:ByteArray→Prop}:∀ (l:List kN)(k:Nat)(s:ByteArray),(∀ f ∈ l,GF f)→s.size+l.length * B≤700000000→kS (rX fu l k s) (qg (fun r=>r.size≤s.size+l.length * B) O)
 | [],k,s,h,hs=>.go (Nat.le_add_right _ _)
 | x :: l,k,s,h,hs=>by
  rw [rX];rw [uK,Nat.succ_mul] at hs ⊢;obtain ⟨a1,a2,a3⟩:=h x (Bl ..);have h9:(⟨#[9]⟩:ByteArray).size=1:=rfl;refine .cl 5 rfl (by omega) fun g1 e1=>.cv (by omega) fun g2 e2=>.cl 1 rfl (by omega) fun g3 e3=>.bd (TK a2) fun w hw=>.cv (by omega) fun g4 e4=>.cl 4 rfl (by omega) fun g5 e5=>.bd (Tw (k:=4) (by decide) a3.2 a3.1 (by omega) (by omega)) fun b hb=>?_;have hb2:b.size<=22 * CB 4:=rE hb (Nat.mul_le_mul_right _ a3.1);have hc4:CB 4=7410000:=by simp only [CB]
  refine .cv (by omega) fun g6 e6=>.cl 2 rfl (by omega) fun g7 e7=>?_;exact (KR hf hB l (k+1) g7 (fun y hy=>h y (yw _ hy)) (by omega)).imp fun v hv=>by
   cases v with
   | go r=>exact rE (show r.size<=_ from hv) (by omega)
   | out o=>exact hv
theorem Za {fu:Nat}(hf:50<=fu){p:jV}(h:GPr p):kS (AO fu p) (fun s=>s.size<=700000000):=by
 unfold AO;have h0:(⟨#[]⟩:ByteArray).size=0:=rfl;rw [h.recs];have hR:kS (qE fu [⟨⟨#[80]⟩,[⟨#[120]⟩,⟨#[121]⟩]⟩] 0 ⟨#[]⟩) (qg (fun s=>s.size<=100) (fun _=>False)):=by rw [qE];have h1:(⟨⟨#[80]⟩,[⟨#[120]⟩,⟨#[121]⟩]⟩:kg).c.size=1:=rfl;refine .cl 7 rfl (by omega) fun g1 e1=>.cv (by omega) fun g2 e2=>.cl 3 rfl (by omega) fun g3 e3=>.bd (TK ⟨by decide,Oh⟩) fun w hw=>.cv (by omega) fun g4 e4=>.cl 3 rfl (by omega) fun g5 e5=>?_;rw [qE];exact .go (by omega)
 have hl:=h.e.2;have hl2:p.b.length * 163100000<=4 * 163100000:=Nat.mul_le_mul_right _ hl;refine .el hR (fun s hs=>?_) fun _ z=>z.elim;exact .el (KR hf rfl p.b 0 s h.el (O:=fun _=>False) (by omega)) (fun s hs=>.mk (by omega)) fun _ z=>z.elim
set_option maxHeartbeats 12800000
set_option maxRecDepth 4000
noncomputable section
def Qx (m:(List Int)->Option BA):Prop:=∀ {c f d a b e},Pre c f [] [.l a b d]->m d=some e-> Calls prog 20 #[Z a d b] c (tV fun v w=>v=T e/\Bx c w f (mW []) [] [])
def BU (fu:Nat)(c:(List Int)):Option BA:=(xE fu c).bind fun a=>(AO fu a).bind fun b=>some b
theorem PO (fu:Nat):Qx (BU fu):=by intro u A o b c v k d;unfold BU at d;have a:=k.bx;clear k;generalize w:mW _=G at a ⊢;refine cf func20 r (lK [(0,Z b o c)] ⟨r,y⟩ fun B=>q (g (s (ny r) (n (q (g (s (oF r) ?_)))))));obtain ⟨l,p,d⟩:=bs d;refine sc (ec adN r) (Ky fu (a.pr [] [] [0] r) p) ?_;rintro _ x ⟨e,f,h,i,rfl,j⟩;replace a:=a.cn [] [] j;obtain ⟨m,t,d⟩:=bs d;refine sc (ec adf r) (NR fu (a.pr [] [] [0,1] r) t) ?_;rintro _ z ⟨rfl,j⟩;replace a:=a.cn [] [] j;refine s (ny r) (n (lX ?_));obtain rfl:=sm d;exact jN r (nH r) ⟨r,a.dp []⟩
def Kq (m:(List Int)->Option (jR × Bool)):Prop:=∀ {p x t a b R},Pre p x [] [.l a b t]->m t=some R-> Calls prog 9 #[Z a t b] p (tV fun v w=>jy R fun o u=>∃ (c:OA)(d:Nat)(e:OA)(f:Nat)(h:OA)(i:Nat)(j:OA)(k:Nat),v=.tuple #[.agg #[Z c o.a.a d,Z e o.a.b f,Z h o.c i,Z j o.b k],.bool u]/\Bx p w x (mW []) [] [.l c d o.a.a,.l e f o.a.b,.l h i o.c,.l j k o.b])
def xw (fu:Nat)(j:(List Int)):Option (jR × Bool):=(AX fu j).bind fun c=>(BU fu c).bind fun d=>(yg fu d).bind fun k=>jy k fun e k=>jy k fun i f=>if f≠0 then some ((⟨(⟨([]:List Gr),([]:List Gn)⟩:jV),([]:List (List Gv)),([]:List Gi)⟩:jR),false) else (qY fu e).bind fun k=>jy k fun a k=>jy k fun h b=>some (a,decide (b=0))
theorem Ka (fu:Nat):Kq (xw fu):=by
 intro w0 ae N x z R I v;unfold xw at v;have b:=I.bx;clear I;generalize hG:mW _=G at b ⊢;refine cf func9 r (lK [(0,Z x N z)] ⟨r,y⟩ fun af=>q (g (sW b (jQ zq) fun w1 b1 b=>s (kH r) (n (q (g (s (oF r) ?_)))))));obtain ⟨J,Q,v⟩:=bs v;refine sc (ec acR r) (OC fu (b.pr [] [0] [0] r) Q) ?_;rintro _ w2 ⟨B,C,rfl,A⟩;replace b:=b.cn [] [0] A;obtain ⟨K,S,v⟩:=bs v;refine sc (ec aes r) (PO fu (b.pr [] [0] [0] r) S) ?_;rintro _ w3 ⟨rfl,A⟩;replace b:=b.cn [] [0] A;obtain ⟨w,L,M,U,v⟩:=vB v;refine sc (ec aaq r) (Iy fu (b.pr [] [0] [] r) U) ?_;rintro _ w4 ⟨o,p,t,u,rfl,A⟩;replace b:=b.cn [] [0] A;refine s wQ (s (kE r r) (s (kE r r) (s (kE r r) (sW b (jQ u6) fun w5 b5 b=>lg (mQ b 0 [Z o w.a p,Z t w.b u] r u6 r r) fun w6 b=>s (xi r) (s (xi r) (n (q (q (g (s (mi r) (s (sj r r) (n ?_))))))))))));rcases iv v with ⟨D,v⟩|⟨D,v⟩
 ·refine jM (bt D) (q (g (s ZQ (lg (mQ b 1 [sn,sn,sn,sn] r zq r r) fun w8 b=>s (kH r) (n (lX ?_))))));replace b:=b.jX (d:=.l none 0 ([]:List Gr)) o7;replace b:=b.jX (d:=.l none 0 ([]:List Gn)) o7;replace b:=b.jX (d:=.l none 0 ([]:List (List Gv))) o7;replace b:=b.jX (d:=.l none 0 ([]:List Gi)) o7;obtain rfl:=sm v;exact CP r (uI r Kg r zq r (b.bk 1 r)) (nH r) (nD ⟨none,0,none,0,none,0,none,0,r,b.ad [] [3,2,1,0]⟩)
 refine jD (bf D) (wk (q (g (s (lI [Z o w.a p,Z t w.b u] Gz u6 r (b.bk 0 r)) ?_))));obtain ⟨a,E,F,H,v⟩:=vB v;refine sc (ec aae r) (GX fu (b.pr [] [0,1] [0,1] r) H) ?_;rintro _ X ⟨c,e,f,h,i,j,k,m,rfl,A⟩;replace b:=b.cn [] [0,1] A;refine s wQ (s (kE r r) (s (kE r r) (s (kE r r) (sW b (jQ zq) fun Y a0 b=>lg (mQ b 0 [Z c a.a.a e,Z f a.a.b h,Z i a.c j,Z k a.b m] r zq r r) fun a1 b=>s (xi r) (s (xi r) (n (q (g (s (lI [Z c a.a.a e,Z f a.a.b h,Z i a.c j,Z k a.b m] Kg zq r (b.bk 0 r)) (s (mi r) (s (kM r r) (lg (mQ b 2 [Z c a.a.a e,Z f a.a.b h,Z i a.c j,Z k a.b m] r zq r r) fun a2 b=>s (kH r) (n (lX ?_))))))))))))));obtain rfl:=sm v;exact CP r (uI r Kg r zq r (b.bk 2 r)) (nH r) (nD ⟨c,e,f,h,i,j,k,m,r,b.ad [] [0,1,2,3]⟩)
def ME (m:BA->Option jR):Prop:=∀ {k p o}{j:jR},Pre k p [] []->m o=some j-> Calls prog 22 #[T o] k (tV fun v w=>∃ (a:OA)(b:Nat)(c:OA)(d:Nat)(e:OA)(f:Nat)(h:OA)(i:Nat),v=.agg #[Z a j.a.a b,Z c j.a.b d,Z e j.c f,Z h j.b i]/\Bx k w p (mW []) [] [.l a b j.a.a,.l c d j.a.b,.l e f j.c,.l h i j.b])
def DN (fu:Nat)(h:BA):Option jR:=(yg fu h).bind fun i=>jy i fun a i=>jy i fun c d=>(qY fu a).bind fun i=>jy i fun b i=>jy i fun e f=>some b
theorem MN (fu:Nat):ME (DN fu):=by intro H Y C I w u;unfold DN at u;have k:=w.bx;clear w;generalize J:mW _=G at k ⊢;refine cf func22 r (lK [(0,T C)] ⟨r,y⟩ fun a0=>q (g (sW k (jQ zq) fun K L k=>n (q (g (s (lN r) ?_))))));obtain ⟨t,x,z,D,u⟩:=vB u;refine sc (ec aaq r) (Iy fu (k.pr [] [0] [] r) D) ?_;rintro _ M ⟨l,m,o,p,rfl,v⟩;replace k:=k.cn [] [0] v;refine s wQ (s (kE r r) (s (kE r r) (s (kE r r) (sW k (jQ u6) fun N Q k=>lg (mQ k 0 [Z l t.a m,Z o t.b p] r u6 r r) fun R k=>s (xi r) (s (xi r) (n (q (g (s (lI [Z l t.a m,Z o t.b p] Gz u6 r (k.bk 0 r)) ?_)))))))));obtain ⟨a,A,B,F,u⟩:=vB u;refine sc (ec aae r) (GX fu (k.pr [] [0,1] [0,1] r) F) ?_;rintro _ S ⟨b,c,d,e,f,h,i,j,rfl,v⟩;replace k:=k.cn [] [0,1] v;refine s wQ (s (kE r r) (s (kE r r) (s (kE r r) (sW k (jQ zq) fun U W k=>lg (mQ k 0 [Z b a.a.a c,Z d a.a.b e,Z f a.c h,Z i a.b j] r zq r r) fun X k=>s (xi r) (s (xi r) (n (q (g (s (lI [Z b a.a.a c,Z d a.a.b e,Z f a.c h,Z i a.b j] Kg zq r (k.bk 0 r)) (lg (mQ k 2 [Z b a.a.a c,Z d a.a.b e,Z f a.c h,Z i a.b j] r zq r r) fun w8 k=>n (lX ?_)))))))))));obtain rfl:=sm u;exact jN r (uI r Kg r zq r (k.bk 2 r)) ⟨b,c,d,e,f,h,i,j,r,k.ad [] [0,1,2,3]⟩
end
noncomputable section
def Gl (m:jR->Int->Int->Option (List Int)):Prop:=∀ {t:World}{A}{p:jR}{x z a b c d e f h i u},Pre t A [] [.l a b p.a.a,.l c d p.a.b,.l e f p.c,.l h i p.b]->m p x z=some u-> Calls prog 68 #[.agg #[Z a p.a.a b,Z c p.a.b d,Z e p.c f,Z h p.b i],V x,V z] t (tV fun v w=>∃ (j:OA)(k:Nat)(o:LV),v=Z j u k/\Bx t w A (mW []) [O t.heap.size j k 3 Int o] [.els o u])
def kJ (fu:Nat)(b:Int):List Gv→Nat→(List Int)→Option (Ld (List Int) ((List Int)))
 | [],_,a=>some (.go a)
 | f :: d,c,a=>
 if f.e≤b then
  if b≤f.d then
   (app a ([(c:Int)]:List Int)).bind fun e=>
   kJ fu b d (c+1) e
  else
   kJ fu b d (c+1) a
 else
  kJ fu b d (c+1) a
def jI (fu:Nat)(c:jR)(b d:Int):Option (List Int):=if b < 0 then some ([]:List Int) else if (c.c.length:Int)<=b then some ([]:List Int) else (ix c.c b).bind fun e=>(kJ fu d e 0 ([]:List Int)).bind fun f=>f.el (fun a=>some a) (fun o=>some o)
theorem GD (fu:Nat):Gl (jI fu):=by
 intro S au U x1 W A B C D E F H I r0 hP p;unfold jI at p;have e:=hP.bx;clear hP;generalize hG:mW _=G at e ⊢;refine cf func68 r (lK [(0,.agg #[Z A U.a.a B,Z C U.a.b D,Z E U.c F,Z H U.b I]),(1,V x1),(2,V W)] ⟨r,r,r,y⟩ fun av=>q (g (sW e (uZ r) fun w1 b1 e=>s (nA r) (n (q (q (g (s (mi r) (s (qV r r) (s (lJ r) ?_))))))))));rcases iv p with ⟨X,p⟩|⟨X,p⟩
 ·rw [vF X];refine jZ r (jZ r (jZ r (jZ r (jZ r (s (kT r r) (n (jM r (q (g (s (nA r) (n (lX ?_))))))))))));replace e:=e.EM Int 3;obtain rfl:=sm p;exact jN r (nH r) ⟨none,0,[],r,e.ad [0] [0]⟩
 rw [wm X];refine kI r (s (mi r) (kI r (s (Bt r) (kI r (s (RZ r (e.bk 0 r) r) (kI r (s (mV GU r) (kI r (s (GI r r) (s (kK r r) (n ?_)))))))))));rcases iv p with ⟨Y,p⟩|⟨Y,p⟩
 ·refine jM (bt Y) (q (g (s (nA r) (n (lX ?_)))));replace e:=e.EM Int 3;obtain rfl:=sm p;exact jN r (nH r) ⟨none,0,[],r,e.ad [0] [0]⟩
 refine jD (bf Y) (wk (q (g (s (nA r) (n (q (q (g (s (Bt r) (s (RZ r (e.bk 0 r) r) (s (mi r) ?_)))))))))));obtain ⟨u,z,p⟩:=bs p;obtain ⟨k6,a0,z⟩:=kW z;obtain ⟨ab,a1,e⟩:=e.nm 2 rfl z;obtain ⟨v,x,rfl,N⟩:=a1;replace e:=e.jX (d:=.l v x u) N;refine s (kZ GU Em r r a0 (e.dl 4 r) z) (s (kC Bv r r ((e.dc 1 r) 0 _ r)) (s (mV Bv r) (s (mi r) (n ?_))));replace e:=e.EM Int 3;have ac:=(e.dl 1 r).bd;obtain ⟨Y8,m,p⟩:=bs p;refine qK (fun f w=>∃ j a b c,Has f [(7,Z a j b)]/\Bx S w au G [O S.heap.size a b 3 Int c] [.els c j,.l v x u]/\Ld.go j=Y8) (fun J8 a2=>?_) ?_
 ·refine pW (kG (fun aw f w=>∃ t j a b c,aw=u.length - t/\t<=u.length/\Has f [(25,V (t:Int)),(2,V W),(7,Z a j b),(23,Z v u x),(24,V (u.length:Int))]/\Bx S w au G [O S.heap.size a b 3 Int c] [.els c j,.l v x u]/\kJ fu W (u.drop t) t j=some Y8) u.length ⟨0,([]:List Int),none,0,[],r,uN _,⟨r,r,r,r,r,y⟩,e.ad [0] [0,1],m⟩ ?_);clear e m;rintro aw f w ⟨t,j,a,b,c,rfl,ae,hf,e,m⟩ K8 J;obtain ⟨av,rfl⟩:=nP hf;rcases wz t u.length with Q | Q
  ·obtain ⟨o,K⟩:=mF (l:=u) Q;rw [l6 K,kJ] at m;refine q (g (s (sD r r (by omega)) (n (q (jM r (wk (q (pW (q (g (s (mi r) (s (kZ Bv uo r r r (e.dl 1 r) K) (s (OQ [T o.c,V o.b,V o.f,V o.a,.bool o.g,V o.e,V o.d] Xw uo r (e.dl 1 r) K) (sW e (jQ uo) fun af ag e=>s (xi r) (lg (mQ e 0 [T o.c,V o.b,V o.f,V o.a,.bool o.g,V o.e,V o.d] r uo r r) fun ah e=>n (q (g (s (aac r) (s (l3 r (e.bk 0 r) r) (s (mi r) (s (O7 r r) (s (lJ r) ?_))))))))))))))))))))));rcases iv m with ⟨L,m⟩|⟨L,m⟩
   ·rw [vF L];refine kI r (s (mi r) (kI r (s (QU r) (kI r (s (l3 r (e.bk 0 r) r) (kI r (s (O7 r r) (s (kT r r) (n ?_)))))))));rcases iv m with ⟨M,m⟩|⟨M,m⟩
    ·refine jM (bt M) (g (s (oF r) (s (mi r) (qd (jL e [[V (t:Int)]] ([(t:Int)]:List Int) (Kl r) r r (by decide) ⟨r,y⟩) ?_))));rintro _ ai ⟨aj,rfl,e⟩;obtain ⟨a3,R,m⟩:=bs m;refine qd (ku e 2 1 r r BJ oW r (by decide) (by decide) (mO _) r r (e.Bo 0 0 r r) R) ?_;rintro _ ak ⟨a4,a5,a6,rfl,e⟩;exact s (nA r) (n (g (s (l7 r r (by omega) (by omega)) (s (mi r) (n (J (u.length - (t+1)) _ _ (by omega) ⟨t+1,a3,a4,a5,a6,r,by omega,⟨r,r,r,r,r,y⟩,e.ad [2] [1,2],m⟩))))))
    exact jD (bf M) (wk (g (s (l7 r r (by omega) (by omega)) (s (mi r) (n (J (u.length - (t+1)) _ _ (by omega) ⟨t+1,j,a,b,c,r,by omega,⟨r,r,r,r,r,y⟩,e.arr [1] r,m⟩))))))
   rw [wm L];exact jZ r (jZ r (jZ r (jZ r (s (kK r r) (n (jD r (wk (g (s (l7 r r (by omega) (by omega)) (s (mi r) (n (J (u.length - (t+1)) _ _ (by omega) ⟨t+1,j,a,b,c,r,by omega,⟨r,r,r,r,r,y⟩,e.arr [1] r,m⟩))))))))))))
  obtain rfl:t=u.length:=by omega
  rw [lT,kJ] at m;exact q (g (s (su r r (by omega)) (n (q (jD r (uE (a2 _ _ ⟨j,a,b,c,⟨r,y⟩,e,sm m⟩)))))))
 clear e;rintro f w ⟨j,a,b,c,hf,e,a7⟩;obtain ⟨av,rfl⟩:=nP hf;subst a7;replace p:=gi p;refine q (g (s (oF r) (s (nA r) (n (lX ?_)))));obtain rfl:=sm p;exact jN r (nH r) ⟨a,b,c,r,e.dp [0]⟩
end
def um (i:Int):List gP→Nat→List Int
 | [],_=>[]
 | x :: r,k=>if x.e<=i/\i<=x.d then (k:Int) :: um i r (k+1) else um i r (k+1)
theorem Ht {i q:Int}:∀ (r:List gP)(k:Nat),q ∈ um i r k→∃ (j:Nat)(x:gP),q=((k+j:Nat):Int)∧r[j]?=some x∧x.e≤i∧i≤x.d
 | [],_,h=>by cases h
 | x :: r,k,h=>by
  unfold um at h;have go:q ∈ um i r (k+1)->∃ (j:Nat)(y:gP),q=((k+j:Nat):Int)/\(x :: r)[j]?=some y/\y.e<=i/\i<=y.d:=fun h=>by obtain ⟨j,y,h1,h2,h3⟩:=Ht r (k+1) h;exact ⟨j+1,y,by omega,h2,h3⟩
  by_cases c:x.e<=i/\i<=x.d
  · rw [lG c] at h;rcases oM.1 h with h | h
    · exact ⟨0,x,h,rfl,c⟩
    · exact go h
  · rw [lD c] at h;exact go h
theorem TU {i:Int}:∀ (r:List gP)(k:Nat),(um i r k).Pairwise (· < ·)
 | [],_=>List.Pairwise.nil
 | x :: r,k=>by
  have h:=TU (i:=i) r (k+1);unfold um;split
  · refine List.Pairwise.cons (fun q hq=>?_) h;obtain ⟨j,y,h1,_⟩:=Ht r (k+1) hq;omega
  · exact h
theorem Hf {fu:Nat}{i:Int}:∀ (r:List gP)(k:Nat)(acc:List Int),acc.length+r.length≤1000000000→kJ fu i r k acc=some (.go (acc ++ um i r k))
 | [],k,acc,_=>by rw [kJ,um,ER]
 | x :: r,k,acc,h=>by
  rw [uK] at h;rw [kJ,um];by_cases c1:x.e<=i
  · by_cases c2:i<=x.d
    · rw [lG c1,lG c2,lG ⟨c1,c2⟩];have:app acc [((k:Nat):Int)]=some (acc ++ [((k:Nat):Int)]):=lG (by simp only [uK,xX];omega);rw [this];show kJ fu i r (k+1) (acc ++ [((k:Nat):Int)])=_;rw [Hf r (k+1) _ (by simp only [Ij,uK,xX];omega),Fh];rfl
    · rw [lG c1,lD c2,lD fun z=>c2 z.2];exact Hf r (k+1) acc (by omega)
  · rw [lD c1,lD fun z=>c1 z.1];exact Hf r (k+1) acc (by omega)
def ab9 (s:jR)(f i:Int):List Int:=if f < 0 then [] else match s.c[f.toNat]? with
 | none=>[]
 | some V=>um i V 0
theorem Vd {fu:Nat}{s:jR}{f i:Int}(h:∀ V ∈ s.c,V.length<=24):jI fu s f i=some (ab9 s f i):=by
 unfold jI ab9;by_cases c:f < 0
 · rw [lG c,lG c]
 rw [lD c,lD c];by_cases d:(s.c.length:Int)<=f
 · rw [lG d,List.getElem?_eq_none (by omega)]
 rw [lD d];obtain ⟨V,hV⟩:=mF (l:=s.c) (k:=f.toNat) (by omega);have:ix s.c f=some V:=by unfold Go.Fw.ix;rw [lD (by omega),hV]
 rw [this,hV];show (kJ fu i V 0 []).bind _=_;rw [Hf V 0 [] (by have:=h V (vM hV);rw [xX];omega),DI];rfl
theorem ab3 {fu:Nat}(hf:50<=fu){l:List Int}(hl:l.length<=1000):kS (BU fu l) (fun s=>s.size<=700000000):=by unfold BU;exact .bd (Uy (by omega) hl) fun p hp=>.bd (Za hf hp) fun s hs=>.mk hs
structure CI (s:jR):Prop where
 vn:∀ V ∈ s.c,V.length<=24
 fx:∀ f ∈ s.a.b,FX f
def ZN (V:List gP)(O:List Int)(P:Pc->Prop):Prop:=∀ v ∈ O,∀ x,ix? V v=some x->x.b≠3->∀ i:Nat,i < x.a.toNat->P (v,(i:Int))
abbrev has (l:List (Pc × Int))(p:Pc):Prop:=(rY l p).isSome=true
theorem ZN.mono {V:List gP}{O:List Int}{P Q:Pc->Prop}(h:ZN V O P)(k:∀ p,P p->Q p):ZN V O Q:=fun v hv x hx hk i hi=>k _ (h v hv x hx hk i hi)
theorem JN {l:List (Pc × Int)}{p q:Pc}{v:Int}(h:has l p):has (yD l q v) p:=by
 unfold has;rw [Fg];split
 · rfl
 · exact h
theorem KI {l:List (Pc × Int)}{q:Pc}{v:Int}:has (yD l q v) q:=by unfold has;rw [Fg,lG rfl];rfl
def BM (V:List gP)(ops:List qm):Prop:=∀ (k:Nat) o,ops[k]?=some o->(o.b=21->o.d=0)/\(o.b=19->ZN V (um o.N V 0) (has (Ev (ops.take k))))
theorem BM.nil {V:List gP}:BM V []:=fun k o h=>by simp at h
theorem BM.snoc {V:List gP}{ops:List qm}{o:qm}(h:BM V ops)(h1:o.b=21->o.d=0)(h2:o.b=19->ZN V (um o.N V 0) (has (Ev ops))):BM V (ops ++ [o]):=by
 intro k x hx;by_cases c:k < ops.length
 · rw [AL c] at hx;rw [List.take_append_of_le_length (by omega)];exact h k x hx
 · have hk:k=ops.length:=by have:=(List.getElem?_eq_some_iff.1 hx).1;simp at this;omega
   subst hk;simp at hx;subst hx;rw [List.take_left];exact ⟨h1,h2⟩
structure Bw0 (V:List gP)(f:Int)(s:Lw):Prop where
 ff:s.f=f
 o0:0<=s.ops
 o1:s.ops<=6000
 bo:∀ b ∈ s.blocks,BM V b.c/\(b.c.length:Int)<=s.ops
 lb:∀ (i:Nat) t,s.labs[i]?=some t->t.1 < (s.blocks.length:Int)
 inj:∀ (i j:Nat) t u,s.labs[i]?=some t->s.labs[j]?=some u->t.1=u.1->0<=t.1->i=j
structure Bw' (V:List gP)(f:Int)(s:Lw):Prop extends Bw0 V f s where
 cu:∃ l b,s.vals=some l/\ix? s.blocks s.blk=some b/\Ev b.c=l
def Lc' (V:List gP)(s:Lw)(j:Nat)(O:List Int):Prop:=∃ t,s.labs[j]?=some t/\ZN V O (· ∈ t.2)
structure WG (V:List gP)(f:Int)(F:List (Nat × List Int))(s:Lw):Prop where
 ow:Bw' V f s
 nd:(F.map (·.1)).Nodup
 fs:∀ j ∈ F,j.1 < s.labs.length/\Fs s j.1/\Lc' V s j.1 j.2
section
variable {V:List gP}{f:Int}{F:List (Nat × List Int)}{s s':Lw}
theorem WG.tl {i:Nat × List Int}(h:WG V f (i :: F) s):WG V f F s:=⟨h.ow,(List.nodup_cons.1 h.nd).2,fun j hj=>h.fs j (yw _ hj)⟩
theorem WG.perm {F':List (Nat × List Int)}(h:WG V f F s)(p:F.Perm F'):WG V f F' s:=⟨h.ow,(p.map _).nodup_iff.1 h.nd,fun j hj=>h.fs j (p.mem_iff.2 hj)⟩
def Cv (V:List gP)(O:List Int)(s:Lw):Prop:=∃ l,s.vals=some l/\ZN V O (has l)
structure Wa (V:List gP)(f a:Int)(F:List (Nat × List Int))(s:Lw):Prop where
 w:WG V f F s
 st:s.stmt=a
 cv:Cv V (um a V 0) s
def H7 {α:Type}(V:List gP)(f a:Int)(c:LM α):Prop:=∀ F,Ho (Wa V f a F) c fun _=>Wa V f a F
theorem WG.same (h:WG V f F s)(h0:s'.f=s.f)(h1:s'.ops=s.ops)(h2:s'.blocks=s.blocks)(h3:s'.labs=s.labs)(h4:s'.vals=s.vals)(h5:s'.blk=s.blk):WG V f F s':=
 ⟨⟨⟨by rw [h0];exact h.ow.ff,by rw [h1];exact h.ow.o0,by rw [h1];exact h.ow.o1,by rw [h2,h1];exact h.ow.bo,by rw [h3,h2];exact h.ow.lb,by rw [h3];exact h.ow.inj⟩,by rw [h4,h2,h5];exact h.ow.cu⟩,h.nd,fun j hj=>by unfold Fs Lc';rw [h3,h4,h5,h2];exact h.fs j hj⟩
theorem Cv.same {O:List Int}(h:Cv V O s)(h4:s'.vals=s.vals):Cv V O s':=by unfold Cv;rw [h4];exact h
theorem Wa.same {a:Int}(h:Wa V f a F s)(h0:s'.f=s.f)(h1:s'.ops=s.ops)(h2:s'.blocks=s.blocks)(h3:s'.labs=s.labs)(h4:s'.vals=s.vals)(h5:s'.blk=s.blk)(h6:s'.stmt=s.stmt):Wa V f a F s':=⟨h.w.same h0 h1 h2 h3 h4 h5,h6.trans h.st,h.cv.same h4⟩
theorem WG.put (h:WG V f F s){b b':mP}(hb:ix? s.blocks s.blk=some b){l:List (Pc × Int)}(hB:BM V b'.c)(hl:Ev b'.c=l)(h0:s'.f=s.f)(h2:s'.blocks=s.blocks.set s.blk.toNat b')(h4:s'.vals=some l)(ho:s.ops<=s'.ops/\s'.ops<=6000)(hL:(b'.c.length:Int)<=s'.ops)(h3:s'.labs=s.labs)(h5:s'.blk=s.blk):WG V f F s':=by
 obtain ⟨c0,c1,c2⟩:=ix?_nat hb;refine ⟨⟨⟨h0.trans h.ow.ff,Int.le_trans h.ow.o0 ho.1,ho.2,fun x hx=>?_,fun i t ht=>?_,by rw [h3];exact h.ow.inj⟩,l,b',h4,?_,hl⟩,h.nd,fun j hj=>⟨by rw [h3];exact (h.fs j hj).1,fun t ht h0=>?_,by unfold Lc';rw [h3];exact (h.fs j hj).2.2⟩⟩
 · rw [h2] at hx;rcases Ie hx with hx | rfl
   · exact ⟨(h.ow.bo x hx).1,Int.le_trans (h.ow.bo x hx).2 ho.1⟩
   · exact ⟨hB,hL⟩
 · rw [h3] at ht;rw [h2,wU];exact h.ow.lb i t ht
 · rw [h2,h5];exact ix?_set_eq hb
 · rw [h3] at ht;obtain ⟨k1,y,hy,k3⟩:=(h.fs j hj).2.1 t ht h0;obtain ⟨_,_,hvs,_⟩:=h.ow.cu;have hne:=k1 (by rw [hvs];simp);rw [h5,h2];exact ⟨fun _=>hne,y,ix?_set_ne hy hne c0,k3⟩
theorem gop {o:qm}{n:Int}{a:Unit}(ho:o.b≠21)(h:WG V f F s)(hm:o.b=19->Cv V (um o.N V 0) s)(e:lop [o] { s with next:=n }=some (.ok a s')):WG V f F s'/\s'.vals=s.vals/\s'.pend=s.pend/\s'.stmt=s.stmt/\s'.opn=s.opn:=by
 obtain ⟨h1,b,hb,rfl⟩:=Xo e h.ow.o0 h.ow.o1;obtain ⟨l,b',c1,c2,c3⟩:=h.ow.cu;obtain rfl:b'=b:=by rw [c2] at hb;exact JD hb
 have hq:=h.ow.bo b' (vM (ix?_nat c2).2.2);have hl:Ev (b'.c ++ [o])=l:=by rw [FH,Vw,lD ho,c3]
 refine ⟨h.put (b':=⟨b'.a,b'.c ++ [o],b'.b⟩) c2 (l:=l) (hq.1.snoc (fun c=>absurd c ho) fun c=>?_) hl rfl rfl c1 ⟨?_,h1⟩ (by have:=hq.2;simp;omega) rfl rfl,rfl,rfl,rfl,rfl⟩
 · obtain ⟨l2,e1,e2⟩:=hm c;rw [c1] at e1;cases e1;rw [c3];exact e2
 · dsimp only;omega
theorem a_op {a:Int}{o:qm}(ho:o.b≠21)(hm:o.b≠19):H7 V f a (lop [o]):=fun F s u s' e h=>by have q:=gop ho h.w (fun c=>absurd c hm) (n:=s.next) e;exact ⟨q.1,q.2.2.2.1.trans h.st,h.cv.same q.2.1⟩
theorem Li {a:Int}{o:qm}(ho:o.b≠21)(hm:o.b≠19):H7 V f a (JI o):=fun F s v s' e h=>by refine hb (P:=fun t=>t={ s with next:=wr (s.next+1) }) (Q:=fun _ t=>Wa V f a F t) (R:=fun v t=>Wa V f a F t) (c:=lop [{ o with e:=s.next }]) (f:=fun _=>oD s.next) (fun t u t' et ht=>?_) (fun _=>Ih fun t ht=>ht) _ _ _ e rfl;subst ht;have q:=gop (o:={ o with e:=s.next }) ho h.w (fun c=>absurd c hm) et;exact ⟨q.1,q.2.2.2.1.trans h.st,h.cv.same q.2.1⟩
theorem D9 {a n:Int}:H7 V f a (wY n):=Li (by simp) (by simp)
theorem Jg {a v:Int}:H7 V f a (EZ v):=fun F s u s' e h=>by obtain ⟨rfl,_⟩:=Zx e;exact h.same rfl rfl rfl rfl rfl rfl rfl
theorem MZ {a:Int}:H7 V f a Gb:=fun F s v s' e h=>by obtain ⟨rfl,_⟩:=abh e;exact h.same rfl rfl rfl rfl rfl rfl rfl
theorem Xv {a:Int}:H7 V f a Jo:=fun F s v s' e h=>by unfold Jo at e;split at e <;> cases e;exact h
theorem Uc {p:Pc}{v:Int}{u:Unit}(h:WG V f F s)(e:Bc p v s=some (.ok u s')):WG V f F s'/\s'.stmt=s.stmt/\s'.opn=s.opn/\∃ l,s.vals=some l/\s'.vals=some (yD l p v):=by
 obtain ⟨l,hl,e⟩:=bs e;obtain ⟨h1,b,hb,rfl⟩:=Xo e h.ow.o0 h.ow.o1;obtain ⟨l',b',c1,c2,c3⟩:=h.ow.cu;obtain rfl:b'=b:=by rw [show ix? s.blocks s.blk=some b from hb] at c2;exact (JD c2).symm
 obtain rfl:l'=l:=by rw [hl] at c1;exact (JD c1).symm
 have hq:=h.ow.bo b' (vM (ix?_nat c2).2.2);exact ⟨h.put (b':=⟨b'.a,b'.c ++ [⟨21,0,0,0,0,0,p.1,p.2,⟨2,v,0⟩⟩],b'.b⟩) c2 (l:=yD l' p v) (hq.1.snoc (fun _=>rfl) fun c=>(by cases c)) (by rw [FH,c3];rfl) rfl rfl rfl ⟨by dsimp only;omega,h1⟩ (by have:=hq.2;simp;omega) rfl rfl,rfl,rfl,l',hl,rfl⟩
theorem Wp {a:Int}{p:Pc}{v:Int}:H7 V f a (Bc p v):=fun F s u s' e h=>by obtain ⟨q1,q2,_,l,q3,q4⟩:=Uc h.w e;obtain ⟨l2,c1,c2⟩:=h.cv;rw [q3] at c1;cases c1;exact ⟨q1,q2.trans h.st,_,q4,c2.mono fun p hp=>JN hp⟩
theorem abn {a:Int}:H7 V f a Vm:=fun F s u s' e h=>a_op (by show (20:Int)≠21;decide) (by show (20:Int)≠19;decide) F _ _ _ e h
theorem SA {a:Int}:H7 V f a HV:=fun F s u s' e h=>by have q:=gop (o:=⟨19,0,0,0,s.stmt,0,0,0,wD⟩) (by show (19:Int)≠21;decide) h.w (fun _=>by dsimp only;rw [h.st];exact h.cv) (n:=s.next) e;exact ⟨q.1,q.2.2.2.1.trans h.st,h.cv.same q.2.1⟩
end
theorem ZK {α β:Type}{V:List gP}{f a:Int}{c:LM α}{k:α->LM β}(h:H7 V f a c)(g:∀ x,H7 V f a (k x)):H7 V f a (c.bind k):=fun F=>hb (h F) fun x=>g x F
theorem QA {α:Type}{V:List gP}{f a:Int}{x:α}:H7 V f a (oD x):=fun F=>Ih fun _=>id
section
variable {vis:Int->Int->Option (List Int)}{vars:List (List gP)}
end
theorem ix?_app {α:Type}{l r:List α}{i:Int}{x:α}(h:ix? l i=some x):ix? (l ++ r) i=some x:=by obtain ⟨h0,h1,h2⟩:=ix?_nat h;unfold ix?;rw [lD (by omega),AL h1];exact h2
theorem ix?_end {α:Type}{l:List α}{x:α}:ix? (l ++ [x]) (l.length:Int)=some x:=by unfold ix?;rw [lD (by omega),FJ];simp
theorem JO {V:List gP}:∀ (l:List Int)(acc ps:List Pc),Md (some V) l acc=some (some ps)→(∀ p ∈ acc,p ∈ ps)∧ZN V l (· ∈ ps)
 | [],acc,ps,e=>by cases e;exact ⟨fun _=>id,fun v hv=>(by cases hv)⟩
 | k :: l,acc,ps,e=>by
  rw [Md] at e;split at e
  · cases e
  rename_i x hx;have hx:ix? V k=some x:=hx;split at e
  · rename_i hk;obtain ⟨h1,h2⟩:=JO l acc ps e;refine ⟨h1,fun v hv y hy hy3 i hi=>?_⟩;rcases oM.1 hv with rfl | hv
    · rw [hx] at hy;cases hy;exact absurd hk hy3
    · exact h2 v hv y hy hy3 i hi
  · obtain ⟨a2,h2,e⟩:=bs e;obtain ⟨h1,h3⟩:=JO l a2 ps e;rw [Gh h2] at h1;refine ⟨fun p hp=>h1 p (List.mem_append_left _ hp),fun v hv y hy hy3 i hi=>?_⟩;rcases oM.1 hv with rfl | hv
    · rw [hx] at hy;cases hy;exact h1 _ (List.mem_append_right _ (List.mem_map.2 ⟨i,List.mem_range.2 hi,rfl⟩))
    · exact h3 v hv y hy hy3 i hi
section
variable {vis:Int->Int->Option (List Int)}{vars:List (List gP)}{V:List gP}{f:Int}{F:List (Nat × List Int)}{a:Int}
structure Sv (vis:Int->Int->Option (List Int))(vars:List (List gP))(V:List gP)(f:Int):Prop where
 vi:∀ st,vis f st=some (um st V 0)
 va:ix? vars f=some V
theorem zW (hS:Sv vis vars V f){st:Int}(hst:st=a):Ho (Wa V f a F) (sH vis vars st) fun n s=>Wa V f a ((n,um a V 0) :: F) s:=fun s n s' e h=>by
 obtain ⟨l,hl,e⟩:=bs e;obtain ⟨r,hr,e⟩:=bs e;cases r with
 | none=>cases e
 | some ps=>
 cases e;rw [h.w.ow.ff,hS.vi,hst] at hl;cases hl;rw [h.w.ow.ff,hS.va] at hr;have hp:=(JO _ _ _ hr).2;refine ⟨⟨⟨⟨h.w.ow.ff,h.w.ow.o0,h.w.ow.o1,h.w.ow.bo,fun i t ht=>?_,fun i j t u ht hu htu h0=>?_⟩,h.w.ow.cu⟩,List.nodup_cons.2 ⟨fun c=>?_,h.w.nd⟩,fun j hj=>?_⟩,h.st,h.cv⟩
 · dsimp only at ht ⊢;by_cases c:i < s.labs.length
   · rw [AL c] at ht;exact h.w.ow.lb i t ht
   · rw [Du (by omega)] at ht;have:=vM ht;simp at this;subst this;dsimp only;omega
 · dsimp only at ht hu;by_cases c1:i < s.labs.length
   · by_cases c2:j < s.labs.length
     · rw [AL c1] at ht;rw [AL c2] at hu;exact h.w.ow.inj i j t u ht hu htu h0
     · rw [Du (by omega)] at hu;have:=vM hu;simp at this;subst this;dsimp only at htu;omega
   · rw [Du (by omega)] at ht;have:=vM ht;simp at this;subst this;dsimp only at h0;omega
 · obtain ⟨j,hj,hj2⟩:=List.mem_map.1 c;have:=(h.w.fs j hj).1;have hj2:j.1=s.labs.length:=hj2;omega
 · rcases oM.1 hj with rfl | hj
   · refine ⟨by simp,fun t ht h0=>?_,(-1,ps),by simp,hp⟩;simp at ht;subst ht;simp at h0
   · obtain ⟨k1,k2,t,k3,k4⟩:=h.w.fs j hj;refine ⟨by simp;omega,fun t ht h0=>?_,t,by dsimp only;rw [List.getElem?_append_left k1];exact k3,k4⟩;dsimp only at ht;rw [AL k1] at ht;exact k2 t ht h0
theorem Uu (hS:Sv vis vars V f){β:Type}{k:Nat->LM β}{Q:β->Lw->Prop}(h:∀ n,Ho (Wa V f a ((n,um a V 0) :: F)) (k n) Q):Ho (Wa V f a F) (QE vis vars k) Q:=fun s b s' e hs=>hb (zW hS hs.st) h _ _ _ e hs
theorem Zk {i:Nat}{s s':Lw}{u:Unit}(h:WG V f F s)(e:xG i s=some (.ok u s')):WG V f F s'/\s'.vals=s.vals/\s'.stmt=s.stmt/\s'.opn=s.opn:=by
 obtain ⟨t,ht,e⟩:=bs e;split at e
 · cases e;exact ⟨h,rfl,rfl,rfl⟩
 split at e
 · cases e
 cases e;obtain ⟨l,b,c1,c2,c3⟩:=h.ow.cu;obtain ⟨b0,b1,_⟩:=ix?_nat c2;have hi:i < s.labs.length:=(List.getElem?_eq_some_iff.1 ht).1;refine ⟨⟨⟨⟨h.ow.ff,h.ow.o0,h.ow.o1,fun x hx=>?_,fun j u hu=>?_,fun j k u v hu hv huv h0=>?_⟩,l,b,c1,ix?_app c2,c3⟩,h.nd,fun j hj=>⟨by simp;exact (h.fs j hj).1,fun u hu h0=>?_,?_⟩⟩,rfl,rfl,rfl⟩
 · rcases pX.1 hx with hx | hx
   · exact h.ow.bo x hx
   · rw [List.mem_singleton.1 hx];exact ⟨.nil,h.ow.o0⟩
 · dsimp only at hu ⊢;by_cases c:i=j
   · subst c;rw [Bz hi] at hu;cases hu;simp;omega
   · rw [zu c] at hu;have:=h.ow.lb j u hu;simp;omega
 · dsimp only at hu hv;by_cases c:i=j
   · subst c;rw [Bz hi] at hu;cases hu;by_cases c:i=k
     · exact c
     · rw [zu c] at hv;have:=h.ow.lb k v hv;dsimp only at huv;omega
   · rw [zu c] at hu;by_cases c:i=k
     · subst c;rw [Bz hi] at hv;cases hv;have:=h.ow.lb j u hu;dsimp only at huv;omega
     · rw [zu c] at hv;exact h.ow.inj j k u v hu hv huv h0
 · dsimp only at hu;by_cases c:i=j.1
   · rw [<-c,Bz hi] at hu;cases hu;exact ⟨fun _=>by dsimp only;omega,OW,ix?_end,rfl⟩
   · rw [zu c] at hu;obtain ⟨k1,y,hy,k3⟩:=(h.fs j hj).2.1 u hu h0;exact ⟨k1,y,ix?_app hy,k3⟩
 · obtain ⟨t2,k3,k4⟩:=(h.fs j hj).2.2;by_cases c:i=j.1
   · rw [<-c,ht] at k3;cases k3;exact ⟨((s.blocks.length:Int),t.2),by rw [<-c];exact Bz hi,k4⟩
   · exact ⟨t2,by dsimp only;rw [List.getElem?_set_ne c];exact k3,k4⟩
theorem ZW {i:Nat}{l:List Int}{s s':Lw}{x:ug}(h:WG V f F s)(e:vY i l s=some (.ok x s')):WG V f F s'/\s'.vals=s.vals/\s'.stmt=s.stmt/\s'.opn=s.opn:=by
 unfold vY LM.bind at e;obtain ⟨q,hq,e⟩:=bs e;cases q with
 | lim=>cases e
 | rt=>cases e
 | ok u s1=>
  obtain ⟨t,_,e⟩:=bs e;obtain ⟨l,_,e⟩:=bs e;obtain ⟨vs,_,e⟩:=bs e;cases e;exact Zk h hq
theorem zK {i:Nat}{l:List Int}:H7 V f a (vY i l):=fun F s x s' e h=>by obtain ⟨q1,q2,q3,_⟩:=ZW h.w e;exact ⟨q1,q3.trans h.st,h.cv.same q2⟩
theorem Xl:∀ {l:List Pc}{k:Int}{i:Nat}{s s':Lw}{u:Unit}{vs:List (Pc × Int)},WG V f F s→s.vals=some vs→EU l k i s=some (.ok u s')→WG V f F s'∧s'.stmt=s.stmt∧s'.opn=s.opn∧∃ vs',s'.vals=some vs'∧(∀ p ∈ l,has vs' p)∧∀ p,has vs p→has vs' p
 | [],k,i,s,s',u,vs,h,hv,e=>by cases e;exact ⟨h,rfl,rfl,vs,hv,fun p hp=>(by cases hp),fun _=>id⟩
 | p :: l,k,i,s,s',u,vs,h,hv,e=>by
  rw [EU] at e;unfold LM.bind at e;obtain ⟨q,hq,e⟩:=bs e;cases q with
  | lim=>cases e
  | rt=>cases e
  | ok u1 s1=>
   obtain ⟨w1,w2,w3,l1,w4,w5⟩:=Uc h hq;rw [hv] at w4;cases w4;obtain ⟨z1,z2,z3,vs',z4,z5,z6⟩:=Xl w1 w5 e;refine ⟨z1,z2.trans w2,z3.trans w3,vs',z4,fun r hr=>?_,fun r hr=>z6 r (JN hr)⟩;rcases oM.1 hr with rfl | hr
   · exact z6 _ KI
   · exact z5 r hr
theorem Sk {i:Nat}{O:List Int}{k:Int}{s s':Lw}{u:Unit}(hw:Bw0 V f s)(hd:(((i,O) :: F).map (·.1)).Nodup)(hf:∀ j ∈ (i,O) :: F,j.1 < s.labs.length/\Fs s j.1/\Lc' V s j.1 j.2)(e:oV i k s=some (.ok u s')):WG V f F s'/\s'.stmt=s.stmt/\Cv V O s':=by
 obtain ⟨t,ht,e⟩:=bs e;dsimp only at e;split at e
 · cases e
 split at e
 · cases e
 rename_i b hbk;obtain ⟨b0,b1,b2⟩:=ix?_nat hbk;obtain ⟨_,hfi,t2,ht2,hc⟩:=hf (i,O) (Bl ..);obtain ⟨_,y,hy,hyo⟩:=hfi t ht b0;obtain rfl:y=b:=by rw [hbk] at hy;exact (JD hy).symm
 dsimp only at ht2;rw [ht] at ht2;cases ht2;have hn:=List.nodup_cons.1 hd;unfold LM.bind at e;obtain ⟨q,hq,e⟩:=bs e;cases q with
 | lim=>cases e
 | rt=>cases e
 | ok u1 s1=>
   cases e;have h0:WG V f F { s with blk:=t.1,opn:=true,next:=wr (wr (k+t.2.length)+s.pend.length),blocks:=s.blocks.set t.1.toNat { y with a:=wr (wr (k+t.2.length)+s.pend.length) },vals:=some [] }:=by
    refine ⟨⟨⟨hw.ff,hw.o0,hw.o1,fun x hx=>?_,fun j u hu=>?_,hw.inj⟩,[],_,rfl,ix?_set_eq hbk,by dsimp only;rw [hyo];rfl⟩,hn.2,fun j hj=>⟨(hf j (List.mem_cons_of_mem _ hj)).1,fun u hu hu0=>?_,(hf j (List.mem_cons_of_mem _ hj)).2.2⟩⟩
    · rcases Ie hx with hx | rfl
      · exact hw.bo x hx
      · dsimp only;rw [hyo];exact ⟨.nil,hw.o0⟩
    · dsimp only;rw [wU];exact hw.lb j u hu
    · have hne:u.1≠t.1:=fun c=>hn.1 (by rw [<-hw.inj j.1 i u t hu ht c hu0];exact List.mem_map.2 ⟨j,hj,rfl⟩);obtain ⟨_,z,hz,hzo⟩:=(hf j (yw _ hj)).2.1 u hu hu0;exact ⟨fun _=>hne,z,ix?_set_ne hz hne b0,hzo⟩
   obtain ⟨z1,z2,z3,vs',z4,z5,_⟩:=Xl h0 rfl hq;exact ⟨z1.same rfl rfl rfl rfl rfl rfl,z2,vs',z4,hc.mono z5⟩
theorem Ed {i:Nat}{O:List Int}{k:Int}:Ho (WG V f ((i,O) :: F)) (oV i k) fun _ s=>WG V f F s/\Cv V O s:=fun s u s' e h=>by have q:=Sk h.ow.toBw0 h.nd h.fs e;exact ⟨q.1,q.2.2⟩
theorem JL {i:Nat}{k:Int}:Ho (Wa V f a ((i,um a V 0) :: F)) (oV i k) fun _=>Wa V f a F:=fun s u s' e h=>by have q:=Sk h.w.ow.toBw0 h.w.nd h.w.fs e;exact ⟨q.1,q.2.1.trans h.st,q.2.2⟩
theorem adV {t:x9}{s s':Lw}{u:Unit}(h:WG V f F s)(e:lend t s=some (.ok u s')):WG V f F s'/\s'.vals=s.vals/\s'.stmt=s.stmt/\s'.opn=false:=by
 unfold lend at e;split at e <;> cases e;rename_i b hb;obtain ⟨l,b',c1,c2,c3⟩:=h.ow.cu;obtain rfl:b'=b:=by rw [hb] at c2;exact (JD c2).symm
 have hq:=h.ow.bo _ (vM (ix?_nat hb).2.2);exact ⟨h.put (b':=⟨b'.a,b'.c,t⟩) hb (l:=l) hq.1 c3 rfl rfl c1 ⟨vk _,h.ow.o1⟩ hq.2 rfl rfl,rfl,rfl,rfl⟩
theorem PW {t:x9}:H7 V f a (lend t):=fun F s x s' e h=>by obtain ⟨q1,q2,q3,_⟩:=adV h.w e;exact ⟨q1,q3.trans h.st,h.cv.same q2⟩
def Ke' {α:Type}(V:List gP)(f:Int)(c:LM α):Prop:=∀ F,Ho (WG V f F) c fun _ s=>WG V f F s/\s.opn=false
theorem Um {t:x9}:Ke' V f (lend t):=fun F s x s' e h=>by obtain ⟨q1,q2,q3,q4⟩:=adV h e;exact ⟨q1,q4⟩
theorem Wi {α:Type}{i:Nat}{l:List Int}{k:ug->LM α}(h:∀ x,Ke' V f (k x)):Ke' V f ((vY i l).bind k):=fun F=>hb (Q:=fun _=>WG V f F) (fun s x s' e hs=>(ZW hs e).1) fun x=>h x F
theorem I7 {i:Nat}:Ke' V f (wR i):=fun F s u s' e h=>by
 unfold wR at e;split at e
 · exact Wi (fun _=>Um) F _ _ _ e h
 · rename_i c;cases e;exact ⟨h,by simpa using c⟩
theorem aa5 {i:Nat}:H7 V f a (wR i):=fun F s u s' e h=>by
 unfold wR at e;split at e
 · exact ZK zK (fun _=>PW) F _ _ _ e h
 · cases e;exact h
theorem R5 {v:Int}:Ke' V f (Ei v):=Um
theorem Fj {v:Int}{x y:ug}:H7 V f a (CK v x y):=PW
theorem Yr {v:Int}:Ke' V f (xR v):=fun F s u s' e h=>by
 unfold xR at e;split at e
 · exact Wi (fun _=>Um) F _ _ _ e h
 · exact Um F _ _ _ e h
theorem Zw {v:Int}:H7 V f a (xR v):=fun F s u s' e h=>by
 unfold xR at e;split at e
 · exact ZK zK (fun _=>PW) F _ _ _ e h
 · exact PW F _ _ _ e h
theorem a_split {i:Nat}:H7 V f a (Lm i):=ZK zK fun _ F s x s' e h=>by obtain ⟨vs,_,e⟩:=bs e;cases e;exact h
theorem Zo {k:ug->LM Unit}{Q:Unit->Lw->Prop}(h:∀ e,Ho (Wa V f a F) (k e) Q):Ho (Wa V f a F) (ET k) Q:=fun s x s' e hs=>by
 unfold ET at e;split at e
 · exact hb (zK F) h _ _ _ e hs
 · exact h _ _ _ _ e hs
theorem QT {i:Nat}:Ho (Wa V f a ((i,um a V 0) :: F)) (Ik i) fun _=>Wa V f a F:=hb JL fun _=>abn F
theorem Uh {i:Nat}{n:Int}:Ho (Wa V f a ((i,um a V 0) :: F)) (GR i n) fun _=>Wa V f a F:=fun s u s' e h=>
 hb (P:=Wa V f a ((i,um a V 0) :: F)) (R:=fun _=>Wa V f a F) JL (fun _=>hb (abn F) fun _=>hb (D9 F) fun _=>hb (Zw F) fun _ s1 u s2 e2 h2=>by
  cases e2;exact h2.same rfl rfl rfl rfl rfl rfl rfl) { s with pend:=[] } u s' e (h.same rfl rfl rfl rfl rfl rfl rfl)
theorem IK {k:Int}(hk:k≠21)(hm:k≠19):H7 V f a (BZ k):=ZK MZ fun _=>ZK MZ fun _=>ZK (Li hk hm) fun _=>Jg
theorem Zv (hS:Sv vis vars V f):H7 V f a (OZ vis vars):=fun F=>hb (Xv F) fun d=>Uu hS fun next=>Uu hS fun fault=>hb (a_split _) fun _=>hb (zK _) fun _=>hb (Fj _) fun _=>hb Uh fun _=>QT
theorem Tp (hS:Sv vis vars V f){ex:jB->LM Unit}{x:jB}(h:∀ y ∈ x.a,H7 V f a (ex y)):H7 V f a (IQ vis vars ex x):=fun F=>hb (E5 fun y hy=>h y hy F) fun _=>hb (Xv F) fun _=>hb (D9 F) fun _=>hb (Li (by simp) (by simp) F) fun _=>
 acQ fun _=>hb (D9 F) fun _=>hb (Li (by simp) (by simp) F) fun _=>hb (Li (by simp) (by simp) F) fun _=>Uu hS fun _=>Uu hS fun _=>hb (zK _) fun _=>hb (a_split _) fun _=>hb (Fj _) fun _=>hb Uh fun _=>QT
theorem LP (hS:Sv vis vars V f):∀ (fu:Nat)(e:jB),XO e→H7 V f a (lexpr vis vars fu e)
 | 0,_,_=>fun F s u s' h=>by cases h
 | fu+1,e,h=>fun F=>by
  have ih:∀ y ∈ e.a,H7 V f a (lexpr vis vars fu y):=fun y hy=>LP hS fu y (h.args y hy);have hw:wr (wr (e.e - 6)+3)≠21/\wr (wr (e.e - 6)+3)≠19:=by
   have:=h.op;have h1:wr (e.e - 6)=e.e - 6:=by unfold wr;rw [Ru (by omega) (by omega)]
   rw [h1];unfold wr;rw [Ru (by omega) (by omega)];omega
  unfold lexpr;refine xD (fun _=>hb (D9 F) fun _=>Jg F) fun _=>xD (fun c s u s' e1 hs=>?_) fun _=>xD (fun _=>hb (Tp hS ih F) fun _=>hb (MZ F) fun _=>WK fun _=>hb (Li (by simp) (by simp) F) fun _=>Jg F) fun _=>
   xD (fun _=>hb (hb (D9 F) fun _=>Jg F) fun _=>hb (E5 fun y hy=>ih y hy F) fun _=>IK (by decide) (by decide) F) fun _=>xD (fun _=>hb (E5 fun y hy=>ih y hy F) fun _=>hb (hb (D9 F) fun _=>Jg F) fun _=>IK (by decide) (by decide) F) fun _=>
   hb (E5 fun y hy=>ih y hy F) fun _=>hb (adS fun y hy=>ih y hy F) fun _=>hb (xD (fun _=>Zv hS F) fun _=>QA F) fun _=>IK hw.1 hw.2 F
  obtain ⟨l,_,e1⟩:=bs e1;exact Jg F _ _ _ e1 hs
theorem TF (hS:Sv vis vars V f){fu:Nat}:∀ {l:List jB},(∀ y ∈ l,XO y)→H7 V f a (Gj vis vars fu l)
 | [],_=>QA
 | x :: l,h=>ZK (LP hS fu x (h x (Bl ..))) fun _=>TF hS fun y hy=>h y (yw _ hy)
theorem Fu (hS:Sv vis vars V f){fu:Nat}{e:jB}(h:XO e):H7 V f a (lvalue vis vars fu e):=ZK (LP hS fu e h) fun _=>MZ
theorem VT (hS:Sv vis vars V f){fu:Nat}{t e:jB}(ht:XO t)(he:XO e):H7 V f a (Ea vis vars fu t e):=fun F=>xD (fun _=>hb (Tp hS (fun y hy=>LP hS fu y (ht.args y hy)) F) fun _=>hb (LP hS fu e he F) fun _=>hb (MZ F) fun _=>hb (MZ F) fun _=>WK fun _=>a_op (by simp) (by simp) F)
 fun _=>hb (Fu hS he F) fun _=>hb (xD (fun _=>Li (by simp) (by simp) F) fun _=>QA F) fun _=>Wp F
theorem XA (hS:Sv vis vars V f){fu:Nat}{x:jA}(hx:x.n=a)(h:∀ y ∈ x.a,XO y):H7 V f a (EF vis vars fu x):=fun F=>hb (TF hS h F) fun _ s u s' e hs=>
 hb (P:=Wa V f a F) (R:=fun _ s=>Wa V f a F s) (zW hS hx) (fun _=>hb (zK _) fun _=>Zo fun _=>hb (PW _) fun _=>hb JL fun _=>abn F) { s with pend:=[] } u s' e (hs.same rfl rfl rfl rfl rfl rfl rfl)
end
section
variable {vis:Int->Int->Option (List Int)}{vars:List (List gP)}{F:List Nat}{fu:Nat}
inductive XS:jA→Prop
 | mk {x:jA} (a:∀ y ∈ x.a,XO y) (t:∀ y ∈ x.e,XO y) (b:∀ y ∈ x.d,XS y) (e:∀ y ∈ x.h,XS y):XS x
theorem XS.a {x:jA}(h:XS x):∀ y ∈ x.a,XO y:=by cases h;assumption
theorem XS.t {x:jA}(h:XS x):∀ y ∈ x.e,XO y:=by cases h;assumption
theorem XS.b {x:jA}(h:XS x):∀ y ∈ x.d,XS y:=by cases h;assumption
theorem XS.e {x:jA}(h:XS x):∀ y ∈ x.h,XS y:=by cases h;assumption
variable {st:jA->LM Unit}
end
end Go.Proofs.YtdkneekpdecjbaaGreat
