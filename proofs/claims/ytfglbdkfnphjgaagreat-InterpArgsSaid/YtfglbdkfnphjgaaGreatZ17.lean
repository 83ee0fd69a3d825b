/- The text of a made program: the printer answers, and the text is not long. -/
import Derived.Test.YtfglbdkfnphjgaaGreatZ15
import Derived.Test.YtfglbdkfnphjgaaGreatLd
import Derived.Test.YtfglbdkfnphjgaaGreatZ4
import Derived.Test.YtfglbdkfnphjgaaGreatLa
import Derived.Test.YtfglbdkfnphjgaaGreatZ5
import Derived.Test.YtfglbdkfnphjgaaGreatLb
import Derived.Test.YtfglbdkfnphjgaaGreatLc
import Derived.Test.YtfglbdkfnphjgaaGreatLg
set_option linter.unusedVariables false
set_option linter.unusedSimpArgs false
namespace Go.Fw
open Go.RowKit
theorem kP.cl {α:Type} {P:α->Prop} {s t:ByteArray} {f:ByteArray->Option α} (n:Nat) (h:t.size=n) (hs:s.size+n<=1000000000) (k:∀ r,r.size=s.size+n->kP (f r) P):kP ((Go.Fw.cat s t).bind f) P:=.bd (.cat (by omega)) fun r hr=>k r (by rw [hr,Cn,h])
theorem kP.cv {α:Type} {P:α->Prop} {s t:ByteArray} {f:ByteArray->Option α} (hs:s.size+t.size<=1000000000) (k:∀ r,r.size=s.size+t.size->kP (f r) P):kP ((Go.Fw.cat s t).bind f) P:=.bd (.cat hs) fun r hr=>k r (by rw [hr,Cn])
theorem kP.cr {α:Type} {P:α->Prop} {s t:ByteArray} {f:ByteArray->Option α} (n:Nat) (h:s.size=n) (hs:n+t.size<=1000000000) (k:∀ r,r.size=n+t.size->kP (f r) P):kP ((Go.Fw.cat s t).bind f) P:=.bd (.cat (by omega)) fun r hr=>k r (by rw [hr,Cn,h])
end Go.Fw
namespace Go.Proofs.YtfglbdkfnphjgaaGreat
open Go.RowKit Go.Fw Go.Proofs.Tryz
def EB:Nat→Nat
 | 0=>6
 | d+1=>2 * EB d+8
theorem EB.lo:∀ d,6≤EB d∧EB d+8≤14 * 2 ^ d
 | 0=>by decide
 | d+1=>by have h:=EB.lo d;have e:EB (d+1)=2 * EB d+8:=rfl;have:1<=2 ^ d:=Nat.one_le_two_pow;rw [Nat.pow_succ];omega
theorem Yr {fu:Nat} {op:Int}:kP (AO fu op) (fun r=>(1<=r/\r<=6)/\(r=5->4<=op/\op<=5)/\(r < 5->6<=op/\op<=17)):=by
 unfold AO;have hJ0:kP (zf fu op) (pJ (fun b=>b=true->14<=op/\op<=17) (fun _=>False)):=by unfold zf;refine .ite (fun _=>.go fun _=>by omega) fun _=>.ite (fun _=>.go fun _=>by omega) fun _=>.ite (fun _=>.go fun _=>by omega) fun _=>.go fun z=>by have:=of_decide_eq_true z;omega
 have hJ1:kP (zk fu op) (pJ (fun b=>b=true->11<=op/\op<=13) (fun _=>False)):=by unfold zk;refine .ite (fun _=>.go fun _=>by omega) fun _=>.ite (fun _=>.go fun _=>by omega) fun _=>.go fun z=>by have:=of_decide_eq_true z;omega
 have hJ2:kP (y5 fu op) (pJ (fun b=>b=true->6<=op/\op<=7) (fun _=>False)):=by unfold y5;refine .ite (fun _=>.go fun _=>by omega) fun _=>.go fun z=>by have:=of_decide_eq_true z;omega
 refine .el hJ0 (fun b hb=>.ite (fun z=>.mk (by have:=hb z;omega)) fun _=>?_) fun _ z=>z.elim;refine .el hJ1 (fun b hb=>.ite (fun z=>.mk (by have:=hb z;omega)) fun _=>?_) fun _ z=>z.elim;refine .el hJ2 (fun b hb=>.ite (fun z=>.mk (by have:=hb z;omega)) fun _=>?_) fun _ z=>z.elim;refine .ite (fun _=>.mk (by omega)) fun _=>.ite (fun _=>.mk (by omega)) fun _=>.ite (fun _=>.mk (by omega)) fun _=>.ite (fun _=>.mk (by omega)) fun _=>.ite (fun _=>.mk (by omega)) fun _=>.mk (by omega)
theorem UJ:∀ x ∈ ([(⟨#[43]⟩:ByteArray),(⟨#[45]⟩:ByteArray),(⟨#[42]⟩:ByteArray),(⟨#[47]⟩:ByteArray),(⟨#[37]⟩:ByteArray),(⟨#[38]⟩:ByteArray),(⟨#[124]⟩:ByteArray),(⟨#[94]⟩:ByteArray),(⟨#[60]⟩:ByteArray),(⟨#[60,61]⟩:ByteArray),(⟨#[61,61]⟩:ByteArray),(⟨#[33,61]⟩:ByteArray)]:List ByteArray),x.size<=2:=by intro x hx;simp only [List.mem_cons,List.not_mem_nil,or_false] at hx;rcases hx with rfl | rfl | rfl | rfl | rfl | rfl | rfl | rfl | rfl | rfl | rfl | rfl <;> decide
theorem PO:∀ x ∈ ([(⟨#[45]⟩:ByteArray),(⟨#[33]⟩:ByteArray)]:List ByteArray),x.size<=2:=by intro x hx;simp only [List.mem_cons,List.not_mem_nil,or_false] at hx;rcases hx with rfl | rfl <;> decide
theorem Te:∀ {d fu:Nat} {x:jA} {l:Int},GE d x→d≤5→d+19≤fu→kP (pU fu x l) (fun s=>s.size≤EB d)
 | 0,_,_,_,h,_,_=>h.elim
 | d+1,0,_,_,_,_,h=>by omega
 | d+1,fu+1,x,l,h,hd,hf=>by
  show kP (z8 fu (pU fu) x l) _;obtain ⟨⟨h1,h2,h3,h4⟩,h5,h6⟩:=h;have hE:EB (d+1)=2 * EB d+8:=rfl;have hlo:=EB.lo d;have hp:(2:Nat) ^ d<=2 ^ 5:=Nat.pow_le_pow_right (by decide) (by omega);have h32:(2:Nat) ^ 5=32:=by decide
  unfold z8;refine .bd Yr fun r hr=>?_;have sub:∀ {y:jA} {l:Int},y ∈ x.a->kP (pU fu y l) (fun s=>s.size<=EB d):=fun hy=>Te (h6 _ hy) (by omega) (by omega);have hJ:kP (y7 fu (pU fu) x r) (pJ (fun s=>s.size<=2 * EB d+6) (fun _=>False)):=by
   unfold y7;refine .ite (fun _=>.bd (Cy (d:=18) h3 (by omega) (by decide) (by decide) (by omega)) fun s hs=>.go (by omega)) fun _=>?_;refine .ite (fun _=>.cl 1 rfl (by omega) fun g e1=>.cv (by omega) fun g2 e2=>.go (by omega)) fun _=>?_;have hJ1:kP (ze fu (pU fu) x) (pJ (fun b=>b=true->0 < x.a.length) (fun _=>False)):=by unfold ze;exact .ite (fun _=>.go fun z=>by have:=of_decide_eq_true z;omega) fun _=>.go fun z=>(by cases z)
   refine .Dh hJ1 fun b hb=>.ite (fun z=>?_) fun _=>?_
   · have:=hb z;refine .bd (.ix (by decide) (by omega)) fun y hy=>.cl 1 rfl (by omega) fun g e1=>.bd (sub (List.mem_of_getElem? hy)) fun s hs=>.cv (by omega) fun g2 e2=>.cl 1 rfl (by omega) fun g3 e3=>.go (by omega)
   have hJ2:kP (yY fu (pU fu) x r) (pJ (fun b=>b=true->r=5/\0 < x.a.length) (fun _=>False)):=by unfold yY;exact .ite (fun _=>.go fun z=>by have:=of_decide_eq_true z;omega) fun _=>.go fun z=>(by cases z)
   refine .Dh hJ2 fun b hb=>.ite (fun z=>?_) fun _=>?_
   · obtain ⟨q1,q2⟩:=hb z;have q3:=hr.2.1 q1;rw [lZ (by omega) (by omega)];exact .bd (.ix (by decide) (by omega)) fun y hy=>.bd (.ix (by omega) (by simp only [List.length_cons,List.length_nil];omega)) fun n hn=>.bd (sub (List.mem_of_getElem? hy)) fun s hs=>.cv (by have:=PO n (List.mem_of_getElem? hn);omega) fun g e=>.go (by have:=PO n (List.mem_of_getElem? hn);omega)
   refine .ite (fun q1=>.ite (fun q2=>?_) fun _=>.go (by omega)) fun _=>.go (by omega);have hJ3:kP (yQ fu (pU fu) r) (pJ (fun _=>True) (fun _=>False)):=by unfold yQ;exact .ite (fun _=>.go trivial) fun _=>.go trivial
   have q3:=hr.2.2 q1;refine .Dh hJ3 fun lv _=>?_;rw [lZ (n:=x.e - 6) (by omega) (by omega)];refine .bd (.ix (by decide) (by omega)) fun y hy=>.bd (.ix (by decide) (by omega)) fun y' hy'=>.bd (.ix (by omega) (by simp only [List.length_cons,List.length_nil];omega)) fun n hn=>?_;have hn2:=UJ n (List.mem_of_getElem? hn);exact .bd (sub (List.mem_of_getElem? hy)) fun s hs=>.cl 1 rfl (by omega) fun g e1=>.cv (by omega) fun g2 e2=>.cl 1 rfl (by omega) fun g3 e3=>.bd (sub (List.mem_of_getElem? hy')) fun s' hs'=>.cv (by omega) fun g4 e4=>.go (by omega)
  refine .el hJ (fun s hs=>?_) fun _ z=>z.elim;exact .ite (fun _=>.cr 1 rfl (by omega) fun g e1=>.cl 1 rfl (by omega) fun g2 e2=>.mk (by omega)) fun _=>.mk (by omega)
theorem Pq {fu:Nat} (hf:30<=fu) {x:jA} {l:Int} (h:GE 4 x):kP (pU fu x l) (fun s=>s.size<=216):=Te h (by decide) (by omega)
theorem JH {fu:Nat} (hf:30≤fu) {O:ByteArray→Prop}:∀ (l:List jA) (k:Nat) (s:ByteArray),(∀ y ∈ l,GE 4 y)→s.size+l.length * 218≤1000000→kP (rY fu l k s) (pJ (fun r=>r.size≤s.size+l.length * 218) O)
 | [],k,s,h,hs=>.go (by simp only [List.length_nil];omega)
 | x :: l,k,s,h,hs=>by
  rw [rY];rw [List.length_cons] at hs ⊢;have hJ:kP (za fu s k) (pJ (fun r=>r.size<=s.size+2) O):=by unfold za;exact .ite (fun _=>.cl 2 rfl (by omega) fun g e=>.go (by omega)) fun _=>.go (by omega)
  refine .Dh hJ fun s2 h2=>.bd (Pq hf (h x (List.mem_cons_self ..))) fun t ht=>.cv (by omega) fun g e=>?_;exact (JH hf l (k+1) g (fun y hy=>h y (List.mem_cons_of_mem _ hy)) (by omega)).imp fun v hv=>by
   cases v with
   | go r=>exact Nat.le_trans (show r.size<=_ from hv) (by omega)
   | out o=>exact hv
theorem Tj {fu:Nat} (hf:30<=fu) {l:List jA} (h:l.length<=4/\∀ y ∈ l,GE 4 y):kP (yM fu l) (fun r=>r.size<=872):=by unfold yM;have h0:(⟨#[]⟩:ByteArray).size=0:=rfl;exact .el (JH hf l 0 _ h.2 (O:=fun _=>False) (by omega)) (fun s hs=>.mk (by omega)) fun _ z=>z.elim
theorem Ih {fu:Nat} {O:ByteArray→Prop}:∀ (l:List ByteArray) (k:Nat) (s:ByteArray),(∀ y ∈ l,y.size≤4)→s.size+l.length * 6≤1000000→kP (oK fu l k s) (pJ (fun r=>r.size≤s.size+l.length * 6) O)
 | [],k,s,h,hs=>.go (by simp only [List.length_nil];omega)
 | x :: l,k,s,h,hs=>by
  rw [oK];rw [List.length_cons] at hs ⊢;have hx:=h x (List.mem_cons_self ..);have go:∀ g:ByteArray,g.size<=s.size+6->kP (oK fu l (k+1) g) (pJ (fun r=>r.size<=s.size+(l.length+1) * 6) O):=fun g hg=>(Ih l (k+1) g (fun y hy=>h y (List.mem_cons_of_mem _ hy)) (by omega)).imp fun v hv=>by
   cases v with
   | go r=>exact Nat.le_trans (show r.size<=_ from hv) (by omega)
   | out o=>exact hv
  exact .ite (fun _=>.cl 2 rfl (by omega) fun g e=>.cv (by omega) fun g2 e2=>go g2 (by omega)) fun _=>.cv (by omega) fun g2 e2=>go g2 (by omega)
theorem Pe {fu:Nat} {l:List ByteArray} (h:l.length<=4/\∀ y ∈ l,y.size<=4):kP (wO fu l) (fun r=>r.size<=24):=by unfold wO;have h0:(⟨#[]⟩:ByteArray).size=0:=rfl;exact .el (Ih l 0 _ h.2 (O:=fun _=>False) (by omega)) (fun s hs=>.mk (by omega)) fun _ z=>z.elim
theorem UG {fu:Nat} (hf:30<=fu) {k:Nat} {x:jI} (h:GS k x):kP (qg fu x) (fun r=>r.size<=878):=by
 obtain _ | k:=k
 · exact h.elim
 unfold qg;have h1:=h.1.2.2.1;exact .ite (fun _=>.cl 1 rfl (by omega) fun g e=>.bd (Tj hf h.2.2.1) fun s hs=>.cv (by omega) fun g2 e2=>.cl 1 rfl (by omega) fun g3 e3=>.mk (by omega)) fun _=>.bd (Tj hf h.2.2.1) fun s hs=>.mk (by omega)
def CB:Nat→Nat
 | 0=>0
 | k+1=>1200+18 * CB k
theorem P7:∀ {k fu:Nat} {l:List jI} {tb:ByteArray},k≤4→(∀ y ∈ l,GS k y)→l.length≤22→tb.size+k≤5→k+40≤fu→kP (ou fu l tb) (fun r=>r.size≤l.length * CB k)
 | _,0,_,_,_,_,_,_,h=>by omega
 | 0,fu+1,l,tb,_,h,_,_,_=>by
  cases l with
  | nil=>exact .mk (Nat.zero_le _)
  | cons x l=>exact (h x (List.mem_cons_self ..)).elim
 | k+1,fu+1,l,tb,hk,h,hl,ht,hf=>by
  show kP (zu fu (ou fu) l tb) _;unfold zu;have hC:CB (k+1)=1200+18 * CB k:=rfl;have hC3:CB k<=411600:=by
   obtain _ | _ | _ | _ | k:=k
   · simp only [CB];decide
   · simp only [CB];decide
   · simp only [CB];decide
   · simp only [CB];decide
   · omega
  have hB:∀ {m:List jI} {u:ByteArray},(m.length<=9/\∀ y ∈ m,GS k y)->u.size=tb.size+1->kP (ou fu m u) (fun r=>r.size<=9 * CB k):=fun hm hu=>(P7 (by omega) hm.2 (by omega) (by omega) (by omega)).imp fun r hr=>Nat.le_trans hr (Nat.mul_le_mul_right _ hm.1);have hL:∀ (l:List jI) (i:Nat) (s:ByteArray),(∀ y ∈ l,GS (k+1) y)->s.size+l.length * CB (k+1)<=500000000->kP (lH fu (ou fu) tb l i s) (pJ (fun r=>r.size<=s.size+l.length * CB (k+1)) (fun _=>False)):=by
   intro l
   induction l with
   | nil=>intro i s _ hs;exact .go (by simp only [List.length_nil];omega)
   | cons x l ih=>
     intro i s hy hs;rw [List.length_cons,Nat.succ_mul] at hs ⊢;have hx:=hy x (List.mem_cons_self ..);have go:∀ g:ByteArray,g.size<=s.size+CB (k+1)->kP (lH fu (ou fu) tb l (i+1) g) (pJ (fun r=>r.size<=s.size+(l.length * CB (k+1)+CB (k+1))) (fun _=>False)):=fun g hg=>(ih (i+1) g (fun y hy'=>hy y (List.mem_cons_of_mem _ hy')) (by omega)).imp fun v hv=>by
       cases v with
       | go r=>exact Nat.le_trans (show r.size<=_ from hv) (by omega)
       | out o=>exact hv
     have hv:kP (qg fu x) (fun r=>r.size<=878):=UG (by omega) hx;obtain ⟨⟨a1,a2,a3,a4,a5⟩,hx2,hx3,hx4,hx5⟩:=hx;rw [lH];have hJ1:kP (xW fu (ou fu) x) (pJ (fun s=>s.size<=219) (fun _=>False)):=by unfold xW;exact .ite (fun _=>.bd (.ix (by decide) (by omega)) fun y hy=>.bd (Pq (by omega) (hx2.2 y (List.mem_of_getElem? hy))) fun s hs=>.cl 3 rfl (by omega) fun g e=>.go (by omega)) fun _=>.go (Nat.zero_le _)
     refine .Dh hJ1 fun tg htg=>.ite (fun _=>?_) fun _=>?_
     · have hJ2:kP (xG fu (ou fu) x) (pJ (fun s=>s.size<=4) (fun _=>False)):=by unfold xG;exact .ite (fun _=>.go (by decide)) fun _=>.go a2
       have hJ3:∀ u:ByteArray,u.size<=4->kP (xB fu (ou fu) x u) (pJ (fun s=>s.size<=8) (fun _=>False)):=by intro u hu;unfold xB;exact .ite (fun _=>.bd (Cy (d:=1) a4 (by omega) (by decide) (by decide) (by omega)) fun s hs=>.cr 4 rfl (by omega) fun g e=>.cl 1 rfl (by omega) fun g2 e2=>.go (by omega)) fun _=>.go (by omega)
       refine .Dh hJ2 fun u hu=>.Dh (hJ3 u hu) fun ty hty=>?_;exact .cv (by omega) fun g1 e1=>.cl 4 rfl (by omega) fun g2 e2=>.cv (by omega) fun g3 e3=>.cl 2 rfl (by omega) fun g4 e4=>.cv (by omega) fun g5 e5=>.cl 2 rfl (by omega) fun g6 e6=>go g6 (by omega)
     have hJ4:kP (yg fu (ou fu) x) (pJ (fun _=>True) (fun _=>False)):=by unfold yg;exact .ite (fun _=>.go trivial) fun _=>.go trivial
     refine .Dh hJ4 fun b _=>.ite (fun _=>?_) fun _=>.ite (fun _=>?_) fun _=>.ite (fun _=>?_) fun _=>.ite (fun _=>?_) fun _=>.ite (fun _=>?_) fun _=>.ite (fun _=>?_) fun _=>.ite (fun _=>?_) fun _=>go s (by omega)
     · exact .cv (by omega) fun g1 e1=>.cv (by omega) fun g2 e2=>.bd hv fun v k1=>.cv (by omega) fun g3 e3=>.cl 2 rfl (by omega) fun g4 e4=>go g4 (by omega)
     · exact .cv (by omega) fun g1 e1=>.cl 7 rfl (by omega) fun g2 e2=>.bd hv fun v k1=>.cv (by omega) fun g3 e3=>.cl 2 rfl (by omega) fun g4 e4=>go g4 (by omega)
     · exact .cv (by omega) fun g1 e1=>.cl 6 rfl (by omega) fun g2 e2=>.bd hv fun v k1=>.cv (by omega) fun g3 e3=>.cl 2 rfl (by omega) fun g4 e4=>go g4 (by omega)
     · exact .cv (by omega) fun g1 e1=>.cl 6 rfl (by omega) fun g2 e2=>.bd hv fun v k1=>.cv (by omega) fun g3 e3=>.cl 2 rfl (by omega) fun g4 e4=>go g4 (by omega)
     · refine .cv (by omega) fun g1 e1=>.cl 3 rfl (by omega) fun g2 e2=>.cl 1 rfl (by omega) fun t1 t2=>.bd hv fun v k1=>.cv (by omega) fun g3 e3=>.cl 3 rfl (by omega) fun g4 e4=>.bd (hB hx4 t2) fun b1 k2=>.cv (by omega) fun g5 e5=>.ite (fun _=>?_) fun _=>?_
       · exact .cv (by omega) fun g6 e6=>.cl 9 rfl (by omega) fun g7 e7=>.cl 1 rfl (by omega) fun t3 t4=>.bd (hB hx5 t4) fun b2 k3=>.cv (by omega) fun g8 e8=>.cv (by omega) fun g9 e9=>.cl 2 rfl (by omega) fun g10 e10=>go g10 (by omega)
       · exact .cv (by omega) fun g6 e6=>.cl 2 rfl (by omega) fun g10 e10=>go g10 (by omega)
     · exact .cv (by omega) fun g1 e1=>.cl 6 rfl (by omega) fun g2 e2=>.cl 1 rfl (by omega) fun t1 t2=>.bd hv fun v k1=>.cv (by omega) fun g3 e3=>.cl 3 rfl (by omega) fun g4 e4=>.bd (hB hx4 t2) fun b1 k2=>.cv (by omega) fun g5 e5=>.cv (by omega) fun g6 e6=>.cl 2 rfl (by omega) fun g10 e10=>go g10 (by omega)
     · exact .cv (by omega) fun g1 e1=>.cl 6 rfl (by omega) fun g2 e2=>.cl 1 rfl (by omega) fun t1 t2=>.cl 1 rfl (by omega) fun t3 t4=>.bd (hB hx4 t2) fun b1 k2=>.cv (by omega) fun g5 e5=>.cv (by omega) fun g6 e6=>.cl 8 rfl (by omega) fun g7 e7=>.cv (by omega) fun g8 e8=>.cl 3 rfl (by omega) fun g9 e9=>.bd (hB hx5 t4) fun b2 k3=>.cv (by omega) fun g10 e10=>.cv (by omega) fun g11 e11=>.cl 2 rfl (by omega) fun g12 e12=>go g12 (by omega)
  have hlen:l.length * CB (k+1)<=22 * CB (k+1):=Nat.mul_le_mul_right _ hl;have h0:(⟨#[]⟩:ByteArray).size=0:=rfl;refine .el (hL l 0 _ h (by omega)) (fun s hs=>.mk (by omega)) fun _ z=>z.elim
theorem Im {fu:Nat} (hf:50≤fu) {B:Nat} (hB:B=163100000) {O:ByteArray→Prop}:∀ (l:List kY) (k:Nat) (s:ByteArray),(∀ f ∈ l,GF f)→s.size+l.length * B≤700000000→kP (qY fu l k s) (pJ (fun r=>r.size≤s.size+l.length * B) O)
 | [],k,s,h,hs=>.go (Nat.le_add_right _ _)
 | x :: l,k,s,h,hs=>by
  rw [qY];rw [List.length_cons,Nat.succ_mul] at hs ⊢;obtain ⟨a1,a2,a3⟩:=h x (List.mem_cons_self ..);have h9:(⟨#[9]⟩:ByteArray).size=1:=rfl;refine .cl 5 rfl (by omega) fun g1 e1=>.cv (by omega) fun g2 e2=>.cl 1 rfl (by omega) fun g3 e3=>.bd (Pe a2) fun w hw=>.cv (by omega) fun g4 e4=>.cl 4 rfl (by omega) fun g5 e5=>.bd (P7 (k:=4) (by decide) a3.2 a3.1 (by omega) (by omega)) fun b hb=>?_;have hb2:b.size<=22 * CB 4:=Nat.le_trans hb (Nat.mul_le_mul_right _ a3.1);have hc4:CB 4=7410000:=by simp only [CB]
  refine .cv (by omega) fun g6 e6=>.cl 2 rfl (by omega) fun g7 e7=>?_;exact (Im hf hB l (k+1) g7 (fun y hy=>h y (List.mem_cons_of_mem _ hy)) (by omega)).imp fun v hv=>by
   cases v with
   | go r=>exact Nat.le_trans (show r.size<=_ from hv) (by omega)
   | out o=>exact hv
theorem Ul {fu:Nat} (hf:50<=fu) {p:jU} (h:GPr p):kP (zw fu p) (fun s=>s.size<=700000000):=by
 unfold zw;have h0:(⟨#[]⟩:ByteArray).size=0:=rfl;rw [h.recs];have hR:kP (p9 fu [⟨⟨#[80]⟩,[⟨#[120]⟩,⟨#[121]⟩]⟩] 0 ⟨#[]⟩) (pJ (fun s=>s.size<=100) (fun _=>False)):=by rw [p9];have h1:(⟨⟨#[80]⟩,[⟨#[120]⟩,⟨#[121]⟩]⟩:kE).b.size=1:=rfl;refine .cl 7 rfl (by omega) fun g1 e1=>.cv (by omega) fun g2 e2=>.cl 3 rfl (by omega) fun g3 e3=>.bd (Pe ⟨by decide,LQ⟩) fun w hw=>.cv (by omega) fun g4 e4=>.cl 3 rfl (by omega) fun g5 e5=>?_;rw [p9];exact .go (by omega)
 have hl:=h.e.2;have hl2:p.b.length * 163100000<=4 * 163100000:=Nat.mul_le_mul_right _ hl;refine .el hR (fun s hs=>?_) fun _ z=>z.elim;exact .el (Im hf rfl p.b 0 s h.el (O:=fun _=>False) (by omega)) (fun s hs=>.mk (by omega)) fun _ z=>z.elim
set_option maxHeartbeats 12800000
set_option maxRecDepth 4000
noncomputable section
def MH (m:(List Int)->(List Int)->Option Bool):Prop:=∀ {e j f h a b c d i},Pre e j [] [.l a b f,.l c d h]->m f h=some i-> Calls prog 23 #[Z a f b,Z c h d] e (pz fun v w=>v=.bool i/\Bx e w j (lD []) [] [])
def uG (fu:Nat)(b:(List Int)) (c:(List Int)):Nat→Int→Option (Ld (Int) (Bool))
 | 0,_=>none
 | d+1,a=>
 if a < (b.length:Int) then
  (ix b a).bind fun e=>
  (ix c a).bind fun f=>
  if e≠f then
   some (.out false)
  else
   uG fu b c d (wr (a+1))
 else
  some (.go a)
def yO (fu:Nat)(a:(List Int)) (b:(List Int)):Option Bool:=if (a.length:Int)≠(b.length:Int) then some false else (uG fu a b fu 0).bind fun d=>d.el (fun c=>some true) (fun o=>some o)
theorem FK (fu:Nat):MH (yO fu):=by
 intro H W t u c d e i M I k;unfold yO at k;have j:=I.bx;clear I;generalize N:lD _=G at j ⊢;refine cf func23 r ?_;refine lu [(0,Z c t d),(1,Z e u i)] ⟨r,r,y⟩ fun X=>?_;refine q (g (s (kr r) (n (q (q (g (s (mH r) (s (lK qH r) (s (mH r) (s (lK qH r) (s (qE r r) (n ?_))))))))))));rcases iv k with ⟨v,k⟩|⟨v,k⟩
 ·refine jM (bt v) (q (g (s (kr r) (n (kD ?_)))));obtain rfl:=sm k;refine jB r (kH r) ?_;exact ⟨r,j.dp []⟩
 refine jJ (bf v) (wk (q (q (g (s (xi r) (n ?_))))));obtain ⟨J,a,k⟩:=bs k;refine qF (fun f w=>∃ (b:Int),Has f []/\Bx H w W G [] [.l c d t,.l e i u]/\Ld.go b=J) (fun Q x=>?_) ?_
 ·refine o9 (kI (fun Y f w=>∃ (b:Int),Has f [(0,Z c t d),(1,Z e u i),(5,V b)]/\Bx H w W G [] [.l c d t,.l e i u]/\uG fu t u Y b=some J) fu ⟨0,⟨r,r,r,y⟩,j,a⟩ ?_);clear j a;rintro z f w ⟨b,hf,j,a⟩ R A;obtain ⟨X,rfl⟩:=mE _ _ hf;clear hf;cases z with
  | zero=>exact nn a
  | succ z=>
   rw [uG] at a;refine q (q (g (s (mi r) (s (mH r) (s (lK qH r) (s (qp r r) (n ?_)))))));rcases iv a with ⟨B,a⟩|⟨B,a⟩
   ·refine jM (bt B) (wk (q (o9 (q (qo j [] [0,1] [] (by kernel_rfl) ?_)))));replace j:=j.drew;have m:=j;refine pF 0 r (mH r) m (pF 1 r (mi r) m ?_);obtain ⟨K,o,a⟩:=bs a;obtain ⟨S,C,o⟩:=kK o;refine pF 2 r (kV qH mV r r C (j.dl 0 r) o) m (tU 3 r (fun _ hS=>jS GV r r ((tC (ds:=[V K]) (hS.dl 0 r) o (fun _ h=>h)) 0 _ r)) (sF m) (pF 4 r (mH r) m (pF 5 r (mi r) m ?_)));obtain ⟨L,p,a⟩:=bs a;obtain ⟨U,D,p⟩:=kK p;refine pF 6 r (kV qH mV r r D (j.dl 1 r) p) m (tU 7 r (fun _ hS=>jS GV r r ((tC (ds:=[V L]) (hS.dl 1 r) p (fun _ h=>h)) 0 _ r)) (sF m) (pF 8 r (qE r r) m (hD ?_)));rcases iv a with ⟨E,a⟩|⟨E,a⟩
    ·refine jM (bt E) (q (g (s (kr r) (n (kD ?_)))));obtain rfl:=sm a;replace k:=oi k;obtain rfl:=sm k;refine jB r (kH r) ?_;exact ⟨r,j.dp []⟩
    refine jJ (bf E) (wk (g (s (mi r) (s (kS r r) (s (xi r) (n ?_))))));exact A z _ _ (Nat.lt_succ_self _) ⟨wr (b+1),⟨r,r,r,y⟩,j,a⟩
   refine jJ (bf B) (uy ?_);exact x _ _ ⟨b,y,j,sm a⟩
 clear j;rintro f w ⟨b,hf,j,F⟩;obtain ⟨X,rfl⟩:=mE _ _ hf;clear hf;subst F;replace k:=gi k;refine q (g (s (kr r) (n (kD ?_))));obtain rfl:=sm k;refine jB r (kH r) ?_;exact ⟨r,j.dp []⟩
end
noncomputable section
def MO (m:(List Int)->Option BA):Prop:=∀ {c f d a b e},Pre c f [] [.l a b d]->m d=some e-> Calls prog 15 #[Z a d b] c (pz fun v w=>v=T e/\Bx c w f (lD []) [] [])
def Az (fu:Nat)(c:(List Int)):Option BA:=(wo fu c).bind fun a=>(zw fu a).bind fun b=>some b
theorem Ni (fu:Nat):MO (Az fu):=by
 intro u A o b c v k d;unfold Az at d;have a:=k.bx;clear k;generalize w:lD _=G at a ⊢;refine cf func15 r ?_;refine lu [(0,Z b o c)] ⟨r,y⟩ fun B=>?_;refine q (g (s (mP r) (n (q (g (s (mH r) ?_))))));obtain ⟨l,p,d⟩:=bs d;refine sc (ec Zr r) (H8 fu (a.pr [] [] [0] r) p) ?_;rintro _ x ⟨e,f,h,i,rfl,j⟩;replace a:=a.cl [] [] r j r;try dsimp only [pick,nth,ca,na] at a
 obtain ⟨m,t,d⟩:=bs d;refine sc (ec aaj r) (KQ fu (a.pr [] [] [0,1] r) t) ?_;rintro _ z ⟨rfl,j⟩;replace a:=a.cl [] [] r j r;try dsimp only [pick,nth,ca,na] at a
 refine s (mP r) (n (kD ?_));obtain rfl:=sm d;refine jB r (kH r) ?_;exact ⟨r,a.dp []⟩
def Lm (m:(List Bool)->(List Bool)->Option Bool):Prop:=∀ {e j f h a b c d i},Pre e j [] [.l a b f,.l c d h]->m f h=some i-> Calls prog 32 #[Z a f b,Z c h d] e (pz fun v w=>v=.bool i/\Bx e w j (lD []) [] [])
def sS (fu:Nat)(b:(List Bool)) (c:(List Bool)):Nat→Int→Option (Ld (Int) (Bool))
 | 0,_=>none
 | d+1,a=>
 if a < (b.length:Int) then
  (ix b a).bind fun e=>
  (ix c a).bind fun f=>
  if ¬ e=f then
   some (.out false)
  else
   sS fu b c d (wr (a+1))
 else
  some (.go a)
def zl (fu:Nat)(a:(List Bool)) (b:(List Bool)):Option Bool:=if (a.length:Int)≠(b.length:Int) then some false else (sS fu a b fu 0).bind fun d=>d.el (fun c=>some true) (fun o=>some o)
theorem Lh (fu:Nat):Lm (zl fu):=by
 intro H W t u c d e i M I k;unfold zl at k;have j:=I.bx;clear I;generalize N:lD _=G at j ⊢;refine cf func32 r ?_;refine lu [(0,Z c t d),(1,Z e u i)] ⟨r,r,y⟩ fun X=>?_;refine q (g (s (kr r) (n (q (q (g (s (mH r) (s (lK OC r) (s (mH r) (s (lK OC r) (s (qE r r) (n ?_))))))))))));rcases iv k with ⟨v,k⟩|⟨v,k⟩
 ·refine jM (bt v) (q (g (s (kr r) (n (kD ?_)))));obtain rfl:=sm k;refine jB r (kH r) ?_;exact ⟨r,j.dp []⟩
 refine jJ (bf v) (wk (q (q (g (s (xi r) (n ?_))))));obtain ⟨J,a,k⟩:=bs k;refine qF (fun f w=>∃ b,Has f []/\Bx H w W G [] [.l c d t,.l e i u]/\Ld.go b=J) (fun Q x=>?_) ?_
 ·refine o9 (kI (fun Y f w=>∃ b,Has f [(0,Z c t d),(1,Z e u i),(5,V b)]/\Bx H w W G [] [.l c d t,.l e i u]/\sS fu t u Y b=some J) fu ⟨0,⟨r,r,r,y⟩,j,a⟩ ?_);clear j a;rintro z f w ⟨b,hf,j,a⟩ R A;obtain ⟨X,rfl⟩:=mY hf;cases z with
  | zero=>exact nn a
  | succ z=>
   rw [sS] at a;refine q (q (g (s (mi r) (s (mH r) (s (lK OC r) (s (qp r r) (n ?_)))))));rcases iv a with ⟨B,a⟩|⟨B,a⟩
   ·refine jM (bt B) (wk (q (o9 (q (qo j [] [0,1] [] (by kernel_rfl) ?_)))));replace j:=j.drew;have m:=j;refine pF 0 r (mH r) m (pF 1 r (mi r) m ?_);obtain ⟨K,o,a⟩:=bs a;obtain ⟨S,C,o⟩:=kK o;refine pF 2 r (kV OC N7 r r C (j.dl 0 r) o) m (tU 3 r (fun _ hS=>jS ZF r r ((tC (ds:=[.bool K]) (hS.dl 0 r) o (fun _ h=>h)) 0 _ r)) (sF m) (pF 4 r (mH r) m (pF 5 r (mi r) m ?_)));obtain ⟨L,p,a⟩:=bs a;obtain ⟨U,D,p⟩:=kK p;refine pF 6 r (kV OC N7 r r D (j.dl 1 r) p) m (tU 7 r (fun _ hS=>jS ZF r r ((tC (ds:=[.bool L]) (hS.dl 1 r) p (fun _ h=>h)) 0 _ r)) (sF m) (pF 8 r (abI ZF r r) m (hD ?_)));rcases iv a with ⟨E,a⟩|⟨E,a⟩
    ·refine jM (bt E) (q (g (s (kr r) (n (kD ?_)))));obtain rfl:=sm a;replace k:=oi k;obtain rfl:=sm k;refine jB r (kH r) ?_;exact ⟨r,j.dp []⟩
    refine jJ (bf E) (wk (g (s (mi r) (s (kS r r) (s (xi r) (n ?_))))));exact A z _ _ (Nat.lt_succ_self _) ⟨wr (b+1),⟨r,r,r,y⟩,j,a⟩
   refine jJ (bf B) (uy ?_);exact x _ _ ⟨b,y,j,sm a⟩
 clear j;rintro f w ⟨b,hf,j,F⟩;obtain ⟨X,rfl⟩:=mY hf;subst F;replace k:=gi k;refine q (g (s (kr r) (n (kD ?_))));obtain rfl:=sm k;refine jB r (kH r) ?_;exact ⟨r,j.dp []⟩
def I9 (m:ny->ny->Option Bool):Prop:=∀ {h j}{e:ny}{f:ny}{a b c d i},Pre h j [] [.l a b e.c,.l c d f.c]->m e f=some i-> Calls prog 22 #[.agg #[V e.j,V e.a,Z a e.c b],.agg #[V f.j,V f.a,Z c f.c d]] h (pz fun v w=>v=.bool i/\Bx h w j (lD []) [] [])
def rF (fu:Nat)(e:ny) (h:ny):Nat→Int→Option (Ld (Int) (Bool))
 | 0,_=>none
 | i+1,a=>
 if a < (e.c.length:Int) then
  (ix e.c a).bind fun f=>
  (ix h.c a).bind fun b=>
  if f.g≠b.g then
   some (.out false)
  else
   (zl fu f.b b.b).bind fun c=>
   if (!c)=true then
    some (.out false)
   else
    (yO fu f.a b.a).bind fun d=>
    if (!d)=true then
     some (.out false)
    else
     rF fu e h i (wr (a+1))
 else
  some (.go a)
def xu (fu:Nat)(a:ny) (b:ny):Option Bool:=if a.j≠b.j then some false else if a.a≠b.a then some false else if (a.c.length:Int)≠(b.c.length:Int) then some false else (rF fu a b fu 0).bind fun d=>d.el (fun c=>some true) (fun o=>some o)
theorem IW (fu:Nat):I9 (xu fu):=by
 intro w0 ax v x j m o p r0 hP e;unfold xu at e;have b:=hP.bx;clear hP;generalize hG:lD _=G at b ⊢;refine cf func22 r ?_;refine lu [(0,.agg #[V v.j,V v.a,Z j v.c m]),(1,.agg #[V x.j,V x.a,Z o x.c p])] ⟨r,r,y⟩ fun ay=>?_;refine q (g (nM (nV b (tO r)) ?_));rintro _ w1 ⟨X,rfl,b⟩;refine nM (nV b (tO r)) ?_;rintro _ w2 ⟨Y,rfl,b⟩;refine s (kr r) (n (q (q (g (s (Wt r) (s (l3 r (b.bk 1 r) r) (s (Wt r) (s (l3 r (b.bk 0 r) r) (s (qE r r) (s (kQ r) ?_))))))))));rcases iv e with ⟨h3,e⟩|⟨h3,e⟩
 ·rw [sQ h3];refine jK r (jK r (jK r (jK r (jK r (s (kF r r) (s (kQ r) (jK r (jK r (jK r (jK r (jK r (jK r (jK r ?_)))))))))))));refine s (kF r r) (n (jM r (q (g (s (kr r) (n (kD ?_)))))));obtain rfl:=sm e;refine jB r (kH r) ?_;exact ⟨r,b.ad [] []⟩
 rw [tF h3];refine ku r (s (Wh r) (ku r (s (l3 r (b.bk 1 r) r) (ku r (s (Wh r) (ku r (s (l3 r (b.bk 0 r) r) (ku r (s (qE r r) (s (jY r r) (s (kQ r) ?_)))))))))));rcases iv e with ⟨h4,e⟩|⟨h4,e⟩
 ·rw [sQ h4];refine jK r (jK r (jK r (jK r (jK r (jK r (jK r (s (kF r r) (n (jM r (q (g (s (kr r) (n ?_)))))))))))));refine kD ?_;obtain rfl:=sm e;refine jB r (kH r) ?_;exact ⟨r,b.ad [] []⟩
 rw [tF h4];refine ku r (s (Cm r) (ku r (s (Vs r (b.bk 1 r) r) (ku r (s (lK ED r) (ku r (s (Cm r) (ku r (s (Vs r (b.bk 0 r) r) (ku r (s (lK ED r) (ku r (s (qE r r) ?_)))))))))))));refine s (jY r r) (n ?_);rcases iv e with ⟨h5,e⟩|⟨h5,e⟩
 ·refine jM (bt h5) (q (g (s (kr r) (n (kD ?_)))));obtain rfl:=sm e;refine jB r (kH r) ?_;exact ⟨r,b.ad [] []⟩
 refine jJ (bf h5) (wk (q (q (g (s (xi r) (n ?_))))));obtain ⟨Y6,c,e⟩:=bs e;refine qF (fun f w=>∃ h,Has f []/\Bx w0 w ax G [.box Y 62 #[V x.j,V x.a,Z o x.c p],.box X 62 #[V v.j,V v.a,Z j v.c m]] [.l j m v.c,.l o p x.c]/\Ld.go h=Y6) (fun J6 a3=>?_) ?_
 ·refine o9 (kI (fun az f w=>∃ h,Has f [(2,Pt X),(3,Pt Y),(5,V h)]/\Bx w0 w ax G [.box Y 62 #[V x.j,V x.a,Z o x.c p],.box X 62 #[V v.j,V v.a,Z j v.c m]] [.l j m v.c,.l o p x.c]/\rF fu v x az h=some Y6) fu ⟨0,⟨r,r,r,y⟩,b,c⟩ ?_);clear b c;rintro n6 f w ⟨h,hf,b,c⟩ K6 a5;obtain ⟨ay,rfl⟩:=mY hf;cases n6 with
  | zero=>exact nn c
  | succ n6=>
   rw [rF] at c;refine q (q (g (s (mi r) (s (Cm r) (s (Vs r (b.bk 1 r) r) (s (lK ED r) (s (qp r r) (n ?_))))))));rcases iv c with ⟨h7,c⟩|⟨h7,c⟩
   ·refine jM (bt h7) (wk (q (o9 (q ?_))));obtain ⟨e8,u,c⟩:=bs c;obtain ⟨k8,C,u⟩:=kK u;obtain ⟨ak,a7,b⟩:=b.nm 0 rfl u;obtain ⟨L,M,N,Q,rfl,R,S⟩:=qc.out a7;replace b:=b.kC (d:=.l L M e8.b) R;replace b:=b.kC (d:=.l N Q e8.a) S;obtain ⟨U,t,c⟩:=bs c;obtain ⟨al,z,t⟩:=kK t;obtain ⟨aj,W,b⟩:=b.nm 4 rfl t;obtain ⟨D,E,F,H,rfl,I,J⟩:=qc.out W;replace b:=b.kC (d:=.l D E U.b) I;replace b:=b.kC (d:=.l F H U.a) J;refine qo b [0,1] [0,1,2,3,4,5,6,7] [] (by kernel_rfl) ?_;replace b:=b.drew;have a:=b;refine pF 0 r (Cm r) a (uF 1 r (fun hS=>Vs r (hS.bk 1 r) r) a (pF 2 r (mi r) a (pF 3 r (kV ED FZ r r C (b.dl 6 r) u) a (pF 4 r (VP r) a (uF 5 r (fun hS=>jS GV r r ((hS.dc 5 r) 0 _ r)) a (pF 6 r (Cm r) a (uF 7 r (fun hS=>Vs r (hS.bk 0 r) r) a (pF 8 r (mi r) a (pF 9 r (kV ED FZ r r z (b.dl 7 r) t) a (pF 10 r (VP r) a (uF 11 r (fun hS=>jS GV r r ((hS.dc 2 r) 0 _ r)) a (pF 12 r (qE r r) a (pF 13 r (kQ r) a ?_)))))))))))));rcases iv c with ⟨K,c⟩|⟨K,c⟩
    ·rw [sQ K];have a:=b;refine jT 14 r (by kernel_rfl) r (sF a) (jT 15 r (by kernel_rfl) r (sF a) (jT 16 r (by kernel_rfl) r (sF a) (jT 17 r (by kernel_rfl) r (sF a) (jT 18 r (by kernel_rfl) r (sF a) (jT 19 r (by kernel_rfl) r (sF a) (jT 20 r (by kernel_rfl) r (sF a) (jT 21 r (by kernel_rfl) r (sF a) (jT 22 r (by kernel_rfl) r (sF a) (jT 23 r (by kernel_rfl) r (sF a) (jT 24 r (by kernel_rfl) r (sF a) (jT 25 r (by kernel_rfl) r (sF a) (jT 26 r (by kernel_rfl) r (sF a) (jT 27 r (by kernel_rfl) r (sF a) ?_)))))))))))));refine pF 28 r (kF r r) a (pF 29 r (kQ r) a (jT 30 r (by kernel_rfl) r (sF a) (jT 31 r (by kernel_rfl) r (sF a) (jT 32 r (by kernel_rfl) r (sF a) (jT 33 r (by kernel_rfl) r (sF a) (jT 34 r (by kernel_rfl) r (sF a) (jT 35 r (by kernel_rfl) r (sF a) (jT 36 r (by kernel_rfl) r (sF a) (jT 37 r (by kernel_rfl) r (sF a) (jT 38 r (by kernel_rfl) r (sF a) (jT 39 r (by kernel_rfl) r (sF a) (jT 40 r (by kernel_rfl) r (sF a) (jT 41 r (by kernel_rfl) r (sF a) ?_)))))))))))));refine jT 42 r (by kernel_rfl) r (sF a) (jT 43 r (by kernel_rfl) r (sF a) (pF 44 r (kF r r) a (hD (jM r (q (g (s (kr r) (n (kD ?_)))))))));obtain rfl:=sm c;replace e:=oi e;obtain rfl:=sm e;refine jB r (kH r) ?_;exact ⟨r,b.ad [] []⟩
    rw [tF K];have a:=b;refine pF 14 r (Cm r) a (uF 15 r (fun hS=>Vs r (hS.bk 1 r) r) a (pF 16 r (mi r) a (pF 17 r (kV ED FZ r r C (b.dl 6 r) u) a (pF 18 r (VG r) a (uF 19 r (fun hS=>jS OC r r ((hS.dc 5 r) 1 _ r)) a (pF 20 r (Cm r) a (uF 21 r (fun hS=>Vs r (hS.bk 0 r) r) a (pF 22 r (mi r) a (pF 23 r (kV ED FZ r r z (b.dl 7 r) t) a (pF 24 r (VG r) a (uF 25 r (fun hS=>jS OC r r ((hS.dc 2 r) 1 _ r)) a ?_)))))))))));obtain ⟨a8,a9,c⟩:=bs c;refine hO 26 (oc r r (ec aa1 r) (Lh fu (b.pr [] [0,1] [4,1] r) a9) ?_);rintro _ am ⟨rfl,hK⟩;replace b:=b.cl [] [0,1] r hK r;try dsimp only [pick,nth,ca,na] at b
    have a:=b;refine ⟨sF a,?_⟩;refine pF 27 r (AV r) a (pF 28 r (jY r r) a (pF 29 r (kQ r) a ?_));rcases iv c with ⟨A,c⟩|⟨A,c⟩
    ·rw [A];have a:=b;refine jT 30 r (by kernel_rfl) r (sF a) (jT 31 r (by kernel_rfl) r (sF a) (jT 32 r (by kernel_rfl) r (sF a) (jT 33 r (by kernel_rfl) r (sF a) (jT 34 r (by kernel_rfl) r (sF a) (jT 35 r (by kernel_rfl) r (sF a) (jT 36 r (by kernel_rfl) r (sF a) (jT 37 r (by kernel_rfl) r (sF a) (jT 38 r (by kernel_rfl) r (sF a) (jT 39 r (by kernel_rfl) r (sF a) (jT 40 r (by kernel_rfl) r (sF a) (jT 41 r (by kernel_rfl) r (sF a) (jT 42 r (by kernel_rfl) r (sF a) (jT 43 r (by kernel_rfl) r (sF a) ?_)))))))))))));refine pF 44 r (kF r r) a (hD (jM r (q (g (s (kr r) (n (kD ?_)))))));obtain rfl:=sm c;replace e:=oi e;obtain rfl:=sm e;refine jB r (kH r) ?_;exact ⟨r,b.ad [] []⟩
    replace A:=nt A;rw [A];have a:=b;refine pF 30 r (Cm r) a (uF 31 r (fun hS=>Vs r (hS.bk 1 r) r) a (pF 32 r (mi r) a (pF 33 r (kV ED FZ r r C (b.dl 6 r) u) a (pF 34 r (SS r) a (uF 35 r (fun hS=>jS qH r r ((hS.dc 5 r) 2 _ r)) a (pF 36 r (Cm r) a (uF 37 r (fun hS=>Vs r (hS.bk 0 r) r) a (pF 38 r (mi r) a (pF 39 r (kV ED FZ r r z (b.dl 7 r) t) a (pF 40 r (SS r) a (uF 41 r (fun hS=>jS qH r r ((hS.dc 2 r) 2 _ r)) a ?_)))))))))));obtain ⟨ab,ac,c⟩:=bs c;refine hO 42 (oc r r (ec Wx r) (FK fu (b.pr [] [0,1] [3,0] r) ac) ?_);rintro _ an ⟨rfl,hK⟩;replace b:=b.cl [] [0,1] r hK r;try dsimp only [pick,nth,ca,na] at b
    have a:=b;refine ⟨sF a,?_⟩;refine pF 43 r (AV r) a (pF 44 r (jY r r) a (hD ?_));rcases iv c with ⟨B,c⟩|⟨B,c⟩
    ·refine jM (cb B) (q (g (s (kr r) (n (kD ?_)))));obtain rfl:=sm c;replace e:=oi e;obtain rfl:=sm e;refine jB r (kH r) ?_;exact ⟨r,b.ad [] []⟩
    refine jJ (vY B) (wk (g (s (mi r) (s (kS r r) (s (xi r) (n ?_))))));exact a5 n6 _ _ (Nat.lt_succ_self _) ⟨wr (h+1),⟨r,r,r,y⟩,b.dp [6,7],c⟩
   refine jJ (bf h7) (uy ?_);exact a3 _ _ ⟨h,y,b,sm c⟩
 clear b;rintro f w ⟨h,hf,b,ae⟩;obtain ⟨ay,rfl⟩:=mY hf;subst ae;replace e:=gi e;refine q (g (s (kr r) (n (kD ?_))));obtain rfl:=sm e;refine jB r (kH r) ?_;exact ⟨r,b.ad [] []⟩
def Ia (m:(List ko)->(List ko)->Option Bool):Prop:=∀ {e j f h a b c d i},Pre e j [] [.l a b f,.l c d h]->m f h=some i-> Calls prog 12 #[Z a f b,Z c h d] e (pz fun v w=>v=.bool i/\Bx e w j (lD []) [] [])
def qP (fu:Nat)(i:(List ko)) (j:(List ko)) (b:Int):Nat→Int→Option (Ld (Int) (Bool))
 | 0,_=>none
 | k+1,a=>
 (ix i b).bind fun d=>
 if a < (d.a.length:Int) then
  (ix d.a a).bind fun e=>
  (ix j b).bind fun f=>
  (ix f.a a).bind fun h=>
  (xu fu e h).bind fun c=>
  if (!c)=true then
   some (.out false)
  else
   qP fu i j b k (wr (a+1))
 else
  some (.go a)
def qQ (fu:Nat)(b:(List ko)) (c:(List ko)):Nat→Int→Option (Ld (Int) (Bool))
 | 0,_=>none
 | e+1,a=>
 if a < (b.length:Int) then
  (ix b a).bind fun f=>
  (ix c a).bind fun h=>
  if (f.a.length:Int)≠(h.a.length:Int) then
   some (.out false)
  else
   (qP fu b c a fu 0).bind fun i=>i.el (fun d=>
   qQ fu b c e (wr (a+1))
   ) (fun o=>some (.out o))
 else
  some (.go a)
def sJ (fu:Nat)(a:(List ko)) (b:(List ko)):Option Bool:=if (a.length:Int)≠(b.length:Int) then some false else (qQ fu a b fu 0).bind fun d=>d.el (fun c=>some true) (fun o=>some o)
theorem Ip (fu:Nat):Ia (sJ fu):=by
 intro w0 aZ E F e h i j r0 hP t;unfold sJ at t;have a:=hP.bx;clear hP;generalize hG:lD _=G at a ⊢;refine cf func12 r ?_;refine lu [(0,Z e E h),(1,Z i F j)] ⟨r,r,y⟩ fun b0=>?_;refine q (g (s (kr r) (n (q (q (g (s (mH r) (s (lK Fv r) (s (mH r) (s (lK Fv r) (s (qE r r) (n ?_))))))))))));rcases iv t with ⟨h1,t⟩|⟨h1,t⟩
 ·refine jM (bt h1) (q (g (s (kr r) (n (kD ?_)))));obtain rfl:=sm t;refine jB r (kH r) ?_;exact ⟨r,a.dp []⟩
 refine jJ (bf h1) (wk (q (q (g (s (xi r) (n ?_))))));obtain ⟨Y2,b,t⟩:=bs t;refine qF (fun f w=>∃ k,Has f []/\Bx w0 w aZ G [] [.l e h E,.l i j F]/\Ld.go k=Y2) (fun J2 ag=>?_) ?_
 ·refine o9 (kI (fun b1 f w=>∃ k,Has f [(0,Z e E h),(1,Z i F j),(5,V k)]/\Bx w0 w aZ G [] [.l e h E,.l i j F]/\qQ fu E F b1 k=some Y2) fu ⟨0,⟨r,r,r,y⟩,a,b⟩ ?_);clear a b;rintro n2 f w ⟨k,hf,a,b⟩ K2 ai;obtain ⟨b0,rfl⟩:=mY hf;cases n2 with
  | zero=>exact nn b
  | succ n2=>
   rw [qQ] at b;refine q (q (g (s (mi r) (s (mH r) (s (lK Fv r) (s (qp r r) (n ?_)))))));rcases iv b with ⟨h3,b⟩|⟨h3,b⟩
   ·refine jM (bt h3) (wk (q (o9 (q (q ?_)))));obtain ⟨e4,H,b⟩:=bs b;obtain ⟨k4,ak,H⟩:=kK H;obtain ⟨aI,al,a⟩:=a.nm 0 rfl H;obtain ⟨a0,a1,rfl,a2⟩:=ko.out al;replace a:=a.kC (d:=.l a0 a1 e4.a) a2;obtain ⟨e6,I,b⟩:=bs b;obtain ⟨k6,am,I⟩:=kK I;obtain ⟨aK,an,a⟩:=a.nm 3 rfl I;obtain ⟨a3,a4,rfl,a5⟩:=ko.out an;replace a:=a.kC (d:=.l a3 a4 e6.a) a5;refine qo a [] [0,1,2,3,4,5] [] (by kernel_rfl) ?_;replace a:=a.drew;have m:=a;refine pF 0 r (mH r) m (pF 1 r (mi r) m (pF 2 r (kV Fv DN r r ak (a.dl 4 r) H) m (pF 3 r (Dx r) m (uF 4 r (fun hS=>jS Co r r ((hS.dc 3 r) 0 _ r)) m (pF 5 r (lK Co r) m (pF 6 r (mH r) m (pF 7 r (mi r) m (pF 8 r (kV Fv DN r r am (a.dl 5 r) I) m (pF 9 r (Dx r) m (uF 10 r (fun hS=>jS Co r r ((hS.dc 1 r) 0 _ r)) m (pF 11 r (lK Co r) m (pF 12 r (qE r r) m (hD ?_)))))))))))));rcases iv b with ⟨h8,b⟩|⟨h8,b⟩
    ·refine jM (bt h8) (q (g (s (kr r) (n (kD ?_)))));obtain rfl:=sm b;replace t:=oi t;obtain rfl:=sm t;refine jB r (kH r) ?_;exact ⟨r,a.dp []⟩
    refine jJ (bf h8) (wk (q (g (s (xi r) (n ?_)))));obtain ⟨Y9,c,b⟩:=bs b;refine qF (fun f w=>∃ o,Has f [(0,Z e E h),(1,Z i F j),(5,V k)]/\Bx w0 w aZ G [] [.l e h E,.l i j F]/\Ld.go o=Y9) (fun J9 ap=>?_) ?_
    ·refine o9 (kI (fun b1 f w=>∃ o,Has f [(0,Z e E h),(1,Z i F j),(5,V k),(6,V o)]/\Bx w0 w aZ G [] [.l e h E,.l i j F]/\qP fu E F k b1 o=some Y9) fu ⟨0,⟨r,r,r,r,y⟩,a.dp [4,5],c⟩ ?_);clear a c;rintro n9 f w ⟨o,hf,a,c⟩ K9 ar;obtain ⟨b0,rfl⟩:=mY hf;cases n9 with
     | zero=>exact nn c
     | succ n9=>
      rw [qP] at c;refine q (q (g (s (mi r) (s (mH r) (s (mi r) ?_)))));obtain ⟨au,p,c⟩:=bs c;obtain ⟨aL,L,p⟩:=kK p;obtain ⟨aD,a6,a⟩:=a.nm 0 rfl p;obtain ⟨M,N,rfl,Q⟩:=ko.out a6;replace a:=a.kC (d:=.l M N au.a) Q;refine s (kV Fv DN r r L (a.dl 2 r) p) (s (Dx r) (s (jS Co r r ((a.dc 1 r) 0 _ r)) (s (lK Co r) (s (qp r r) (n ?_)))));rcases iv c with ⟨R,c⟩|⟨R,c⟩
      ·refine jM (bt R) (wk (q (o9 (q ?_))));obtain ⟨J,u,c⟩:=bs c;obtain ⟨aM,a7,u⟩:=kK u;obtain ⟨aE,a8,a⟩:=a.nm 0 rfl u;obtain ⟨z,A,rfl,S⟩:=ny.out a8;replace a:=a.kC (d:=.l z A J.c) S;obtain ⟨av,v,c⟩:=bs c;obtain ⟨aN,a9,v⟩:=kK v;obtain ⟨aF,aa,a⟩:=a.nm 5 rfl v;obtain ⟨U,W,rfl,X⟩:=ko.out aa;replace a:=a.kC (d:=.l U W av.a) X;obtain ⟨K,x,c⟩:=bs c;obtain ⟨aO,ab,x⟩:=kK x;obtain ⟨aG,ac,a⟩:=a.nm 0 rfl x;obtain ⟨B,C,rfl,Y⟩:=ny.out ac;replace a:=a.kC (d:=.l B C K.c) Y;refine qo a [] [0,1,2,3,4,5,6,7,8,9] [] (by kernel_rfl) ?_;replace a:=a.drew;have m:=a;refine pF 0 r (mH r) m (pF 1 r (mi r) m (pF 2 r (kV Fv DN r r L (a.dl 8 r) p) m (pF 3 r (Dx r) m (uF 4 r (fun hS=>jS Co r r ((hS.dc 7 r) 0 _ r)) m (pF 5 r (mi r) m (pF 6 r (kV Co Br r r a7 (a.dl 6 r) u) m (uF 7 r (fun hS=>mU [V J.j,V J.a,Z z J.c A] OB r Br r r (hS.dc 5 r)) m (pF 8 r (mH r) m (pF 9 r (mi r) m (pF 10 r (kV Fv DN r r a9 (a.dl 9 r) v) m (pF 11 r (Dx r) m (uF 12 r (fun hS=>jS Co r r ((hS.dc 3 r) 0 _ r)) m (pF 13 r (mi r) m ?_)))))))))))));refine pF 14 r (kV Co Br r r ab (a.dl 2 r) x) m (uF 15 r (fun hS=>mU [V K.j,V K.a,Z B K.c C] OB r Br r r (hS.dc 1 r)) m ?_);obtain ⟨aw,ax,c⟩:=bs c;refine hO 16 (oc r r (ec abf r) (IW fu (a.pr [] [] [4,0] r) ax) ?_);rintro _ aP ⟨rfl,hK⟩;replace a:=a.cl [] [] r hK r;try dsimp only [pick,nth,ca,na] at a
       have m:=a;refine ⟨sF m,?_⟩;refine pF 17 r (AV r) m (hD ?_);rcases iv c with ⟨D,c⟩|⟨D,c⟩
       ·refine jM (cb D) (q (g (s (kr r) (n (kD ?_)))));obtain rfl:=sm c;replace b:=oi b;obtain rfl:=sm b;replace t:=oi t;obtain rfl:=sm t;refine jB r (kH r) ?_;exact ⟨r,a.dp []⟩
       refine jJ (vY D) (wk (g (s (mi r) (s (kS r r) (s (xi r) (n ?_))))));exact ar n9 _ _ (Nat.lt_succ_self _) ⟨wr (o+1),⟨r,r,r,r,y⟩,a.dp [8,9],c⟩
      refine jJ (bf R) (uy ?_);exact ap _ _ ⟨o,⟨r,r,r,y⟩,a.dp [2,3],sm c⟩
    clear a;rintro f w ⟨o,hf,a,ay⟩;obtain ⟨b0,rfl⟩:=mY hf;subst ay;replace b:=gi b;refine g (s (mi r) (s (kS r r) (s (xi r) (n ?_))));exact ai n2 _ _ (Nat.lt_succ_self _) ⟨wr (k+1),⟨r,r,r,y⟩,a,b⟩
   refine jJ (bf h3) (uy ?_);exact ag _ _ ⟨k,y,a,sm b⟩
 clear a;rintro f w ⟨k,hf,a,az⟩;obtain ⟨b0,rfl⟩:=mY hf;subst az;replace t:=gi t;refine q (g (s (kr r) (n (kD ?_))));obtain rfl:=sm t;refine jB r (kH r) ?_;exact ⟨r,a.dp []⟩
def F6 (m:mO->mO->Option Bool):Prop:=∀ {h j}{e:mO}{f:mO}{a b c d i},Pre h j [] [.l a b e.a,.l c d f.a]->m e f=some i-> Calls prog 13 #[.agg #[V e.d,.bool e.b,V e.c,Z a e.a b],.agg #[V f.d,.bool f.b,V f.c,Z c f.a d]] h (pz fun v w=>v=.bool i/\Bx h w j (lD []) [] [])
def qZ (fu:Nat)(b:mO) (c:mO):Option Bool:=if b.d=c.d then if b.b=c.b then if b.c=c.c then (yO fu b.a c.a).bind fun a=>some a else some false else some false else some false
theorem FV (fu:Nat):F6 (qZ fu):=by
 intro w F h j c d e f x p b;unfold qZ at b;have a:=p.bx;clear p;generalize z:lD _=G at a ⊢;refine cf func13 r ?_;refine lu [(0,.agg #[V h.d,.bool h.b,V h.c,Z c h.a d]),(1,.agg #[V j.d,.bool j.b,V j.c,Z e j.a f])] ⟨r,r,y⟩ fun H=>?_;refine q (g (nM (nV a (tO r)) ?_));rintro _ A ⟨B,rfl,a⟩;refine nM (nV a (tO r)) ?_;rintro _ C ⟨D,rfl,a⟩;refine s (kr r) (n (q (g (s (NQ r) (s (CV r (a.bk 1 r) r) (s (NQ r) (s (CV r (a.bk 0 r) r) (s (kR r r) (s (kQ r) ?_)))))))));rcases iv b with ⟨l,b⟩|⟨l,b⟩
 ·rw [sQ l];refine ku r (s (Pw r) (ku r (s (l4 r (a.bk 1 r) r) (ku r (s (Pw r) (ku r (s (l4 r (a.bk 0 r) r) (ku r (s (abA ZF r r) (s (kF r r) (s (kQ r) ?_)))))))))));rcases iv b with ⟨m,b⟩|⟨m,b⟩
  ·rw [sQ m];refine ku r (s (MI r) (ku r (s (l3 r (a.bk 1 r) r) (ku r (s (MI r) (ku r (s (l3 r (a.bk 0 r) r) (ku r (s (kR r r) (s (kF r r) (s (kQ r) ?_)))))))))));rcases iv b with ⟨o,b⟩|⟨o,b⟩
   ·rw [sQ o];refine ku r (s (Ud r) (ku r (s (OM r (a.bk 1 r) r) (ku r (s (Ud r) (ku r (s (OM r (a.bk 0 r) r) ?_)))))));obtain ⟨t,u,b⟩:=bs b;refine ku r ?_;refine sc (ec Wx r) (FK fu (a.pr [] [0,1] [0,1] r) u) ?_;rintro _ E ⟨rfl,v⟩;replace a:=a.cl [] [0,1] r v r;try dsimp only [pick,nth,ca,na] at a
    refine s (kF r r) (s (kr r) (n (kD ?_)));obtain rfl:=sm b;refine jB r (kH r) ?_;exact ⟨r,a.ad [] []⟩
   rw [tF o];refine jK r (jK r (jK r (jK r (jK r (s (jY r r) (s (kr r) (n (kD ?_))))))));obtain rfl:=sm b;refine jB r (kH r) ?_;exact ⟨r,a.ad [] []⟩
  rw [tF m];refine jK r (jK r (jK r (jK r (jK r (s (jY r r) (s (kQ r) (jK r (jK r (jK r (jK r (jK r (s (jY r r) (s (kr r) ?_)))))))))))));refine n (kD ?_);obtain rfl:=sm b;refine jB r (kH r) ?_;exact ⟨r,a.ad [] []⟩
 rw [tF l];refine jK r (jK r (jK r (jK r (jK r (s (jY r r) (s (kQ r) (jK r (jK r (jK r (jK r (jK r (s (jY r r) (s (kQ r) ?_)))))))))))));refine jK r (jK r (jK r (jK r (jK r (s (jY r r) (s (kr r) (n (kD ?_))))))));obtain rfl:=sm b;refine jB r (kH r) ?_;exact ⟨r,a.ad [] []⟩
def Gj (m:(List Int)->Option (jL × Bool)):Prop:=∀ {p x t a b R},Pre p x [] [.l a b t]->m t=some R-> Calls prog 5 #[Z a t b] p (pz fun v w=>iA R fun o u=>∃ c d e f h i j k,v=.tuple #[.agg #[Z c o.a.a d,Z e o.a.b f,Z h o.c i,Z j o.b k],.bool u]/\Bx p w x (lD []) [] [.l c d o.a.a,.l e f o.a.b,.l h i o.c,.l j k o.b])
def vU (fu:Nat)(j:(List Int)):Option (jL × Bool):=(zJ fu j).bind fun c=>(Az fu c).bind fun d=>(wQ fu d).bind fun k=>iA k fun e k=>iA k fun i f=>if f≠0 then some ((⟨(⟨([]:List Gr),([]:List Gn)⟩:jU),([]:List (List Gv)),([]:List Gi)⟩:jL),false) else (rU fu e).bind fun k=>iA k fun a k=>iA k fun h b=>some (a,decide (b=0))
theorem Ik (fu:Nat):Gj (vU fu):=by
 intro w0 ae N x z R I v;unfold vU at v;have b:=I.bx;clear I;generalize hG:lD _=G at b ⊢;refine cf func5 r ?_;refine lu [(0,Z x N z)] ⟨r,y⟩ fun af=>?_;refine q (g (nM (nV b (jX wK)) ?_));rintro _ w1 ⟨b1,rfl,b⟩;refine s (kr r) (n (q (g (s (mH r) ?_))));obtain ⟨J,Q,v⟩:=bs v;refine sc (ec aaE r) (Lp fu (b.pr [] [0] [0] r) Q) ?_;rintro _ w2 ⟨B,C,rfl,A⟩;replace b:=b.cl [] [0] r A r;try dsimp only [pick,nth,ca,na] at b
 obtain ⟨K,S,v⟩:=bs v;refine sc (ec aa7 r) (Ni fu (b.pr [] [0] [0] r) S) ?_;rintro _ w3 ⟨rfl,A⟩;replace b:=b.cl [] [0] r A r;try dsimp only [pick,nth,ca,na] at b
 obtain ⟨⟨w,L,M⟩,U,v⟩:=bs v;replace v:=pi v;replace v:=pi v;refine sc (ec VY r) (Eo fu (b.pr [] [0] [] r) U) ?_;rintro _ w4 ⟨o,p,t,u,rfl,A⟩;replace b:=b.cl [] [0] r A r;try dsimp only [pick,nth,ca,na] at b
 refine s uO (s (kJ r r) (s (kJ r r) (s (kJ r r) (nM (nV b (jX uI)) ?_))));rintro _ w5 ⟨b5,rfl,b⟩;refine lq (tb b 0 [Z o w.a p,Z t w.b u] r uI r r r r r (show _=#[Z o w.a p,Z t w.b u] from r)) ?_;intro w6 b;try dsimp only [List.set] at b
 refine s (xi r) (s (xi r) (n (q (q (g (s (mi r) (s (qE r r) (n ?_))))))));rcases iv v with ⟨D,v⟩|⟨D,v⟩
 ·refine jM (bt D) (q (g (s Wj (lq (tb b 1 [sn,sn,sn,sn] r wK r r r r r (show _=#[sn,sn,sn,sn] from r)) ?_))));intro w8 b;try dsimp only [List.set] at b
  refine s (kr r) (n (kD ?_));replace b:=b.kC (d:=.l none 0 ([]:List Gr)) oZ;replace b:=b.kC (d:=.l none 0 ([]:List Gn)) oZ;replace b:=b.kC (d:=.l none 0 ([]:List (List Gv))) oZ;replace b:=b.kC (d:=.l none 0 ([]:List Gi)) oZ;obtain rfl:=sm v;refine mR r (uE r Ch r wK r (b.bk 1 r)) (kH r) ?_;exact mZ (⟨none,0,none,0,none,0,none,0,r,b.ad [] [3,2,1,0]⟩)
 refine jJ (bf D) (wk (q (g (s (mU [Z o w.a p,Z t w.b u] CF r uI r r (Cells.part (b.bk 0 r).cells (o2:=0) r)) ?_))));obtain ⟨⟨a,E,F⟩,H,v⟩:=bs v;replace v:=pi v;replace v:=pi v;refine sc (ec V9 r) (Ea fu (b.pr [] [0,1] [0,1] r) H) ?_;rintro _ X ⟨c,e,f,h,i,j,k,m,rfl,A⟩;replace b:=b.cl [] [0,1] r A r;try dsimp only [pick,nth,ca,na] at b
 refine s uO (s (kJ r r) (s (kJ r r) (s (kJ r r) (nM (nV b (jX wK)) ?_))));rintro _ Y ⟨a0,rfl,b⟩;refine lq (tb b 0 [Z c a.a.a e,Z f a.a.b h,Z i a.c j,Z k a.b m] r wK r r r r r (show _=#[Z c a.a.a e,Z f a.a.b h,Z i a.c j,Z k a.b m] from r)) ?_;intro a1 b;try dsimp only [List.set] at b
 refine s (xi r) (s (xi r) (n (q (g (s (mU [Z c a.a.a e,Z f a.a.b h,Z i a.c j,Z k a.b m] Ch r wK r r (Cells.part (b.bk 0 r).cells (o2:=0) r)) (s (mi r) (s (kR r r) (lq (tb b 2 [Z c a.a.a e,Z f a.a.b h,Z i a.c j,Z k a.b m] r wK r r r r r (show _=#[Z c a.a.a e,Z f a.a.b h,Z i a.c j,Z k a.b m] from r)) ?_))))))));intro a2 b;try dsimp only [List.set] at b
 refine s (kr r) (n (kD ?_));obtain rfl:=sm v;refine mR r (uE r Ch r wK r (b.bk 2 r)) (kH r) ?_;exact mZ (⟨c,e,f,h,i,j,k,m,r,b.ad [] [0,1,2,3]⟩)
end
noncomputable section
def DL (m:jL->Int->Int->Option (List Int)):Prop:=∀ {t:World}{A}{p:jL}{x z a b c d e f h i u},Pre t A [] [.l a b p.a.a,.l c d p.a.b,.l e f p.c,.l h i p.b]->m p x z=some u-> Calls prog 110 #[.agg #[Z a p.a.a b,Z c p.a.b d,Z e p.c f,Z h p.b i],V x,V z] t (pz fun v w=>∃ j k o,v=Z j u k/\Bx t w A (lD []) [O t.heap.size j k 3 Int o] [.els o u])
def kW (fu:Nat)(b:Int):List Gv→Nat→(List Int)→Option (Ld (List Int) ((List Int)))
 | [],_,a=>some (.go a)
 | f :: d,c,a=>
 if f.e≤b then
  if b≤f.g then
   (app a ([(c:Int)]:List Int)).bind fun e=>
   kW fu b d (c+1) e
  else
   kW fu b d (c+1) a
 else
  kW fu b d (c+1) a
def jD (fu:Nat)(c:jL) (b:Int)(d:Int):Option (List Int):=if b < 0 then some ([]:List Int) else if (c.c.length:Int)<=b then some ([]:List Int) else (ix c.c b).bind fun e=>(kW fu d e 0 ([]:List Int)).bind fun f=>f.el (fun a=>some a) (fun o=>some o)
theorem D6 (fu:Nat):DL (jD fu):=by
 intro S au U x1 W A B C D E F H I r0 hP p;unfold jD at p;have e:=hP.bx;clear hP;generalize hG:lD _=G at e ⊢;refine cf func110 r ?_;refine lu [(0,.agg #[Z A U.a.a B,Z C U.a.b D,Z E U.c F,Z H U.b I]),(1,V x1),(2,V W)] ⟨r,r,r,y⟩ fun av=>?_;refine q (g (nM (nV e (tO r)) ?_));rintro _ w1 ⟨b1,rfl,e⟩;refine s (nk r) (n (q (q (g (s (mi r) (s (qp r r) (s (kQ r) ?_)))))));rcases iv p with ⟨X,p⟩|⟨X,p⟩
 ·rw [sQ X];refine jK r (jK r (jK r (jK r (jK r (s (kF r r) (n (jM r (q (g (s (nk r) (n (kD ?_))))))))))));replace e:=e.Bv Int 3;obtain rfl:=sm p;refine jB r (kH r) ?_;exact ⟨none,0,[],r,e.ad [0] [0]⟩
 rw [tF X];refine ku r (s (mi r) (ku r (s (Bb r) (ku r (s (Qu r (e.bk 0 r) r) (ku r (s (lK Es r) (ku r (s (BF r r) (s (jY r r) (n ?_)))))))))));rcases iv p with ⟨Y,p⟩|⟨Y,p⟩
 ·refine jM (bt Y) (q (g (s (nk r) (n (kD ?_)))));replace e:=e.Bv Int 3;obtain rfl:=sm p;refine jB r (kH r) ?_;exact ⟨none,0,[],r,e.ad [0] [0]⟩
 refine jJ (bf Y) (wk (q (g (s (nk r) (n (q (q (g (s (Bb r) (s (Qu r (e.bk 0 r) r) (s (mi r) ?_)))))))))));obtain ⟨u,z,p⟩:=bs p;obtain ⟨k6,a0,z⟩:=kK z;obtain ⟨ab,a1,e⟩:=e.nm 2 rfl z;obtain ⟨v,x,rfl,N⟩:=a1;replace e:=e.kC (d:=.l v x u) N;refine s (kV Es EJ r r a0 (e.dl 4 r) z) (s (jS Bw r r ((e.dc 1 r) 0 _ r)) (s (lK Bw r) (s (mi r) (n ?_))));replace e:=e.Bv Int 3;have ac:=(e.dl 1 r).bd;obtain ⟨Y8,m,p⟩:=bs p;refine qF (fun f w=>∃ j a b c,Has f [(7,Z a j b)]/\Bx S w au G [O S.heap.size a b 3 Int c] [.els c j,.l v x u]/\Ld.go j=Y8) (fun J8 a2=>?_) ?_
 ·refine o9 (kI (fun aw f w=>∃ t j a b c,aw=u.length - t/\t<=u.length/\Has f [(25,V (t:Int)),(2,V W),(7,Z a j b),(23,Z v u x),(24,V (u.length:Int))]/\Bx S w au G [O S.heap.size a b 3 Int c] [.els c j,.l v x u]/\kW fu W (u.drop t) t j=some Y8) u.length ⟨0,([]:List Int),none,0,[],r,Nat.zero_le _,⟨r,r,r,r,r,y⟩,e.ad [0] [0,1],m⟩ ?_);clear e m;rintro aw f w ⟨t,j,a,b,c,rfl,ae,hf,e,m⟩ K8 J;obtain ⟨av,rfl⟩:=mY hf;rcases Nat.lt_or_ge t u.length with Q | Q
  ·obtain ⟨o,K⟩:=lT (l:=u) Q;rw [l8 K,kW] at m;refine q (g (s (uK r r (by omega)) (n (q (jM r (wk (q (o9 (q (g (s (mi r) (s (kV Bw xR r r r (e.dl 1 r) K) (s (mU [T o.b,V o.c,V o.d,V o.a,.bool o.f,V o.e,V o.g] H6 r xR r r (tC (ds:=[T o.b,V o.c,V o.d,V o.a,.bool o.f,V o.e,V o.g]) (e.dl 1 r) K (fun _ h=>h))) ?_)))))))))))));refine nM (nV e (jX xR)) ?_;rintro _ af ⟨ag,rfl,e⟩;refine s (xi r) (lq (tb e 0 [T o.b,V o.c,V o.d,V o.a,.bool o.f,V o.e,V o.g] r xR r r r r r (show _=#[T o.b,V o.c,V o.d,V o.a,.bool o.f,V o.e,V o.g] from r)) ?_);intro ah e;try dsimp only [List.set] at e
   refine n (q (g (s (VJ r) (s (l3 r (e.bk 0 r) r) (s (mi r) (s (Ja r r) (s (kQ r) ?_)))))));rcases iv m with ⟨L,m⟩|⟨L,m⟩
   ·rw [sQ L];refine ku r (s (mi r) (ku r (s (Nf r) (ku r (s (l3 r (e.bk 0 r) r) (ku r (s (Ja r r) (s (kF r r) (n ?_)))))))));rcases iv m with ⟨M,m⟩|⟨M,m⟩
    ·refine jM (bt M) (g (s (mH r) (s (mi r) (nM (jN e [[V (t:Int)]] ([(t:Int)]:List Int) (zo r) r r (by decide) ⟨r,y⟩) ?_))));rintro _ ai ⟨aj,rfl,e⟩;obtain ⟨a3,R,m⟩:=bs m;refine nM (kN e 2 1 r r qH mV r (by decide) (by decide) (Nat.le_refl _) r r (e.zL 0 0 r r) R) ?_;rintro _ ak ⟨a4,a5,a6,rfl,e⟩;refine s (nk r) (n (g (s (ng r r (by omega) (by omega)) (s (mi r) (n ?_)))));exact J (u.length - (t+1)) _ _ (by omega) ⟨t+1,a3,a4,a5,a6,r,by omega,⟨r,r,r,r,r,y⟩,e.ad [2] [1,2],m⟩
    refine jJ (bf M) (wk (g (s (ng r r (by omega) (by omega)) (s (mi r) (n ?_)))));exact J (u.length - (t+1)) _ _ (by omega) ⟨t+1,j,a,b,c,r,by omega,⟨r,r,r,r,r,y⟩,e.arr [1] r,m⟩
   rw [tF L];refine jK r (jK r (jK r (jK r (s (jY r r) (n (jJ r (wk (g (s (ng r r (by omega) (by omega)) (s (mi r) (n ?_)))))))))));exact J (u.length - (t+1)) _ _ (by omega) ⟨t+1,j,a,b,c,r,by omega,⟨r,r,r,r,r,y⟩,e.arr [1] r,m⟩
  obtain rfl:t=u.length:=by omega
  rw [lM,kW] at m;refine q (g (s (uJ r r (by omega)) (n (q (jJ r (uy ?_))))));exact a2 _ _ ⟨j,a,b,c,⟨r,y⟩,e,sm m⟩
 clear e;rintro f w ⟨j,a,b,c,hf,e,a7⟩;obtain ⟨av,rfl⟩:=mY hf;subst a7;replace p:=gi p;refine q (g (s (mH r) (s (nk r) (n (kD ?_)))));obtain rfl:=sm p;refine jB r (kH r) ?_;exact ⟨a,b,c,r,e.dp [0]⟩
def Le (m:(List Int)->Option (List Int)):Prop:=∀ {f:World}{j h a b i},Pre f j [] [.l a b h]->m h=some i-> Calls prog 111 #[Z a h b] f (pz fun v w=>∃ c d e,v=Z c i d/\Bx f w j (lD []) [O f.heap.size c d 3 Int e] [.els e i])
def CO (fu:Nat)(a:(List Int)):Option (List Int):=(app ([]:List Int) a).bind fun b=>some b
theorem Ls (fu:Nat):Le (CO fu):=by
 intro o x j a c p h d;unfold CO at d;have b:=h.bx;clear h;generalize t:lD _=G at b ⊢;refine cf func111 r ?_;refine lu [(0,Z a j c)] ⟨r,y⟩ fun z=>?_;refine q (g (s (nk r) (n (q (q (g (s (mH r) (s (X4 qH r r) (n ?_)))))))));rcases Classical.em (a=none) with f | f
 ·refine jM (bt f) (q (g (s (nk r) (n (kD ?_)))));replace b:=b.Bv Int 3;have hz:=(b.dl 1 r).XO f;subst hz;obtain ⟨i,e,d⟩:=bs d;obtain rfl:=sm d;obtain rfl:i=[]:=(sK e).2.symm;refine jB r (kH r) ?_;exact ⟨none,0,[],r,b.dp [0]⟩
 refine jJ (bf f) (wk (q (g (nM (jN b [] ([]:List Int) Ej r r (by decide) y) ?_))));rintro _ u ⟨v,rfl,b⟩;refine s (mH r) ?_;obtain ⟨i,e,d⟩:=bs d;refine nM (kN b 0 0 r r qH mV r (by decide) (by decide) (Nat.le_refl _) r r (b.ysD 1 r) e) ?_;rintro _ w ⟨k,l,m,rfl,b⟩;refine s (nk r) (n (kD ?_));obtain rfl:=sm d;refine jB r (kH r) ?_;exact ⟨k,l,m,r,b.dp [0]⟩
end
end Go.Proofs.YtfglbdkfnphjgaaGreat
