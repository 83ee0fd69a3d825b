/- The text of a made program: the printer answers, and the text is not long. -/
import Derived.Test.YtfglbdkfnphjgaaZ16
import Derived.Test.YtfglbdkfnphjgaaLd
import Derived.Test.YtfglbdkfnphjgaaZ5
import Derived.Test.YtfglbdkfnphjgaaLb
import Derived.Test.YtfglbdkfnphjgaaLc
import Derived.Test.YtfglbdkfnphjgaaLg
import Derived.Test.YtfglbdkfnphjgaaLa
import Derived.Test.YtfglbdkfnphjgaaZ6
set_option linter.unusedVariables false
set_option linter.unusedSimpArgs false
namespace Go.Fw
open Go.RowKit
theorem kD.cl {α:Type} {P:α→Prop} {s t:ByteArray} {f:ByteArray→Option α} (n:Nat) (h:t.size=n) (hs:s.size+n≤1000000000) (k:∀ r,r.size=s.size+n→kD (f r) P):kD ((Go.Fw.cat s t).bind f) P:=.bd (.cat (by omega)) fun r hr=>k r (by rw [hr,Bb,h])
theorem kD.cv {α:Type} {P:α→Prop} {s t:ByteArray} {f:ByteArray→Option α} (hs:s.size+t.size≤1000000000) (k:∀ r,r.size=s.size+t.size→kD (f r) P):kD ((Go.Fw.cat s t).bind f) P:=.bd (.cat hs) fun r hr=>k r (by rw [hr,Bb])
theorem kD.cr {α:Type} {P:α→Prop} {s t:ByteArray} {f:ByteArray→Option α} (n:Nat) (h:s.size=n) (hs:n+t.size≤1000000000) (k:∀ r,r.size=n+t.size→kD (f r) P):kD ((Go.Fw.cat s t).bind f) P:=.bd (.cat (by omega)) fun r hr=>k r (by rw [hr,Bb,h])
end Go.Fw
namespace Go.Proofs.Ytfglbdkfnphjgaa
open Go.RowKit Go.Fw
def EB:Nat→Nat
 | 0=>6
 | d+1=>2 * EB d+8
theorem EB.lo:∀ d,6≤EB d∧EB d+8≤14 * 2 ^ d
 | 0=>by decide
 | d+1=>by
  have h:=EB.lo d
  have e:EB (d+1)=2 * EB d+8:=rfl
  have:1≤2 ^ d:=Nat.one_le_two_pow
  rw [Nat.pow_succ]
  omega
theorem UE {fu:Nat} {op:Int}:kD (zx fu op) (fun r=>(1≤r∧r≤6)∧(r=5→4≤op∧op≤5)∧(r < 5→6≤op∧op≤17)):=by
 unfold zx
 have hJ0:kD (yB fu op) (oI (fun b=>b=true→14≤op∧op≤17) (fun _=>False)):=by
  unfold yB
  refine .ite (fun _=>.go fun _=>by omega) fun _=>.ite (fun _=>.go fun _=>by omega) fun _=>.ite (fun _=>.go fun _=>by omega) fun _=>.go fun z=>by have:=of_decide_eq_true z;omega
 have hJ1:kD (yC fu op) (oI (fun b=>b=true→11≤op∧op≤13) (fun _=>False)):=by
  unfold yC
  refine .ite (fun _=>.go fun _=>by omega) fun _=>.ite (fun _=>.go fun _=>by omega) fun _=>.go fun z=>by have:=of_decide_eq_true z;omega
 have hJ2:kD (xW fu op) (oI (fun b=>b=true→6≤op∧op≤7) (fun _=>False)):=by
  unfold xW
  refine .ite (fun _=>.go fun _=>by omega) fun _=>.go fun z=>by have:=of_decide_eq_true z;omega
 refine .el hJ0 (fun b hb=>.ite (fun z=>.mk (by have:=hb z;omega)) fun _=>?_) fun _ z=>z.elim
 refine .el hJ1 (fun b hb=>.ite (fun z=>.mk (by have:=hb z;omega)) fun _=>?_) fun _ z=>z.elim
 refine .el hJ2 (fun b hb=>.ite (fun z=>.mk (by have:=hb z;omega)) fun _=>?_) fun _ z=>z.elim
 refine .ite (fun _=>.mk (by omega)) fun _=>.ite (fun _=>.mk (by omega)) fun _=>.ite (fun _=>.mk (by omega)) fun _=>.ite (fun _=>.mk (by omega)) fun _=>.ite (fun _=>.mk (by omega)) fun _=>.mk (by omega)
theorem RS:∀ x ∈ ([(⟨#[43]⟩:ByteArray),(⟨#[45]⟩:ByteArray),(⟨#[42]⟩:ByteArray),(⟨#[47]⟩:ByteArray),(⟨#[37]⟩:ByteArray),(⟨#[38]⟩:ByteArray),(⟨#[124]⟩:ByteArray),(⟨#[94]⟩:ByteArray),(⟨#[60]⟩:ByteArray),(⟨#[60,61]⟩:ByteArray),(⟨#[61,61]⟩:ByteArray),(⟨#[33,61]⟩:ByteArray)]:List ByteArray),x.size≤2:=by
 intro x hx
 simp only [List.mem_cons,List.not_mem_nil,or_false] at hx
 rcases hx with rfl | rfl | rfl | rfl | rfl | rfl | rfl | rfl | rfl | rfl | rfl | rfl <;> decide
theorem MQ:∀ x ∈ ([(⟨#[45]⟩:ByteArray),(⟨#[33]⟩:ByteArray)]:List ByteArray),x.size≤2:=by
 intro x hx
 simp only [List.mem_cons,List.not_mem_nil,or_false] at hx
 rcases hx with rfl | rfl <;> decide
theorem OL:∀ {d fu:Nat} {x:jA} {l:Int},GE d x→d≤5→d+19≤fu→kD (oM fu x l) (fun s=>s.size≤EB d)
 | 0,_,_,_,h,_,_=>h.elim
 | d+1,0,_,_,_,_,h=>by omega
 | d+1,fu+1,x,l,h,hd,hf=>by
  show kD (zL fu (oM fu) x l) _
  obtain ⟨⟨h1,h2,h3,h4⟩,h5,h6⟩:=h
  have hE:EB (d+1)=2 * EB d+8:=rfl
  have hlo:=EB.lo d
  have hp:(2:Nat) ^ d≤2 ^ 5:=Nat.pow_le_pow_right (by decide) (by omega)
  have h32:(2:Nat) ^ 5=32:=by decide
  unfold zL
  refine .bd UE fun r hr=>?_
  have sub:∀ {y:jA} {l:Int},y ∈ x.a→kD (oM fu y l) (fun s=>s.size≤EB d):=fun hy=>OL (h6 _ hy) (by omega) (by omega)
  have hJ:kD (xV fu (oM fu) x r) (oI (fun s=>s.size≤2 * EB d+6) (fun _=>False)):=by
   unfold xV
   refine .ite (fun _=>.bd (Br (d:=18) h3 (by omega) (by decide) (by decide) (by omega)) fun s hs=>.go (by omega)) fun _=>?_
   refine .ite (fun _=>.cl 1 rfl (by omega) fun g e1=>.cv (by omega) fun g2 e2=>.go (by omega)) fun _=>?_
   have hJ1:kD (xZ fu (oM fu) x) (oI (fun b=>b=true→0 < x.a.length) (fun _=>False)):=by
     unfold xZ
     exact .ite (fun _=>.go fun z=>by have:=of_decide_eq_true z;omega) fun _=>.go fun z=>(by cases z)
   refine .BI hJ1 fun b hb=>.ite (fun z=>?_) fun _=>?_
   · have:=hb z
     refine .bd (.ix (by decide) (by omega)) fun y hy=>.cl 1 rfl (by omega) fun g e1=>.bd (sub (List.mem_of_getElem? hy)) fun s hs=>.cv (by omega) fun g2 e2=>.cl 1 rfl (by omega) fun g3 e3=>.go (by omega)
   have hJ2:kD (yh fu (oM fu) x r) (oI (fun b=>b=true→r=5∧0 < x.a.length) (fun _=>False)):=by
     unfold yh
     exact .ite (fun _=>.go fun z=>by have:=of_decide_eq_true z;omega) fun _=>.go fun z=>(by cases z)
   refine .BI hJ2 fun b hb=>.ite (fun z=>?_) fun _=>?_
   · obtain ⟨q1,q2⟩:=hb z
     have q3:=hr.2.1 q1
     rw [l5 (by omega) (by omega)]
     exact .bd (.ix (by decide) (by omega)) fun y hy=>.bd (.ix (by omega) (by simp only [List.length_cons,List.length_nil];omega)) fun n hn=>.bd (sub (List.mem_of_getElem? hy)) fun s hs=>.cv (by have:=MQ n (List.mem_of_getElem? hn);omega) fun g e=>.go (by have:=MQ n (List.mem_of_getElem? hn);omega)
   refine .ite (fun q1=>.ite (fun q2=>?_) fun _=>.go (by omega)) fun _=>.go (by omega)
   have hJ3:kD (yc fu (oM fu) r) (oI (fun _=>True) (fun _=>False)):=by
     unfold yc
     exact .ite (fun _=>.go trivial) fun _=>.go trivial
   have q3:=hr.2.2 q1
   refine .BI hJ3 fun lv _=>?_
   rw [l5 (n:=x.e - 6) (by omega) (by omega)]
   refine .bd (.ix (by decide) (by omega)) fun y hy=>.bd (.ix (by decide) (by omega)) fun y' hy'=>.bd (.ix (by omega) (by simp only [List.length_cons,List.length_nil];omega)) fun n hn=>?_
   have hn2:=RS n (List.mem_of_getElem? hn)
   exact .bd (sub (List.mem_of_getElem? hy)) fun s hs=>.cl 1 rfl (by omega) fun g e1=>.cv (by omega) fun g2 e2=>.cl 1 rfl (by omega) fun g3 e3=>.bd (sub (List.mem_of_getElem? hy')) fun s' hs'=>.cv (by omega) fun g4 e4=>.go (by omega)
  refine .el hJ (fun s hs=>?_) fun _ z=>z.elim
  exact .ite (fun _=>.cr 1 rfl (by omega) fun g e1=>.cl 1 rfl (by omega) fun g2 e2=>.mk (by omega)) fun _=>.mk (by omega)
theorem Nk {fu:Nat} (hf:30≤fu) {x:jA} {l:Int} (h:GE 4 x):kD (oM fu x l) (fun s=>s.size≤216):=OL h (by decide) (by omega)
theorem Hu {fu:Nat} (hf:30≤fu) {O:ByteArray→Prop}:∀ (l:List jA) (k:Nat) (s:ByteArray),(∀ y ∈ l,GE 4 y)→s.size+l.length * 218≤1000000→kD (rQ fu l k s) (oI (fun r=>r.size≤s.size+l.length * 218) O)
 | [],k,s,h,hs=>.go (by simp only [List.length_nil];omega)
 | x :: l,k,s,h,hs=>by
  rw [rQ]
  rw [List.length_cons] at hs ⊢
  have hJ:kD (xS fu s k) (oI (fun r=>r.size≤s.size+2) O):=by
   unfold xS
   exact .ite (fun _=>.cl 2 rfl (by omega) fun g e=>.go (by omega)) fun _=>.go (by omega)
  refine .BI hJ fun s2 h2=>.bd (Nk hf (h x (List.mem_cons_self ..))) fun t ht=>.cv (by omega) fun g e=>?_
  exact (Hu hf l (k+1) g (fun y hy=>h y (List.mem_cons_of_mem _ hy)) (by omega)).imp fun v hv=>by
   cases v with
   | go r=>exact Nat.le_trans (show r.size≤_ from hv) (by omega)
   | out o=>exact hv
theorem Qw {fu:Nat} (hf:30≤fu) {l:List jA} (h:l.length≤4∧∀ y ∈ l,GE 4 y):kD (xK fu l) (fun r=>r.size≤872):=by
 unfold xK
 have h0:(⟨#[]⟩:ByteArray).size=0:=rfl
 exact .el (Hu hf l 0 _ h.2 (O:=fun _=>False) (by omega)) (fun s hs=>.mk (by omega)) fun _ z=>z.elim
theorem FM {fu:Nat} {O:ByteArray→Prop}:∀ (l:List ByteArray) (k:Nat) (s:ByteArray),(∀ y ∈ l,y.size≤4)→s.size+l.length * 6≤1000000→kD (ou fu l k s) (oI (fun r=>r.size≤s.size+l.length * 6) O)
 | [],k,s,h,hs=>.go (by simp only [List.length_nil];omega)
 | x :: l,k,s,h,hs=>by
  rw [ou]
  rw [List.length_cons] at hs ⊢
  have hx:=h x (List.mem_cons_self ..)
  have go:∀ g:ByteArray,g.size≤s.size+6→kD (ou fu l (k+1) g) (oI (fun r=>r.size≤s.size+(l.length+1) * 6) O):=fun g hg=>(FM l (k+1) g (fun y hy=>h y (List.mem_cons_of_mem _ hy)) (by omega)).imp fun v hv=>by
   cases v with
   | go r=>exact Nat.le_trans (show r.size≤_ from hv) (by omega)
   | out o=>exact hv
  exact .ite (fun _=>.cl 2 rfl (by omega) fun g e=>.cv (by omega) fun g2 e2=>go g2 (by omega)) fun _=>.cv (by omega) fun g2 e2=>go g2 (by omega)
theorem M7 {fu:Nat} {l:List ByteArray} (h:l.length≤4∧∀ y ∈ l,y.size≤4):kD (vW fu l) (fun r=>r.size≤24):=by
 unfold vW
 have h0:(⟨#[]⟩:ByteArray).size=0:=rfl
 exact .el (FM l 0 _ h.2 (O:=fun _=>False) (by omega)) (fun s hs=>.mk (by omega)) fun _ z=>z.elim
theorem Rk {fu:Nat} (hf:30≤fu) {k:Nat} {x:jO} (h:GS k x):kD (pJ fu x) (fun r=>r.size≤878):=by
 obtain _ | k:=k
 · exact h.elim
 unfold pJ
 have h1:=h.1.2.2.1
 exact .ite (fun _=>.cl 1 rfl (by omega) fun g e=>.bd (Qw hf h.2.2.1) fun s hs=>.cv (by omega) fun g2 e2=>.cl 1 rfl (by omega) fun g3 e3=>.mk (by omega)) fun _=>.bd (Qw hf h.2.2.1) fun s hs=>.mk (by omega)
def CB:Nat→Nat
 | 0=>0
 | k+1=>1200+18 * CB k
theorem MO:∀ {k fu:Nat} {l:List jO} {tb:ByteArray},k≤4→(∀ y ∈ l,GS k y)→l.length≤22→tb.size+k≤5→k+40≤fu→kD (nQ fu l tb) (fun r=>r.size≤l.length * CB k)
 | _,0,_,_,_,_,_,_,h=>by omega
 | 0,fu+1,l,tb,_,h,_,_,_=>by
  cases l with
  | nil=>exact .mk (Nat.zero_le _)
  | cons x l=>exact (h x (List.mem_cons_self ..)).elim
 | k+1,fu+1,l,tb,hk,h,hl,ht,hf=>by
  show kD (yF fu (nQ fu) l tb) _
  unfold yF
  have hC:CB (k+1)=1200+18 * CB k:=rfl
  have hC3:CB k≤411600:=by
   obtain _ | _ | _ | _ | k:=k
   · simp only [CB];decide
   · simp only [CB];decide
   · simp only [CB];decide
   · simp only [CB];decide
   · omega
  have hB:∀ {m:List jO} {u:ByteArray},(m.length≤9∧∀ y ∈ m,GS k y)→u.size=tb.size+1→kD (nQ fu m u) (fun r=>r.size≤9 * CB k):=fun hm hu=>(MO (by omega) hm.2 (by omega) (by omega) (by omega)).imp fun r hr=>Nat.le_trans hr (Nat.mul_le_mul_right _ hm.1)
  have hL:∀ (l:List jO) (i:Nat) (s:ByteArray),(∀ y ∈ l,GS (k+1) y)→s.size+l.length * CB (k+1)≤500000000→kD (lD fu (nQ fu) tb l i s) (oI (fun r=>r.size≤s.size+l.length * CB (k+1)) (fun _=>False)):=by
   intro l
   induction l with
   | nil=>intro i s _ hs;exact .go (by simp only [List.length_nil];omega)
   | cons x l ih=>
     intro i s hy hs
     rw [List.length_cons,Nat.succ_mul] at hs ⊢
     have hx:=hy x (List.mem_cons_self ..)
     have go:∀ g:ByteArray,g.size≤s.size+CB (k+1)→kD (lD fu (nQ fu) tb l (i+1) g) (oI (fun r=>r.size≤s.size+(l.length * CB (k+1)+CB (k+1))) (fun _=>False)):=fun g hg=>(ih (i+1) g (fun y hy'=>hy y (List.mem_cons_of_mem _ hy')) (by omega)).imp fun v hv=>by
       cases v with
       | go r=>exact Nat.le_trans (show r.size≤_ from hv) (by omega)
       | out o=>exact hv
     have hv:kD (pJ fu x) (fun r=>r.size≤878):=Rk (by omega) hx
     obtain ⟨⟨a1,a2,a3,a4,a5⟩,hx2,hx3,hx4,hx5⟩:=hx
     rw [lD]
     have hJ1:kD (wU fu (nQ fu) x) (oI (fun s=>s.size≤219) (fun _=>False)):=by
       unfold wU
       exact .ite (fun _=>.bd (.ix (by decide) (by omega)) fun y hy=>.bd (Nk (by omega) (hx2.2 y (List.mem_of_getElem? hy))) fun s hs=>.cl 3 rfl (by omega) fun g e=>.go (by omega)) fun _=>.go (Nat.zero_le _)
     refine .BI hJ1 fun tg htg=>.ite (fun _=>?_) fun _=>?_
     · have hJ2:kD (xu fu (nQ fu) x) (oI (fun s=>s.size≤4) (fun _=>False)):=by
         unfold xu
         exact .ite (fun _=>.go (by decide)) fun _=>.go a2
       have hJ3:∀ u:ByteArray,u.size≤4→kD (wI fu (nQ fu) x u) (oI (fun s=>s.size≤8) (fun _=>False)):=by
         intro u hu
         unfold wI
         exact .ite (fun _=>.bd (Br (d:=1) a4 (by omega) (by decide) (by decide) (by omega)) fun s hs=>.cr 4 rfl (by omega) fun g e=>.cl 1 rfl (by omega) fun g2 e2=>.go (by omega)) fun _=>.go (by omega)
       refine .BI hJ2 fun u hu=>.BI (hJ3 u hu) fun ty hty=>?_
       exact .cv (by omega) fun g1 e1=>.cl 4 rfl (by omega) fun g2 e2=>.cv (by omega) fun g3 e3=>.cl 2 rfl (by omega) fun g4 e4=>.cv (by omega) fun g5 e5=>.cl 2 rfl (by omega) fun g6 e6=>go g6 (by omega)
     have hJ4:kD (wL fu (nQ fu) x) (oI (fun _=>True) (fun _=>False)):=by
       unfold wL
       exact .ite (fun _=>.go trivial) fun _=>.go trivial
     refine .BI hJ4 fun b _=>.ite (fun _=>?_) fun _=>.ite (fun _=>?_) fun _=>.ite (fun _=>?_) fun _=>.ite (fun _=>?_) fun _=>.ite (fun _=>?_) fun _=>.ite (fun _=>?_) fun _=>.ite (fun _=>?_) fun _=>go s (by omega)
     · exact .cv (by omega) fun g1 e1=>.cv (by omega) fun g2 e2=>.bd hv fun v k1=>.cv (by omega) fun g3 e3=>.cl 2 rfl (by omega) fun g4 e4=>go g4 (by omega)
     · exact .cv (by omega) fun g1 e1=>.cl 7 rfl (by omega) fun g2 e2=>.bd hv fun v k1=>.cv (by omega) fun g3 e3=>.cl 2 rfl (by omega) fun g4 e4=>go g4 (by omega)
     · exact .cv (by omega) fun g1 e1=>.cl 6 rfl (by omega) fun g2 e2=>.bd hv fun v k1=>.cv (by omega) fun g3 e3=>.cl 2 rfl (by omega) fun g4 e4=>go g4 (by omega)
     · exact .cv (by omega) fun g1 e1=>.cl 6 rfl (by omega) fun g2 e2=>.bd hv fun v k1=>.cv (by omega) fun g3 e3=>.cl 2 rfl (by omega) fun g4 e4=>go g4 (by omega)
     · refine .cv (by omega) fun g1 e1=>.cl 3 rfl (by omega) fun g2 e2=>.cl 1 rfl (by omega) fun t1 t2=>.bd hv fun v k1=>.cv (by omega) fun g3 e3=>.cl 3 rfl (by omega) fun g4 e4=>.bd (hB hx4 t2) fun b1 k2=>.cv (by omega) fun g5 e5=>.ite (fun _=>?_) fun _=>?_
       · exact .cv (by omega) fun g6 e6=>.cl 9 rfl (by omega) fun g7 e7=>.cl 1 rfl (by omega) fun t3 t4=>.bd (hB hx5 t4) fun b2 k3=>.cv (by omega) fun g8 e8=>.cv (by omega) fun g9 e9=>.cl 2 rfl (by omega) fun g10 e10=>go g10 (by omega)
       · exact .cv (by omega) fun g6 e6=>.cl 2 rfl (by omega) fun g10 e10=>go g10 (by omega)
     · exact .cv (by omega) fun g1 e1=>.cl 6 rfl (by omega) fun g2 e2=>.cl 1 rfl (by omega) fun t1 t2=>.bd hv fun v k1=>.cv (by omega) fun g3 e3=>.cl 3 rfl (by omega) fun g4 e4=>.bd (hB hx4 t2) fun b1 k2=>.cv (by omega) fun g5 e5=>.cv (by omega) fun g6 e6=>.cl 2 rfl (by omega) fun g10 e10=>go g10 (by omega)
     · exact .cv (by omega) fun g1 e1=>.cl 6 rfl (by omega) fun g2 e2=>.cl 1 rfl (by omega) fun t1 t2=>.cl 1 rfl (by omega) fun t3 t4=>.bd (hB hx4 t2) fun b1 k2=>.cv (by omega) fun g5 e5=>.cv (by omega) fun g6 e6=>.cl 8 rfl (by omega) fun g7 e7=>.cv (by omega) fun g8 e8=>.cl 3 rfl (by omega) fun g9 e9=>.bd (hB hx5 t4) fun b2 k3=>.cv (by omega) fun g10 e10=>.cv (by omega) fun g11 e11=>.cl 2 rfl (by omega) fun g12 e12=>go g12 (by omega)
  have hlen:l.length * CB (k+1)≤22 * CB (k+1):=Nat.mul_le_mul_right _ hl
  have h0:(⟨#[]⟩:ByteArray).size=0:=rfl
  refine .el (hL l 0 _ h (by omega)) (fun s hs=>.mk (by omega)) fun _ z=>z.elim
theorem FL {fu:Nat} (hf:50≤fu) {B:Nat} (hB:B=163100000) {O:ByteArray→Prop}:∀ (l:List nK) (k:Nat) (s:ByteArray),(∀ f ∈ l,GF f)→s.size+l.length * B≤700000000→kD (qM fu l k s) (oI (fun r=>r.size≤s.size+l.length * B) O)
 | [],k,s,h,hs=>.go (Nat.le_add_right _ _)
 | x :: l,k,s,h,hs=>by
  rw [qM]
  rw [List.length_cons,Nat.succ_mul] at hs ⊢
  obtain ⟨a1,a2,a3⟩:=h x (List.mem_cons_self ..)
  have h9:(⟨#[9]⟩:ByteArray).size=1:=rfl
  refine .cl 5 rfl (by omega) fun g1 e1=>.cv (by omega) fun g2 e2=>.cl 1 rfl (by omega) fun g3 e3=>.bd (M7 a2) fun w hw=>.cv (by omega) fun g4 e4=>.cl 4 rfl (by omega) fun g5 e5=>.bd (MO (k:=4) (by decide) a3.2 a3.1 (by omega) (by omega)) fun b hb=>?_
  have hb2:b.size≤22 * CB 4:=Nat.le_trans hb (Nat.mul_le_mul_right _ a3.1)
  have hc4:CB 4=7410000:=by simp only [CB]
  refine .cv (by omega) fun g6 e6=>.cl 2 rfl (by omega) fun g7 e7=>?_
  exact (FL hf hB l (k+1) g7 (fun y hy=>h y (List.mem_cons_of_mem _ hy)) (by omega)).imp fun v hv=>by
   cases v with
   | go r=>exact Nat.le_trans (show r.size≤_ from hv) (by omega)
   | out o=>exact hv
theorem Sb {fu:Nat} (hf:50≤fu) {p:jW} (h:GPr p):kD (yR fu p) (fun s=>s.size≤700000000):=by
 unfold yR
 have h0:(⟨#[]⟩:ByteArray).size=0:=rfl
 rw [h.recs]
 have hR:kD (pz fu [⟨⟨#[80]⟩,[⟨#[120]⟩,⟨#[121]⟩]⟩] 0 ⟨#[]⟩) (oI (fun s=>s.size≤100) (fun _=>False)):=by
  rw [pz]
  have h1:(⟨⟨#[80]⟩,[⟨#[120]⟩,⟨#[121]⟩]⟩:nk).b.size=1:=rfl
  refine .cl 7 rfl (by omega) fun g1 e1=>.cv (by omega) fun g2 e2=>.cl 3 rfl (by omega) fun g3 e3=>.bd (M7 ⟨by decide,IQ⟩) fun w hw=>.cv (by omega) fun g4 e4=>.cl 3 rfl (by omega) fun g5 e5=>?_
  rw [pz]
  exact .go (by omega)
 have hl:=h.e.2
 have hl2:p.b.length * 163100000≤4 * 163100000:=Nat.mul_le_mul_right _ hl
 refine .el hR (fun s hs=>?_) fun _ z=>z.elim
 exact .el (FL hf rfl p.b 0 s h.el (O:=fun _=>False) (by omega)) (fun s hs=>.mk (by omega)) fun _ z=>z.elim
end Go.Proofs.Ytfglbdkfnphjgaa
set_option linter.unusedVariables false
set_option maxHeartbeats 12800000
set_option linter.unusedSimpArgs false
set_option maxRecDepth 4000
namespace Go.Proofs.Ytfglbdkfnphjgaa
open Go.RowKit Go.Fw
noncomputable section
def Kz (m:(List Int)→Option (BA)):Prop:=∀ {c:World} {f:Nat→Prop} {d:(List Int)} {a:Option Addr} {b:Nat} {e:BA},Pre c f [] [.l a b d]→m d=some e→
 Calls Try.prog 26 #[Z a d b] c (qQ fun v w=>v=T e∧Bx c w f (lS []) [] [])
def zI (fu:Nat)(c:(List Int)):Option (BA):=
 (vg fu c).bind fun a=>
 (yR fu a).bind fun b=>
 some b
theorem JZ (fu:Nat):Kz (zI fu):=by
 intro u A o b c v k d
 unfold zI at d
 have a:=k.bx
 clear k
 generalize w:lS _=G at a ⊢
 refine cf Try.func26 r ?_
 refine lM [(0,Z b o c)] ⟨r,y⟩ fun B=>?_
 refine q (g (s (mD r) (n (q (g (s (nL r) ?_))))))
 obtain ⟨l,p,d⟩:=bs d
 have hc:=(EX fu) (a.pr [] [] [0] r)  p
 refine sc (ec XE r) hc ?_
 rintro _ x ⟨e,f,h,i,rfl,j⟩
 replace a:=a.cl [] [] r j r
 try dsimp only [pick,nth,ca,na] at a
 obtain ⟨m,t,d⟩:=bs d
 have hc:=(IW fu) (a.pr [] [] [0,1] r)  t
 refine sc (ec WZ r) hc ?_
 rintro _ z ⟨rfl,j⟩
 replace a:=a.cl [] [] r j r
 try dsimp only [pick,nth,ca,na] at a
 refine s (mD r) (n (kU ?_))
 obtain rfl:=sm d
 refine jB r (lq r) ?_
 exact ⟨r,(a.dp [])⟩
def F9 (m:(List kV)→Option (Bool)):Prop:=∀ {c:World} {f:Nat→Prop} {d:(List kV)} {a:Option Addr} {b:Nat} {e:Bool},Pre c f [] [.l a b d]→m d=some e→
 Calls Try.prog 23 #[Z a d b] c (qQ fun v w=>v=.bool e∧Bx c w f (lS []) [] [])
def p8 (fu:Nat):List Bool→Nat→Option (Ld (Unit) (Bool))
 | [],_=>some (.go ())
 | a :: b,c=>
 if (!a)=true then
  some (.out false)
 else
  p8 fu b (c+1)
def pW (fu:Nat):List rP→Nat→Option (Ld (Unit) (Bool))
 | [],_=>some (.go ())
 | a :: b,c=>
 (p8 fu a.b 0).bind fun d=>d.el (fun _=>
 pW fu b (c+1)
 ) (fun o=>some (.out o))
def pX (fu:Nat):List pK→Nat→Option (Ld (Unit) (Bool))
 | [],_=>some (.go ())
 | a :: b,c=>
 (pW fu a.b 0).bind fun d=>d.el (fun _=>
 pX fu b (c+1)
 ) (fun o=>some (.out o))
def p9 (fu:Nat):List kV→Nat→Option (Ld (Unit) (Bool))
 | [],_=>some (.go ())
 | a :: b,c=>
 (pX fu a.a 0).bind fun d=>d.el (fun _=>
 p9 fu b (c+1)
 ) (fun o=>some (.out o))
def wC (fu:Nat)(a:(List kV)):Option (Bool):=
 (p9 fu a 0).bind fun b=>b.el (fun _=>
 some true
 ) (fun o=>some o)
theorem Gu (fu:Nat):F9 (wC fu):=by
 intro Q aW t b c r0 hP N
 unfold wC at N
 have a:=hP.bx
 clear hP
 generalize hG:lS _=G at a ⊢
 refine cf Try.func23 r ?_
 refine lM [(0,Z b t c)] ⟨r,y⟩ fun aX=>?_
 refine q (g (s (ko r) (n (q (q (g (s (nL r) (s (lF Kk r) (s (mi r) (n ?_))))))))))
 have aw:=(a.dl 0 r).bd
 obtain ⟨Y1,x,N⟩:=bs N
 refine nT (fun f w=>Has f []∧Bx Q w aW G [] [.l b c t]∧Ld.go ()=Y1) (fun J1 aa=>?_) ?_
 ·refine nS (kE (fun aY f w=>∃ (I:Nat),aY=t.length - I∧I≤t.length∧Has f [(13,V (I:Int)),(11,Z b t c),(12,V (t.length:Int))]∧Bx Q w aW G [] [.l b c t]∧p9 fu (t.drop I) I=some Y1) (t.length) ⟨0,r,Nat.zero_le _,⟨r,r,r,y⟩,a,x⟩ ?_)
  clear a x
  rintro aY f w ⟨I,rfl,ax,hf,a,x⟩ K1 ab
  obtain ⟨aX,rfl⟩:=fV _ _ hf
  clear hf
  rcases Nat.lt_or_ge I t.length with a0 | a0
  ·obtain ⟨B,S⟩:=lY (l:=t) a0
   rw [lK S,p9] at x
   obtain ⟨ay,ac,a⟩:=a.nm 0 rfl S
   obtain ⟨e,j,rfl,a1⟩:=kV.out ac
   replace a:=a.kr (d:=.l e j B.a) a1
   refine q (g (s (qz r r (by omega)) (n (q (jJ r (wk (q (nS (q (g (s (kW Kk CJ r r r (a.dl 2 r) S) (s (mR [Z e B.a j] Vz r CJ r r (a.dc 1 r)) (nM (nD a (jU CJ)) ?_)))))))))))))
   rintro _ w3 ⟨b3,rfl,a⟩
   refine kZ (tb a 0 [Z e B.a j] r CJ r r r r r (show _=#[Z e B.a j] from r)) ?_
   intro w4 a
   try dsimp only [List.set] at a
   refine n (q (g (s (Le r) (s (l48 r (a.bk 0 r) r) (s (lF GZ r) (s (mi r) (n ?_)))))))
   have az:=(a.dl 0 r).bd
   obtain ⟨Y5,z,x⟩:=bs x
   refine nT (fun f w=>Has f [(11,Z b t c),(12,V (t.length:Int)),(13,V (I:Int))]∧Bx Q w aW G [] [.l e j B.a,.l b c t]∧Ld.go ()=Y5) (fun J5 ae=>?_) ?_
   ·refine nS (kE (fun aY f w=>∃ (J:Nat),aY=B.a.length - J∧J≤B.a.length∧Has f [(20,V (J:Int)),(11,Z b t c),(12,V (t.length:Int)),(13,V (I:Int)),(18,Z e B.a j),(19,V (B.a.length:Int))]∧Bx Q w aW G [] [.l e j B.a,.l b c t]∧pX fu (B.a.drop J) J=some Y5) (B.a.length) ⟨0,r,Nat.zero_le _,⟨r,r,r,r,r,r,y⟩,(a.ad [] [0,2]),z⟩ ?_)
    clear a z
    rintro aY f w ⟨J,rfl,aA,hf,a,z⟩ K5 af
    obtain ⟨aX,rfl⟩:=fV _ _ hf
    clear hf
    rcases Nat.lt_or_ge J B.a.length with a2 | a2
    ·obtain ⟨C,U⟩:=lY (l:=B.a) a2
     rw [lK U,pX] at z
     obtain ⟨aB,ag,a⟩:=a.nm 0 rfl U
     obtain ⟨m,o,rfl,a3⟩:=pK.out ag
     replace a:=a.kr (d:=.l m o C.b) a3
     refine q (g (s (qz r r (by omega)) (n (q (jJ r (wk (q (nS (q (g (s (kW GZ Ba r r r (a.dl 2 r) U) (s (mR [V C.k,V C.a,Z m C.b o] U0 r Ba r r (a.dc 1 r)) (nM (nD a (jU Ba)) ?_)))))))))))))
     rintro _ w7 ⟨b7,rfl,a⟩
     refine kZ (tb a 0 [V C.k,V C.a,Z m C.b o] r Ba r r r r r (show _=#[V C.k,V C.a,Z m C.b o] from r)) ?_
     intro w8 a
     try dsimp only [List.set] at a
     refine n (q (g (s (Ec r) (s (WR r (a.bk 0 r) r) (s (lF Fb r) (s (mi r) (n ?_)))))))
     have aC:=(a.dl 0 r).bd
     obtain ⟨Y9,A,z⟩:=bs z
     refine nT (fun f w=>Has f [(11,Z b t c),(12,V (t.length:Int)),(13,V (I:Int)),(18,Z e B.a j),(19,V (B.a.length:Int)),(20,V (J:Int))]∧Bx Q w aW G [] [.l m o C.b,.l e j B.a,.l b c t]∧Ld.go ()=Y9) (fun J9 ah=>?_) ?_
     ·refine nS (kE (fun aY f w=>∃ (K:Nat),aY=C.b.length - K∧K≤C.b.length∧Has f [(27,V (K:Int)),(11,Z b t c),(12,V (t.length:Int)),(13,V (I:Int)),(18,Z e B.a j),(19,V (B.a.length:Int)),(20,V (J:Int)),(25,Z m C.b o),(26,V (C.b.length:Int))]∧Bx Q w aW G [] [.l m o C.b,.l e j B.a,.l b c t]∧pW fu (C.b.drop K) K=some Y9) (C.b.length) ⟨0,r,Nat.zero_le _,⟨r,r,r,r,r,r,r,r,r,y⟩,(a.ad [] [0,2,3]),A⟩ ?_)
      clear a A
      rintro aY f w ⟨K,rfl,aD,hf,a,A⟩ K9 ai
      obtain ⟨aX,rfl⟩:=fV _ _ hf
      clear hf
      rcases Nat.lt_or_ge K C.b.length with a4 | a4
      ·obtain ⟨F,W⟩:=lY (l:=C.b) a4
       rw [lK W,pW] at A
       obtain ⟨ar,a5,a⟩:=a.nm 0 rfl W
       obtain ⟨u,v,D,E,rfl,X,Y⟩:=rP.out a5
       replace a:=a.kr (d:=.l u v F.b) X
       replace a:=a.kr (d:=.l D E F.a) Y
       refine q (g (s (qz r r (by omega)) (n (q (jJ r (wk (q (nS (q (g (s (kW Fb Gf r r r (a.dl 3 r) W) (s (mR [V F.g,Z u F.b v,Z D F.a E] Z5 r Gf r r (a.dc 2 r)) (nM (nD a (jU Gf)) ?_)))))))))))))
       rintro _ aE ⟨aF,rfl,a⟩
       refine kZ (tb a 0 [V F.g,Z u F.b v,Z D F.a E] r Gf r r r r r (show _=#[V F.g,Z u F.b v,Z D F.a E] from r)) ?_
       intro aG a
       try dsimp only [List.set] at a
       refine n (q (g (s (TK r) (s (l55 r (a.bk 0 r) r) (s (lF SE r) (s (mi r) (n ?_)))))))
       have au:=(a.dl 1 r).bd
       obtain ⟨a6,p,A⟩:=bs A
       refine nT (fun f w=>Has f [(11,Z b t c),(12,V (t.length:Int)),(13,V (I:Int)),(18,Z e B.a j),(19,V (B.a.length:Int)),(20,V (J:Int)),(25,Z m C.b o),(26,V (C.b.length:Int)),(27,V (K:Int))]∧Bx Q w aW G [] [.l D E F.a,.l u v F.b,.l m o C.b,.l e j B.a,.l b c t]∧Ld.go ()=a6) (fun aH a7=>?_) ?_
       ·refine nS (kE (fun aY f w=>∃ (H:Nat),aY=F.b.length - H∧H≤F.b.length∧Has f [(34,V (H:Int)),(11,Z b t c),(12,V (t.length:Int)),(13,V (I:Int)),(18,Z e B.a j),(19,V (B.a.length:Int)),(20,V (J:Int)),(25,Z m C.b o),(26,V (C.b.length:Int)),(27,V (K:Int)),(32,Z u F.b v),(33,V (F.b.length:Int))]∧Bx Q w aW G [] [.l D E F.a,.l u v F.b,.l m o C.b,.l e j B.a,.l b c t]∧p8 fu (F.b.drop H) H=some a6) (F.b.length) ⟨0,r,Nat.zero_le _,⟨r,r,r,r,r,r,r,r,r,r,r,r,y⟩,(a.ad [] [0,1,3,4,5]),p⟩ ?_)
        clear a p
        rintro aY f w ⟨H,rfl,av,hf,a,p⟩ aI a8
        obtain ⟨aX,rfl⟩:=fV _ _ hf
        clear hf
        rcases Nat.lt_or_ge H F.b.length with R | R
        ·obtain ⟨aj,L⟩:=lY (l:=F.b) R
         rw [lK L,p8] at p
         refine q (g (s (qz r r (by omega)) (n (q (jJ r (wk (q (nS (q (g (s (kW SE LA r r r (a.dl 1 r) L) (s (jP u4_ r r ((uK (ds:=[.bool aj]) (a.dl 1 r) L (fun _ h=>h)) 0 _ r)) (s (ko r) ?_)))))))))))))
         refine n (q (g (s (kQ r) (s (Ae r) (n ?_)))))
         rcases iv p with ⟨M,p⟩|⟨M,p⟩
         ·refine jJ (cb M) (q (g (s (ko r) (n (kU ?_)))))
          obtain rfl:=sm p
          replace A:=oi A
          obtain rfl:=sm A
          replace z:=oi z
          obtain rfl:=sm z
          replace x:=oi x
          obtain rfl:=sm x
          replace N:=oi N
          obtain rfl:=sm N
          refine jB r (lq r) ?_
          exact ⟨r,(a.dp [])⟩
         replace M:=nt M
         refine jD (cb M) (wk (g (s (lU r r (by omega) (by omega)) (s (mi r) (n ?_)))))
         exact a8 (F.b.length - (H+1)) _ _ (by omega) ⟨H+1,r,by omega,⟨r,r,r,r,r,r,r,r,r,r,r,r,y⟩,a,p⟩
        obtain rfl:H=F.b.length:=by omega
        rw [lu,p8] at p
        refine q (g (s (qL r r (by omega)) (n (q (jD r (ug ?_))))))
        exact a7 _ _ ⟨⟨r,r,r,r,r,r,r,r,r,y⟩,a,sm p⟩
       clear a
       rintro f w ⟨hf,a,a9⟩
       obtain ⟨aX,rfl⟩:=fV _ _ hf
       clear hf
       subst a9
       replace A:=gi A
       refine g (s (lU r r (by omega) (by omega)) (s (mi r) (n ?_)))
       exact ai (C.b.length - (K+1)) _ _ (by omega) ⟨K+1,r,by omega,⟨r,r,r,r,r,r,r,r,r,y⟩,(a.dp [2,3,4]),A⟩
      obtain rfl:K=C.b.length:=by omega
      rw [lu,pW] at A
      refine q (g (s (qL r r (by omega)) (n (q (jD r (ug ?_))))))
      exact ah _ _ ⟨⟨r,r,r,r,r,r,y⟩,a,sm A⟩
     clear a
     rintro f w ⟨hf,a,ak⟩
     obtain ⟨aX,rfl⟩:=fV _ _ hf
     clear hf
     subst ak
     replace z:=gi z
     refine g (s (lU r r (by omega) (by omega)) (s (mi r) (n ?_)))
     exact af (B.a.length - (J+1)) _ _ (by omega) ⟨J+1,r,by omega,⟨r,r,r,r,r,r,y⟩,(a.dp [1,2]),z⟩
    obtain rfl:J=B.a.length:=by omega
    rw [lu,pX] at z
    refine q (g (s (qL r r (by omega)) (n (q (jD r (ug ?_))))))
    exact ae _ _ ⟨⟨r,r,r,y⟩,a,sm z⟩
   clear a
   rintro f w ⟨hf,a,al⟩
   obtain ⟨aX,rfl⟩:=fV _ _ hf
   clear hf
   subst al
   replace x:=gi x
   refine g (s (lU r r (by omega) (by omega)) (s (mi r) (n ?_)))
   exact ab (t.length - (I+1)) _ _ (by omega) ⟨I+1,r,by omega,⟨r,r,r,y⟩,(a.dp [1]),x⟩
  obtain rfl:I=t.length:=by omega
  rw [lu,p9] at x
  refine q (g (s (qL r r (by omega)) (n (q (jD r (ug ?_))))))
  exact aa _ _ ⟨y,a,sm x⟩
 clear a
 rintro f w ⟨hf,a,am⟩
 obtain ⟨aX,rfl⟩:=fV _ _ hf
 clear hf
 subst am
 replace N:=gi N
 refine q (g (s (ko r) (n (kU ?_))))
 obtain rfl:=sm N
 refine jB r (lq r) ?_
 exact ⟨r,(a.dp [])⟩
def II (m:Int→Option (Int)):Prop:=∀ {a:World} {d:Nat→Prop} {b:Int}  {c:Int},Pre a d [] []→m b=some c→
 Calls Try.prog 18 #[V b] a (qQ fun v w=>v=V c∧Bx a w d (lS []) [] [])
def yL (fu:Nat)(b:Int):Option (Int):=
 (zm fu b 401).bind fun a=>
 some a
theorem AO (fu:Nat):II (yL fu):=by
 intro i m e j c b
 unfold yL at b
 have a:=c.bx
 clear c
 generalize k:lS _=G at a ⊢
 refine cf Try.func18 r ?_
 refine lM [(0,V e)] ⟨r,y⟩ fun o=>?_
 refine q (g (s (xi r) (n (q (g (s (mi r) ?_))))))
 obtain ⟨d,f,b⟩:=bs b
 have hc:=(EJ fu) (a.pr [] [] [] r)  f
 refine sc (ec SQ r) hc ?_
 rintro _ l ⟨rfl,h⟩
 replace a:=a.cl [] [] r h r
 try dsimp only [pick,nth,ca,na] at a
 refine s (xi r) (n (kU ?_))
 obtain rfl:=sm b
 refine jB r (lq r) ?_
 exact ⟨r,a⟩
def Fh (m:(List Int)→Option (jK × Bool)):Prop:=∀ {p:World} {x:Nat→Prop} {t:(List Int)} {a:Option Addr} {b:Nat} {R:jK × Bool},Pre p x [] [.l a b t]→m t=some R→
 Calls Try.prog 13 #[Z a t b] p (qQ fun v w=>jy R fun o u=>∃ (c:OA)(d:Nat)(e:OA)(f:Nat)(h:OA)(i:Nat)(j:OA)(k:Nat),v=.tuple #[.agg #[Z c o.a.a d,Z e o.a.b f,Z h o.b i,Z j o.c k],.bool u]∧Bx p w x (lS []) [] [.l c d o.a.a,.l e f o.a.b,.l h i o.b,.l j k o.c])
def vk (fu:Nat)(j:(List Int)):Option (jK × Bool):=
 (yN fu j).bind fun c=>
 (zI fu c).bind fun d=>
 (vX fu d).bind fun k=>
 jy k fun e k=>jy k fun i f=>
 if f≠0 then
  some ((⟨(⟨([]:List Gr),([]:List Gn)⟩:jW),([]:List (List Gv)),([]:List Gi)⟩:jK),false)
 else
  (vY fu e).bind fun k=>
  jy k fun a k=>jy k fun h b=>
  some (a,(decide (b=0)))
theorem EW (fu:Nat):Fh (vk fu):=by
 intro w0 ae N x z R I v
 unfold vk at v
 have b:=I.bx
 clear I
 generalize hG:lS _=G at b ⊢
 refine cf Try.func13 r ?_
 refine lM [(0,Z x N z)] ⟨r,y⟩ fun af=>?_
 refine q (g (nM (nD b (jU vR)) ?_))
 rintro _ w1 ⟨b1,rfl,b⟩
 refine s (ko r) (n (q (g (s (nL r) ?_))))
 obtain ⟨J,Q,v⟩:=bs v
 have hc:=(IU fu) (b.pr [] [0] [0] r)  Q
 refine sc (ec Yr r) hc ?_
 rintro _ w2 ⟨B,C,rfl,A⟩
 replace b:=b.cl [] [0] r A r
 try dsimp only [pick,nth,ca,na] at b
 obtain ⟨K,S,v⟩:=bs v
 have hc:=(JZ fu) (b.pr [] [0] [0] r)  S
 refine sc (ec YW r) hc ?_
 rintro _ w3 ⟨rfl,A⟩
 replace b:=b.cl [] [0] r A r
 try dsimp only [pick,nth,ca,na] at b
 obtain ⟨⟨w,L,M⟩,U,v⟩:=bs v
 replace v:=pi v
 replace v:=pi v
 have hc:=(CS fu) (b.pr [] [0] [] r)  U
 refine sc (ec Tq r) hc ?_
 rintro _ w4 ⟨o,p,t,u,rfl,A⟩
 replace b:=b.cl [] [0] r A r
 try dsimp only [pick,nth,ca,na] at b
 refine s sM (s (kg r r) (s (kg r r) (s (kg r r) (nM (nD b (jU sS)) ?_))))
 rintro _ w5 ⟨b5,rfl,b⟩
 refine kZ (tb b 0 [Z o w.a p,Z t w.b u] r sS r r r r r (show _=#[Z o w.a p,Z t w.b u] from r)) ?_
 intro w6 b
 try dsimp only [List.set] at b
 refine s (xi r) (s (xi r) (n (q (q (g (s (mi r) (s (rT r r) (n ?_))))))))
 rcases iv v with ⟨D,v⟩|⟨D,v⟩
 ·refine jJ (bt D) (q (g (s Tg (kZ (tb b 1 [sn,sn,sn,sn] r vR r r r r r (show _=#[sn,sn,sn,sn] from r)) ?_))))
  intro w8 b
  try dsimp only [List.set] at b
  refine s (ko r) (n (kU ?_))
  replace b:=b.kr (d:=.l none 0 ([]:List Gr)) nZ
  replace b:=b.kr (d:=.l none 0 ([]:List Gn)) nZ
  replace b:=b.kr (d:=.l none 0 ([]:List (List Gv))) nZ
  replace b:=b.kr (d:=.l none 0 ([]:List Gi)) nZ
  obtain rfl:=sm v
  refine qd r (tV r CK r vR r (b.bk 1 r)) (lq r) ?_
  exact mJ (⟨none,0,none,0,none,0,none,0,r,(b.ad [] [3,2,1,0])⟩)
 refine jD (bf D) (wk (q (g (s (mR [Z o w.a p,Z t w.b u] Ca r sS r r (Cells.part (b.bk 0 r).cells (o2:=0) r)) ?_))))
 obtain ⟨⟨a,E,F⟩,H,v⟩:=bs v
 replace v:=pi v
 replace v:=pi v
 have hc:=(Dh fu) (b.pr [] [0,1] [0,1] r)  H
 refine sc (ec SY r) hc ?_
 rintro _ X ⟨c,e,f,h,i,j,k,m,rfl,A⟩
 replace b:=b.cl [] [0,1] r A r
 try dsimp only [pick,nth,ca,na] at b
 refine s sM (s (kg r r) (s (kg r r) (s (kg r r) (nM (nD b (jU vR)) ?_))))
 rintro _ Y ⟨a0,rfl,b⟩
 refine kZ (tb b 0 [Z c a.a.a e,Z f a.a.b h,Z i a.b j,Z k a.c m] r vR r r r r r (show _=#[Z c a.a.a e,Z f a.a.b h,Z i a.b j,Z k a.c m] from r)) ?_
 intro a1 b
 try dsimp only [List.set] at b
 refine s (xi r) (s (xi r) (n (q (g (s (mR [Z c a.a.a e,Z f a.a.b h,Z i a.b j,Z k a.c m] CK r vR r r (Cells.part (b.bk 0 r).cells (o2:=0) r)) (s (mi r) (s (kH r r) (kZ (tb b 2 [Z c a.a.a e,Z f a.a.b h,Z i a.b j,Z k a.c m] r vR r r r r r (show _=#[Z c a.a.a e,Z f a.a.b h,Z i a.b j,Z k a.c m] from r)) ?_))))))))
 intro a2 b
 try dsimp only [List.set] at b
 refine s (ko r) (n (kU ?_))
 obtain rfl:=sm v
 refine qd r (tV r CK r vR r (b.bk 2 r)) (lq r) ?_
 exact mJ (⟨c,e,f,h,i,j,k,m,r,(b.ad [] [0,1,2,3])⟩)
end
end Go.Proofs.Ytfglbdkfnphjgaa
set_option linter.unusedVariables false
set_option maxHeartbeats 12800000
set_option linter.unusedSimpArgs false
set_option maxRecDepth 4000
namespace Go.Proofs.Ytfglbdkfnphjgaa
open Go.RowKit Go.Fw
noncomputable section
def Ck (m:jK→Int→Int→Option ((List Int))):Prop:=∀ {t:World} {A:Nat→Prop} {p:jK} {x:Int} {z:Int} {a:Option Addr} {b:Nat} {c:Option Addr} {d:Nat} {e:Option Addr} {f:Nat} {h:Option Addr} {i:Nat} {u:(List Int)},Pre t A [] [.l a b p.a.a,.l c d p.a.b,.l e f p.b,.l h i p.c]→m p x z=some u→
 Calls Try.prog 31 #[.agg #[Z a p.a.a b,Z c p.a.b d,Z e p.b f,Z h p.c i],V x,V z] t (qQ fun v w=>∃ (j:OA)(k:Nat)(o:LV),v=Z j u k∧Bx t w A (lS []) [O t.heap.size j k 3 Int o] [.els o u])
def kN (fu:Nat)(b:Int):List Gv→Nat→(List Int)→Option (Ld (List Int) ((List Int)))
 | [],_,a=>some (.go a)
 | f :: d,c,a=>
 if f.d≤b then
  if b≤f.g then
   (app a ([(c:Int)]:List Int)).bind fun e=>
   kN fu b d (c+1) e
  else
   kN fu b d (c+1) a
 else
  kN fu b d (c+1) a
def jM (fu:Nat)(c:jK) (b:Int)(d:Int):Option ((List Int)):=
 if b < 0 then
  some ([]:List Int)
 else
  if (c.b.length:Int)≤b then
   some ([]:List Int)
  else
   (ix c.b b).bind fun e=>
   (kN fu d e 0 ([]:List Int)).bind fun f=>f.el (fun a=>
   some a
   ) (fun o=>some o)
theorem Cb (fu:Nat):Ck (jM fu):=by
 intro S au U x1 W A B C D E F H I r0 hP p
 unfold jM at p
 have e:=hP.bx
 clear hP
 generalize hG:lS _=G at e ⊢
 refine cf Try.func31 r ?_
 refine lM [(0,.agg #[Z A U.a.a B,Z C U.a.b D,Z E U.b F,Z H U.c I]),(1,V x1),(2,V W)] ⟨r,r,r,y⟩ fun av=>?_
 refine q (g (nM (nD e (yY r)) ?_))
 rintro _ w1 ⟨b1,rfl,e⟩
 refine s (mG r) (n (q (q (g (s (mi r) (s (qo r r) (s (kQ r) ?_)))))))
 rcases iv p with ⟨X,p⟩|⟨X,p⟩
 ·rw [decide_eq_true X]
  refine jL r (jL r (jL r (jL r (jL r (s (kG r r) (n (jJ r (q (g (s (mG r) (n (kU ?_))))))))))))
  replace e:=e.Bv Int 3
  obtain rfl:=sm p
  refine jB r (lq r) ?_
  exact ⟨none,0,[],r,(e.ad [0] [0])⟩
 rw [decide_eq_false X]
 refine ku r (s (mi r) (ku r (s (y5 r) (ku r (s (MB r (e.bk 0 r) r) (ku r (s (lF Cn r) (ku r (s (AX r r) (s (jZ r r) (n ?_)))))))))))
 rcases iv p with ⟨Y,p⟩|⟨Y,p⟩
 ·refine jJ (bt Y) (q (g (s (mG r) (n (kU ?_)))))
  replace e:=e.Bv Int 3
  obtain rfl:=sm p
  refine jB r (lq r) ?_
  exact ⟨none,0,[],r,(e.ad [0] [0])⟩
 refine jD (bf Y) (wk (q (g (s (mG r) (n (q (q (g (s (y5 r) (s (MB r (e.bk 0 r) r) (s (mi r) ?_)))))))))))
 obtain ⟨u,z,p⟩:=bs p
 obtain ⟨k6,a0,z⟩:=kR z
 obtain ⟨ab,a1,e⟩:=e.nm 2 rfl z
 obtain ⟨v,x,rfl,N⟩:=a1
 replace e:=e.kr (d:=.l v x u) N
 refine s (kW Cn Dg r r a0 (e.dl 4 r) z) (s (jP zQ r r ((e.dc 1 r) 0 _ r)) (s (lF zQ r) (s (mi r) (n ?_))))
 replace e:=e.Bv Int 3
 have ac:=(e.dl 1 r).bd
 obtain ⟨Y8,m,p⟩:=bs p
 refine nT (fun f w=>∃ (j:List Int) (a:OA)(b:Nat)(c:LV),Has f [(7,Z a j b)]∧Bx S w au G [O S.heap.size a b 3 Int c] [.els c j,.l v x u]∧Ld.go j=Y8) (fun J8 a2=>?_) ?_
 ·refine nS (kE (fun aw f w=>∃ (t:Nat)(j:List Int) (a:OA)(b:Nat)(c:LV),aw=u.length - t∧t≤u.length∧Has f [(25,V (t:Int)),(2,V W),(7,Z a j b),(23,Z v u x),(24,V (u.length:Int))]∧Bx S w au G [O S.heap.size a b 3 Int c] [.els c j,.l v x u]∧kN fu W (u.drop t) t j=some Y8) (u.length) ⟨0,([]:List Int),none,0,[],r,Nat.zero_le _,⟨r,r,r,r,r,y⟩,(e.ad [0] [0,1]),m⟩ ?_)
  clear e m
  rintro aw f w ⟨t,j,a,b,c,rfl,ae,hf,e,m⟩ K8 J
  obtain ⟨av,rfl⟩:=fV _ _ hf
  clear hf
  rcases Nat.lt_or_ge t u.length with Q | Q
  ·obtain ⟨o,K⟩:=lY (l:=u) Q
   rw [lK K,kN] at m
   refine q (g (s (qz r r (by omega)) (n (q (jJ r (wk (q (nS (q (g (s (mi r) (s (kW zQ yU r r r (e.dl 1 r) K) (s (mR [T o.b,V o.e,V o.c,V o.a,.bool o.f,V o.d,V o.g] QE r yU r r (uK (ds:=[T o.b,V o.e,V o.c,V o.a,.bool o.f,V o.d,V o.g]) (e.dl 1 r) K (fun _ h=>h))) ?_)))))))))))))
   refine nM (nD e (jU yU)) ?_
   rintro _ af ⟨ag,rfl,e⟩
   refine s (xi r) (kZ (tb e 0 [T o.b,V o.e,V o.c,V o.a,.bool o.f,V o.d,V o.g] r yU r r r r r (show _=#[T o.b,V o.e,V o.c,V o.a,.bool o.f,V o.d,V o.g] from r)) ?_)
   intro ah e
   try dsimp only [List.set] at e
   refine n (q (g (s (TN r) (s (l3 r (e.bk 0 r) r) (s (mi r) (s (Ii r r) (s (kQ r) ?_)))))))
   rcases iv m with ⟨L,m⟩|⟨L,m⟩
   ·rw [decide_eq_true L]
    refine ku r (s (mi r) (ku r (s (Lj r) (ku r (s (l3 r (e.bk 0 r) r) (ku r (s (Ii r r) (s (kG r r) (n ?_)))))))))
    rcases iv m with ⟨M,m⟩|⟨M,m⟩
    ·refine jJ (bt M) (g (s (nL r) (s (mi r) (nM (jN e [[V (t:Int)]] ([(t:Int)]:List Int) (zF r) r r (by decide) ⟨r,y⟩) ?_))))
     rintro _ ai ⟨aj,rfl,e⟩
     obtain ⟨a3,R,m⟩:=bs m
     refine nM (kL e 2 1 r r sH mP r (by decide) (by decide) (Nat.le_refl _) r r (e.zN 0 0 r r) R) ?_
     rintro _ ak ⟨a4,a5,a6,rfl,e⟩
     refine s (mG r) (n (g (s (lU r r (by omega) (by omega)) (s (mi r) (n ?_)))))
     exact J (u.length - (t+1)) _ _ (by omega) ⟨t+1,a3,a4,a5,a6,r,by omega,⟨r,r,r,r,r,y⟩,(e.ad [2] [1,2]),m⟩
    refine jD (bf M) (wk (g (s (lU r r (by omega) (by omega)) (s (mi r) (n ?_)))))
    exact J (u.length - (t+1)) _ _ (by omega) ⟨t+1,j,a,b,c,r,by omega,⟨r,r,r,r,r,y⟩,(e.arr [1] r),m⟩
   rw [decide_eq_false L]
   refine jL r (jL r (jL r (jL r (s (jZ r r) (n (jD r (wk (g (s (lU r r (by omega) (by omega)) (s (mi r) (n ?_)))))))))))
   exact J (u.length - (t+1)) _ _ (by omega) ⟨t+1,j,a,b,c,r,by omega,⟨r,r,r,r,r,y⟩,(e.arr [1] r),m⟩
  obtain rfl:t=u.length:=by omega
  rw [lu,kN] at m
  refine q (g (s (qL r r (by omega)) (n (q (jD r (ug ?_))))))
  exact a2 _ _ ⟨j,a,b,c,⟨r,y⟩,e,sm m⟩
 clear e
 rintro f w ⟨j,a,b,c,hf,e,a7⟩
 obtain ⟨av,rfl⟩:=fV _ _ hf
 clear hf
 subst a7
 replace p:=gi p
 refine q (g (s (nL r) (s (mG r) (n (kU ?_)))))
 obtain rfl:=sm p
 refine jB r (lq r) ?_
 exact ⟨a,b,c,r,(e.dp [0])⟩
def Ig (m:(List Int)→Option ((List Int))):Prop:=∀ {f:World} {j:Nat→Prop} {h:(List Int)} {a:Option Addr} {b:Nat} {i:(List Int)},Pre f j [] [.l a b h]→m h=some i→
 Calls Try.prog 134 #[Z a h b] f (qQ fun v w=>∃ (c:OA)(d:Nat)(e:LV),v=Z c i d∧Bx f w j (lS []) [O f.heap.size c d 3 Int e] [.els e i])
def Bd (fu:Nat)(a:(List Int)):Option ((List Int)):=
 (app ([]:List Int) a).bind fun b=>
 some b
theorem Jc (fu:Nat):Ig (Bd fu):=by
 intro o x j a c p h d
 unfold Bd at d
 have b:=h.bx
 clear h
 generalize t:lS _=G at b ⊢
 refine cf Try.func134 r ?_
 refine lM [(0,Z a j c)] ⟨r,y⟩ fun z=>?_
 refine q (g (s (mG r) (n (q (q (g (s (nL r) (s (U4 sH r r) (n ?_)))))))))
 rcases Classical.em (a=none) with f | f
 ·refine jJ (bt f) (q (g (s (mG r) (n (kU ?_)))))
  replace b:=b.Bv Int 3
  have hz:=(b.dl 1 r).VB f
  subst hz
  obtain ⟨i,e,d⟩:=bs d
  obtain rfl:=sm d
  obtain rfl:i=[]:=(BF e).2.symm
  refine jB r (lq r) ?_
  exact ⟨none,0,[],r,(b.dp [0])⟩
 refine jD (bf f) (wk (q (g (nM (jN b [] ([]:List Int) (FK) r r (by decide) y) ?_))))
 rintro _ u ⟨v,rfl,b⟩
 refine s (nL r) ?_
 obtain ⟨i,e,d⟩:=bs d
 refine nM (kL b 0 0 r r sH mP r (by decide) (by decide) (Nat.le_refl _) r r (b.ysD 1 r) e) ?_
 rintro _ w ⟨k,l,m,rfl,b⟩
 refine s (mG r) (n (kU ?_))
 obtain rfl:=sm d
 refine jB r (lq r) ?_
 exact ⟨k,l,m,r,(b.dp [0])⟩
end
end Go.Proofs.Ytfglbdkfnphjgaa
set_option linter.unusedVariables false
set_option linter.unusedSimpArgs false
namespace Go.Proofs.Ytfglbdkfnphjgaa
open Go.RowKit Go.Fw
def Fa (i:Int):List jV→Nat→List Int
 | [],_=>[]
 | x :: r,k=>if x.d≤i∧i≤x.g then (k:Int) :: Fa i r (k+1) else Fa i r (k+1)
theorem KW {i:Int}:∀ (r:List jV) (k:Nat),(Fa i r k).length≤r.length
 | [],_=>Nat.le_refl _
 | x :: r,k=>by
  have h:=KW (i:=i) r (k+1)
  unfold Fa
  split
  · exact Nat.succ_le_succ h
  · exact Nat.le_succ_of_le h
theorem KZ {i q:Int}:∀ (r:List jV) (k:Nat),q ∈ Fa i r k→∃ (j:Nat) (x:jV),q=((k+j:Nat):Int)∧r[j]?=some x∧x.d≤i∧i≤x.g
 | [],_,h=>by cases h
 | x :: r,k,h=>by
  unfold Fa at h
  have go:q ∈ Fa i r (k+1)→∃ (j:Nat) (y:jV),q=((k+j:Nat):Int)∧(x :: r)[j]?=some y∧y.d≤i∧i≤y.g:=fun h=>by
    obtain ⟨j,y,h1,h2,h3⟩:=KZ r (k+1) h
    exact ⟨j+1,y,by omega,h2,h3⟩
  by_cases c:x.d≤i∧i≤x.g
  · rw [if_pos c] at h
    rcases List.mem_cons.1 h with h | h
    · exact ⟨0,x,h,rfl,c⟩
    · exact go h
  · rw [if_neg c] at h
    exact go h
theorem CR {fu:Nat} {i:Int}:∀ (r:List jV) (k:Nat) (acc:List Int),acc.length+r.length≤1000000000→kN fu i r k acc=some (.go (acc ++ Fa i r k))
 | [],k,acc,_=>by rw [kN,Fa,List.append_nil]
 | x :: r,k,acc,h=>by
  rw [List.length_cons] at h
  rw [kN,Fa]
  by_cases c1:x.d≤i
  · by_cases c2:i≤x.g
    · rw [if_pos c1,if_pos c2,if_pos ⟨c1,c2⟩]
      have:app acc [((k:Nat):Int)]=some (acc ++ [((k:Nat):Int)]):=if_pos (by simp only [List.length_cons,List.length_nil];omega)
      rw [this]
      show kN fu i r (k+1) (acc ++ [((k:Nat):Int)])=_
      rw [CR r (k+1) _ (by simp only [List.length_append,List.length_cons,List.length_nil];omega),List.append_assoc]
      rfl
    · rw [if_pos c1,if_neg c2,if_neg fun z=>c2 z.2]
      exact CR r (k+1) acc (by omega)
  · rw [if_neg c1,if_neg fun z=>c1 z.1]
    exact CR r (k+1) acc (by omega)
def BJ (s:jK) (f i:Int):List Int:=if f < 0 then [] else match s.b[f.toNat]? with
 | none=>[]
 | some V=>Fa i V 0
theorem HV {fu:Nat} {s:jK} {f i:Int} (h:∀ V ∈ s.b,V.length≤24):jM fu s f i=some (BJ s f i):=by
 unfold jM BJ
 by_cases c:f < 0
 · rw [if_pos c,if_pos c]
 rw [if_neg c,if_neg c]
 by_cases d:(s.b.length:Int)≤f
 · rw [if_pos d,List.getElem?_eq_none (by omega)]
 rw [if_neg d]
 obtain ⟨V,hV⟩:=lY (l:=s.b) (k:=f.toNat) (by omega)
 have:ix s.b f=some V:=by
   unfold Go.Fw.ix
   rw [if_neg (by omega),hV]
 rw [this,hV]
 show (kN fu i V 0 []).bind _=_
 rw [CR V 0 [] (by have:=h V (List.mem_of_getElem? hV);rw [List.length_nil];omega),List.nil_append]
 rfl
theorem KG {s:jK} {f i:Int} {j:Nat} {q:Int} (h:(BJ s f i)[j]?=some q):0≤f∧f < s.b.length∧∃ V x,s.b[f.toNat]?=some V∧0≤q∧q < V.length∧V[q.toNat]?=some x∧x.d≤i∧i≤x.g:=by
 unfold BJ at h
 by_cases c:f < 0
 · rw [if_pos c] at h;cases h
 rw [if_neg c] at h
 cases hV:s.b[f.toNat]? with
 | none=>rw [hV] at h;cases h
 | some V=>
   rw [hV] at h
   have hl:=kT hV
   obtain ⟨j,x,h1,h2,h3⟩:=KZ V 0 (List.mem_of_getElem? h)
   have hx:=kT h2
   exact ⟨by omega,by omega,V,x,rfl,by omega,by omega,by rw [h1];simpa using h2,h3⟩
theorem JL {s:jK} {f i:Int} (h:∀ V ∈ s.b,V.length≤24):(BJ s f i).length≤24:=by
 unfold BJ
 split
 · exact Nat.zero_le _
 · split
   · exact Nat.zero_le _
   · next V hV=>exact Nat.le_trans (KW V 0) (h V (List.mem_of_getElem? hV))
theorem Wv {fu:Nat} (hf:50≤fu) {l:List Int} (hl:l.length≤1000):kD (zI fu l) (fun s=>s.size≤700000000):=by
 unfold zI
 exact .bd (N9 (by omega) hl) fun p hp=>.bd (Sb hf hp) fun s hs=>.mk hs
structure CI (s:jK):Prop where
 vn:∀ V ∈ s.b,V.length≤24
 fx:∀ f ∈ s.a.b,FX f
theorem LZ {fu:Nat} (hf:10100≤fu) {l:List Int}:kD (vk fu l) (fun r=>jy r fun s b=>b=true→CI s):=by
 unfold vk
 refine .bd SG fun l2 h2=>.bd (Wv (by omega) (by omega)) fun t _=>?_
 refine .bp (Sw (by omega)) fun p r hr=>.pp hr fun a e hp=>.ite (fun _=>.mk fun z=>(by cases z)) fun c=>?_
 refine .bp (RN hf (hp (by omega))) fun s r hr=>.pp hr fun a e hs=>.mk fun z=>?_
 have q:=hs (of_decide_eq_true z)
 exact ⟨fun V hV=>(q.1.1.2 V hV).2,q.2⟩
end Go.Proofs.Ytfglbdkfnphjgaa
set_option linter.unusedVariables false
set_option linter.unusedSimpArgs false
namespace Go.Proofs.Ytfglbdkfnphjgaa
open Go.RowKit Go.Fw
abbrev Yes {α:Type} (x:Option α):Prop:=kD x (fun _=>True)
theorem MC {α β:Type} {p:Pn α} {f:α→Option (Pn β)} (h:∀ a,p=.ok a→Yes (f a)):Yes (p.then f):=by
 cases p with
 | ok a=>exact h a rfl
 | _=>exact .mk trivial
theorem Xo {ev:jA→Option (Pn Int)} {ws:List (List Int)} {e:jA} (h:∀ y ∈ e.a,Yes (ev y)):Yes (Q0 ev ws e):=by
 unfold Q0
 cases ix? ws e.g with
 | none=>exact .mk trivial
 | some l=>
  dsimp only
  refine .ite (fun _=>.mk trivial) fun _=>.ite (fun _=>?_) fun _=>.mk trivial
  cases hA:e.a with
  | nil=>exact .mk trivial
  | cons x r=>exact .bd (h x (by rw [hA];exact .head _)) fun p _=>MC fun i _=>.mk trivial
theorem Si:∀ (fu n:Nat) (ws:List (List Int)) (e:jA),zn n e→n≤fu→Yes (CX fu ws e)
 | 0,n,ws,e,h,hn=>by
  obtain rfl:n=0:=by omega
  exact h.elim
 | fu+1,n,ws,e,h,hn=>by
  cases n with
  | zero=>exact h.elim
  | succ n=>
  have ih:∀ y ∈ e.a,Yes (CX fu ws y):=fun y hy=>Si fu n ws y (h.2 y hy) (by omega)
  rw [CX]
  refine .ite (fun _=>.mk trivial) fun _=>.ite (fun _=>.bd (Xo ih) fun p _=>MC fun q _=>.mk trivial) fun _=>?_
  cases hA:e.a with
  | nil=>exact .ite (fun _=>.mk trivial) fun _=>.ite (fun _=>.mk trivial) fun _=>.mk trivial
  | cons x l=>
   rw [hA] at ih
   have hx:=ih x (.head _)
   refine .ite (fun _=>.bd hx fun p _=>MC fun n _=>.mk trivial) fun _=>.ite (fun _=>.bd hx fun p _=>MC fun n _=>.mk trivial) fun _=>.bd hx fun p _=>MC fun n _=>?_
   cases l with
   | nil=>exact .mk trivial
   | cons y r=>exact .bd (ih y (.tail _ (.head _))) fun p _=>MC fun m _=>.mk trivial
theorem Tn {ev:jA→Option (Pn Int)}:∀ (l:List jA) (acc:List Int),(∀ y ∈ l,Yes (ev y))→acc.length+l.length≤1000000000→Yes (Jh ev l acc)
 | [],acc,_,_=>.mk trivial
 | x :: l,acc,h,hn=>by
  rw [List.length_cons] at hn
  rw [Jh]
  exact .bd (h x (.head _)) fun p _=>MC fun n _=>.bd (.app (by simp only [List.length_cons,List.length_nil];omega)) fun r hr=>by
   subst hr
   exact Tn l _ (fun y hy=>h y (.tail _ hy)) (by rw [kI];omega)
section
variable {s:jK}
def Fit (s:jK) (g:tZ):Prop:=0≤g.f∧∃ V,s.b[g.f.toNat]?=some V∧g.ws.map List.length=V.map (fun x=>x.a.toNat)∧∀ x ∈ V,0≤x.a∧x.a≤8
theorem Fit.put {f st st':Int} {ws:List (List Int)} {k:Nat} {l l':List Int} (h:Fit s ⟨f,st,ws⟩) (hk:ws[k]?=some l) (hl:l'.length=l.length):Fit s ⟨f,st',ws.set k l'⟩:=by
 obtain ⟨h0,V,h1,h2,h3⟩:=h
 refine ⟨h0,V,h1,?_,h3⟩
 rw [← h2,List.map_set]
 exact set_self (by rw [List.getElem?_map,hk,hl];rfl)
theorem Fit.word {f st:Int} {ws:List (List Int)} {p:Nat × Nat} {v:Int} (h:Fit s ⟨f,st,ws⟩):Fit s ⟨f,st,setW ws p v⟩:=by
 unfold setW
 cases hk:ws[p.1]? with
 | none=>rw [List.set_eq_of_length_le (List.getElem?_eq_none_iff.1 hk)];exact h
 | some l=>exact h.put hk (by rw [List.length_set,List.getD_eq_getElem?_getD,hk];rfl)
def Ov (ws:List (List Int)) (v:Int):rP:=⟨v,List.replicate (ws.getD v.toNat []).length true,ws.getD v.toNat []⟩
def Ho (s:jK) (g:tZ):pK:=⟨g.f,g.st,(BJ s g.f g.st).map (Ov g.ws)⟩
theorem Pe {ws:List (List Int)}:∀ (l:List Int) (acc:List rP),(∀ v ∈ l,0≤v∧v < ws.length)→acc.length+l.length≤1000000000→QH ws l acc=some (acc ++ l.map (Ov ws))
 | [],acc,_,_=>by rw [QH,List.map_nil,List.append_nil]
 | v :: l,acc,h,hn=>by
  rw [List.length_cons] at hn
  have hv:=h v (.head _)
  obtain ⟨row,hr⟩:=lY (l:=ws) (k:=v.toNat) (by omega)
  have h1:ix? ws v=some row:=by unfold ix?;rw [if_neg (by omega),hr]
  have h2:ws.getD v.toNat []=row:=by rw [List.getD_eq_getElem?_getD,hr];rfl
  rw [QH,h1]
  show (app acc [_]).bind _=_
  unfold Go.Fw.app
  rw [if_pos (by simp only [List.length_cons,List.length_nil];omega)]
  show QH ws l _=_
  rw [Pe l _ (fun y hy=>h y (.tail _ hy)) (by rw [kI];omega),List.map_cons,List.append_assoc]
  unfold Ov
  rw [h2]
  rfl
theorem Fit.vis {g:tZ} (h:Fit s g) {v st:Int} (hv:v ∈ BJ s g.f st):0≤v∧v < g.ws.length:=by
 obtain ⟨h0,V,h1,h2,h3⟩:=h
 obtain ⟨j,hj⟩:=List.getElem?_of_mem hv
 obtain ⟨_,_,V',x,hV',q0,q1,_⟩:=KG hj
 rw [h1] at hV'
 cases hV'
 have:=congrArg List.length h2
 rw [List.length_map,List.length_map] at this
 omega
variable (hv:∀ V ∈ s.b,V.length≤24)
include hv
theorem VE {fu:Nat} {g:tZ} (h:Fit s g):WX (jM fu s) g=some (Ho s g):=by
 unfold WX
 rw [HV hv]
 show (QH g.ws (BJ s g.f g.st) []).bind _=_
 rw [Pe _ _ (fun v h'=>h.vis h') (by have:=JL (f:=g.f) (i:=g.st) hv;simp only [List.length_nil];omega)]
 rfl
theorem OO {fu:Nat}:∀ (l:List tZ) (acc:List pK),(∀ g ∈ l,Fit s g)→acc.length+l.length≤1000000000→TD (jM fu s) l acc=some (acc ++ l.map (Ho s))
 | [],acc,_,_=>by rw [TD,List.map_nil,List.append_nil]
 | g :: l,acc,h,hn=>by
  rw [List.length_cons] at hn
  rw [TD,VE hv (h g (.head _))]
  show (app acc [_]).bind _=_
  unfold Go.Fw.app
  rw [if_pos (by simp only [List.length_cons,List.length_nil];omega)]
  show TD _ l _=_
  rw [OO l _ (fun y hy=>h y (.tail _ hy)) (by rw [kI];omega),List.map_cons,List.append_assoc]
  rfl
omit hv in
def SA (s:jK) (rest:List tZ) (S:Sg) (id:Int):Sg:=⟨⟨S.a.f,id,S.a.ws⟩,S.hist ++ [⟨((⟨S.a.f,id,S.a.ws⟩:tZ) :: rest).map (Ho s)⟩],S.out⟩
theorem KU {fu N:Nat} {rest:List tZ} {S:Sg} {id:Int} (h:Fit s S.a) (hr:∀ g ∈ rest,Fit s g) (hn:rest.length≤20) :
   event (jM fu s) N rest S id=if N≤S.hist.length then some (.err 13,S) else some (.ok (),SA s rest S id):=by
 unfold event
 split
 · rfl
 · rw [OO hv _ _ (fun g hg=>by
    rcases List.mem_cons.1 hg with rfl | hg
    · exact h
    · exact hr g hg) (by simp only [List.length_cons,List.length_nil];omega)]
   rfl
end
end Go.Proofs.Ytfglbdkfnphjgaa
