/- The text of a made program: the printer answers, and the text is not long. -/
import Derived.Test.YtfglbdkfnphjgaaZ16
import Derived.Test.YtfglbdkfnphjgaaLd
import Derived.Test.YtfglbdkfnphjgaaZ5
import Derived.Test.YtfglbdkfnphjgaaLa
import Derived.Test.YtfglbdkfnphjgaaLb
import Derived.Test.YtfglbdkfnphjgaaLc
import Derived.Test.YtfglbdkfnphjgaaLg
import Derived.Test.YtfglbdkfnphjgaaZ6
set_option linter.unusedVariables false
set_option linter.unusedSimpArgs false
namespace Go.Fw
open Go.RowKit
theorem kG.cl {α:Type} {P:α→Prop} {s t:ByteArray} {f:ByteArray→Option α} (n:Nat) (h:t.size=n) (hs:s.size+n≤1000000000) (k:∀ r,r.size=s.size+n→kG (f r) P):kG ((Go.Fw.cat s t).bind f) P:=.bd (.cat (by omega)) fun r hr=>k r (by rw [hr,Bw,h])
theorem kG.cv {α:Type} {P:α→Prop} {s t:ByteArray} {f:ByteArray→Option α} (hs:s.size+t.size≤1000000000) (k:∀ r,r.size=s.size+t.size→kG (f r) P):kG ((Go.Fw.cat s t).bind f) P:=.bd (.cat hs) fun r hr=>k r (by rw [hr,Bw])
theorem kG.cr {α:Type} {P:α→Prop} {s t:ByteArray} {f:ByteArray→Option α} (n:Nat) (h:s.size=n) (hs:n+t.size≤1000000000) (k:∀ r,r.size=n+t.size→kG (f r) P):kG ((Go.Fw.cat s t).bind f) P:=.bd (.cat (by omega)) fun r hr=>k r (by rw [hr,Bw,h])
end Go.Fw
namespace Go.Proofs.Ytfglbdkfnphjgaa
open Go.RowKit Go.Fw
def EB:Nat→Nat
 | 0=>6
 | d+1=>2 * EB d+8
theorem EB.lo:∀ d,6≤EB d∧EB d+8≤14 * 2 ^ d
 | 0=>by decide
 | d+1=>by
  have h:=EB.lo d
  have e:EB (d+1)=2 * EB d+8:=rfl
  have:1≤2 ^ d:=Nat.one_le_two_pow
  rw [Nat.pow_succ]
  omega
theorem Ut {fu:Nat} {op:Int}:kG (zu fu op) (fun r=>(1≤r∧r≤6)∧(r=5→4≤op∧op≤5)∧(r < 5→6≤op∧op≤17)):=by
 unfold zu
 have hJ0:kG (yu fu op) (oJ (fun b=>b=true→14≤op∧op≤17) (fun _=>False)):=by
  unfold yu
  refine .ite (fun _=>.go fun _=>by omega) fun _=>.ite (fun _=>.go fun _=>by omega) fun _=>.ite (fun _=>.go fun _=>by omega) fun _=>.go fun z=>by have:=of_decide_eq_true z;omega
 have hJ1:kG (yC fu op) (oJ (fun b=>b=true→11≤op∧op≤13) (fun _=>False)):=by
  unfold yC
  refine .ite (fun _=>.go fun _=>by omega) fun _=>.ite (fun _=>.go fun _=>by omega) fun _=>.go fun z=>by have:=of_decide_eq_true z;omega
 have hJ2:kG (yg fu op) (oJ (fun b=>b=true→6≤op∧op≤7) (fun _=>False)):=by
  unfold yg
  refine .ite (fun _=>.go fun _=>by omega) fun _=>.go fun z=>by have:=of_decide_eq_true z;omega
 refine .el hJ0 (fun b hb=>.ite (fun z=>.mk (by have:=hb z;omega)) fun _=>?_) fun _ z=>z.elim
 refine .el hJ1 (fun b hb=>.ite (fun z=>.mk (by have:=hb z;omega)) fun _=>?_) fun _ z=>z.elim
 refine .el hJ2 (fun b hb=>.ite (fun z=>.mk (by have:=hb z;omega)) fun _=>?_) fun _ z=>z.elim
 refine .ite (fun _=>.mk (by omega)) fun _=>.ite (fun _=>.mk (by omega)) fun _=>.ite (fun _=>.mk (by omega)) fun _=>.ite (fun _=>.mk (by omega)) fun _=>.ite (fun _=>.mk (by omega)) fun _=>.mk (by omega)
theorem RI:∀ x ∈ ([(⟨#[43]⟩:ByteArray),(⟨#[45]⟩:ByteArray),(⟨#[42]⟩:ByteArray),(⟨#[47]⟩:ByteArray),(⟨#[37]⟩:ByteArray),(⟨#[38]⟩:ByteArray),(⟨#[124]⟩:ByteArray),(⟨#[94]⟩:ByteArray),(⟨#[60]⟩:ByteArray),(⟨#[60,61]⟩:ByteArray),(⟨#[61,61]⟩:ByteArray),(⟨#[33,61]⟩:ByteArray)]:List ByteArray),x.size≤2:=by
 intro x hx
 simp only [List.mem_cons,List.not_mem_nil,or_false] at hx
 rcases hx with rfl | rfl | rfl | rfl | rfl | rfl | rfl | rfl | rfl | rfl | rfl | rfl <;> decide
theorem NQ:∀ x ∈ ([(⟨#[45]⟩:ByteArray),(⟨#[33]⟩:ByteArray)]:List ByteArray),x.size≤2:=by
 intro x hx
 simp only [List.mem_cons,List.not_mem_nil,or_false] at hx
 rcases hx with rfl | rfl <;> decide
theorem Pf:∀ {d fu:Nat} {x:jB} {l:Int},GE d x→d≤5→d+19≤fu→kG (oW fu x l) (fun s=>s.size≤EB d)
 | 0,_,_,_,h,_,_=>h.elim
 | d+1,0,_,_,_,_,h=>by omega
 | d+1,fu+1,x,l,h,hd,hf=>by
  show kG (zy fu (oW fu) x l) _
  obtain ⟨⟨h1,h2,h3,h4⟩,h5,h6⟩:=h
  have hE:EB (d+1)=2 * EB d+8:=rfl
  have hlo:=EB.lo d
  have hp:(2:Nat) ^ d≤2 ^ 5:=Nat.pow_le_pow_right (by decide) (by omega)
  have h32:(2:Nat) ^ 5=32:=by decide
  unfold zy
  refine .bd Ut fun r hr=>?_
  have sub:∀ {y:jB} {l:Int},y ∈ x.a→kG (oW fu y l) (fun s=>s.size≤EB d):=fun hy=>Pf (h6 _ hy) (by omega) (by omega)
  have hJ:kG (yA fu (oW fu) x r) (oJ (fun s=>s.size≤2 * EB d+6) (fun _=>False)):=by
   unfold yA
   refine .ite (fun _=>.bd (Br (d:=18) h3 (by omega) (by decide) (by decide) (by omega)) fun s hs=>.go (by omega)) fun _=>?_
   refine .ite (fun _=>.cl 1 rfl (by omega) fun g e1=>.cv (by omega) fun g2 e2=>.go (by omega)) fun _=>?_
   have hJ1:kG (xZ fu (oW fu) x) (oJ (fun b=>b=true→0 < x.a.length) (fun _=>False)):=by
     unfold xZ
     exact .ite (fun _=>.go fun z=>by have:=of_decide_eq_true z;omega) fun _=>.go fun z=>(by cases z)
   refine .BN hJ1 fun b hb=>.ite (fun z=>?_) fun _=>?_
   · have:=hb z
     refine .bd (.ix (by decide) (by omega)) fun y hy=>.cl 1 rfl (by omega) fun g e1=>.bd (sub (List.mem_of_getElem? hy)) fun s hs=>.cv (by omega) fun g2 e2=>.cl 1 rfl (by omega) fun g3 e3=>.go (by omega)
   have hJ2:kG (xW fu (oW fu) x r) (oJ (fun b=>b=true→r=5∧0 < x.a.length) (fun _=>False)):=by
     unfold xW
     exact .ite (fun _=>.go fun z=>by have:=of_decide_eq_true z;omega) fun _=>.go fun z=>(by cases z)
   refine .BN hJ2 fun b hb=>.ite (fun z=>?_) fun _=>?_
   · obtain ⟨q1,q2⟩:=hb z
     have q3:=hr.2.1 q1
     rw [lQ (by omega) (by omega)]
     exact .bd (.ix (by decide) (by omega)) fun y hy=>.bd (.ix (by omega) (by simp only [List.length_cons,List.length_nil];omega)) fun n hn=>.bd (sub (List.mem_of_getElem? hy)) fun s hs=>.cv (by have:=NQ n (List.mem_of_getElem? hn);omega) fun g e=>.go (by have:=NQ n (List.mem_of_getElem? hn);omega)
   refine .ite (fun q1=>.ite (fun q2=>?_) fun _=>.go (by omega)) fun _=>.go (by omega)
   have hJ3:kG (yw fu (oW fu) r) (oJ (fun _=>True) (fun _=>False)):=by
     unfold yw
     exact .ite (fun _=>.go trivial) fun _=>.go trivial
   have q3:=hr.2.2 q1
   refine .BN hJ3 fun lv _=>?_
   rw [lQ (n:=x.e - 6) (by omega) (by omega)]
   refine .bd (.ix (by decide) (by omega)) fun y hy=>.bd (.ix (by decide) (by omega)) fun y' hy'=>.bd (.ix (by omega) (by simp only [List.length_cons,List.length_nil];omega)) fun n hn=>?_
   have hn2:=RI n (List.mem_of_getElem? hn)
   exact .bd (sub (List.mem_of_getElem? hy)) fun s hs=>.cl 1 rfl (by omega) fun g e1=>.cv (by omega) fun g2 e2=>.cl 1 rfl (by omega) fun g3 e3=>.bd (sub (List.mem_of_getElem? hy')) fun s' hs'=>.cv (by omega) fun g4 e4=>.go (by omega)
  refine .el hJ (fun s hs=>?_) fun _ z=>z.elim
  exact .ite (fun _=>.cr 1 rfl (by omega) fun g e1=>.cl 1 rfl (by omega) fun g2 e2=>.mk (by omega)) fun _=>.mk (by omega)
theorem Na {fu:Nat} (hf:30≤fu) {x:jB} {l:Int} (h:GE 4 x):kG (oW fu x l) (fun s=>s.size≤216):=Pf h (by decide) (by omega)
theorem Il {fu:Nat} (hf:30≤fu) {O:ByteArray→Prop}:∀ (l:List jB) (k:Nat) (s:ByteArray),(∀ y ∈ l,GE 4 y)→s.size+l.length * 218≤1000000→kG (rU fu l k s) (oJ (fun r=>r.size≤s.size+l.length * 218) O)
 | [],k,s,h,hs=>.go (by simp only [List.length_nil];omega)
 | x :: l,k,s,h,hs=>by
  rw [rU]
  rw [List.length_cons] at hs ⊢
  have hJ:kG (yt fu s k) (oJ (fun r=>r.size≤s.size+2) O):=by
   unfold yt
   exact .ite (fun _=>.cl 2 rfl (by omega) fun g e=>.go (by omega)) fun _=>.go (by omega)
  refine .BN hJ fun s2 h2=>.bd (Na hf (h x (List.mem_cons_self ..))) fun t ht=>.cv (by omega) fun g e=>?_
  exact (Il hf l (k+1) g (fun y hy=>h y (List.mem_cons_of_mem _ hy)) (by omega)).imp fun v hv=>by
   cases v with
   | go r=>exact Nat.le_trans (show r.size≤_ from hv) (by omega)
   | out o=>exact hv
theorem QJ {fu:Nat} (hf:30≤fu) {l:List jB} (h:l.length≤4∧∀ y ∈ l,GE 4 y):kG (xQ fu l) (fun r=>r.size≤872):=by
 unfold xQ
 have h0:(⟨#[]⟩:ByteArray).size=0:=rfl
 exact .el (Il hf l 0 _ h.2 (O:=fun _=>False) (by omega)) (fun s hs=>.mk (by omega)) fun _ z=>z.elim
theorem Gg {fu:Nat} {O:ByteArray→Prop}:∀ (l:List ByteArray) (k:Nat) (s:ByteArray),(∀ y ∈ l,y.size≤4)→s.size+l.length * 6≤1000000→kG (oF fu l k s) (oJ (fun r=>r.size≤s.size+l.length * 6) O)
 | [],k,s,h,hs=>.go (by simp only [List.length_nil];omega)
 | x :: l,k,s,h,hs=>by
  rw [oF]
  rw [List.length_cons] at hs ⊢
  have hx:=h x (List.mem_cons_self ..)
  have go:∀ g:ByteArray,g.size≤s.size+6→kG (oF fu l (k+1) g) (oJ (fun r=>r.size≤s.size+(l.length+1) * 6) O):=fun g hg=>(Gg l (k+1) g (fun y hy=>h y (List.mem_cons_of_mem _ hy)) (by omega)).imp fun v hv=>by
   cases v with
   | go r=>exact Nat.le_trans (show r.size≤_ from hv) (by omega)
   | out o=>exact hv
  exact .ite (fun _=>.cl 2 rfl (by omega) fun g e=>.cv (by omega) fun g2 e2=>go g2 (by omega)) fun _=>.cv (by omega) fun g2 e2=>go g2 (by omega)
theorem NJ {fu:Nat} {l:List ByteArray} (h:l.length≤4∧∀ y ∈ l,y.size≤4):kG (vT fu l) (fun r=>r.size≤24):=by
 unfold vT
 have h0:(⟨#[]⟩:ByteArray).size=0:=rfl
 exact .el (Gg l 0 _ h.2 (O:=fun _=>False) (by omega)) (fun s hs=>.mk (by omega)) fun _ z=>z.elim
theorem Rz {fu:Nat} (hf:30≤fu) {k:Nat} {x:jD} (h:GS k x):kG (pI fu x) (fun r=>r.size≤878):=by
 obtain _ | k:=k
 · exact h.elim
 unfold pI
 have h1:=h.1.2.2.1
 exact .ite (fun _=>.cl 1 rfl (by omega) fun g e=>.bd (QJ hf h.2.2.1) fun s hs=>.cv (by omega) fun g2 e2=>.cl 1 rfl (by omega) fun g3 e3=>.mk (by omega)) fun _=>.bd (QJ hf h.2.2.1) fun s hs=>.mk (by omega)
def CB:Nat→Nat
 | 0=>0
 | k+1=>1200+18 * CB k
theorem Nf:∀ {k fu:Nat} {l:List jD} {tb:ByteArray},k≤4→(∀ y ∈ l,GS k y)→l.length≤22→tb.size+k≤5→k+40≤fu→kG (nV fu l tb) (fun r=>r.size≤l.length * CB k)
 | _,0,_,_,_,_,_,_,h=>by omega
 | 0,fu+1,l,tb,_,h,_,_,_=>by
  cases l with
  | nil=>exact .mk (Nat.zero_le _)
  | cons x l=>exact (h x (List.mem_cons_self ..)).elim
 | k+1,fu+1,l,tb,hk,h,hl,ht,hf=>by
  show kG (yH fu (nV fu) l tb) _
  unfold yH
  have hC:CB (k+1)=1200+18 * CB k:=rfl
  have hC3:CB k≤411600:=by
   obtain _ | _ | _ | _ | k:=k
   · simp only [CB];decide
   · simp only [CB];decide
   · simp only [CB];decide
   · simp only [CB];decide
   · omega
  have hB:∀ {m:List jD} {u:ByteArray},(m.length≤9∧∀ y ∈ m,GS k y)→u.size=tb.size+1→kG (nV fu m u) (fun r=>r.size≤9 * CB k):=fun hm hu=>(Nf (by omega) hm.2 (by omega) (by omega) (by omega)).imp fun r hr=>Nat.le_trans hr (Nat.mul_le_mul_right _ hm.1)
  have hL:∀ (l:List jD) (i:Nat) (s:ByteArray),(∀ y ∈ l,GS (k+1) y)→s.size+l.length * CB (k+1)≤500000000→kG (lu fu (nV fu) tb l i s) (oJ (fun r=>r.size≤s.size+l.length * CB (k+1)) (fun _=>False)):=by
   intro l
   induction l with
   | nil=>intro i s _ hs;exact .go (by simp only [List.length_nil];omega)
   | cons x l ih=>
     intro i s hy hs
     rw [List.length_cons,Nat.succ_mul] at hs ⊢
     have hx:=hy x (List.mem_cons_self ..)
     have go:∀ g:ByteArray,g.size≤s.size+CB (k+1)→kG (lu fu (nV fu) tb l (i+1) g) (oJ (fun r=>r.size≤s.size+(l.length * CB (k+1)+CB (k+1))) (fun _=>False)):=fun g hg=>(ih (i+1) g (fun y hy'=>hy y (List.mem_cons_of_mem _ hy')) (by omega)).imp fun v hv=>by
       cases v with
       | go r=>exact Nat.le_trans (show r.size≤_ from hv) (by omega)
       | out o=>exact hv
     have hv:kG (pI fu x) (fun r=>r.size≤878):=Rz (by omega) hx
     obtain ⟨⟨a1,a2,a3,a4,a5⟩,hx2,hx3,hx4,hx5⟩:=hx
     rw [lu]
     have hJ1:kG (wL fu (nV fu) x) (oJ (fun s=>s.size≤219) (fun _=>False)):=by
       unfold wL
       exact .ite (fun _=>.bd (.ix (by decide) (by omega)) fun y hy=>.bd (Na (by omega) (hx2.2 y (List.mem_of_getElem? hy))) fun s hs=>.cl 3 rfl (by omega) fun g e=>.go (by omega)) fun _=>.go (Nat.zero_le _)
     refine .BN hJ1 fun tg htg=>.ite (fun _=>?_) fun _=>?_
     · have hJ2:kG (wo fu (nV fu) x) (oJ (fun s=>s.size≤4) (fun _=>False)):=by
         unfold wo
         exact .ite (fun _=>.go (by decide)) fun _=>.go a2
       have hJ3:∀ u:ByteArray,u.size≤4→kG (wz fu (nV fu) x u) (oJ (fun s=>s.size≤8) (fun _=>False)):=by
         intro u hu
         unfold wz
         exact .ite (fun _=>.bd (Br (d:=1) a4 (by omega) (by decide) (by decide) (by omega)) fun s hs=>.cr 4 rfl (by omega) fun g e=>.cl 1 rfl (by omega) fun g2 e2=>.go (by omega)) fun _=>.go (by omega)
       refine .BN hJ2 fun u hu=>.BN (hJ3 u hu) fun ty hty=>?_
       exact .cv (by omega) fun g1 e1=>.cl 4 rfl (by omega) fun g2 e2=>.cv (by omega) fun g3 e3=>.cl 2 rfl (by omega) fun g4 e4=>.cv (by omega) fun g5 e5=>.cl 2 rfl (by omega) fun g6 e6=>go g6 (by omega)
     have hJ4:kG (wm fu (nV fu) x) (oJ (fun _=>True) (fun _=>False)):=by
       unfold wm
       exact .ite (fun _=>.go trivial) fun _=>.go trivial
     refine .BN hJ4 fun b _=>.ite (fun _=>?_) fun _=>.ite (fun _=>?_) fun _=>.ite (fun _=>?_) fun _=>.ite (fun _=>?_) fun _=>.ite (fun _=>?_) fun _=>.ite (fun _=>?_) fun _=>.ite (fun _=>?_) fun _=>go s (by omega)
     · exact .cv (by omega) fun g1 e1=>.cv (by omega) fun g2 e2=>.bd hv fun v k1=>.cv (by omega) fun g3 e3=>.cl 2 rfl (by omega) fun g4 e4=>go g4 (by omega)
     · exact .cv (by omega) fun g1 e1=>.cl 7 rfl (by omega) fun g2 e2=>.bd hv fun v k1=>.cv (by omega) fun g3 e3=>.cl 2 rfl (by omega) fun g4 e4=>go g4 (by omega)
     · exact .cv (by omega) fun g1 e1=>.cl 6 rfl (by omega) fun g2 e2=>.bd hv fun v k1=>.cv (by omega) fun g3 e3=>.cl 2 rfl (by omega) fun g4 e4=>go g4 (by omega)
     · exact .cv (by omega) fun g1 e1=>.cl 6 rfl (by omega) fun g2 e2=>.bd hv fun v k1=>.cv (by omega) fun g3 e3=>.cl 2 rfl (by omega) fun g4 e4=>go g4 (by omega)
     · refine .cv (by omega) fun g1 e1=>.cl 3 rfl (by omega) fun g2 e2=>.cl 1 rfl (by omega) fun t1 t2=>.bd hv fun v k1=>.cv (by omega) fun g3 e3=>.cl 3 rfl (by omega) fun g4 e4=>.bd (hB hx4 t2) fun b1 k2=>.cv (by omega) fun g5 e5=>.ite (fun _=>?_) fun _=>?_
       · exact .cv (by omega) fun g6 e6=>.cl 9 rfl (by omega) fun g7 e7=>.cl 1 rfl (by omega) fun t3 t4=>.bd (hB hx5 t4) fun b2 k3=>.cv (by omega) fun g8 e8=>.cv (by omega) fun g9 e9=>.cl 2 rfl (by omega) fun g10 e10=>go g10 (by omega)
       · exact .cv (by omega) fun g6 e6=>.cl 2 rfl (by omega) fun g10 e10=>go g10 (by omega)
     · exact .cv (by omega) fun g1 e1=>.cl 6 rfl (by omega) fun g2 e2=>.cl 1 rfl (by omega) fun t1 t2=>.bd hv fun v k1=>.cv (by omega) fun g3 e3=>.cl 3 rfl (by omega) fun g4 e4=>.bd (hB hx4 t2) fun b1 k2=>.cv (by omega) fun g5 e5=>.cv (by omega) fun g6 e6=>.cl 2 rfl (by omega) fun g10 e10=>go g10 (by omega)
     · exact .cv (by omega) fun g1 e1=>.cl 6 rfl (by omega) fun g2 e2=>.cl 1 rfl (by omega) fun t1 t2=>.cl 1 rfl (by omega) fun t3 t4=>.bd (hB hx4 t2) fun b1 k2=>.cv (by omega) fun g5 e5=>.cv (by omega) fun g6 e6=>.cl 8 rfl (by omega) fun g7 e7=>.cv (by omega) fun g8 e8=>.cl 3 rfl (by omega) fun g9 e9=>.bd (hB hx5 t4) fun b2 k3=>.cv (by omega) fun g10 e10=>.cv (by omega) fun g11 e11=>.cl 2 rfl (by omega) fun g12 e12=>go g12 (by omega)
  have hlen:l.length * CB (k+1)≤22 * CB (k+1):=Nat.mul_le_mul_right _ hl
  have h0:(⟨#[]⟩:ByteArray).size=0:=rfl
  refine .el (hL l 0 _ h (by omega)) (fun s hs=>.mk (by omega)) fun _ z=>z.elim
theorem Fp {fu:Nat} (hf:50≤fu) {B:Nat} (hB:B=163100000) {O:ByteArray→Prop}:∀ (l:List lI) (k:Nat) (s:ByteArray),(∀ f ∈ l,GF f)→s.size+l.length * B≤700000000→kG (qV fu l k s) (oJ (fun r=>r.size≤s.size+l.length * B) O)
 | [],k,s,h,hs=>.go (Nat.le_add_right _ _)
 | x :: l,k,s,h,hs=>by
  rw [qV]
  rw [List.length_cons,Nat.succ_mul] at hs ⊢
  obtain ⟨a1,a2,a3⟩:=h x (List.mem_cons_self ..)
  have h9:(⟨#[9]⟩:ByteArray).size=1:=rfl
  refine .cl 5 rfl (by omega) fun g1 e1=>.cv (by omega) fun g2 e2=>.cl 1 rfl (by omega) fun g3 e3=>.bd (NJ a2) fun w hw=>.cv (by omega) fun g4 e4=>.cl 4 rfl (by omega) fun g5 e5=>.bd (Nf (k:=4) (by decide) a3.2 a3.1 (by omega) (by omega)) fun b hb=>?_
  have hb2:b.size≤22 * CB 4:=Nat.le_trans hb (Nat.mul_le_mul_right _ a3.1)
  have hc4:CB 4=7410000:=by simp only [CB]
  refine .cv (by omega) fun g6 e6=>.cl 2 rfl (by omega) fun g7 e7=>?_
  exact (Fp hf hB l (k+1) g7 (fun y hy=>h y (List.mem_cons_of_mem _ hy)) (by omega)).imp fun v hv=>by
   cases v with
   | go r=>exact Nat.le_trans (show r.size≤_ from hv) (by omega)
   | out o=>exact hv
theorem R7 {fu:Nat} (hf:50≤fu) {p:jR} (h:ZV p):kG (yF fu p) (fun s=>s.size≤700000000):=by
 unfold yF
 have h0:(⟨#[]⟩:ByteArray).size=0:=rfl
 rw [h.recs]
 have hR:kG (pR fu [⟨⟨#[80]⟩,[⟨#[120]⟩,⟨#[121]⟩]⟩] 0 ⟨#[]⟩) (oJ (fun s=>s.size≤100) (fun _=>False)):=by
  rw [pR]
  have h1:(⟨⟨#[80]⟩,[⟨#[120]⟩,⟨#[121]⟩]⟩:kV).b.size=1:=rfl
  refine .cl 7 rfl (by omega) fun g1 e1=>.cv (by omega) fun g2 e2=>.cl 3 rfl (by omega) fun g3 e3=>.bd (NJ ⟨by decide,IG⟩) fun w hw=>.cv (by omega) fun g4 e4=>.cl 3 rfl (by omega) fun g5 e5=>?_
  rw [pR]
  exact .go (by omega)
 have hl:=h.e.2
 have hl2:p.b.length * 163100000≤4 * 163100000:=Nat.mul_le_mul_right _ hl
 refine .el hR (fun s hs=>?_) fun _ z=>z.elim
 exact .el (Fp hf rfl p.b 0 s h.el (O:=fun _=>False) (by omega)) (fun s hs=>.mk (by omega)) fun _ z=>z.elim
end Go.Proofs.Ytfglbdkfnphjgaa
set_option linter.unusedVariables false
set_option maxHeartbeats 12800000
set_option linter.unusedSimpArgs false
set_option maxRecDepth 4000
namespace Go.Proofs.Ytfglbdkfnphjgaa
open Go.RowKit Go.Fw
noncomputable section
def Ku (m:(List Int)→(List Int)→Option (Bool)):Prop:=∀ {e:World} {j:Nat→Prop} {f:(List Int)} {h:(List Int)} {a:Option Addr} {b:Nat} {c:Option Addr} {d:Nat} {i:Bool},Pre e j [] [.l a b f,.l c d h]→m f h=some i→
 Calls Try.prog 21 #[Z a f b,Z c h d] e (qW fun v w=>v=.bool i∧Bx e w j (lT []) [] [])
def tH (fu:Nat)(b:(List Int)) (c:(List Int)):Nat→Int→Option (Ld (Int) (Bool))
 | 0,_=>none
 | d+1,a=>
 if a < (b.length:Int) then
  (ix b a).bind fun e=>
  (ix c a).bind fun f=>
  if e≠f then
   some (.out false)
  else
   tH fu b c d (wr (a+1))
 else
  some (.go a)
def zB (fu:Nat)(a:(List Int)) (b:(List Int)):Option (Bool):=
 if (a.length:Int)≠(b.length:Int) then
  some false
 else
  (tH fu a b fu 0).bind fun d=>d.el (fun c=>
  some true
  ) (fun o=>some o)
theorem Kc (fu:Nat):Ku (zB fu):=by
 intro H W t u c d e i M I k
 unfold zB at k
 have j:=I.bx
 clear I
 generalize N:lT _=G at j ⊢
 refine cf Try.func21 r ?_
 refine lK [(0,Z c t d),(1,Z e u i)] ⟨r,r,y⟩ fun X=>?_
 refine q (g (s (kC r) (n (q (q (g (s (nC r) (s (lX ug r) (s (nC r) (s (lX ug r) (s (rY r r) (n ?_))))))))))))
 rcases iv k with ⟨v,k⟩|⟨v,k⟩
 ·refine jN (bt v) (q (g (s (kC r) (n (kT ?_)))))
  obtain rfl:=sm k
  refine jI r (lq r) ?_
  exact ⟨r,(j.dp [])⟩
 refine jK (bf v) (wk (q (q (g (s (xi r) (n ?_))))))
 obtain ⟨J,a,k⟩:=bs k
 refine oq (fun f w=>∃ (b:Int),Has f []∧Bx H w W G [] [.l c d t,.l e i u]∧Ld.go b=J) (fun Q x=>?_) ?_
 ·refine oM (kM (fun Y f w=>∃ (b:Int),Has f [(0,Z c t d),(1,Z e u i),(5,V b)]∧Bx H w W G [] [.l c d t,.l e i u]∧tH fu t u Y b=some J) fu ⟨0,⟨r,r,r,y⟩,j,a⟩ ?_)
  clear j a
  rintro z f w ⟨b,hf,j,a⟩ R A
  obtain ⟨X,rfl⟩:=iA _ _ hf
  clear hf
  cases z with
  | zero=>exact nn a
  | succ z=>
   rw [tH] at a
   refine q (q (g (s (mi r) (s (nC r) (s (lX ug r) (s (qo r r) (n ?_)))))))
   rcases iv a with ⟨B,a⟩|⟨B,a⟩
   ·refine jN (bt B) (wk (q (oM (q (pX j [] [0,1] [] (by kernel_rfl) ?_)))))
    replace j:=j.drew
    have m:=j
    refine pF 0 r (nC r) m (pF 1 r (mi r) m ?_)
    obtain ⟨K,o,a⟩:=bs a
    obtain ⟨S,C,o⟩:=kJ o
    refine pF 2 r (kW ug nO r r C (j.dl 0 r) o) m (tU 3 r (fun _ hS=>jT EC r r ((uy (ds:=[V K]) (hS.dl 0 r) o (fun _ h=>h)) 0 _ r)) (sF m) (pF 4 r (nC r) m (pF 5 r (mi r) m ?_)))
    obtain ⟨L,p,a⟩:=bs a
    obtain ⟨U,D,p⟩:=kJ p
    refine pF 6 r (kW ug nO r r D (j.dl 1 r) p) m (tU 7 r (fun _ hS=>jT EC r r ((uy (ds:=[V L]) (hS.dl 1 r) p (fun _ h=>h)) 0 _ r)) (sF m) (pF 8 r (rY r r) m (hD ?_)))
    rcases iv a with ⟨E,a⟩|⟨E,a⟩
    ·refine jN (bt E) (q (g (s (kC r) (n (kT ?_)))))
     obtain rfl:=sm a
     replace k:=oi k
     obtain rfl:=sm k
     refine jI r (lq r) ?_
     exact ⟨r,(j.dp [])⟩
    refine jK (bf E) (wk (g (s (mi r) (s (kE r r) (s (xi r) (n ?_))))))
    exact A z _ _ (Nat.lt_succ_self _) ⟨(wr (b+1)),⟨r,r,r,y⟩,j,a⟩
   refine jK (bf B) (tT ?_)
   exact x _ _ ⟨b,y,j,sm a⟩
 clear j
 rintro f w ⟨b,hf,j,F⟩
 obtain ⟨X,rfl⟩:=iA _ _ hf
 clear hf
 subst F
 replace k:=gi k
 refine q (g (s (kC r) (n (kT ?_))))
 obtain rfl:=sm k
 refine jI r (lq r) ?_
 exact ⟨r,(j.dp [])⟩
end
end Go.Proofs.Ytfglbdkfnphjgaa
set_option linter.unusedVariables false
set_option maxHeartbeats 12800000
set_option linter.unusedSimpArgs false
set_option maxRecDepth 4000
namespace Go.Proofs.Ytfglbdkfnphjgaa
open Go.RowKit Go.Fw
noncomputable section
def KG (m:(List Int)→Option (BA)):Prop:=∀ {c:World} {f:Nat→Prop} {d:(List Int)} {a:Option Addr} {b:Nat} {e:BA},Pre c f [] [.l a b d]→m d=some e→
 Calls Try.prog 26 #[Z a d b] c (qW fun v w=>v=T e∧Bx c w f (lT []) [] [])
def zx (fu:Nat)(c:(List Int)):Option (BA):=
 (vk fu c).bind fun a=>
 (yF fu a).bind fun b=>
 some b
theorem LH (fu:Nat):KG (zx fu):=by
 intro u A o b c v k d
 unfold zx at d
 have a:=k.bx
 clear k
 generalize w:lT _=G at a ⊢
 refine cf Try.func26 r ?_
 refine lK [(0,Z b o c)] ⟨r,y⟩ fun B=>?_
 refine q (g (s (mF r) (n (q (g (s (nC r) ?_))))))
 obtain ⟨l,p,d⟩:=bs d
 have hc:=(E9 fu) (a.pr [] [] [0] r)  p
 refine sc (ec WW r) hc ?_
 rintro _ x ⟨e,f,h,i,rfl,j⟩
 replace a:=a.cl [] [] r j r
 try dsimp only [pick,nth,ca,na] at a
 obtain ⟨m,t,d⟩:=bs d
 have hc:=(Jo fu) (a.pr [] [] [0,1] r)  t
 refine sc (ec Yd r) hc ?_
 rintro _ z ⟨rfl,j⟩
 replace a:=a.cl [] [] r j r
 try dsimp only [pick,nth,ca,na] at a
 refine s (mF r) (n (kT ?_))
 obtain rfl:=sm d
 refine jI r (lq r) ?_
 exact ⟨r,(a.dp [])⟩
def Fv (m:Int→Option (Bool)):Prop:=∀ {a:World} {d:Nat→Prop} {b:Int}  {c:Bool},Pre a d [] []→m b=some c→
 Calls Try.prog 24 #[V b] a (qW fun v w=>v=.bool c∧Bx a w d (lT []) [] [])
def vB (fu:Nat)(a:Int):Option (Bool):=
 if a=1 then
  some true
 else
  if a=2 then
   some true
  else
   some (decide (a=3))
theorem Fy (fu:Nat):Fv (vB fu):=by
 intro h k f i e a
 unfold vB at a
 have b:=e.bx
 clear e
 generalize j:lT _=G at b ⊢
 refine cf Try.func24 r ?_
 refine lK [(0,V f)] ⟨r,y⟩ fun l=>?_
 refine q (g (s (kC r) (n (q (g (s (mi r) (s (kD r r) (s (kL r) ?_))))))))
 rcases iv a with ⟨c,a⟩|⟨c,a⟩
 ·rw [decide_eq_true c]
  refine jC r (jC r (s (kr r r) (s (kL r) (jC r (jC r (s (kr r r) (s (kC r) (n (kT ?_)))))))))
  obtain rfl:=sm a
  refine jI r (lq r) ?_
  exact ⟨r,b⟩
 rw [decide_eq_false c]
 refine kg r (s (mi r) (kg r (s (kD r r) (s (jY r r) (s (kL r) ?_)))))
 rcases iv a with ⟨d,a⟩|⟨d,a⟩
 ·rw [decide_eq_true d]
  refine jC r (jC r (s (kr r r) (s (kC r) (n (kT ?_)))))
  obtain rfl:=sm a
  refine jI r (lq r) ?_
  exact ⟨r,b⟩
 rw [decide_eq_false d]
 refine kg r (s (mi r) (kg r (s (kD r r) (s (jY r r) (s (kC r) (n (kT ?_)))))))
 obtain rfl:=sm a
 refine jI r (lq r) ?_
 exact ⟨r,b⟩
def IV (m:Int→Option (Int)):Prop:=∀ {a:World} {d:Nat→Prop} {b:Int}  {c:Int},Pre a d [] []→m b=some c→
 Calls Try.prog 18 #[V b] a (qW fun v w=>v=V c∧Bx a w d (lT []) [] [])
def yN (fu:Nat)(b:Int):Option (Int):=
 (zi fu b 401).bind fun a=>
 some a
theorem AA (fu:Nat):IV (yN fu):=by
 intro i m e j c b
 unfold yN at b
 have a:=c.bx
 clear c
 generalize k:lT _=G at a ⊢
 refine cf Try.func18 r ?_
 refine lK [(0,V e)] ⟨r,y⟩ fun o=>?_
 refine q (g (s (xi r) (n (q (g (s (mi r) ?_))))))
 obtain ⟨d,f,b⟩:=bs b
 have hc:=(F5 fu) (a.pr [] [] [] r)  f
 refine sc (ec TV r) hc ?_
 rintro _ l ⟨rfl,h⟩
 replace a:=a.cl [] [] r h r
 try dsimp only [pick,nth,ca,na] at a
 refine s (xi r) (n (kT ?_))
 obtain rfl:=sm b
 refine jI r (lq r) ?_
 exact ⟨r,a⟩
def F6 (m:(List Int)→Option (jO × Bool)):Prop:=∀ {p:World} {x:Nat→Prop} {t:(List Int)} {a:Option Addr} {b:Nat} {R:jO × Bool},Pre p x [] [.l a b t]→m t=some R→
 Calls Try.prog 13 #[Z a t b] p (qW fun v w=>jy R fun o u=>∃ (c:OA)(d:Nat)(e:OA)(f:Nat)(h:OA)(i:Nat)(j:OA)(k:Nat),v=.tuple #[.agg #[Z c o.a.a d,Z e o.a.b f,Z h o.c i,Z j o.b k],.bool u]∧Bx p w x (lT []) [] [.l c d o.a.a,.l e f o.a.b,.l h i o.c,.l j k o.b])
def vg (fu:Nat)(j:(List Int)):Option (jO × Bool):=
 (yT fu j).bind fun c=>
 (zx fu c).bind fun d=>
 (vQ fu d).bind fun k=>
 jy k fun e k=>jy k fun i f=>
 if f≠0 then
  some ((⟨(⟨([]:List Gr),([]:List Gn)⟩:jR),([]:List (List Gv)),([]:List Gi)⟩:jO),false)
 else
  (sD fu e).bind fun k=>
  jy k fun a k=>jy k fun h b=>
  some (a,(decide (b=0)))
theorem FL (fu:Nat):F6 (vg fu):=by
 intro w0 ae N x z R I v
 unfold vg at v
 have b:=I.bx
 clear I
 generalize hG:lT _=G at b ⊢
 refine cf Try.func13 r ?_
 refine lK [(0,Z x N z)] ⟨r,y⟩ fun af=>?_
 refine q (g (nU (nM b (jV xD)) ?_))
 rintro _ w1 ⟨b1,rfl,b⟩
 refine s (kC r) (n (q (g (s (nC r) ?_))))
 obtain ⟨J,Q,v⟩:=bs v
 have hc:=(IE fu) (b.pr [] [0] [0] r)  Q
 refine sc (ec Xz r) hc ?_
 rintro _ w2 ⟨B,C,rfl,A⟩
 replace b:=b.cl [] [0] r A r
 try dsimp only [pick,nth,ca,na] at b
 obtain ⟨K,S,v⟩:=bs v
 have hc:=(LH fu) (b.pr [] [0] [0] r)  S
 refine sc (ec Xr r) hc ?_
 rintro _ w3 ⟨rfl,A⟩
 replace b:=b.cl [] [0] r A r
 try dsimp only [pick,nth,ca,na] at b
 obtain ⟨⟨w,L,M⟩,U,v⟩:=bs v
 replace v:=pi v
 replace v:=pi v
 have hc:=(Dz fu) (b.pr [] [0] [] r)  U
 refine sc (ec TA r) hc ?_
 rintro _ w4 ⟨o,p,t,u,rfl,A⟩
 replace b:=b.cl [] [0] r A r
 try dsimp only [pick,nth,ca,na] at b
 refine s sZ (s (jZ r r) (s (jZ r r) (s (jZ r r) (nU (nM b (jV tX)) ?_))))
 rintro _ w5 ⟨b5,rfl,b⟩
 refine lg (tb b 0 [Z o w.a p,Z t w.b u] r tX r r r r r (show _=#[Z o w.a p,Z t w.b u] from r)) ?_
 intro w6 b
 try dsimp only [List.set] at b
 refine s (xi r) (s (xi r) (n (q (q (g (s (mi r) (s (rY r r) (n ?_))))))))
 rcases iv v with ⟨D,v⟩|⟨D,v⟩
 ·refine jN (bt D) (q (g (s SV (lg (tb b 1 [sn,sn,sn,sn] r xD r r r r r (show _=#[sn,sn,sn,sn] from r)) ?_))))
  intro w8 b
  try dsimp only [List.set] at b
  refine s (kC r) (n (kT ?_))
  replace b:=b.ku (d:=.l none 0 ([]:List Gr)) om
  replace b:=b.ku (d:=.l none 0 ([]:List Gn)) om
  replace b:=b.ku (d:=.l none 0 ([]:List (List Gv))) om
  replace b:=b.ku (d:=.l none 0 ([]:List Gi)) om
  obtain rfl:=sm v
  refine qj r (tV r Ep r xD r (b.bk 1 r)) (lq r) ?_
  exact mM (⟨none,0,none,0,none,0,none,0,r,(b.ad [] [3,2,1,0])⟩)
 refine jK (bf D) (wk (q (g (s (nN [Z o w.a p,Z t w.b u] Cy r tX r r (Cells.part (b.bk 0 r).cells (o2:=0) r)) ?_))))
 obtain ⟨⟨a,E,F⟩,H,v⟩:=bs v
 replace v:=pi v
 replace v:=pi v
 have hc:=(Dn fu) (b.pr [] [0,1] [0,1] r)  H
 refine sc (ec Tw r) hc ?_
 rintro _ X ⟨c,e,f,h,i,j,k,m,rfl,A⟩
 replace b:=b.cl [] [0,1] r A r
 try dsimp only [pick,nth,ca,na] at b
 refine s sZ (s (jZ r r) (s (jZ r r) (s (jZ r r) (nU (nM b (jV xD)) ?_))))
 rintro _ Y ⟨a0,rfl,b⟩
 refine lg (tb b 0 [Z c a.a.a e,Z f a.a.b h,Z i a.c j,Z k a.b m] r xD r r r r r (show _=#[Z c a.a.a e,Z f a.a.b h,Z i a.c j,Z k a.b m] from r)) ?_
 intro a1 b
 try dsimp only [List.set] at b
 refine s (xi r) (s (xi r) (n (q (g (s (nN [Z c a.a.a e,Z f a.a.b h,Z i a.c j,Z k a.b m] Ep r xD r r (Cells.part (b.bk 0 r).cells (o2:=0) r)) (s (mi r) (s (kD r r) (lg (tb b 2 [Z c a.a.a e,Z f a.a.b h,Z i a.c j,Z k a.b m] r xD r r r r r (show _=#[Z c a.a.a e,Z f a.a.b h,Z i a.c j,Z k a.b m] from r)) ?_))))))))
 intro a2 b
 try dsimp only [List.set] at b
 refine s (kC r) (n (kT ?_))
 obtain rfl:=sm v
 refine qj r (tV r Ep r xD r (b.bk 2 r)) (lq r) ?_
 exact mM (⟨c,e,f,h,i,j,k,m,r,(b.ad [] [0,1,2,3])⟩)
end
end Go.Proofs.Ytfglbdkfnphjgaa
set_option linter.unusedVariables false
set_option maxHeartbeats 12800000
set_option linter.unusedSimpArgs false
set_option maxRecDepth 4000
namespace Go.Proofs.Ytfglbdkfnphjgaa
open Go.RowKit Go.Fw
noncomputable section
def Cn (m:jO→Int→Int→Option ((List Int))):Prop:=∀ {t:World} {A:Nat→Prop} {p:jO} {x:Int} {z:Int} {a:Option Addr} {b:Nat} {c:Option Addr} {d:Nat} {e:Option Addr} {f:Nat} {h:Option Addr} {i:Nat} {u:(List Int)},Pre t A [] [.l a b p.a.a,.l c d p.a.b,.l e f p.c,.l h i p.b]→m p x z=some u→
 Calls Try.prog 31 #[.agg #[Z a p.a.a b,Z c p.a.b d,Z e p.c f,Z h p.b i],V x,V z] t (qW fun v w=>∃ (j:OA)(k:Nat)(o:LV),v=Z j u k∧Bx t w A (lT []) [O t.heap.size j k 3 Int o] [.els o u])
def kX (fu:Nat)(b:Int):List Gv→Nat→(List Int)→Option (Ld (List Int) ((List Int)))
 | [],_,a=>some (.go a)
 | f :: d,c,a=>
 if f.e≤b then
  if b≤f.g then
   (app a ([(c:Int)]:List Int)).bind fun e=>
   kX fu b d (c+1) e
  else
   kX fu b d (c+1) a
 else
  kX fu b d (c+1) a
def jJ (fu:Nat)(c:jO) (b:Int)(d:Int):Option ((List Int)):=
 if b < 0 then
  some ([]:List Int)
 else
  if (c.c.length:Int)≤b then
   some ([]:List Int)
  else
   (ix c.c b).bind fun e=>
   (kX fu d e 0 ([]:List Int)).bind fun f=>f.el (fun a=>
   some a
   ) (fun o=>some o)
theorem Cm (fu:Nat):Cn (jJ fu):=by
 intro S au U x1 W A B C D E F H I r0 hP p
 unfold jJ at p
 have e:=hP.bx
 clear hP
 generalize hG:lT _=G at e ⊢
 refine cf Try.func31 r ?_
 refine lK [(0,.agg #[Z A U.a.a B,Z C U.a.b D,Z E U.c F,Z H U.b I]),(1,V x1),(2,V W)] ⟨r,r,r,y⟩ fun av=>?_
 refine q (g (nU (nM e (y5 r)) ?_))
 rintro _ w1 ⟨b1,rfl,e⟩
 refine s (nk r) (n (q (q (g (s (mi r) (s (qo r r) (s (kL r) ?_)))))))
 rcases iv p with ⟨X,p⟩|⟨X,p⟩
 ·rw [decide_eq_true X]
  refine jC r (jC r (jC r (jC r (jC r (s (kr r r) (n (jN r (q (g (s (nk r) (n (kT ?_))))))))))))
  replace e:=e.Ca Int 3
  obtain rfl:=sm p
  refine jI r (lq r) ?_
  exact ⟨none,0,[],r,(e.ad [0] [0])⟩
 rw [decide_eq_false X]
 refine kg r (s (mi r) (kg r (s (AX r) (kg r (s (PD r (e.bk 0 r) r) (kg r (s (lX EJ r) (kg r (s (Bq r r) (s (jY r r) (n ?_)))))))))))
 rcases iv p with ⟨Y,p⟩|⟨Y,p⟩
 ·refine jN (bt Y) (q (g (s (nk r) (n (kT ?_)))))
  replace e:=e.Ca Int 3
  obtain rfl:=sm p
  refine jI r (lq r) ?_
  exact ⟨none,0,[],r,(e.ad [0] [0])⟩
 refine jK (bf Y) (wk (q (g (s (nk r) (n (q (q (g (s (AX r) (s (PD r (e.bk 0 r) r) (s (mi r) ?_)))))))))))
 obtain ⟨u,z,p⟩:=bs p
 obtain ⟨k6,a0,z⟩:=kJ z
 obtain ⟨ab,a1,e⟩:=e.nm 2 rfl z
 obtain ⟨v,x,rfl,N⟩:=a1
 replace e:=e.ku (d:=.l v x u) N
 refine s (kW EJ Es r r a0 (e.dl 4 r) z) (s (jT Bj r r ((e.dc 1 r) 0 _ r)) (s (lX Bj r) (s (mi r) (n ?_))))
 replace e:=e.Ca Int 3
 have ac:=(e.dl 1 r).bd
 obtain ⟨Y8,m,p⟩:=bs p
 refine oq (fun f w=>∃ (j:List Int) (a:OA)(b:Nat)(c:LV),Has f [(7,Z a j b)]∧Bx S w au G [O S.heap.size a b 3 Int c] [.els c j,.l v x u]∧Ld.go j=Y8) (fun J8 a2=>?_) ?_
 ·refine oM (kM (fun aw f w=>∃ (t:Nat)(j:List Int) (a:OA)(b:Nat)(c:LV),aw=u.length - t∧t≤u.length∧Has f [(25,V (t:Int)),(2,V W),(7,Z a j b),(23,Z v u x),(24,V (u.length:Int))]∧Bx S w au G [O S.heap.size a b 3 Int c] [.els c j,.l v x u]∧kX fu W (u.drop t) t j=some Y8) (u.length) ⟨0,([]:List Int),none,0,[],r,Nat.zero_le _,⟨r,r,r,r,r,y⟩,(e.ad [0] [0,1]),m⟩ ?_)
  clear e m
  rintro aw f w ⟨t,j,a,b,c,rfl,ae,hf,e,m⟩ K8 J
  obtain ⟨av,rfl⟩:=iA _ _ hf
  clear hf
  rcases Nat.lt_or_ge t u.length with Q | Q
  ·obtain ⟨o,K⟩:=mh (l:=u) Q
   rw [mP K,kX] at m
   refine q (g (s (sS r r (by omega)) (n (q (jN r (wk (q (oM (q (g (s (mi r) (s (kW Bj z8 r r r (e.dl 1 r) K) (s (nN [T o.b,V o.c,V o.d,V o.a,.bool o.f,V o.e,V o.g] RB r z8 r r (uy (ds:=[T o.b,V o.c,V o.d,V o.a,.bool o.f,V o.e,V o.g]) (e.dl 1 r) K (fun _ h=>h))) ?_)))))))))))))
   refine nU (nM e (jV z8)) ?_
   rintro _ af ⟨ag,rfl,e⟩
   refine s (xi r) (lg (tb e 0 [T o.b,V o.c,V o.d,V o.a,.bool o.f,V o.e,V o.g] r z8 r r r r r (show _=#[T o.b,V o.c,V o.d,V o.a,.bool o.f,V o.e,V o.g] from r)) ?_)
   intro ah e
   try dsimp only [List.set] at e
   refine n (q (g (s (Wm r) (s (l3 r (e.bk 0 r) r) (s (mi r) (s (M6 r r) (s (kL r) ?_)))))))
   rcases iv m with ⟨L,m⟩|⟨L,m⟩
   ·rw [decide_eq_true L]
    refine kg r (s (mi r) (kg r (s (Nq r) (kg r (s (l3 r (e.bk 0 r) r) (kg r (s (M6 r r) (s (kr r r) (n ?_)))))))))
    rcases iv m with ⟨M,m⟩|⟨M,m⟩
    ·refine jN (bt M) (g (s (nC r) (s (mi r) (nU (jP e [[V (t:Int)]] ([(t:Int)]:List Int) (Ah r) r r (by decide) ⟨r,y⟩) ?_))))
     rintro _ ai ⟨aj,rfl,e⟩
     obtain ⟨a3,R,m⟩:=bs m
     refine nU (kP e 2 1 r r ug nO r (by decide) (by decide) (Nat.le_refl _) r r (e.zP 0 0 r r) R) ?_
     rintro _ ak ⟨a4,a5,a6,rfl,e⟩
     refine s (nk r) (n (g (s (mR r r (by omega) (by omega)) (s (mi r) (n ?_)))))
     exact J (u.length - (t+1)) _ _ (by omega) ⟨t+1,a3,a4,a5,a6,r,by omega,⟨r,r,r,r,r,y⟩,(e.ad [2] [1,2]),m⟩
    refine jK (bf M) (wk (g (s (mR r r (by omega) (by omega)) (s (mi r) (n ?_)))))
    exact J (u.length - (t+1)) _ _ (by omega) ⟨t+1,j,a,b,c,r,by omega,⟨r,r,r,r,r,y⟩,(e.arr [1] r),m⟩
   rw [decide_eq_false L]
   refine jC r (jC r (jC r (jC r (s (jY r r) (n (jK r (wk (g (s (mR r r (by omega) (by omega)) (s (mi r) (n ?_)))))))))))
   exact J (u.length - (t+1)) _ _ (by omega) ⟨t+1,j,a,b,c,r,by omega,⟨r,r,r,r,r,y⟩,(e.arr [1] r),m⟩
  obtain rfl:t=u.length:=by omega
  rw [lV,kX] at m
  refine q (g (s (sU r r (by omega)) (n (q (jK r (tT ?_))))))
  exact a2 _ _ ⟨j,a,b,c,⟨r,y⟩,e,sm m⟩
 clear e
 rintro f w ⟨j,a,b,c,hf,e,a7⟩
 obtain ⟨av,rfl⟩:=iA _ _ hf
 clear hf
 subst a7
 replace p:=gi p
 refine q (g (s (nC r) (s (nk r) (n (kT ?_)))))
 obtain rfl:=sm p
 refine jI r (lq r) ?_
 exact ⟨a,b,c,r,(e.dp [0])⟩
def JQ (m:(List Int)→Option ((List Int))):Prop:=∀ {f:World} {j:Nat→Prop} {h:(List Int)} {a:Option Addr} {b:Nat} {i:(List Int)},Pre f j [] [.l a b h]→m h=some i→
 Calls Try.prog 134 #[Z a h b] f (qW fun v w=>∃ (c:OA)(d:Nat)(e:LV),v=Z c i d∧Bx f w j (lT []) [O f.heap.size c d 3 Int e] [.els e i])
def Bl (fu:Nat)(a:(List Int)):Option ((List Int)):=
 (app ([]:List Int) a).bind fun b=>
 some b
theorem JD (fu:Nat):JQ (Bl fu):=by
 intro o x j a c p h d
 unfold Bl at d
 have b:=h.bx
 clear h
 generalize t:lT _=G at b ⊢
 refine cf Try.func134 r ?_
 refine lK [(0,Z a j c)] ⟨r,y⟩ fun z=>?_
 refine q (g (s (nk r) (n (q (q (g (s (nC r) (s (Vo ug r r) (n ?_)))))))))
 rcases Classical.em (a=none) with f | f
 ·refine jN (bt f) (q (g (s (nk r) (n (kT ?_)))))
  replace b:=b.Ca Int 3
  have hz:=(b.dl 1 r).T9 f
  subst hz
  obtain ⟨i,e,d⟩:=bs d
  obtain rfl:=sm d
  obtain rfl:i=[]:=(vJ e).2.symm
  refine jI r (lq r) ?_
  exact ⟨none,0,[],r,(b.dp [0])⟩
 refine jK (bf f) (wk (q (g (nU (jP b [] ([]:List Int) (FR) r r (by decide) y) ?_))))
 rintro _ u ⟨v,rfl,b⟩
 refine s (nC r) ?_
 obtain ⟨i,e,d⟩:=bs d
 refine nU (kP b 0 0 r r ug nO r (by decide) (by decide) (Nat.le_refl _) r r (b.ZX 1 r) e) ?_
 rintro _ w ⟨k,l,m,rfl,b⟩
 refine s (nk r) (n (kT ?_))
 obtain rfl:=sm d
 refine jI r (lq r) ?_
 exact ⟨k,l,m,r,(b.dp [0])⟩
end
end Go.Proofs.Ytfglbdkfnphjgaa
set_option linter.unusedVariables false
set_option linter.unusedSimpArgs false
namespace Go.Proofs.Ytfglbdkfnphjgaa
open Go.RowKit Go.Fw
def Gj (i:Int):List jA→Nat→List Int
 | [],_=>[]
 | x :: r,k=>if x.e≤i∧i≤x.g then (k:Int) :: Gj i r (k+1) else Gj i r (k+1)
theorem KZ {i:Int}:∀ (r:List jA) (k:Nat),(Gj i r k).length≤r.length
 | [],_=>Nat.le_refl _
 | x :: r,k=>by
  have h:=KZ (i:=i) r (k+1)
  unfold Gj
  split
  · exact Nat.succ_le_succ h
  · exact Nat.le_succ_of_le h
theorem KV {i q:Int}:∀ (r:List jA) (k:Nat),q ∈ Gj i r k→∃ (j:Nat) (x:jA),q=((k+j:Nat):Int)∧r[j]?=some x∧x.e≤i∧i≤x.g
 | [],_,h=>by cases h
 | x :: r,k,h=>by
  unfold Gj at h
  have go:q ∈ Gj i r (k+1)→∃ (j:Nat) (y:jA),q=((k+j:Nat):Int)∧(x :: r)[j]?=some y∧y.e≤i∧i≤y.g:=fun h=>by
    obtain ⟨j,y,h1,h2,h3⟩:=KV r (k+1) h
    exact ⟨j+1,y,by omega,h2,h3⟩
  by_cases c:x.e≤i∧i≤x.g
  · rw [if_pos c] at h
    rcases List.mem_cons.1 h with h | h
    · exact ⟨0,x,h,rfl,c⟩
    · exact go h
  · rw [if_neg c] at h
    exact go h
theorem CY {fu:Nat} {i:Int}:∀ (r:List jA) (k:Nat) (acc:List Int),acc.length+r.length≤1000000000→kX fu i r k acc=some (.go (acc ++ Gj i r k))
 | [],k,acc,_=>by rw [kX,Gj,List.append_nil]
 | x :: r,k,acc,h=>by
  rw [List.length_cons] at h
  rw [kX,Gj]
  by_cases c1:x.e≤i
  · by_cases c2:i≤x.g
    · rw [if_pos c1,if_pos c2,if_pos ⟨c1,c2⟩]
      have:app acc [((k:Nat):Int)]=some (acc ++ [((k:Nat):Int)]):=if_pos (by simp only [List.length_cons,List.length_nil];omega)
      rw [this]
      show kX fu i r (k+1) (acc ++ [((k:Nat):Int)])=_
      rw [CY r (k+1) _ (by simp only [List.length_append,List.length_cons,List.length_nil];omega),List.append_assoc]
      rfl
    · rw [if_pos c1,if_neg c2,if_neg fun z=>c2 z.2]
      exact CY r (k+1) acc (by omega)
  · rw [if_neg c1,if_neg fun z=>c1 z.1]
    exact CY r (k+1) acc (by omega)
def Js (s:jO) (f i:Int):List Int:=if f < 0 then [] else match s.c[f.toNat]? with
 | none=>[]
 | some V=>Gj i V 0
theorem Oa {fu:Nat} {s:jO} {f i:Int} (h:∀ V ∈ s.c,V.length≤24):jJ fu s f i=some (Js s f i):=by
 unfold jJ Js
 by_cases c:f < 0
 · rw [if_pos c,if_pos c]
 rw [if_neg c,if_neg c]
 by_cases d:(s.c.length:Int)≤f
 · rw [if_pos d,List.getElem?_eq_none (by omega)]
 rw [if_neg d]
 obtain ⟨V,hV⟩:=mh (l:=s.c) (k:=f.toNat) (by omega)
 have:ix s.c f=some V:=by
   unfold Go.Fw.ix
   rw [if_neg (by omega),hV]
 rw [this,hV]
 show (kX fu i V 0 []).bind _=_
 rw [CY V 0 [] (by have:=h V (List.mem_of_getElem? hV);rw [List.length_nil];omega),List.nil_append]
 rfl
theorem KP {s:jO} {f i:Int} {j:Nat} {q:Int} (h:(Js s f i)[j]?=some q):0≤f∧f < s.c.length∧∃ V x,s.c[f.toNat]?=some V∧0≤q∧q < V.length∧V[q.toNat]?=some x∧x.e≤i∧i≤x.g:=by
 unfold Js at h
 by_cases c:f < 0
 · rw [if_pos c] at h;cases h
 rw [if_neg c] at h
 cases hV:s.c[f.toNat]? with
 | none=>rw [hV] at h;cases h
 | some V=>
   rw [hV] at h
   have hl:=kI hV
   obtain ⟨j,x,h1,h2,h3⟩:=KV V 0 (List.mem_of_getElem? h)
   have hx:=kI h2
   exact ⟨by omega,by omega,V,x,rfl,by omega,by omega,by rw [h1];simpa using h2,h3⟩
theorem Kn {s:jO} {f i:Int} (h:∀ V ∈ s.c,V.length≤24):(Js s f i).length≤24:=by
 unfold Js
 split
 · exact Nat.zero_le _
 · split
   · exact Nat.zero_le _
   · next V hV=>exact Nat.le_trans (KZ V 0) (h V (List.mem_of_getElem? hV))
theorem Vn {fu:Nat} (hf:50≤fu) {l:List Int} (hl:l.length≤1000):kG (zx fu l) (fun s=>s.size≤700000000):=by
 unfold zx
 exact .bd (N8 (by omega) hl) fun p hp=>.bd (R7 hf hp) fun s hs=>.mk hs
structure CI (s:jO):Prop where
 vn:∀ V ∈ s.c,V.length≤24
 fx:∀ f ∈ s.a.b,FX f
end Go.Proofs.Ytfglbdkfnphjgaa
set_option linter.unusedVariables false
set_option linter.unusedSimpArgs false
namespace Go.Proofs.Ytfglbdkfnphjgaa
open Go.RowKit Go.Fw
abbrev Yes {α:Type} (x:Option α):Prop:=kG x (fun _=>True)
theorem MH {α β:Type} {p:Pn α} {f:α→Option (Pn β)} (h:∀ a,p=.ok a→Yes (f a)):Yes (p.then f):=by
 cases p with
 | ok a=>exact h a rfl
 | _=>exact .mk trivial
theorem Yh {ev:jB→Option (Pn Int)} {ws:List (List Int)} {e:jB} (h:∀ y ∈ e.a,Yes (ev y)):Yes (SH ev ws e):=by
 unfold SH
 cases ix? ws e.g with
 | none=>exact .mk trivial
 | some l=>
  dsimp only
  refine .ite (fun _=>.mk trivial) fun _=>.ite (fun _=>?_) fun _=>.mk trivial
  cases hA:e.a with
  | nil=>exact .mk trivial
  | cons x r=>exact .bd (h x (by rw [hA];exact .head _)) fun p _=>MH fun i _=>.mk trivial
theorem O4:∀ (fu n:Nat) (ws:List (List Int)) (e:jB),zm n e→n≤fu→Yes (CG fu ws e)
 | 0,n,ws,e,h,hn=>by
  obtain rfl:n=0:=by omega
  exact h.elim
 | fu+1,n,ws,e,h,hn=>by
  cases n with
  | zero=>exact h.elim
  | succ n=>
  have ih:∀ y ∈ e.a,Yes (CG fu ws y):=fun y hy=>O4 fu n ws y (h.2 y hy) (by omega)
  rw [CG]
  refine .ite (fun _=>.mk trivial) fun _=>.ite (fun _=>.bd (Yh ih) fun p _=>MH fun q _=>.mk trivial) fun _=>?_
  cases hA:e.a with
  | nil=>exact .ite (fun _=>.mk trivial) fun _=>.ite (fun _=>.mk trivial) fun _=>.mk trivial
  | cons x l=>
   rw [hA] at ih
   have hx:=ih x (.head _)
   refine .ite (fun _=>.bd hx fun p _=>MH fun n _=>.mk trivial) fun _=>.ite (fun _=>.bd hx fun p _=>MH fun n _=>.mk trivial) fun _=>.bd hx fun p _=>MH fun n _=>?_
   cases l with
   | nil=>exact .mk trivial
   | cons y r=>exact .bd (ih y (.tail _ (.head _))) fun p _=>MH fun m _=>.mk trivial
theorem TN {ev:jB→Option (Pn Int)}:∀ (l:List jB) (acc:List Int),(∀ y ∈ l,Yes (ev y))→acc.length+l.length≤1000000000→Yes (IL ev l acc)
 | [],acc,_,_=>.mk trivial
 | x :: l,acc,h,hn=>by
  rw [List.length_cons] at hn
  rw [IL]
  exact .bd (h x (.head _)) fun p _=>MH fun n _=>.bd (.app (by simp only [List.length_cons,List.length_nil];omega)) fun r hr=>by
   subst hr
   exact TN l _ (fun y hy=>h y (.tail _ hy)) (by rw [ko];omega)
section
variable {s:jO}
def Fit (s:jO) (g:sJ):Prop:=0≤g.f∧∃ V,s.c[g.f.toNat]?=some V∧g.ws.map List.length=V.map (fun x=>x.a.toNat)∧∀ x ∈ V,0≤x.a∧x.a≤8
theorem Fit.put {f st st':Int} {ws:List (List Int)} {k:Nat} {l l':List Int} (h:Fit s ⟨f,st,ws⟩) (hk:ws[k]?=some l) (hl:l'.length=l.length):Fit s ⟨f,st',ws.set k l'⟩:=by
 obtain ⟨h0,V,h1,h2,h3⟩:=h
 refine ⟨h0,V,h1,?_,h3⟩
 rw [← h2,List.map_set]
 exact set_self (by rw [List.getElem?_map,hk,hl];rfl)
theorem Fit.word {f st:Int} {ws:List (List Int)} {p:Nat × Nat} {v:Int} (h:Fit s ⟨f,st,ws⟩):Fit s ⟨f,st,setW ws p v⟩:=by
 unfold setW
 cases hk:ws[p.1]? with
 | none=>rw [List.set_eq_of_length_le (List.getElem?_eq_none_iff.1 hk)];exact h
 | some l=>exact h.put hk (by rw [List.length_set,List.getD_eq_getElem?_getD,hk];rfl)
def YE (ws:List (List Int)) (v:Int):pV:=⟨v,List.replicate (ws.getD v.toNat []).length true,ws.getD v.toNat []⟩
def U5 (s:jO) (g:sJ):p8:=⟨g.f,g.st,(Js s g.f g.st).map (YE g.ws)⟩
theorem O9 {ws:List (List Int)}:∀ (l:List Int) (acc:List pV),(∀ v ∈ l,0≤v∧v < ws.length)→acc.length+l.length≤1000000000→Q5 ws l acc=some (acc ++ l.map (YE ws))
 | [],acc,_,_=>by rw [Q5,List.map_nil,List.append_nil]
 | v :: l,acc,h,hn=>by
  rw [List.length_cons] at hn
  have hv:=h v (.head _)
  obtain ⟨row,hr⟩:=mh (l:=ws) (k:=v.toNat) (by omega)
  have h1:ix? ws v=some row:=by unfold ix?;rw [if_neg (by omega),hr]
  have h2:ws.getD v.toNat []=row:=by rw [List.getD_eq_getElem?_getD,hr];rfl
  rw [Q5,h1]
  show (app acc [_]).bind _=_
  unfold Go.Fw.app
  rw [if_pos (by simp only [List.length_cons,List.length_nil];omega)]
  show Q5 ws l _=_
  rw [O9 l _ (fun y hy=>h y (.tail _ hy)) (by rw [ko];omega),List.map_cons,List.append_assoc]
  unfold YE
  rw [h2]
  rfl
theorem Fit.vis {g:sJ} (h:Fit s g) {v st:Int} (hv:v ∈ Js s g.f st):0≤v∧v < g.ws.length:=by
 obtain ⟨h0,V,h1,h2,h3⟩:=h
 obtain ⟨j,hj⟩:=List.getElem?_of_mem hv
 obtain ⟨_,_,V',x,hV',q0,q1,_⟩:=KP hj
 rw [h1] at hV'
 cases hV'
 have:=congrArg List.length h2
 rw [List.length_map,List.length_map] at this
 omega
variable (hv:∀ V ∈ s.c,V.length≤24)
include hv
theorem Uk {fu:Nat} {g:sJ} (h:Fit s g):Wl (jJ fu s) g=some (U5 s g):=by
 unfold Wl
 rw [Oa hv]
 show (Q5 g.ws (Js s g.f g.st) []).bind _=_
 rw [O9 _ _ (fun v h'=>h.vis h') (by have:=Kn (f:=g.f) (i:=g.st) hv;simp only [List.length_nil];omega)]
 rfl
theorem Pe {fu:Nat}:∀ (l:List sJ) (acc:List p8),(∀ g ∈ l,Fit s g)→acc.length+l.length≤1000000000→Tz (jJ fu s) l acc=some (acc ++ l.map (U5 s))
 | [],acc,_,_=>by rw [Tz,List.map_nil,List.append_nil]
 | g :: l,acc,h,hn=>by
  rw [List.length_cons] at hn
  rw [Tz,Uk hv (h g (.head _))]
  show (app acc [_]).bind _=_
  unfold Go.Fw.app
  rw [if_pos (by simp only [List.length_cons,List.length_nil];omega)]
  show Tz _ l _=_
  rw [Pe l _ (fun y hy=>h y (.tail _ hy)) (by rw [ko];omega),List.map_cons,List.append_assoc]
  rfl
omit hv in
def JC (s:jO) (rest:List sJ) (S:Sg) (id:Int):Sg:=⟨⟨S.a.f,id,S.a.ws⟩,S.hist ++ [⟨((⟨S.a.f,id,S.a.ws⟩:sJ) :: rest).map (U5 s)⟩],S.out⟩
theorem Dw {fu N:Nat} {rest:List sJ} {S:Sg} {id:Int} (h:Fit s S.a) (hr:∀ g ∈ rest,Fit s g) (hn:rest.length≤20) :
   event (jJ fu s) N rest S id=if N≤S.hist.length then some (.err 13,S) else some (.ok (),JC s rest S id):=by
 unfold event
 split
 · rfl
 · rw [Pe hv _ _ (fun g hg=>by
    rcases List.mem_cons.1 hg with rfl | hg
    · exact h
    · exact hr g hg) (by simp only [List.length_cons,List.length_nil];omega)]
   rfl
end
end Go.Proofs.Ytfglbdkfnphjgaa
