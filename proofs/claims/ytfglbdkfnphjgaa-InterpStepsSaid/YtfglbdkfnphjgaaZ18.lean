/- The text of a made program: the printer answers, and the text is not long. -/
import Derived.Test.YtfglbdkfnphjgaaZ16
import Derived.Test.YtfglbdkfnphjgaaLd
import Derived.Test.YtfglbdkfnphjgaaZ5
import Derived.Laws.StructEq
import Derived.Test.YtfglbdkfnphjgaaLa
import Derived.Test.YtfglbdkfnphjgaaLb
import Derived.Test.YtfglbdkfnphjgaaLc
import Derived.Test.YtfglbdkfnphjgaaLg
set_option linter.unusedVariables false
set_option linter.unusedSimpArgs false
namespace Go.Fw
open Go.RowKit
theorem kE.cl {α:Type} {P:α→Prop} {s t:ByteArray} {f:ByteArray→Option α} (n:Nat) (h:t.size=n) (hs:s.size+n≤1000000000) (k:∀ r,r.size=s.size+n→kE (f r) P):kE ((Go.Fw.cat s t).bind f) P:=.bd (.cat (by omega)) fun r hr=>k r (by rw [hr,Bl,h])
theorem kE.cv {α:Type} {P:α→Prop} {s t:ByteArray} {f:ByteArray→Option α} (hs:s.size+t.size≤1000000000) (k:∀ r,r.size=s.size+t.size→kE (f r) P):kE ((Go.Fw.cat s t).bind f) P:=.bd (.cat hs) fun r hr=>k r (by rw [hr,Bl])
theorem kE.cr {α:Type} {P:α→Prop} {s t:ByteArray} {f:ByteArray→Option α} (n:Nat) (h:s.size=n) (hs:n+t.size≤1000000000) (k:∀ r,r.size=n+t.size→kE (f r) P):kE ((Go.Fw.cat s t).bind f) P:=.bd (.cat (by omega)) fun r hr=>k r (by rw [hr,Bl,h])
end Go.Fw
namespace Go.Proofs.Ytfglbdkfnphjgaa
open Go.RowKit Go.Fw
def EB:Nat→Nat
 | 0=>6
 | d+1=>2 * EB d+8
theorem EB.lo:∀ d,6≤EB d∧EB d+8≤14 * 2 ^ d
 | 0=>by decide
 | d+1=>by
  have h:=EB.lo d
  have e:EB (d+1)=2 * EB d+8:=rfl
  have:1≤2 ^ d:=Nat.one_le_two_pow
  rw [Nat.pow_succ]
  omega
theorem WS {fu:Nat} {op:Int}:kE (zB fu op) (fun r=>(1≤r∧r≤6)∧(r=5→4≤op∧op≤5)∧(r < 5→6≤op∧op≤17)):=by
 unfold zB
 have hJ0:kE (yt fu op) (oI (fun b=>b=true→14≤op∧op≤17) (fun _=>False)):=by
  unfold yt
  refine .ite (fun _=>.go fun _=>by omega) fun _=>.ite (fun _=>.go fun _=>by omega) fun _=>.ite (fun _=>.go fun _=>by omega) fun _=>.go fun z=>by have:=of_decide_eq_true z;omega
 have hJ1:kE (yF fu op) (oI (fun b=>b=true→11≤op∧op≤13) (fun _=>False)):=by
  unfold yF
  refine .ite (fun _=>.go fun _=>by omega) fun _=>.ite (fun _=>.go fun _=>by omega) fun _=>.go fun z=>by have:=of_decide_eq_true z;omega
 have hJ2:kE (yA fu op) (oI (fun b=>b=true→6≤op∧op≤7) (fun _=>False)):=by
  unfold yA
  refine .ite (fun _=>.go fun _=>by omega) fun _=>.go fun z=>by have:=of_decide_eq_true z;omega
 refine .el hJ0 (fun b hb=>.ite (fun z=>.mk (by have:=hb z;omega)) fun _=>?_) fun _ z=>z.elim
 refine .el hJ1 (fun b hb=>.ite (fun z=>.mk (by have:=hb z;omega)) fun _=>?_) fun _ z=>z.elim
 refine .el hJ2 (fun b hb=>.ite (fun z=>.mk (by have:=hb z;omega)) fun _=>?_) fun _ z=>z.elim
 refine .ite (fun _=>.mk (by omega)) fun _=>.ite (fun _=>.mk (by omega)) fun _=>.ite (fun _=>.mk (by omega)) fun _=>.ite (fun _=>.mk (by omega)) fun _=>.ite (fun _=>.mk (by omega)) fun _=>.mk (by omega)
theorem RH:∀ x ∈ ([(⟨#[43]⟩:ByteArray),(⟨#[45]⟩:ByteArray),(⟨#[42]⟩:ByteArray),(⟨#[47]⟩:ByteArray),(⟨#[37]⟩:ByteArray),(⟨#[38]⟩:ByteArray),(⟨#[124]⟩:ByteArray),(⟨#[94]⟩:ByteArray),(⟨#[60]⟩:ByteArray),(⟨#[60,61]⟩:ByteArray),(⟨#[61,61]⟩:ByteArray),(⟨#[33,61]⟩:ByteArray)]:List ByteArray),x.size≤2:=by
 intro x hx
 simp only [List.mem_cons,List.not_mem_nil,or_false] at hx
 rcases hx with rfl | rfl | rfl | rfl | rfl | rfl | rfl | rfl | rfl | rfl | rfl | rfl <;> decide
theorem Ng:∀ x ∈ ([(⟨#[45]⟩:ByteArray),(⟨#[33]⟩:ByteArray)]:List ByteArray),x.size≤2:=by
 intro x hx
 simp only [List.mem_cons,List.not_mem_nil,or_false] at hx
 rcases hx with rfl | rfl <;> decide
theorem PD:∀ {d fu:Nat} {x:jB} {l:Int},GE d x→d≤5→d+19≤fu→kE (oQ fu x l) (fun s=>s.size≤EB d)
 | 0,_,_,_,h,_,_=>h.elim
 | d+1,0,_,_,_,_,h=>by omega
 | d+1,fu+1,x,l,h,hd,hf=>by
  show kE (zF fu (oQ fu) x l) _
  obtain ⟨⟨h1,h2,h3,h4⟩,h5,h6⟩:=h
  have hE:EB (d+1)=2 * EB d+8:=rfl
  have hlo:=EB.lo d
  have hp:(2:Nat) ^ d≤2 ^ 5:=Nat.pow_le_pow_right (by decide) (by omega)
  have h32:(2:Nat) ^ 5=32:=by decide
  unfold zF
  refine .bd WS fun r hr=>?_
  have sub:∀ {y:jB} {l:Int},y ∈ x.a→kE (oQ fu y l) (fun s=>s.size≤EB d):=fun hy=>PD (h6 _ hy) (by omega) (by omega)
  have hJ:kE (yx fu (oQ fu) x r) (oI (fun s=>s.size≤2 * EB d+6) (fun _=>False)):=by
   unfold yx
   refine .ite (fun _=>.bd (BH (d:=18) h3 (by omega) (by decide) (by decide) (by omega)) fun s hs=>.go (by omega)) fun _=>?_
   refine .ite (fun _=>.cl 1 rfl (by omega) fun g e1=>.cv (by omega) fun g2 e2=>.go (by omega)) fun _=>?_
   have hJ1:kE (yC fu (oQ fu) x) (oI (fun b=>b=true→0 < x.a.length) (fun _=>False)):=by
     unfold yC
     exact .ite (fun _=>.go fun z=>by have:=of_decide_eq_true z;omega) fun _=>.go fun z=>(by cases z)
   refine .BO hJ1 fun b hb=>.ite (fun z=>?_) fun _=>?_
   · have:=hb z
     refine .bd (.ix (by decide) (by omega)) fun y hy=>.cl 1 rfl (by omega) fun g e1=>.bd (sub (List.mem_of_getElem? hy)) fun s hs=>.cv (by omega) fun g2 e2=>.cl 1 rfl (by omega) fun g3 e3=>.go (by omega)
   have hJ2:kE (xZ fu (oQ fu) x r) (oI (fun b=>b=true→r=5∧0 < x.a.length) (fun _=>False)):=by
     unfold xZ
     exact .ite (fun _=>.go fun z=>by have:=of_decide_eq_true z;omega) fun _=>.go fun z=>(by cases z)
   refine .BO hJ2 fun b hb=>.ite (fun z=>?_) fun _=>?_
   · obtain ⟨q1,q2⟩:=hb z
     have q3:=hr.2.1 q1
     rw [lV (by omega) (by omega)]
     exact .bd (.ix (by decide) (by omega)) fun y hy=>.bd (.ix (by omega) (by simp only [List.length_cons,List.length_nil];omega)) fun n hn=>.bd (sub (List.mem_of_getElem? hy)) fun s hs=>.cv (by have:=Ng n (List.mem_of_getElem? hn);omega) fun g e=>.go (by have:=Ng n (List.mem_of_getElem? hn);omega)
   refine .ite (fun q1=>.ite (fun q2=>?_) fun _=>.go (by omega)) fun _=>.go (by omega)
   have hJ3:kE (yH fu (oQ fu) r) (oI (fun _=>True) (fun _=>False)):=by
     unfold yH
     exact .ite (fun _=>.go trivial) fun _=>.go trivial
   have q3:=hr.2.2 q1
   refine .BO hJ3 fun lv _=>?_
   rw [lV (n:=x.e - 6) (by omega) (by omega)]
   refine .bd (.ix (by decide) (by omega)) fun y hy=>.bd (.ix (by decide) (by omega)) fun y' hy'=>.bd (.ix (by omega) (by simp only [List.length_cons,List.length_nil];omega)) fun n hn=>?_
   have hn2:=RH n (List.mem_of_getElem? hn)
   exact .bd (sub (List.mem_of_getElem? hy)) fun s hs=>.cl 1 rfl (by omega) fun g e1=>.cv (by omega) fun g2 e2=>.cl 1 rfl (by omega) fun g3 e3=>.bd (sub (List.mem_of_getElem? hy')) fun s' hs'=>.cv (by omega) fun g4 e4=>.go (by omega)
  refine .el hJ (fun s hs=>?_) fun _ z=>z.elim
  exact .ite (fun _=>.cr 1 rfl (by omega) fun g e1=>.cl 1 rfl (by omega) fun g2 e2=>.mk (by omega)) fun _=>.mk (by omega)
theorem Nk {fu:Nat} (hf:30≤fu) {x:jB} {l:Int} (h:GE 4 x):kE (oQ fu x l) (fun s=>s.size≤216):=PD h (by decide) (by omega)
theorem Ie {fu:Nat} (hf:30≤fu) {O:ByteArray→Prop}:∀ (l:List jB) (k:Nat) (s:ByteArray),(∀ y ∈ l,GE 4 y)→s.size+l.length * 218≤1000000→kE (rC fu l k s) (oI (fun r=>r.size≤s.size+l.length * 218) O)
 | [],k,s,h,hs=>.go (by simp only [List.length_nil];omega)
 | x :: l,k,s,h,hs=>by
  rw [rC]
  rw [List.length_cons] at hs ⊢
  have hJ:kE (yj fu s k) (oI (fun r=>r.size≤s.size+2) O):=by
   unfold yj
   exact .ite (fun _=>.cl 2 rfl (by omega) fun g e=>.go (by omega)) fun _=>.go (by omega)
  refine .BO hJ fun s2 h2=>.bd (Nk hf (h x (List.mem_cons_self ..))) fun t ht=>.cv (by omega) fun g e=>?_
  exact (Ie hf l (k+1) g (fun y hy=>h y (List.mem_cons_of_mem _ hy)) (by omega)).imp fun v hv=>by
   cases v with
   | go r=>exact Nat.le_trans (show r.size≤_ from hv) (by omega)
   | out o=>exact hv
theorem Ra {fu:Nat} (hf:30≤fu) {l:List jB} (h:l.length≤4∧∀ y ∈ l,GE 4 y):kE (xP fu l) (fun r=>r.size≤872):=by
 unfold xP
 have h0:(⟨#[]⟩:ByteArray).size=0:=rfl
 exact .el (Ie hf l 0 _ h.2 (O:=fun _=>False) (by omega)) (fun s hs=>.mk (by omega)) fun _ z=>z.elim
theorem FP {fu:Nat} {O:ByteArray→Prop}:∀ (l:List ByteArray) (k:Nat) (s:ByteArray),(∀ y ∈ l,y.size≤4)→s.size+l.length * 6≤1000000→kE (oz fu l k s) (oI (fun r=>r.size≤s.size+l.length * 6) O)
 | [],k,s,h,hs=>.go (by simp only [List.length_nil];omega)
 | x :: l,k,s,h,hs=>by
  rw [oz]
  rw [List.length_cons] at hs ⊢
  have hx:=h x (List.mem_cons_self ..)
  have go:∀ g:ByteArray,g.size≤s.size+6→kE (oz fu l (k+1) g) (oI (fun r=>r.size≤s.size+(l.length+1) * 6) O):=fun g hg=>(FP l (k+1) g (fun y hy=>h y (List.mem_cons_of_mem _ hy)) (by omega)).imp fun v hv=>by
   cases v with
   | go r=>exact Nat.le_trans (show r.size≤_ from hv) (by omega)
   | out o=>exact hv
  exact .ite (fun _=>.cl 2 rfl (by omega) fun g e=>.cv (by omega) fun g2 e2=>go g2 (by omega)) fun _=>.cv (by omega) fun g2 e2=>go g2 (by omega)
theorem NJ {fu:Nat} {l:List ByteArray} (h:l.length≤4∧∀ y ∈ l,y.size≤4):kE (vV fu l) (fun r=>r.size≤24):=by
 unfold vV
 have h0:(⟨#[]⟩:ByteArray).size=0:=rfl
 exact .el (FP l 0 _ h.2 (O:=fun _=>False) (by omega)) (fun s hs=>.mk (by omega)) fun _ z=>z.elim
theorem RA {fu:Nat} (hf:30≤fu) {k:Nat} {x:jN} (h:GS k x):kE (pE fu x) (fun r=>r.size≤878):=by
 obtain _ | k:=k
 · exact h.elim
 unfold pE
 have h1:=h.1.2.2.1
 exact .ite (fun _=>.cl 1 rfl (by omega) fun g e=>.bd (Ra hf h.2.2.1) fun s hs=>.cv (by omega) fun g2 e2=>.cl 1 rfl (by omega) fun g3 e3=>.mk (by omega)) fun _=>.bd (Ra hf h.2.2.1) fun s hs=>.mk (by omega)
def CB:Nat→Nat
 | 0=>0
 | k+1=>1200+18 * CB k
theorem Nb:∀ {k fu:Nat} {l:List jN} {tb:ByteArray},k≤4→(∀ y ∈ l,GS k y)→l.length≤22→tb.size+k≤5→k+40≤fu→kE (nP fu l tb) (fun r=>r.size≤l.length * CB k)
 | _,0,_,_,_,_,_,_,h=>by omega
 | 0,fu+1,l,tb,_,h,_,_,_=>by
  cases l with
  | nil=>exact .mk (Nat.zero_le _)
  | cons x l=>exact (h x (List.mem_cons_self ..)).elim
 | k+1,fu+1,l,tb,hk,h,hl,ht,hf=>by
  show kE (yO fu (nP fu) l tb) _
  unfold yO
  have hC:CB (k+1)=1200+18 * CB k:=rfl
  have hC3:CB k≤411600:=by
   obtain _ | _ | _ | _ | k:=k
   · simp only [CB];decide
   · simp only [CB];decide
   · simp only [CB];decide
   · simp only [CB];decide
   · omega
  have hB:∀ {m:List jN} {u:ByteArray},(m.length≤9∧∀ y ∈ m,GS k y)→u.size=tb.size+1→kE (nP fu m u) (fun r=>r.size≤9 * CB k):=fun hm hu=>(Nb (by omega) hm.2 (by omega) (by omega) (by omega)).imp fun r hr=>Nat.le_trans hr (Nat.mul_le_mul_right _ hm.1)
  have hL:∀ (l:List jN) (i:Nat) (s:ByteArray),(∀ y ∈ l,GS (k+1) y)→s.size+l.length * CB (k+1)≤500000000→kE (lD fu (nP fu) tb l i s) (oI (fun r=>r.size≤s.size+l.length * CB (k+1)) (fun _=>False)):=by
   intro l
   induction l with
   | nil=>intro i s _ hs;exact .go (by simp only [List.length_nil];omega)
   | cons x l ih=>
     intro i s hy hs
     rw [List.length_cons,Nat.succ_mul] at hs ⊢
     have hx:=hy x (List.mem_cons_self ..)
     have go:∀ g:ByteArray,g.size≤s.size+CB (k+1)→kE (lD fu (nP fu) tb l (i+1) g) (oI (fun r=>r.size≤s.size+(l.length * CB (k+1)+CB (k+1))) (fun _=>False)):=fun g hg=>(ih (i+1) g (fun y hy'=>hy y (List.mem_cons_of_mem _ hy')) (by omega)).imp fun v hv=>by
       cases v with
       | go r=>exact Nat.le_trans (show r.size≤_ from hv) (by omega)
       | out o=>exact hv
     have hv:kE (pE fu x) (fun r=>r.size≤878):=RA (by omega) hx
     obtain ⟨⟨a1,a2,a3,a4,a5⟩,hx2,hx3,hx4,hx5⟩:=hx
     rw [lD]
     have hJ1:kE (xC fu (nP fu) x) (oI (fun s=>s.size≤219) (fun _=>False)):=by
       unfold xC
       exact .ite (fun _=>.bd (.ix (by decide) (by omega)) fun y hy=>.bd (Nk (by omega) (hx2.2 y (List.mem_of_getElem? hy))) fun s hs=>.cl 3 rfl (by omega) fun g e=>.go (by omega)) fun _=>.go (Nat.zero_le _)
     refine .BO hJ1 fun tg htg=>.ite (fun _=>?_) fun _=>?_
     · have hJ2:kE (wB fu (nP fu) x) (oI (fun s=>s.size≤4) (fun _=>False)):=by
         unfold wB
         exact .ite (fun _=>.go (by decide)) fun _=>.go a2
       have hJ3:∀ u:ByteArray,u.size≤4→kE (wL fu (nP fu) x u) (oI (fun s=>s.size≤8) (fun _=>False)):=by
         intro u hu
         unfold wL
         exact .ite (fun _=>.bd (BH (d:=1) a4 (by omega) (by decide) (by decide) (by omega)) fun s hs=>.cr 4 rfl (by omega) fun g e=>.cl 1 rfl (by omega) fun g2 e2=>.go (by omega)) fun _=>.go (by omega)
       refine .BO hJ2 fun u hu=>.BO (hJ3 u hu) fun ty hty=>?_
       exact .cv (by omega) fun g1 e1=>.cl 4 rfl (by omega) fun g2 e2=>.cv (by omega) fun g3 e3=>.cl 2 rfl (by omega) fun g4 e4=>.cv (by omega) fun g5 e5=>.cl 2 rfl (by omega) fun g6 e6=>go g6 (by omega)
     have hJ4:kE (wV fu (nP fu) x) (oI (fun _=>True) (fun _=>False)):=by
       unfold wV
       exact .ite (fun _=>.go trivial) fun _=>.go trivial
     refine .BO hJ4 fun b _=>.ite (fun _=>?_) fun _=>.ite (fun _=>?_) fun _=>.ite (fun _=>?_) fun _=>.ite (fun _=>?_) fun _=>.ite (fun _=>?_) fun _=>.ite (fun _=>?_) fun _=>.ite (fun _=>?_) fun _=>go s (by omega)
     · exact .cv (by omega) fun g1 e1=>.cv (by omega) fun g2 e2=>.bd hv fun v k1=>.cv (by omega) fun g3 e3=>.cl 2 rfl (by omega) fun g4 e4=>go g4 (by omega)
     · exact .cv (by omega) fun g1 e1=>.cl 7 rfl (by omega) fun g2 e2=>.bd hv fun v k1=>.cv (by omega) fun g3 e3=>.cl 2 rfl (by omega) fun g4 e4=>go g4 (by omega)
     · exact .cv (by omega) fun g1 e1=>.cl 6 rfl (by omega) fun g2 e2=>.bd hv fun v k1=>.cv (by omega) fun g3 e3=>.cl 2 rfl (by omega) fun g4 e4=>go g4 (by omega)
     · exact .cv (by omega) fun g1 e1=>.cl 6 rfl (by omega) fun g2 e2=>.bd hv fun v k1=>.cv (by omega) fun g3 e3=>.cl 2 rfl (by omega) fun g4 e4=>go g4 (by omega)
     · refine .cv (by omega) fun g1 e1=>.cl 3 rfl (by omega) fun g2 e2=>.cl 1 rfl (by omega) fun t1 t2=>.bd hv fun v k1=>.cv (by omega) fun g3 e3=>.cl 3 rfl (by omega) fun g4 e4=>.bd (hB hx4 t2) fun b1 k2=>.cv (by omega) fun g5 e5=>.ite (fun _=>?_) fun _=>?_
       · exact .cv (by omega) fun g6 e6=>.cl 9 rfl (by omega) fun g7 e7=>.cl 1 rfl (by omega) fun t3 t4=>.bd (hB hx5 t4) fun b2 k3=>.cv (by omega) fun g8 e8=>.cv (by omega) fun g9 e9=>.cl 2 rfl (by omega) fun g10 e10=>go g10 (by omega)
       · exact .cv (by omega) fun g6 e6=>.cl 2 rfl (by omega) fun g10 e10=>go g10 (by omega)
     · exact .cv (by omega) fun g1 e1=>.cl 6 rfl (by omega) fun g2 e2=>.cl 1 rfl (by omega) fun t1 t2=>.bd hv fun v k1=>.cv (by omega) fun g3 e3=>.cl 3 rfl (by omega) fun g4 e4=>.bd (hB hx4 t2) fun b1 k2=>.cv (by omega) fun g5 e5=>.cv (by omega) fun g6 e6=>.cl 2 rfl (by omega) fun g10 e10=>go g10 (by omega)
     · exact .cv (by omega) fun g1 e1=>.cl 6 rfl (by omega) fun g2 e2=>.cl 1 rfl (by omega) fun t1 t2=>.cl 1 rfl (by omega) fun t3 t4=>.bd (hB hx4 t2) fun b1 k2=>.cv (by omega) fun g5 e5=>.cv (by omega) fun g6 e6=>.cl 8 rfl (by omega) fun g7 e7=>.cv (by omega) fun g8 e8=>.cl 3 rfl (by omega) fun g9 e9=>.bd (hB hx5 t4) fun b2 k3=>.cv (by omega) fun g10 e10=>.cv (by omega) fun g11 e11=>.cl 2 rfl (by omega) fun g12 e12=>go g12 (by omega)
  have hlen:l.length * CB (k+1)≤22 * CB (k+1):=Nat.mul_le_mul_right _ hl
  have h0:(⟨#[]⟩:ByteArray).size=0:=rfl
  refine .el (hL l 0 _ h (by omega)) (fun s hs=>.mk (by omega)) fun _ z=>z.elim
theorem FC {fu:Nat} (hf:50≤fu) {B:Nat} (hB:B=163100000) {O:ByteArray→Prop}:∀ (l:List nI) (k:Nat) (s:ByteArray),(∀ f ∈ l,GF f)→s.size+l.length * B≤700000000→kE (qz fu l k s) (oI (fun r=>r.size≤s.size+l.length * B) O)
 | [],k,s,h,hs=>.go (Nat.le_add_right _ _)
 | x :: l,k,s,h,hs=>by
  rw [qz]
  rw [List.length_cons,Nat.succ_mul] at hs ⊢
  obtain ⟨a1,a2,a3⟩:=h x (List.mem_cons_self ..)
  have h9:(⟨#[9]⟩:ByteArray).size=1:=rfl
  refine .cl 5 rfl (by omega) fun g1 e1=>.cv (by omega) fun g2 e2=>.cl 1 rfl (by omega) fun g3 e3=>.bd (NJ a2) fun w hw=>.cv (by omega) fun g4 e4=>.cl 4 rfl (by omega) fun g5 e5=>.bd (Nb (k:=4) (by decide) a3.2 a3.1 (by omega) (by omega)) fun b hb=>?_
  have hb2:b.size≤22 * CB 4:=Nat.le_trans hb (Nat.mul_le_mul_right _ a3.1)
  have hc4:CB 4=7410000:=by simp only [CB]
  refine .cv (by omega) fun g6 e6=>.cl 2 rfl (by omega) fun g7 e7=>?_
  exact (FC hf hB l (k+1) g7 (fun y hy=>h y (List.mem_cons_of_mem _ hy)) (by omega)).imp fun v hv=>by
   cases v with
   | go r=>exact Nat.le_trans (show r.size≤_ from hv) (by omega)
   | out o=>exact hv
theorem SQ {fu:Nat} (hf:50≤fu) {p:jU} (h:GPr p):kE (yP fu p) (fun s=>s.size≤700000000):=by
 unfold yP
 have h0:(⟨#[]⟩:ByteArray).size=0:=rfl
 rw [h.recs]
 have hR:kE (pq fu [⟨⟨#[80]⟩,[⟨#[120]⟩,⟨#[121]⟩]⟩] 0 ⟨#[]⟩) (oI (fun s=>s.size≤100) (fun _=>False)):=by
  rw [pq]
  have h1:(⟨⟨#[80]⟩,[⟨#[120]⟩,⟨#[121]⟩]⟩:nu).b.size=1:=rfl
  refine .cl 7 rfl (by omega) fun g1 e1=>.cv (by omega) fun g2 e2=>.cl 3 rfl (by omega) fun g3 e3=>.bd (NJ ⟨by decide,JG⟩) fun w hw=>.cv (by omega) fun g4 e4=>.cl 3 rfl (by omega) fun g5 e5=>?_
  rw [pq]
  exact .go (by omega)
 have hl:=h.e.2
 have hl2:p.b.length * 163100000≤4 * 163100000:=Nat.mul_le_mul_right _ hl
 refine .el hR (fun s hs=>?_) fun _ z=>z.elim
 exact .el (FC hf rfl p.b 0 s h.el (O:=fun _=>False) (by omega)) (fun s hs=>.mk (by omega)) fun _ z=>z.elim
end Go.Proofs.Ytfglbdkfnphjgaa
set_option linter.unusedVariables false
namespace Go.Proofs.Ytfglbdkfnphjgaa
open Go.RowKit Go.Fw
section
variable {P:Program} {w:World} {ρ:Operand→Value} {d:Option Nat} {ty:TypeId} {pos:String} {af:Array Edge} {g:Option (Nat × Bool)} {t t':TypeId} {x y:Operand} {a b:Bool}
theorem aau (ht:P.underlying t=some .bool) (hx:ρ x=.bool a) (hy:ρ y=.bool b):Yl P ρ (.binOp .eql t x y t') d ty pos af g w (.bool (decide (a=b))):=by
 have h:=run_equalIn_bool' (P:=P) w (Op.maxDepth - 1) t a b ht
 have hd:Op.maxDepth - 1+1=Op.maxDepth:=rfl
 rw [hd] at h
 simp [Yl,execOp,hx,hy,binOp,eqGuard,Op.equal,h]
 cases a <;> cases b <;> rfl
theorem aas (ht:P.underlying t=some .bool) (hx:ρ x=.bool a) (hy:ρ y=.bool b):Yl P ρ (.binOp .neq t x y t') d ty pos af g w (.bool (decide (¬ a=b))):=by
 have h:=run_equalIn_bool' (P:=P) w (Op.maxDepth - 1) t a b ht
 have hd:Op.maxDepth - 1+1=Op.maxDepth:=rfl
 rw [hd] at h
 simp [Yl,execOp,hx,hy,binOp,eqGuard,Op.equal,h]
 cases a <;> cases b <;> rfl
end
end Go.Proofs.Ytfglbdkfnphjgaa
set_option linter.unusedVariables false
set_option maxHeartbeats 12800000
set_option linter.unusedSimpArgs false
set_option maxRecDepth 4000
namespace Go.Proofs.Ytfglbdkfnphjgaa
open Go.RowKit Go.Fw
noncomputable section
def Kl (m:(List Int)→(List Int)→Option (Bool)):Prop:=∀ {e:World} {j:Nat→Prop} {f:(List Int)} {h:(List Int)} {a:Option Addr} {b:Nat} {c:Option Addr} {d:Nat} {i:Bool},Pre e j [] [.l a b f,.l c d h]→m f h=some i→
 Calls Try.prog 21 #[Z a f b,Z c h d] e (qw fun v w=>v=.bool i∧Bx e w j (lK []) [] [])
def tu (fu:Nat)(b:(List Int)) (c:(List Int)):Nat→Int→Option (Ld (Int) (Bool))
 | 0,_=>none
 | d+1,a=>
 if a < (b.length:Int) then
  (ix b a).bind fun e=>
  (ix c a).bind fun f=>
  if e≠f then
   some (.out false)
  else
   tu fu b c d (wr (a+1))
 else
  some (.go a)
def vQ (fu:Nat)(a:(List Int)) (b:(List Int)):Option (Bool):=
 if (a.length:Int)≠(b.length:Int) then
  some false
 else
  (tu fu a b fu 0).bind fun d=>d.el (fun c=>
  some true
  ) (fun o=>some o)
theorem Br (fu:Nat):Kl (vQ fu):=by
 intro H W t u c d e i M I k
 unfold vQ at k
 have j:=I.bx
 clear I
 generalize N:lK _=G at j ⊢
 refine cf Try.func21 r ?_
 refine lI [(0,Z c t d),(1,Z e u i)] ⟨r,r,y⟩ fun X=>?_
 refine q (g (s (kg r) (n (q (q (g (s (l5 r) (s (kZ rM r) (s (l5 r) (s (kZ rM r) (s (p9 r r) (n ?_))))))))))))
 rcases iv k with ⟨v,k⟩|⟨v,k⟩
 ·refine jL (bt v) (q (g (s (kg r) (n (kR ?_)))))
  obtain rfl:=sm k
  refine jC r (kW r) ?_
  exact ⟨r,(j.dp [])⟩
 refine jH (bf v) (wk (q (q (g (s (xi r) (n ?_))))))
 obtain ⟨J,a,k⟩:=bs k
 refine nW (fun f w=>∃ (b:Int),Has f []∧Bx H w W G [] [.l c d t,.l e i u]∧Ld.go b=J) (fun Q x=>?_) ?_
 ·refine oF (kM (fun Y f w=>∃ (b:Int),Has f [(0,Z c t d),(1,Z e u i),(5,V b)]∧Bx H w W G [] [.l c d t,.l e i u]∧tu fu t u Y b=some J) fu ⟨0,⟨r,r,r,y⟩,j,a⟩ ?_)
  clear j a
  rintro z f w ⟨b,hf,j,a⟩ R A
  obtain ⟨X,rfl⟩:=gP _ _ hf
  clear hf
  cases z with
  | zero=>exact nn a
  | succ z=>
   rw [tu] at a
   refine q (q (g (s (mi r) (s (l5 r) (s (kZ rM r) (s (pz r r) (n ?_)))))))
   rcases iv a with ⟨B,a⟩|⟨B,a⟩
   ·refine jL (bt B) (wk (q (oF (q (oL j [] [0,1] [] (by kernel_rfl) ?_)))))
    replace j:=j.drew
    have m:=j
    refine pF 0 r (l5 r) m (pF 1 r (mi r) m ?_)
    obtain ⟨K,o,a⟩:=bs a
    obtain ⟨S,C,o⟩:=kJ o
    refine pF 2 r (kV rM mK r r C (j.dl 0 r) o) m (tU 3 r (fun _ hS=>jP Fu r r ((uI (ds:=[V K]) (hS.dl 0 r) o (fun _ h=>h)) 0 _ r)) (sF m) (pF 4 r (l5 r) m (pF 5 r (mi r) m ?_)))
    obtain ⟨L,p,a⟩:=bs a
    obtain ⟨U,D,p⟩:=kJ p
    refine pF 6 r (kV rM mK r r D (j.dl 1 r) p) m (tU 7 r (fun _ hS=>jP Fu r r ((uI (ds:=[V L]) (hS.dl 1 r) p (fun _ h=>h)) 0 _ r)) (sF m) (pF 8 r (p9 r r) m (hD ?_)))
    rcases iv a with ⟨E,a⟩|⟨E,a⟩
    ·refine jL (bt E) (q (g (s (kg r) (n (kR ?_)))))
     obtain rfl:=sm a
     replace k:=oi k
     obtain rfl:=sm k
     refine jC r (kW r) ?_
     exact ⟨r,(j.dp [])⟩
    refine jH (bf E) (wk (g (s (mi r) (s (kF r r) (s (xi r) (n ?_))))))
    exact A z _ _ (Nat.lt_succ_self _) ⟨(wr (b+1)),⟨r,r,r,y⟩,j,a⟩
   refine jH (bf B) (uK ?_)
   exact x _ _ ⟨b,y,j,sm a⟩
 clear j
 rintro f w ⟨b,hf,j,F⟩
 obtain ⟨X,rfl⟩:=gP _ _ hf
 clear hf
 subst F
 replace k:=gi k
 refine q (g (s (kg r) (n (kR ?_))))
 obtain rfl:=sm k
 refine jC r (kW r) ?_
 exact ⟨r,(j.dp [])⟩
end
end Go.Proofs.Ytfglbdkfnphjgaa
set_option linter.unusedVariables false
set_option maxHeartbeats 12800000
set_option linter.unusedSimpArgs false
set_option maxRecDepth 4000
namespace Go.Proofs.Ytfglbdkfnphjgaa
open Go.RowKit Go.Fw
noncomputable section
def Kk (m:(List Int)→Option (BA)):Prop:=∀ {c:World} {f:Nat→Prop} {d:(List Int)} {a:Option Addr} {b:Nat} {e:BA},Pre c f [] [.l a b d]→m d=some e→
 Calls Try.prog 26 #[Z a d b] c (qw fun v w=>v=T e∧Bx c w f (lK []) [] [])
def zH (fu:Nat)(c:(List Int)):Option (BA):=
 (vv fu c).bind fun a=>
 (yP fu a).bind fun b=>
 some b
theorem LA (fu:Nat):Kk (zH fu):=by
 intro u A o b c v k d
 unfold zH at d
 have a:=k.bx
 clear k
 generalize w:lK _=G at a ⊢
 refine cf Try.func26 r ?_
 refine lI [(0,Z b o c)] ⟨r,y⟩ fun B=>?_
 refine q (g (s (mD r) (n (q (g (s (l5 r) ?_))))))
 obtain ⟨l,p,d⟩:=bs d
 have hc:=(Fy fu) (a.pr [] [] [0] r)  p
 refine sc (ec XC r) hc ?_
 rintro _ x ⟨e,f,h,i,rfl,j⟩
 replace a:=a.cl [] [] r j r
 try dsimp only [pick,nth,ca,na] at a
 obtain ⟨m,t,d⟩:=bs d
 have hc:=(JQ fu) (a.pr [] [] [0,1] r)  t
 refine sc (ec Yx r) hc ?_
 rintro _ z ⟨rfl,j⟩
 replace a:=a.cl [] [] r j r
 try dsimp only [pick,nth,ca,na] at a
 refine s (mD r) (n (kR ?_))
 obtain rfl:=sm d
 refine jC r (kW r) ?_
 exact ⟨r,(a.dp [])⟩
def Jm (m:(List Bool)→(List Bool)→Option (Bool)):Prop:=∀ {e:World} {j:Nat→Prop} {f:(List Bool)} {h:(List Bool)} {a:Option Addr} {b:Nat} {c:Option Addr} {d:Nat} {i:Bool},Pre e j [] [.l a b f,.l c d h]→m f h=some i→
 Calls Try.prog 51 #[Z a f b,Z c h d] e (qw fun v w=>v=.bool i∧Bx e w j (lK []) [] [])
def rU (fu:Nat)(b:(List Bool)) (c:(List Bool)):Nat→Int→Option (Ld (Int) (Bool))
 | 0,_=>none
 | d+1,a=>
 if a < (b.length:Int) then
  (ix b a).bind fun e=>
  (ix c a).bind fun f=>
  if ¬ e=f then
   some (.out false)
  else
   rU fu b c d (wr (a+1))
 else
  some (.go a)
def yS (fu:Nat)(a:(List Bool)) (b:(List Bool)):Option (Bool):=
 if (a.length:Int)≠(b.length:Int) then
  some false
 else
  (rU fu a b fu 0).bind fun d=>d.el (fun c=>
  some true
  ) (fun o=>some o)
theorem JC (fu:Nat):Jm (yS fu):=by
 intro H W t u c d e i M I k
 unfold yS at k
 have j:=I.bx
 clear I
 generalize N:lK _=G at j ⊢
 refine cf Try.func51 r ?_
 refine lI [(0,Z c t d),(1,Z e u i)] ⟨r,r,y⟩ fun X=>?_
 refine q (g (s (kg r) (n (q (q (g (s (l5 r) (s (kZ LX r) (s (l5 r) (s (kZ LX r) (s (p9 r r) (n ?_))))))))))))
 rcases iv k with ⟨v,k⟩|⟨v,k⟩
 ·refine jL (bt v) (q (g (s (kg r) (n (kR ?_)))))
  obtain rfl:=sm k
  refine jC r (kW r) ?_
  exact ⟨r,(j.dp [])⟩
 refine jH (bf v) (wk (q (q (g (s (xi r) (n ?_))))))
 obtain ⟨J,a,k⟩:=bs k
 refine nW (fun f w=>∃ (b:Int),Has f []∧Bx H w W G [] [.l c d t,.l e i u]∧Ld.go b=J) (fun Q x=>?_) ?_
 ·refine oF (kM (fun Y f w=>∃ (b:Int),Has f [(0,Z c t d),(1,Z e u i),(5,V b)]∧Bx H w W G [] [.l c d t,.l e i u]∧rU fu t u Y b=some J) fu ⟨0,⟨r,r,r,y⟩,j,a⟩ ?_)
  clear j a
  rintro z f w ⟨b,hf,j,a⟩ R A
  obtain ⟨X,rfl⟩:=gP _ _ hf
  clear hf
  cases z with
  | zero=>exact nn a
  | succ z=>
   rw [rU] at a
   refine q (q (g (s (mi r) (s (l5 r) (s (kZ LX r) (s (pz r r) (n ?_)))))))
   rcases iv a with ⟨B,a⟩|⟨B,a⟩
   ·refine jL (bt B) (wk (q (oF (q (oL j [] [0,1] [] (by kernel_rfl) ?_)))))
    replace j:=j.drew
    have m:=j
    refine pF 0 r (l5 r) m (pF 1 r (mi r) m ?_)
    obtain ⟨K,o,a⟩:=bs a
    obtain ⟨S,C,o⟩:=kJ o
    refine pF 2 r (kV LX LW r r C (j.dl 0 r) o) m (tU 3 r (fun _ hS=>jP Zw r r ((uI (ds:=[.bool K]) (hS.dl 0 r) o (fun _ h=>h)) 0 _ r)) (sF m) (pF 4 r (l5 r) m (pF 5 r (mi r) m ?_)))
    obtain ⟨L,p,a⟩:=bs a
    obtain ⟨U,D,p⟩:=kJ p
    refine pF 6 r (kV LX LW r r D (j.dl 1 r) p) m (tU 7 r (fun _ hS=>jP Zw r r ((uI (ds:=[.bool L]) (hS.dl 1 r) p (fun _ h=>h)) 0 _ r)) (sF m) (pF 8 r (aas Zw r r) m (hD ?_)))
    rcases iv a with ⟨E,a⟩|⟨E,a⟩
    ·refine jL (bt E) (q (g (s (kg r) (n (kR ?_)))))
     obtain rfl:=sm a
     replace k:=oi k
     obtain rfl:=sm k
     refine jC r (kW r) ?_
     exact ⟨r,(j.dp [])⟩
    refine jH (bf E) (wk (g (s (mi r) (s (kF r r) (s (xi r) (n ?_))))))
    exact A z _ _ (Nat.lt_succ_self _) ⟨(wr (b+1)),⟨r,r,r,y⟩,j,a⟩
   refine jH (bf B) (uK ?_)
   exact x _ _ ⟨b,y,j,sm a⟩
 clear j
 rintro f w ⟨b,hf,j,F⟩
 obtain ⟨X,rfl⟩:=gP _ _ hf
 clear hf
 subst F
 replace k:=gi k
 refine q (g (s (kg r) (n (kR ?_))))
 obtain rfl:=sm k
 refine jC r (kW r) ?_
 exact ⟨r,(j.dp [])⟩
def G6 (m:nJ→nJ→Option (Bool)):Prop:=∀ {h:World} {j:Nat→Prop} {e:nJ} {f:nJ} {a:Option Addr} {b:Nat} {c:Option Addr} {d:Nat} {i:Bool},Pre h j [] [.l a b e.b,.l c d f.b]→m e f=some i→
 Calls Try.prog 40 #[.agg #[V e.k,V e.a,Z a e.b b],.agg #[V f.k,V f.a,Z c f.b d]] h (qw fun v w=>v=.bool i∧Bx h w j (lK []) [] [])
def qP (fu:Nat)(e:nJ) (h:nJ):Nat→Int→Option (Ld (Int) (Bool))
 | 0,_=>none
 | i+1,a=>
 if a < (e.b.length:Int) then
  (ix e.b a).bind fun f=>
  (ix h.b a).bind fun b=>
  if f.g≠b.g then
   some (.out false)
  else
   (yS fu f.b b.b).bind fun c=>
   if (!c)=true then
    some (.out false)
   else
    (vQ fu f.a b.a).bind fun d=>
    if (!d)=true then
     some (.out false)
    else
     qP fu e h i (wr (a+1))
 else
  some (.go a)
def wQ (fu:Nat)(a:nJ) (b:nJ):Option (Bool):=
 if a.k≠b.k then
  some false
 else
  if a.a≠b.a then
   some false
  else
   if (a.b.length:Int)≠(b.b.length:Int) then
    some false
   else
    (qP fu a b fu 0).bind fun d=>d.el (fun c=>
    some true
    ) (fun o=>some o)
theorem He (fu:Nat):G6 (wQ fu):=by
 intro w0 ax v x j m o p r0 hP e
 unfold wQ at e
 have b:=hP.bx
 clear hP
 generalize hG:lK _=G at b ⊢
 refine cf Try.func40 r ?_
 refine lI [(0,.agg #[V v.k,V v.a,Z j v.b m]),(1,.agg #[V x.k,V x.a,Z o x.b p])] ⟨r,r,y⟩ fun ay=>?_
 refine q (g (nO (nH b (xL r)) ?_))
 rintro _ w1 ⟨X,rfl,b⟩
 refine nO (nH b (xL r)) ?_
 rintro _ w2 ⟨Y,rfl,b⟩
 refine s (kg r) (n (q (q (g (s (TF r) (s (l3 r (b.bk 1 r) r) (s (TF r) (s (l3 r (b.bk 0 r) r) (s (p9 r r) (s (kL r) ?_))))))))))
 rcases iv e with ⟨h3,e⟩|⟨h3,e⟩
 ·rw [decide_eq_true h3]
  refine jJ r (jJ r (jJ r (jJ r (jJ r (s (kC r r) (s (kL r) (jJ r (jJ r (jJ r (jJ r (jJ r (jJ r (jJ r ?_)))))))))))))
  refine s (kC r r) (n (jL r (q (g (s (kg r) (n (kR ?_)))))))
  obtain rfl:=sm e
  refine jC r (kW r) ?_
  exact ⟨r,(b.ad [] [])⟩
 rw [decide_eq_false h3]
 refine kr r (s (TU r) (kr r (s (l3 r (b.bk 1 r) r) (kr r (s (TU r) (kr r (s (l3 r (b.bk 0 r) r) (kr r (s (p9 r r) (s (jZ r r) (s (kL r) ?_)))))))))))
 rcases iv e with ⟨h4,e⟩|⟨h4,e⟩
 ·rw [decide_eq_true h4]
  refine jJ r (jJ r (jJ r (jJ r (jJ r (jJ r (jJ r (s (kC r r) (n (jL r (q (g (s (kg r) (n ?_)))))))))))))
  refine kR ?_
  obtain rfl:=sm e
  refine jC r (kW r) ?_
  exact ⟨r,(b.ad [] [])⟩
 rw [decide_eq_false h4]
 refine kr r (s (Bw r) (kr r (s (Tn r (b.bk 1 r) r) (kr r (s (kZ DT r) (kr r (s (Bw r) (kr r (s (Tn r (b.bk 0 r) r) (kr r (s (kZ DT r) (kr r (s (p9 r r) ?_)))))))))))))
 refine s (jZ r r) (n ?_)
 rcases iv e with ⟨h5,e⟩|⟨h5,e⟩
 ·refine jL (bt h5) (q (g (s (kg r) (n (kR ?_)))))
  obtain rfl:=sm e
  refine jC r (kW r) ?_
  exact ⟨r,(b.ad [] [])⟩
 refine jH (bf h5) (wk (q (q (g (s (xi r) (n ?_))))))
 obtain ⟨Y6,c,e⟩:=bs e
 refine nW (fun f w=>∃ (h:Int),Has f []∧Bx w0 w ax G [.box Y 53 #[V x.k,V x.a,Z o x.b p],.box X 53 #[V v.k,V v.a,Z j v.b m]] [.l j m v.b,.l o p x.b]∧Ld.go h=Y6) (fun J6 a3=>?_) ?_
 ·refine oF (kM (fun az f w=>∃ (h:Int),Has f [(2,Pt X),(3,Pt Y),(5,V h)]∧Bx w0 w ax G [.box Y 53 #[V x.k,V x.a,Z o x.b p],.box X 53 #[V v.k,V v.a,Z j v.b m]] [.l j m v.b,.l o p x.b]∧qP fu v x az h=some Y6) fu ⟨0,⟨r,r,r,y⟩,b,c⟩ ?_)
  clear b c
  rintro n6 f w ⟨h,hf,b,c⟩ K6 a5
  obtain ⟨ay,rfl⟩:=gP _ _ hf
  clear hf
  cases n6 with
  | zero=>exact nn c
  | succ n6=>
   rw [qP] at c
   refine q (q (g (s (mi r) (s (Bw r) (s (Tn r (b.bk 1 r) r) (s (kZ DT r) (s (pz r r) (n ?_))))))))
   rcases iv c with ⟨h7,c⟩|⟨h7,c⟩
   ·refine jL (bt h7) (wk (q (oF (q ?_))))
    obtain ⟨e8,u,c⟩:=bs c
    obtain ⟨k8,C,u⟩:=kJ u
    obtain ⟨ak,a7,b⟩:=b.nm 0 rfl u
    obtain ⟨L,M,N,Q,rfl,R,S⟩:=rQ.out a7
    replace b:=b.ku (d:=.l L M e8.b) R
    replace b:=b.ku (d:=.l N Q e8.a) S
    obtain ⟨U,t,c⟩:=bs c
    obtain ⟨al,z,t⟩:=kJ t
    obtain ⟨aj,W,b⟩:=b.nm 4 rfl t
    obtain ⟨D,E,F,H,rfl,I,J⟩:=rQ.out W
    replace b:=b.ku (d:=.l D E U.b) I
    replace b:=b.ku (d:=.l F H U.a) J
    refine oL b [0,1] [0,1,2,3,4,5,6,7] [] (by kernel_rfl) ?_
    replace b:=b.drew
    have a:=b
    refine pF 0 r (Bw r) a (uF 1 r (fun hS=>Tn r (hS.bk 1 r) r) a (pF 2 r (mi r) a (pF 3 r (kV DT KX r r C (b.dl 6 r) u) a (pF 4 r (TT r) a (uF 5 r (fun hS=>jP Fu r r ((hS.dc 5 r) 0 _ r)) a (pF 6 r (Bw r) a (uF 7 r (fun hS=>Tn r (hS.bk 0 r) r) a (pF 8 r (mi r) a (pF 9 r (kV DT KX r r z (b.dl 7 r) t) a (pF 10 r (TT r) a (uF 11 r (fun hS=>jP Fu r r ((hS.dc 2 r) 0 _ r)) a (pF 12 r (p9 r r) a (pF 13 r (kL r) a ?_)))))))))))))
    rcases iv c with ⟨K,c⟩|⟨K,c⟩
    ·rw [decide_eq_true K]
     have a:=b
     refine jM 14 r (by kernel_rfl) r (sF a) (jM 15 r (by kernel_rfl) r (sF a) (jM 16 r (by kernel_rfl) r (sF a) (jM 17 r (by kernel_rfl) r (sF a) (jM 18 r (by kernel_rfl) r (sF a) (jM 19 r (by kernel_rfl) r (sF a) (jM 20 r (by kernel_rfl) r (sF a) (jM 21 r (by kernel_rfl) r (sF a) (jM 22 r (by kernel_rfl) r (sF a) (jM 23 r (by kernel_rfl) r (sF a) (jM 24 r (by kernel_rfl) r (sF a) (jM 25 r (by kernel_rfl) r (sF a) (jM 26 r (by kernel_rfl) r (sF a) (jM 27 r (by kernel_rfl) r (sF a) ?_)))))))))))))
     refine pF 28 r (kC r r) a (pF 29 r (kL r) a (jM 30 r (by kernel_rfl) r (sF a) (jM 31 r (by kernel_rfl) r (sF a) (jM 32 r (by kernel_rfl) r (sF a) (jM 33 r (by kernel_rfl) r (sF a) (jM 34 r (by kernel_rfl) r (sF a) (jM 35 r (by kernel_rfl) r (sF a) (jM 36 r (by kernel_rfl) r (sF a) (jM 37 r (by kernel_rfl) r (sF a) (jM 38 r (by kernel_rfl) r (sF a) (jM 39 r (by kernel_rfl) r (sF a) (jM 40 r (by kernel_rfl) r (sF a) (jM 41 r (by kernel_rfl) r (sF a) ?_)))))))))))))
     refine jM 42 r (by kernel_rfl) r (sF a) (jM 43 r (by kernel_rfl) r (sF a) (pF 44 r (kC r r) a (hD (jL r (q (g (s (kg r) (n (kR ?_)))))))))
     obtain rfl:=sm c
     replace e:=oi e
     obtain rfl:=sm e
     refine jC r (kW r) ?_
     exact ⟨r,(b.ad [] [])⟩
    rw [decide_eq_false K]
    have a:=b
    refine pF 14 r (Bw r) a (uF 15 r (fun hS=>Tn r (hS.bk 1 r) r) a (pF 16 r (mi r) a (pF 17 r (kV DT KX r r C (b.dl 6 r) u) a (pF 18 r (TH r) a (uF 19 r (fun hS=>jP LX r r ((hS.dc 5 r) 1 _ r)) a (pF 20 r (Bw r) a (uF 21 r (fun hS=>Tn r (hS.bk 0 r) r) a (pF 22 r (mi r) a (pF 23 r (kV DT KX r r z (b.dl 7 r) t) a (pF 24 r (TH r) a (uF 25 r (fun hS=>jP LX r r ((hS.dc 2 r) 1 _ r)) a ?_)))))))))))
    obtain ⟨a8,a9,c⟩:=bs c
    have hc:=(JC fu) (b.pr [] [0,1] [4,1] r)  a9
    refine hO 26 (oc r r (ec Yt r) hc ?_)
    rintro _ am ⟨rfl,hK⟩
    replace b:=b.cl [] [0,1] r hK r
    try dsimp only [pick,nth,ca,na] at b
    have a:=b
    refine ⟨(sF a),?_⟩
    refine pF 27 r (zh r) a (pF 28 r (jZ r r) a (pF 29 r (kL r) a ?_))
    rcases iv c with ⟨A,c⟩|⟨A,c⟩
    ·rw [A]
     have a:=b
     refine jM 30 r (by kernel_rfl) r (sF a) (jM 31 r (by kernel_rfl) r (sF a) (jM 32 r (by kernel_rfl) r (sF a) (jM 33 r (by kernel_rfl) r (sF a) (jM 34 r (by kernel_rfl) r (sF a) (jM 35 r (by kernel_rfl) r (sF a) (jM 36 r (by kernel_rfl) r (sF a) (jM 37 r (by kernel_rfl) r (sF a) (jM 38 r (by kernel_rfl) r (sF a) (jM 39 r (by kernel_rfl) r (sF a) (jM 40 r (by kernel_rfl) r (sF a) (jM 41 r (by kernel_rfl) r (sF a) (jM 42 r (by kernel_rfl) r (sF a) (jM 43 r (by kernel_rfl) r (sF a) ?_)))))))))))))
     refine pF 44 r (kC r r) a (hD (jL r (q (g (s (kg r) (n (kR ?_)))))))
     obtain rfl:=sm c
     replace e:=oi e
     obtain rfl:=sm e
     refine jC r (kW r) ?_
     exact ⟨r,(b.ad [] [])⟩
    replace A:=nt A
    rw [A]
    have a:=b
    refine pF 30 r (Bw r) a (uF 31 r (fun hS=>Tn r (hS.bk 1 r) r) a (pF 32 r (mi r) a (pF 33 r (kV DT KX r r C (b.dl 6 r) u) a (pF 34 r (Pq r) a (uF 35 r (fun hS=>jP rM r r ((hS.dc 5 r) 2 _ r)) a (pF 36 r (Bw r) a (uF 37 r (fun hS=>Tn r (hS.bk 0 r) r) a (pF 38 r (mi r) a (pF 39 r (kV DT KX r r z (b.dl 7 r) t) a (pF 40 r (Pq r) a (uF 41 r (fun hS=>jP rM r r ((hS.dc 2 r) 2 _ r)) a ?_)))))))))))
    obtain ⟨ab,ac,c⟩:=bs c
    have hc:=(Br fu) (b.pr [] [0,1] [3,0] r)  ac
    refine hO 42 (oc r r (ec QO r) hc ?_)
    rintro _ an ⟨rfl,hK⟩
    replace b:=b.cl [] [0,1] r hK r
    try dsimp only [pick,nth,ca,na] at b
    have a:=b
    refine ⟨(sF a),?_⟩
    refine pF 43 r (zh r) a (pF 44 r (jZ r r) a (hD ?_))
    rcases iv c with ⟨B,c⟩|⟨B,c⟩
    ·refine jL (cb B) (q (g (s (kg r) (n (kR ?_)))))
     obtain rfl:=sm c
     replace e:=oi e
     obtain rfl:=sm e
     refine jC r (kW r) ?_
     exact ⟨r,(b.ad [] [])⟩
    replace B:=nt B
    refine jH (cb B) (wk (g (s (mi r) (s (kF r r) (s (xi r) (n ?_))))))
    exact a5 n6 _ _ (Nat.lt_succ_self _) ⟨(wr (h+1)),⟨r,r,r,y⟩,(b.dp [6,7]),c⟩
   refine jH (bf h7) (uK ?_)
   exact a3 _ _ ⟨h,y,b,sm c⟩
 clear b
 rintro f w ⟨h,hf,b,ae⟩
 obtain ⟨ay,rfl⟩:=gP _ _ hf
 clear hf
 subst ae
 replace e:=gi e
 refine q (g (s (kg r) (n (kR ?_))))
 obtain rfl:=sm e
 refine jC r (kW r) ?_
 exact ⟨r,(b.ad [] [])⟩
def Fb (m:(List kK)→(List kK)→Option (Bool)):Prop:=∀ {e:World} {j:Nat→Prop} {f:(List kK)} {h:(List kK)} {a:Option Addr} {b:Nat} {c:Option Addr} {d:Nat} {i:Bool},Pre e j [] [.l a b f,.l c d h]→m f h=some i→
 Calls Try.prog 19 #[Z a f b,Z c h d] e (qw fun v w=>v=.bool i∧Bx e w j (lK []) [] [])
def qo (fu:Nat)(i:(List kK)) (j:(List kK)) (b:Int):Nat→Int→Option (Ld (Int) (Bool))
 | 0,_=>none
 | k+1,a=>
 (ix i b).bind fun d=>
 if a < (d.a.length:Int) then
  (ix d.a a).bind fun e=>
  (ix j b).bind fun f=>
  (ix f.a a).bind fun h=>
  (wQ fu e h).bind fun c=>
  if (!c)=true then
   some (.out false)
  else
   qo fu i j b k (wr (a+1))
 else
  some (.go a)
def ql (fu:Nat)(b:(List kK)) (c:(List kK)):Nat→Int→Option (Ld (Int) (Bool))
 | 0,_=>none
 | e+1,a=>
 if a < (b.length:Int) then
  (ix b a).bind fun f=>
  (ix c a).bind fun h=>
  if (f.a.length:Int)≠(h.a.length:Int) then
   some (.out false)
  else
   (qo fu b c a fu 0).bind fun i=>i.el (fun d=>
   ql fu b c e (wr (a+1))
   ) (fun o=>some (.out o))
 else
  some (.go a)
def vE (fu:Nat)(a:(List kK)) (b:(List kK)):Option (Bool):=
 if (a.length:Int)≠(b.length:Int) then
  some false
 else
  (ql fu a b fu 0).bind fun d=>d.el (fun c=>
  some true
  ) (fun o=>some o)
theorem FL (fu:Nat):Fb (vE fu):=by
 intro w0 aZ E F e h i j r0 hP t
 unfold vE at t
 have a:=hP.bx
 clear hP
 generalize hG:lK _=G at a ⊢
 refine cf Try.func19 r ?_
 refine lI [(0,Z e E h),(1,Z i F j)] ⟨r,r,y⟩ fun b0=>?_
 refine q (g (s (kg r) (n (q (q (g (s (l5 r) (s (kZ BN r) (s (l5 r) (s (kZ BN r) (s (p9 r r) (n ?_))))))))))))
 rcases iv t with ⟨h1,t⟩|⟨h1,t⟩
 ·refine jL (bt h1) (q (g (s (kg r) (n (kR ?_)))))
  obtain rfl:=sm t
  refine jC r (kW r) ?_
  exact ⟨r,(a.dp [])⟩
 refine jH (bf h1) (wk (q (q (g (s (xi r) (n ?_))))))
 obtain ⟨Y2,b,t⟩:=bs t
 refine nW (fun f w=>∃ (k:Int),Has f []∧Bx w0 w aZ G [] [.l e h E,.l i j F]∧Ld.go k=Y2) (fun J2 ag=>?_) ?_
 ·refine oF (kM (fun b1 f w=>∃ (k:Int),Has f [(0,Z e E h),(1,Z i F j),(5,V k)]∧Bx w0 w aZ G [] [.l e h E,.l i j F]∧ql fu E F b1 k=some Y2) fu ⟨0,⟨r,r,r,y⟩,a,b⟩ ?_)
  clear a b
  rintro n2 f w ⟨k,hf,a,b⟩ K2 ai
  obtain ⟨b0,rfl⟩:=gP _ _ hf
  clear hf
  cases n2 with
  | zero=>exact nn b
  | succ n2=>
   rw [ql] at b
   refine q (q (g (s (mi r) (s (l5 r) (s (kZ BN r) (s (pz r r) (n ?_)))))))
   rcases iv b with ⟨h3,b⟩|⟨h3,b⟩
   ·refine jL (bt h3) (wk (q (oF (q (q ?_)))))
    obtain ⟨e4,H,b⟩:=bs b
    obtain ⟨k4,ak,H⟩:=kJ H
    obtain ⟨aI,al,a⟩:=a.nm 0 rfl H
    obtain ⟨a0,a1,rfl,a2⟩:=kK.out al
    replace a:=a.ku (d:=.l a0 a1 e4.a) a2
    obtain ⟨e6,I,b⟩:=bs b
    obtain ⟨k6,am,I⟩:=kJ I
    obtain ⟨aK,an,a⟩:=a.nm 3 rfl I
    obtain ⟨a3,a4,rfl,a5⟩:=kK.out an
    replace a:=a.ku (d:=.l a3 a4 e6.a) a5
    refine oL a [] [0,1,2,3,4,5] [] (by kernel_rfl) ?_
    replace a:=a.drew
    have m:=a
    refine pF 0 r (l5 r) m (pF 1 r (mi r) m (pF 2 r (kV BN ED r r ak (a.dl 4 r) H) m (pF 3 r (D9 r) m (uF 4 r (fun hS=>jP BM r r ((hS.dc 3 r) 0 _ r)) m (pF 5 r (kZ BM r) m (pF 6 r (l5 r) m (pF 7 r (mi r) m (pF 8 r (kV BN ED r r am (a.dl 5 r) I) m (pF 9 r (D9 r) m (uF 10 r (fun hS=>jP BM r r ((hS.dc 1 r) 0 _ r)) m (pF 11 r (kZ BM r) m (pF 12 r (p9 r r) m (hD ?_)))))))))))))
    rcases iv b with ⟨h8,b⟩|⟨h8,b⟩
    ·refine jL (bt h8) (q (g (s (kg r) (n (kR ?_)))))
     obtain rfl:=sm b
     replace t:=oi t
     obtain rfl:=sm t
     refine jC r (kW r) ?_
     exact ⟨r,(a.dp [])⟩
    refine jH (bf h8) (wk (q (g (s (xi r) (n ?_)))))
    obtain ⟨Y9,c,b⟩:=bs b
    refine nW (fun f w=>∃ (o:Int),Has f [(0,Z e E h),(1,Z i F j),(5,V k)]∧Bx w0 w aZ G [] [.l e h E,.l i j F]∧Ld.go o=Y9) (fun J9 ap=>?_) ?_
    ·refine oF (kM (fun b1 f w=>∃ (o:Int),Has f [(0,Z e E h),(1,Z i F j),(5,V k),(6,V o)]∧Bx w0 w aZ G [] [.l e h E,.l i j F]∧qo fu E F k b1 o=some Y9) fu ⟨0,⟨r,r,r,r,y⟩,(a.dp [4,5]),c⟩ ?_)
     clear a c
     rintro n9 f w ⟨o,hf,a,c⟩ K9 ar
     obtain ⟨b0,rfl⟩:=gP _ _ hf
     clear hf
     cases n9 with
     | zero=>exact nn c
     | succ n9=>
      rw [qo] at c
      refine q (q (g (s (mi r) (s (l5 r) (s (mi r) ?_)))))
      obtain ⟨au,p,c⟩:=bs c
      obtain ⟨aL,L,p⟩:=kJ p
      obtain ⟨aD,a6,a⟩:=a.nm 0 rfl p
      obtain ⟨M,N,rfl,Q⟩:=kK.out a6
      replace a:=a.ku (d:=.l M N au.a) Q
      refine s (kV BN ED r r L (a.dl 2 r) p) (s (D9 r) (s (jP BM r r ((a.dc 1 r) 0 _ r)) (s (kZ BM r) (s (pz r r) (n ?_)))))
      rcases iv c with ⟨R,c⟩|⟨R,c⟩
      ·refine jL (bt R) (wk (q (oF (q ?_))))
       obtain ⟨J,u,c⟩:=bs c
       obtain ⟨aM,a7,u⟩:=kJ u
       obtain ⟨aE,a8,a⟩:=a.nm 0 rfl u
       obtain ⟨z,A,rfl,S⟩:=nJ.out a8
       replace a:=a.ku (d:=.l z A J.b) S
       obtain ⟨av,v,c⟩:=bs c
       obtain ⟨aN,a9,v⟩:=kJ v
       obtain ⟨aF,aa,a⟩:=a.nm 5 rfl v
       obtain ⟨U,W,rfl,X⟩:=kK.out aa
       replace a:=a.ku (d:=.l U W av.a) X
       obtain ⟨K,x,c⟩:=bs c
       obtain ⟨aO,ab,x⟩:=kJ x
       obtain ⟨aG,ac,a⟩:=a.nm 0 rfl x
       obtain ⟨B,C,rfl,Y⟩:=nJ.out ac
       replace a:=a.ku (d:=.l B C K.b) Y
       refine oL a [] [0,1,2,3,4,5,6,7,8,9] [] (by kernel_rfl) ?_
       replace a:=a.drew
       have m:=a
       refine pF 0 r (l5 r) m (pF 1 r (mi r) m (pF 2 r (kV BN ED r r L (a.dl 8 r) p) m (pF 3 r (D9 r) m (uF 4 r (fun hS=>jP BM r r ((hS.dc 7 r) 0 _ r)) m (pF 5 r (mi r) m (pF 6 r (kV BM DC r r a7 (a.dl 6 r) u) m (uF 7 r (fun hS=>nG [V J.k,V J.a,Z z J.b A] U9 r DC r r (hS.dc 5 r)) m (pF 8 r (l5 r) m (pF 9 r (mi r) m (pF 10 r (kV BN ED r r a9 (a.dl 9 r) v) m (pF 11 r (D9 r) m (uF 12 r (fun hS=>jP BM r r ((hS.dc 3 r) 0 _ r)) m (pF 13 r (mi r) m ?_)))))))))))))
       refine pF 14 r (kV BM DC r r ab (a.dl 2 r) x) m (uF 15 r (fun hS=>nG [V K.k,V K.a,Z B K.b C] U9 r DC r r (hS.dc 1 r)) m ?_)
       obtain ⟨aw,ax,c⟩:=bs c
       have hc:=(He fu) (a.pr [] [] [4,0] r)  ax
       refine hO 16 (oc r r (ec YM r) hc ?_)
       rintro _ aP ⟨rfl,hK⟩
       replace a:=a.cl [] [] r hK r
       try dsimp only [pick,nth,ca,na] at a
       have m:=a
       refine ⟨(sF m),?_⟩
       refine pF 17 r (zh r) m (hD ?_)
       rcases iv c with ⟨D,c⟩|⟨D,c⟩
       ·refine jL (cb D) (q (g (s (kg r) (n (kR ?_)))))
        obtain rfl:=sm c
        replace b:=oi b
        obtain rfl:=sm b
        replace t:=oi t
        obtain rfl:=sm t
        refine jC r (kW r) ?_
        exact ⟨r,(a.dp [])⟩
       replace D:=nt D
       refine jH (cb D) (wk (g (s (mi r) (s (kF r r) (s (xi r) (n ?_))))))
       exact ar n9 _ _ (Nat.lt_succ_self _) ⟨(wr (o+1)),⟨r,r,r,r,y⟩,(a.dp [8,9]),c⟩
      refine jH (bf R) (uK ?_)
      exact ap _ _ ⟨o,⟨r,r,r,y⟩,(a.dp [2,3]),sm c⟩
    clear a
    rintro f w ⟨o,hf,a,ay⟩
    obtain ⟨b0,rfl⟩:=gP _ _ hf
    clear hf
    subst ay
    replace b:=gi b
    refine g (s (mi r) (s (kF r r) (s (xi r) (n ?_))))
    exact ai n2 _ _ (Nat.lt_succ_self _) ⟨(wr (k+1)),⟨r,r,r,y⟩,a,b⟩
   refine jH (bf h3) (uK ?_)
   exact ag _ _ ⟨k,y,a,sm b⟩
 clear a
 rintro f w ⟨k,hf,a,az⟩
 obtain ⟨b0,rfl⟩:=gP _ _ hf
 clear hf
 subst az
 replace t:=gi t
 refine q (g (s (kg r) (n (kR ?_))))
 obtain rfl:=sm t
 refine jC r (kW r) ?_
 exact ⟨r,(a.dp [])⟩
def Ez (m:nL→nL→Option (Bool)):Prop:=∀ {h:World} {j:Nat→Prop} {e:nL} {f:nL} {a:Option Addr} {b:Nat} {c:Option Addr} {d:Nat} {i:Bool},Pre h j [] [.l a b e.a,.l c d f.a]→m e f=some i→
 Calls Try.prog 20 #[.agg #[V e.d,.bool e.b,V e.c,Z a e.a b],.agg #[V f.d,.bool f.b,V f.c,Z c f.a d]] h (qw fun v w=>v=.bool i∧Bx h w j (lK []) [] [])
def uq (fu:Nat)(b:nL) (c:nL):Option (Bool):=
 if b.d=c.d then
  if b.b=c.b then
   if b.c=c.c then
    (vQ fu b.a c.a).bind fun a=>
    some a
   else
    some false
  else
   some false
 else
  some false
theorem Ey (fu:Nat):Ez (uq fu):=by
 intro w F h j c d e f x p b
 unfold uq at b
 have a:=p.bx
 clear p
 generalize z:lK _=G at a ⊢
 refine cf Try.func20 r ?_
 refine lI [(0,.agg #[V h.d,.bool h.b,V h.c,Z c h.a d]),(1,.agg #[V j.d,.bool j.b,V j.c,Z e j.a f])] ⟨r,r,y⟩ fun H=>?_
 refine q (g (nO (nH a (xL r)) ?_))
 rintro _ A ⟨B,rfl,a⟩
 refine nO (nH a (xL r)) ?_
 rintro _ C ⟨D,rfl,a⟩
 refine s (kg r) (n (q (g (s (Ih r) (s (Bc r (a.bk 1 r) r) (s (Ih r) (s (Bc r (a.bk 0 r) r) (s (kH r r) (s (kL r) ?_)))))))))
 rcases iv b with ⟨l,b⟩|⟨l,b⟩
 ·rw [decide_eq_true l]
  refine kr r (s (NA r) (kr r (s (l4 r (a.bk 1 r) r) (kr r (s (NA r) (kr r (s (l4 r (a.bk 0 r) r) (kr r (s (aau Zw r r) (s (kC r r) (s (kL r) ?_)))))))))))
  rcases iv b with ⟨m,b⟩|⟨m,b⟩
  ·rw [decide_eq_true m]
   refine kr r (s (JZ r) (kr r (s (l3 r (a.bk 1 r) r) (kr r (s (JZ r) (kr r (s (l3 r (a.bk 0 r) r) (kr r (s (kH r r) (s (kC r r) (s (kL r) ?_)))))))))))
   rcases iv b with ⟨o,b⟩|⟨o,b⟩
   ·rw [decide_eq_true o]
    refine kr r (s (Eb r) (kr r (s (Kr r (a.bk 1 r) r) (kr r (s (Eb r) (kr r (s (Kr r (a.bk 0 r) r) ?_)))))))
    obtain ⟨t,u,b⟩:=bs b
    refine kr r ?_
    have hc:=(Br fu) (a.pr [] [0,1] [0,1] r)  u
    refine sc (ec QO r) hc ?_
    rintro _ E ⟨rfl,v⟩
    replace a:=a.cl [] [0,1] r v r
    try dsimp only [pick,nth,ca,na] at a
    refine s (kC r r) (s (kg r) (n (kR ?_)))
    obtain rfl:=sm b
    refine jC r (kW r) ?_
    exact ⟨r,(a.ad [] [])⟩
   rw [decide_eq_false o]
   refine jJ r (jJ r (jJ r (jJ r (jJ r (s (jZ r r) (s (kg r) (n (kR ?_))))))))
   obtain rfl:=sm b
   refine jC r (kW r) ?_
   exact ⟨r,(a.ad [] [])⟩
  rw [decide_eq_false m]
  refine jJ r (jJ r (jJ r (jJ r (jJ r (s (jZ r r) (s (kL r) (jJ r (jJ r (jJ r (jJ r (jJ r (s (jZ r r) (s (kg r) ?_)))))))))))))
  refine n (kR ?_)
  obtain rfl:=sm b
  refine jC r (kW r) ?_
  exact ⟨r,(a.ad [] [])⟩
 rw [decide_eq_false l]
 refine jJ r (jJ r (jJ r (jJ r (jJ r (s (jZ r r) (s (kL r) (jJ r (jJ r (jJ r (jJ r (jJ r (s (jZ r r) (s (kL r) ?_)))))))))))))
 refine jJ r (jJ r (jJ r (jJ r (jJ r (s (jZ r r) (s (kg r) (n (kR ?_))))))))
 obtain rfl:=sm b
 refine jC r (kW r) ?_
 exact ⟨r,(a.ad [] [])⟩
def JR (m:Int→Option (Int)):Prop:=∀ {a:World} {d:Nat→Prop} {b:Int}  {c:Int},Pre a d [] []→m b=some c→
 Calls Try.prog 18 #[V b] a (qw fun v w=>v=V c∧Bx a w d (lK []) [] [])
def uE (fu:Nat)(b:Int):Option (Int):=
 (zn fu b 401).bind fun a=>
 some a
theorem su (fu:Nat):JR (uE fu):=by
 intro i m e j c b
 unfold uE at b
 have a:=c.bx
 clear c
 generalize k:lK _=G at a ⊢
 refine cf Try.func18 r ?_
 refine lI [(0,V e)] ⟨r,y⟩ fun o=>?_
 refine q (g (s (xi r) (n (q (g (s (mi r) ?_))))))
 obtain ⟨d,f,b⟩:=bs b
 have hc:=(Gl fu) (a.pr [] [] [] r)  f
 refine sc (ec T9 r) hc ?_
 rintro _ l ⟨rfl,h⟩
 replace a:=a.cl [] [] r h r
 try dsimp only [pick,nth,ca,na] at a
 refine s (xi r) (n (kR ?_))
 obtain rfl:=sm b
 refine jC r (kW r) ?_
 exact ⟨r,a⟩
def F4 (m:(List Int)→Option (jQ × Bool)):Prop:=∀ {p:World} {x:Nat→Prop} {t:(List Int)} {a:Option Addr} {b:Nat} {R:jQ × Bool},Pre p x [] [.l a b t]→m t=some R→
 Calls Try.prog 13 #[Z a t b] p (qw fun v w=>jy R fun o u=>∃ (c:OA)(d:Nat)(e:OA)(f:Nat)(h:OA)(i:Nat)(j:OA)(k:Nat),v=.tuple #[.agg #[Z c o.a.a d,Z e o.a.b f,Z h o.b i,Z j o.c k],.bool u]∧Bx p w x (lK []) [] [.l c d o.a.a,.l e f o.a.b,.l h i o.b,.l j k o.c])
def u6 (fu:Nat)(j:(List Int)):Option (jQ × Bool):=
 (yJ fu j).bind fun c=>
 (zH fu c).bind fun d=>
 (vY fu d).bind fun k=>
 jy k fun e k=>jy k fun i f=>
 if f≠0 then
  some ((⟨(⟨([]:List Gr),([]:List Gn)⟩:jU),([]:List (List Gv)),([]:List Gi)⟩:jQ),false)
 else
  (vZ fu e).bind fun k=>
  jy k fun a k=>jy k fun h b=>
  some (a,(decide (b=0)))
theorem F5 (fu:Nat):F4 (u6 fu):=by
 intro w0 ae N x z R I v
 unfold u6 at v
 have b:=I.bx
 clear I
 generalize hG:lK _=G at b ⊢
 refine cf Try.func13 r ?_
 refine lI [(0,Z x N z)] ⟨r,y⟩ fun af=>?_
 refine q (g (nO (nH b (jX wm)) ?_))
 rintro _ w1 ⟨b1,rfl,b⟩
 refine s (kg r) (n (q (g (s (l5 r) ?_))))
 obtain ⟨J,Q,v⟩:=bs v
 have hc:=(I8 fu) (b.pr [] [0] [0] r)  Q
 refine sc (ec Zn r) hc ?_
 rintro _ w2 ⟨B,C,rfl,A⟩
 replace b:=b.cl [] [0] r A r
 try dsimp only [pick,nth,ca,na] at b
 obtain ⟨K,S,v⟩:=bs v
 have hc:=(LA fu) (b.pr [] [0] [0] r)  S
 refine sc (ec Xx r) hc ?_
 rintro _ w3 ⟨rfl,A⟩
 replace b:=b.cl [] [0] r A r
 try dsimp only [pick,nth,ca,na] at b
 obtain ⟨⟨w,L,M⟩,U,v⟩:=bs v
 replace v:=pi v
 replace v:=pi v
 have hc:=(CU fu) (b.pr [] [0] [] r)  U
 refine sc (ec TA r) hc ?_
 rintro _ w4 ⟨o,p,t,u,rfl,A⟩
 replace b:=b.cl [] [0] r A r
 try dsimp only [pick,nth,ca,na] at b
 refine s rJ (s (jV r r) (s (jV r r) (s (jV r r) (nO (nH b (jX sM)) ?_))))
 rintro _ w5 ⟨b5,rfl,b⟩
 refine lu (tb b 0 [Z o w.a p,Z t w.b u] r sM r r r r r (show _=#[Z o w.a p,Z t w.b u] from r)) ?_
 intro w6 b
 try dsimp only [List.set] at b
 refine s (xi r) (s (xi r) (n (q (q (g (s (mi r) (s (p9 r r) (n ?_))))))))
 rcases iv v with ⟨D,v⟩|⟨D,v⟩
 ·refine jL (bt D) (q (g (s Um (lu (tb b 1 [sn,sn,sn,sn] r wm r r r r r (show _=#[sn,sn,sn,sn] from r)) ?_))))
  intro w8 b
  try dsimp only [List.set] at b
  refine s (kg r) (n (kR ?_))
  replace b:=b.ku (d:=.l none 0 ([]:List Gr)) om
  replace b:=b.ku (d:=.l none 0 ([]:List Gn)) om
  replace b:=b.ku (d:=.l none 0 ([]:List (List Gv))) om
  replace b:=b.ku (d:=.l none 0 ([]:List Gi)) om
  obtain rfl:=sm v
  refine pY r (tN r DY r wm r (b.bk 1 r)) (kW r) ?_
  exact mP (⟨none,0,none,0,none,0,none,0,r,(b.ad [] [3,2,1,0])⟩)
 refine jH (bf D) (wk (q (g (s (nG [Z o w.a p,Z t w.b u] Cg r sM r r (Cells.part (b.bk 0 r).cells (o2:=0) r)) ?_))))
 obtain ⟨⟨a,E,F⟩,H,v⟩:=bs v
 replace v:=pi v
 replace v:=pi v
 have hc:=(Dw fu) (b.pr [] [0,1] [0,1] r)  H
 refine sc (ec Uh r) hc ?_
 rintro _ X ⟨c,e,f,h,i,j,k,m,rfl,A⟩
 replace b:=b.cl [] [0,1] r A r
 try dsimp only [pick,nth,ca,na] at b
 refine s rJ (s (jV r r) (s (jV r r) (s (jV r r) (nO (nH b (jX wm)) ?_))))
 rintro _ Y ⟨a0,rfl,b⟩
 refine lu (tb b 0 [Z c a.a.a e,Z f a.a.b h,Z i a.b j,Z k a.c m] r wm r r r r r (show _=#[Z c a.a.a e,Z f a.a.b h,Z i a.b j,Z k a.c m] from r)) ?_
 intro a1 b
 try dsimp only [List.set] at b
 refine s (xi r) (s (xi r) (n (q (g (s (nG [Z c a.a.a e,Z f a.a.b h,Z i a.b j,Z k a.c m] DY r wm r r (Cells.part (b.bk 0 r).cells (o2:=0) r)) (s (mi r) (s (kH r r) (lu (tb b 2 [Z c a.a.a e,Z f a.a.b h,Z i a.b j,Z k a.c m] r wm r r r r r (show _=#[Z c a.a.a e,Z f a.a.b h,Z i a.b j,Z k a.c m] from r)) ?_))))))))
 intro a2 b
 try dsimp only [List.set] at b
 refine s (kg r) (n (kR ?_))
 obtain rfl:=sm v
 refine pY r (tN r DY r wm r (b.bk 2 r)) (kW r) ?_
 exact mP (⟨c,e,f,h,i,j,k,m,r,(b.ad [] [0,1,2,3])⟩)
end
end Go.Proofs.Ytfglbdkfnphjgaa
