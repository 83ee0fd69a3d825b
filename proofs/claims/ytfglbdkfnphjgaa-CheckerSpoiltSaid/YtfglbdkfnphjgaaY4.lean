/- The text of a made program: the printer answers, and the text is not long. -/
import Derived.Test.YtfglbdkfnphjgaaY3
import Derived.Test.YtfglbdkfnphjgaaLd
set_option linter.unusedVariables false
set_option linter.unusedSimpArgs false
namespace Go.Fw
open Go.RowKit
theorem kI.cl {α:Type} {P:α→Prop} {s t:ByteArray} {f:ByteArray→Option α} (n:Nat) (h:t.size=n) (hs:s.size+n≤1000000000) (k:∀ r,r.size=s.size+n→kI (f r) P):kI ((Go.Fw.qw s t).bind f) P:=.bd (.qw (by omega)) fun r hr=>k r (by rw [hr,Bf,h])
theorem kI.cv {α:Type} {P:α→Prop} {s t:ByteArray} {f:ByteArray→Option α} (hs:s.size+t.size≤1000000000) (k:∀ r,r.size=s.size+t.size→kI (f r) P):kI ((Go.Fw.qw s t).bind f) P:=.bd (.qw hs) fun r hr=>k r (by rw [hr,Bf])
theorem kI.cr {α:Type} {P:α→Prop} {s t:ByteArray} {f:ByteArray→Option α} (n:Nat) (h:s.size=n) (hs:n+t.size≤1000000000) (k:∀ r,r.size=n+t.size→kI (f r) P):kI ((Go.Fw.qw s t).bind f) P:=.bd (.qw (by omega)) fun r hr=>k r (by rw [hr,Bf,h])
end Go.Fw
namespace Go.Proofs.Ytfglbdkfnphjgaa
open Go.RowKit Go.Fw
def EB:Nat→Nat
 | 0=>6
 | d+1=>2 * EB d+8
theorem EB.lo:∀ d,6≤EB d∧EB d+8≤14 * 2 ^ d
 | 0=>by decide
 | d+1=>by
  have h:=EB.lo d
  have e:EB (d+1)=2 * EB d+8:=rfl
  have:1≤2 ^ d:=Nat.one_le_two_pow
  rw [Nat.pow_succ]
  omega
theorem RB {fu:Nat} {op:Int}:kI (Aq fu op) (fun r=>(1≤r∧r≤6)∧(r=5→4≤op∧op≤5)∧(r < 5→6≤op∧op≤17)):=by
 unfold Aq
 have hJ0:kI (yX fu op) (oK (fun b=>b=true→14≤op∧op≤17) (fun _=>False)):=by
  unfold yX
  refine .ite (fun _=>.go fun _=>by omega) fun _=>.ite (fun _=>.go fun _=>by omega) fun _=>.ite (fun _=>.go fun _=>by omega) fun _=>.go fun z=>by have:=of_decide_eq_true z;omega
 have hJ1:kI (zn fu op) (oK (fun b=>b=true→11≤op∧op≤13) (fun _=>False)):=by
  unfold zn
  refine .ite (fun _=>.go fun _=>by omega) fun _=>.ite (fun _=>.go fun _=>by omega) fun _=>.go fun z=>by have:=of_decide_eq_true z;omega
 have hJ2:kI (zt fu op) (oK (fun b=>b=true→6≤op∧op≤7) (fun _=>False)):=by
  unfold zt
  refine .ite (fun _=>.go fun _=>by omega) fun _=>.go fun z=>by have:=of_decide_eq_true z;omega
 refine .el hJ0 (fun b hb=>.ite (fun z=>.mk (by have:=hb z;omega)) fun _=>?_) fun _ z=>z.elim
 refine .el hJ1 (fun b hb=>.ite (fun z=>.mk (by have:=hb z;omega)) fun _=>?_) fun _ z=>z.elim
 refine .el hJ2 (fun b hb=>.ite (fun z=>.mk (by have:=hb z;omega)) fun _=>?_) fun _ z=>z.elim
 refine .ite (fun _=>.mk (by omega)) fun _=>.ite (fun _=>.mk (by omega)) fun _=>.ite (fun _=>.mk (by omega)) fun _=>.ite (fun _=>.mk (by omega)) fun _=>.ite (fun _=>.mk (by omega)) fun _=>.mk (by omega)
theorem P9:∀ x ∈ ([(⟨#[43]⟩:ByteArray),(⟨#[45]⟩:ByteArray),(⟨#[42]⟩:ByteArray),(⟨#[47]⟩:ByteArray),(⟨#[37]⟩:ByteArray),(⟨#[38]⟩:ByteArray),(⟨#[124]⟩:ByteArray),(⟨#[94]⟩:ByteArray),(⟨#[60]⟩:ByteArray),(⟨#[60,61]⟩:ByteArray),(⟨#[61,61]⟩:ByteArray),(⟨#[33,61]⟩:ByteArray)]:List ByteArray),x.size≤2:=by
 intro x hx
 simp only [List.mem_cons,List.not_mem_nil,or_false] at hx
 rcases hx with rfl | rfl | rfl | rfl | rfl | rfl | rfl | rfl | rfl | rfl | rfl | rfl <;> decide
theorem Nh:∀ x ∈ ([(⟨#[45]⟩:ByteArray),(⟨#[33]⟩:ByteArray)]:List ByteArray),x.size≤2:=by
 intro x hx
 simp only [List.mem_cons,List.not_mem_nil,or_false] at hx
 rcases hx with rfl | rfl <;> decide
theorem Pe:∀ {d fu:Nat} {x:jL} {l:Int},GE d x→d≤5→d+19≤fu→kI (qA fu x l) (fun s=>s.size≤EB d)
 | 0,_,_,_,h,_,_=>h.elim
 | d+1,0,_,_,_,_,h=>by omega
 | d+1,fu+1,x,l,h,hd,hf=>by
  show kI (Au fu (qA fu) x l) _
  obtain ⟨⟨h1,h2,h3,h4⟩,h5,h6⟩:=h
  have hE:EB (d+1)=2 * EB d+8:=rfl
  have hlo:=EB.lo d
  have hp:(2:Nat) ^ d≤2 ^ 5:=Nat.pow_le_pow_right (by decide) (by omega)
  have h32:(2:Nat) ^ 5=32:=by decide
  unfold Au
  refine .bd RB fun r hr=>?_
  have sub:∀ {y:jL} {l:Int},y ∈ x.b→kI (qA fu y l) (fun s=>s.size≤EB d):=fun hy=>Pe (h6 _ hy) (by omega) (by omega)
  have hJ:kI (yT fu (qA fu) x r) (oK (fun s=>s.size≤2 * EB d+6) (fun _=>False)):=by
   unfold yT
   refine .ite (fun _=>.bd (Cm (d:=18) h3 (by omega) (by decide) (by decide) (by omega)) fun s hs=>.go (by omega)) fun _=>?_
   refine .ite (fun _=>.cl 1 rfl (by omega) fun g e1=>.cv (by omega) fun g2 e2=>.go (by omega)) fun _=>?_
   have hJ1:kI (yY fu (qA fu) x) (oK (fun b=>b=true→0 < x.b.length) (fun _=>False)):=by
     unfold yY
     exact .ite (fun _=>.go fun z=>by have:=of_decide_eq_true z;omega) fun _=>.go fun z=>(by cases z)
   refine .Cv hJ1 fun b hb=>.ite (fun z=>?_) fun _=>?_
   · have:=hb z
     refine .bd (.ix (by decide) (by omega)) fun y hy=>.cl 1 rfl (by omega) fun g e1=>.bd (sub (List.mem_of_getElem? hy)) fun s hs=>.cv (by omega) fun g2 e2=>.cl 1 rfl (by omega) fun g3 e3=>.go (by omega)
   have hJ2:kI (yZ fu (qA fu) x r) (oK (fun b=>b=true→r=5∧0 < x.b.length) (fun _=>False)):=by
     unfold yZ
     exact .ite (fun _=>.go fun z=>by have:=of_decide_eq_true z;omega) fun _=>.go fun z=>(by cases z)
   refine .Cv hJ2 fun b hb=>.ite (fun z=>?_) fun _=>?_
   · obtain ⟨q1,q2⟩:=hb z
     have q3:=hr.2.1 q1
     rw [lD (by omega) (by omega)]
     exact .bd (.ix (by decide) (by omega)) fun y hy=>.bd (.ix (by omega) (by simp only [List.length_cons,List.length_nil];omega)) fun n hn=>.bd (sub (List.mem_of_getElem? hy)) fun s hs=>.cv (by have:=Nh n (List.mem_of_getElem? hn);omega) fun g e=>.go (by have:=Nh n (List.mem_of_getElem? hn);omega)
   refine .ite (fun q1=>.ite (fun q2=>?_) fun _=>.go (by omega)) fun _=>.go (by omega)
   have hJ3:kI (zo fu (qA fu) r) (oK (fun _=>True) (fun _=>False)):=by
     unfold zo
     exact .ite (fun _=>.go trivial) fun _=>.go trivial
   have q3:=hr.2.2 q1
   refine .Cv hJ3 fun lv _=>?_
   rw [lD (n:=x.e - 6) (by omega) (by omega)]
   refine .bd (.ix (by decide) (by omega)) fun y hy=>.bd (.ix (by decide) (by omega)) fun y' hy'=>.bd (.ix (by omega) (by simp only [List.length_cons,List.length_nil];omega)) fun n hn=>?_
   have hn2:=P9 n (List.mem_of_getElem? hn)
   exact .bd (sub (List.mem_of_getElem? hy)) fun s hs=>.cl 1 rfl (by omega) fun g e1=>.cv (by omega) fun g2 e2=>.cl 1 rfl (by omega) fun g3 e3=>.bd (sub (List.mem_of_getElem? hy')) fun s' hs'=>.cv (by omega) fun g4 e4=>.go (by omega)
  refine .el hJ (fun s hs=>?_) fun _ z=>z.elim
  exact .ite (fun _=>.cr 1 rfl (by omega) fun g e1=>.cl 1 rfl (by omega) fun g2 e2=>.mk (by omega)) fun _=>.mk (by omega)
theorem ML {fu:Nat} (hf:30≤fu) {x:jL} {l:Int} (h:GE 4 x):kI (qA fu x l) (fun s=>s.size≤216):=Pe h (by decide) (by omega)
theorem I5 {fu:Nat} (hf:30≤fu) {O:ByteArray→Prop}:∀ (l:List jL) (k:Nat) (s:ByteArray),(∀ y ∈ l,GE 4 y)→s.size+l.length * 218≤1000000→kI (uw fu l k s) (oK (fun r=>r.size≤s.size+l.length * 218) O)
 | [],k,s,h,hs=>.go (by simp only [List.length_nil];omega)
 | x :: l,k,s,h,hs=>by
  rw [uw]
  rw [List.length_cons] at hs ⊢
  have hJ:kI (yU fu s k) (oK (fun r=>r.size≤s.size+2) O):=by
   unfold yU
   exact .ite (fun _=>.cl 2 rfl (by omega) fun g e=>.go (by omega)) fun _=>.go (by omega)
  refine .Cv hJ fun s2 h2=>.bd (ML hf (h x (List.mem_cons_self ..))) fun t ht=>.cv (by omega) fun g e=>?_
  exact (I5 hf l (k+1) g (fun y hy=>h y (List.mem_cons_of_mem _ hy)) (by omega)).imp fun v hv=>by
   cases v with
   | go r=>exact Nat.le_trans (show r.size≤_ from hv) (by omega)
   | out o=>exact hv
theorem O6 {fu:Nat} (hf:30≤fu) {l:List jL} (h:l.length≤4∧∀ y ∈ l,GE 4 y):kI (yP fu l) (fun r=>r.size≤872):=by
 unfold yP
 have h0:(⟨#[]⟩:ByteArray).size=0:=rfl
 exact .el (I5 hf l 0 _ h.2 (O:=fun _=>False) (by omega)) (fun s hs=>.mk (by omega)) fun _ z=>z.elim
theorem GN {fu:Nat} {O:ByteArray→Prop}:∀ (l:List ByteArray) (k:Nat) (s:ByteArray),(∀ y ∈ l,y.size≤4)→s.size+l.length * 6≤1000000→kI (qf fu l k s) (oK (fun r=>r.size≤s.size+l.length * 6) O)
 | [],k,s,h,hs=>.go (by simp only [List.length_nil];omega)
 | x :: l,k,s,h,hs=>by
  rw [qf]
  rw [List.length_cons] at hs ⊢
  have hx:=h x (List.mem_cons_self ..)
  have go:∀ g:ByteArray,g.size≤s.size+6→kI (qf fu l (k+1) g) (oK (fun r=>r.size≤s.size+(l.length+1) * 6) O):=fun g hg=>(GN l (k+1) g (fun y hy=>h y (List.mem_cons_of_mem _ hy)) (by omega)).imp fun v hv=>by
   cases v with
   | go r=>exact Nat.le_trans (show r.size≤_ from hv) (by omega)
   | out o=>exact hv
  exact .ite (fun _=>.cl 2 rfl (by omega) fun g e=>.cv (by omega) fun g2 e2=>go g2 (by omega)) fun _=>.cv (by omega) fun g2 e2=>go g2 (by omega)
theorem M8 {fu:Nat} {l:List ByteArray} (h:l.length≤4∧∀ y ∈ l,y.size≤4):kI (xC fu l) (fun r=>r.size≤24):=by
 unfold xC
 have h0:(⟨#[]⟩:ByteArray).size=0:=rfl
 exact .el (GN l 0 _ h.2 (O:=fun _=>False) (by omega)) (fun s hs=>.mk (by omega)) fun _ z=>z.elim
theorem P5 {fu:Nat} (hf:30≤fu) {k:Nat} {x:jM} (h:GS k x):kI (qR fu x) (fun r=>r.size≤878):=by
 obtain _ | k:=k
 · exact h.elim
 unfold qR
 have h1:=h.1.2.2.1
 exact .ite (fun _=>.cl 1 rfl (by omega) fun g e=>.bd (O6 hf h.2.2.1) fun s hs=>.cv (by omega) fun g2 e2=>.cl 1 rfl (by omega) fun g3 e3=>.mk (by omega)) fun _=>.bd (O6 hf h.2.2.1) fun s hs=>.mk (by omega)
def CB:Nat→Nat
 | 0=>0
 | k+1=>1200+18 * CB k
theorem Nb:∀ {k fu:Nat} {l:List jM} {tb:ByteArray},k≤4→(∀ y ∈ l,GS k y)→l.length≤22→tb.size+k≤5→k+40≤fu→kI (pu fu l tb) (fun r=>r.size≤l.length * CB k)
 | _,0,_,_,_,_,_,_,h=>by omega
 | 0,fu+1,l,tb,_,h,_,_,_=>by
  cases l with
  | nil=>exact .mk (Nat.zero_le _)
  | cons x l=>exact (h x (List.mem_cons_self ..)).elim
 | k+1,fu+1,l,tb,hk,h,hl,ht,hf=>by
  show kI (zK fu (pu fu) l tb) _
  unfold zK
  have hC:CB (k+1)=1200+18 * CB k:=rfl
  have hC3:CB k≤411600:=by
   obtain _ | _ | _ | _ | k:=k
   · simp only [CB];decide
   · simp only [CB];decide
   · simp only [CB];decide
   · simp only [CB];decide
   · omega
  have hB:∀ {m:List jM} {u:ByteArray},(m.length≤9∧∀ y ∈ m,GS k y)→u.size=tb.size+1→kI (pu fu m u) (fun r=>r.size≤9 * CB k):=fun hm hu=>(Nb (by omega) hm.2 (by omega) (by omega) (by omega)).imp fun r hr=>Nat.le_trans hr (Nat.mul_le_mul_right _ hm.1)
  have hL:∀ (l:List jM) (i:Nat) (s:ByteArray),(∀ y ∈ l,GS (k+1) y)→s.size+l.length * CB (k+1)≤500000000→kI (lJ fu (pu fu) tb l i s) (oK (fun r=>r.size≤s.size+l.length * CB (k+1)) (fun _=>False)):=by
   intro l
   induction l with
   | nil=>intro i s _ hs;exact .go (by simp only [List.length_nil];omega)
   | cons x l ih=>
     intro i s hy hs
     rw [List.length_cons,Nat.succ_mul] at hs ⊢
     have hx:=hy x (List.mem_cons_self ..)
     have go:∀ g:ByteArray,g.size≤s.size+CB (k+1)→kI (lJ fu (pu fu) tb l (i+1) g) (oK (fun r=>r.size≤s.size+(l.length * CB (k+1)+CB (k+1))) (fun _=>False)):=fun g hg=>(ih (i+1) g (fun y hy'=>hy y (List.mem_cons_of_mem _ hy')) (by omega)).imp fun v hv=>by
       cases v with
       | go r=>exact Nat.le_trans (show r.size≤_ from hv) (by omega)
       | out o=>exact hv
     have hv:kI (qR fu x) (fun r=>r.size≤878):=P5 (by omega) hx
     obtain ⟨⟨a1,a2,a3,a4,a5⟩,hx2,hx3,hx4,hx5⟩:=hx
     rw [lJ]
     have hJ1:kI (xL fu (pu fu) x) (oK (fun s=>s.size≤219) (fun _=>False)):=by
       unfold xL
       exact .ite (fun _=>.bd (.ix (by decide) (by omega)) fun y hy=>.bd (ML (by omega) (hx2.2 y (List.mem_of_getElem? hy))) fun s hs=>.cl 3 rfl (by omega) fun g e=>.go (by omega)) fun _=>.go (Nat.zero_le _)
     refine .Cv hJ1 fun tg htg=>.ite (fun _=>?_) fun _=>?_
     · have hJ2:kI (xX fu (pu fu) x) (oK (fun s=>s.size≤4) (fun _=>False)):=by
         unfold xX
         exact .ite (fun _=>.go (by decide)) fun _=>.go a2
       have hJ3:∀ u:ByteArray,u.size≤4→kI (xW fu (pu fu) x u) (oK (fun s=>s.size≤8) (fun _=>False)):=by
         intro u hu
         unfold xW
         exact .ite (fun _=>.bd (Cm (d:=1) a4 (by omega) (by decide) (by decide) (by omega)) fun s hs=>.cr 4 rfl (by omega) fun g e=>.cl 1 rfl (by omega) fun g2 e2=>.go (by omega)) fun _=>.go (by omega)
       refine .Cv hJ2 fun u hu=>.Cv (hJ3 u hu) fun ty hty=>?_
       exact .cv (by omega) fun g1 e1=>.cl 4 rfl (by omega) fun g2 e2=>.cv (by omega) fun g3 e3=>.cl 2 rfl (by omega) fun g4 e4=>.cv (by omega) fun g5 e5=>.cl 2 rfl (by omega) fun g6 e6=>go g6 (by omega)
     have hJ4:kI (xQ fu (pu fu) x) (oK (fun _=>True) (fun _=>False)):=by
       unfold xQ
       exact .ite (fun _=>.go trivial) fun _=>.go trivial
     refine .Cv hJ4 fun b _=>.ite (fun _=>?_) fun _=>.ite (fun _=>?_) fun _=>.ite (fun _=>?_) fun _=>.ite (fun _=>?_) fun _=>.ite (fun _=>?_) fun _=>.ite (fun _=>?_) fun _=>.ite (fun _=>?_) fun _=>go s (by omega)
     · exact .cv (by omega) fun g1 e1=>.cv (by omega) fun g2 e2=>.bd hv fun v k1=>.cv (by omega) fun g3 e3=>.cl 2 rfl (by omega) fun g4 e4=>go g4 (by omega)
     · exact .cv (by omega) fun g1 e1=>.cl 7 rfl (by omega) fun g2 e2=>.bd hv fun v k1=>.cv (by omega) fun g3 e3=>.cl 2 rfl (by omega) fun g4 e4=>go g4 (by omega)
     · exact .cv (by omega) fun g1 e1=>.cl 6 rfl (by omega) fun g2 e2=>.bd hv fun v k1=>.cv (by omega) fun g3 e3=>.cl 2 rfl (by omega) fun g4 e4=>go g4 (by omega)
     · exact .cv (by omega) fun g1 e1=>.cl 6 rfl (by omega) fun g2 e2=>.bd hv fun v k1=>.cv (by omega) fun g3 e3=>.cl 2 rfl (by omega) fun g4 e4=>go g4 (by omega)
     · refine .cv (by omega) fun g1 e1=>.cl 3 rfl (by omega) fun g2 e2=>.cl 1 rfl (by omega) fun t1 t2=>.bd hv fun v k1=>.cv (by omega) fun g3 e3=>.cl 3 rfl (by omega) fun g4 e4=>.bd (hB hx4 t2) fun b1 k2=>.cv (by omega) fun g5 e5=>.ite (fun _=>?_) fun _=>?_
       · exact .cv (by omega) fun g6 e6=>.cl 9 rfl (by omega) fun g7 e7=>.cl 1 rfl (by omega) fun t3 t4=>.bd (hB hx5 t4) fun b2 k3=>.cv (by omega) fun g8 e8=>.cv (by omega) fun g9 e9=>.cl 2 rfl (by omega) fun g10 e10=>go g10 (by omega)
       · exact .cv (by omega) fun g6 e6=>.cl 2 rfl (by omega) fun g10 e10=>go g10 (by omega)
     · exact .cv (by omega) fun g1 e1=>.cl 6 rfl (by omega) fun g2 e2=>.cl 1 rfl (by omega) fun t1 t2=>.bd hv fun v k1=>.cv (by omega) fun g3 e3=>.cl 3 rfl (by omega) fun g4 e4=>.bd (hB hx4 t2) fun b1 k2=>.cv (by omega) fun g5 e5=>.cv (by omega) fun g6 e6=>.cl 2 rfl (by omega) fun g10 e10=>go g10 (by omega)
     · exact .cv (by omega) fun g1 e1=>.cl 6 rfl (by omega) fun g2 e2=>.cl 1 rfl (by omega) fun t1 t2=>.cl 1 rfl (by omega) fun t3 t4=>.bd (hB hx4 t2) fun b1 k2=>.cv (by omega) fun g5 e5=>.cv (by omega) fun g6 e6=>.cl 8 rfl (by omega) fun g7 e7=>.cv (by omega) fun g8 e8=>.cl 3 rfl (by omega) fun g9 e9=>.bd (hB hx5 t4) fun b2 k3=>.cv (by omega) fun g10 e10=>.cv (by omega) fun g11 e11=>.cl 2 rfl (by omega) fun g12 e12=>go g12 (by omega)
  have hlen:l.length * CB (k+1)≤22 * CB (k+1):=Nat.mul_le_mul_right _ hl
  have h0:(⟨#[]⟩:ByteArray).size=0:=rfl
  refine .el (hL l 0 _ h (by omega)) (fun s hs=>.mk (by omega)) fun _ z=>z.elim
theorem GL {fu:Nat} (hf:50≤fu) {B:Nat} (hB:B=163100000) {O:ByteArray→Prop}:∀ (l:List kC) (k:Nat) (s:ByteArray),(∀ f ∈ l,GF f)→s.size+l.length * B≤700000000→kI (sZ fu l k s) (oK (fun r=>r.size≤s.size+l.length * B) O)
 | [],k,s,h,hs=>.go (Nat.le_add_right _ _)
 | x :: l,k,s,h,hs=>by
  rw [sZ]
  rw [List.length_cons,Nat.succ_mul] at hs ⊢
  obtain ⟨a1,a2,a3⟩:=h x (List.mem_cons_self ..)
  have h9:(⟨#[9]⟩:ByteArray).size=1:=rfl
  refine .cl 5 rfl (by omega) fun g1 e1=>.cv (by omega) fun g2 e2=>.cl 1 rfl (by omega) fun g3 e3=>.bd (M8 a2) fun w hw=>.cv (by omega) fun g4 e4=>.cl 4 rfl (by omega) fun g5 e5=>.bd (Nb (k:=4) (by decide) a3.2 a3.1 (by omega) (by omega)) fun b hb=>?_
  have hb2:b.size≤22 * CB 4:=Nat.le_trans hb (Nat.mul_le_mul_right _ a3.1)
  have hc4:CB 4=7410000:=by simp only [CB]
  refine .cv (by omega) fun g6 e6=>.cl 2 rfl (by omega) fun g7 e7=>?_
  exact (GL hf hB l (k+1) g7 (fun y hy=>h y (List.mem_cons_of_mem _ hy)) (by omega)).imp fun v hv=>by
   cases v with
   | go r=>exact Nat.le_trans (show r.size≤_ from hv) (by omega)
   | out o=>exact hv
theorem PR {fu:Nat} (hf:50≤fu) {p:jJ} (h:VF p):kI (zI fu p) (fun s=>s.size≤700000000):=by
 unfold zI
 have h0:(⟨#[]⟩:ByteArray).size=0:=rfl
 rw [h.recs]
 have hR:kI (qP fu [⟨⟨#[80]⟩,[⟨#[120]⟩,⟨#[121]⟩]⟩] 0 ⟨#[]⟩) (oK (fun s=>s.size≤100) (fun _=>False)):=by
  rw [qP]
  have h1:(⟨⟨#[80]⟩,[⟨#[120]⟩,⟨#[121]⟩]⟩:kD).a.size=1:=rfl
  refine .cl 7 rfl (by omega) fun g1 e1=>.cv (by omega) fun g2 e2=>.cl 3 rfl (by omega) fun g3 e3=>.bd (M8 ⟨by decide,JW⟩) fun w hw=>.cv (by omega) fun g4 e4=>.cl 3 rfl (by omega) fun g5 e5=>?_
  rw [qP]
  exact .go (by omega)
 have hl:=h.e.2
 have hl2:p.b.length * 163100000≤4 * 163100000:=Nat.mul_le_mul_right _ hl
 refine .el hR (fun s hs=>?_) fun _ z=>z.elim
 exact .el (GL hf rfl p.b 0 s h.el (O:=fun _=>False) (by omega)) (fun s hs=>.mk (by omega)) fun _ z=>z.elim
end Go.Proofs.Ytfglbdkfnphjgaa
