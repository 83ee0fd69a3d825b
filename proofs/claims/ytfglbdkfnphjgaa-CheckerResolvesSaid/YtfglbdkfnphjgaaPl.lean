/- The text of a made program: the printer answers, and the text is not long. -/
import Derived.Test.YtfglbdkfnphjgaaPk
import Derived.Test.YtfglbdkfnphjgaaLd
set_option linter.unusedVariables false
set_option linter.unusedSimpArgs false
namespace Go.Fw
open Go.RowKit
theorem Tot.cl {α:Type} {P:α→Prop} {s t:ByteArray} {f:ByteArray→Option α} (n:Nat) (h:t.size=n) (hs:s.size+n≤1000000000) (k:∀ r,r.size=s.size+n→Tot (f r) P):Tot ((Go.Fw.cat s t).bind f) P:=.bd (.cat (by omega)) fun r hr=>k r (by rw [hr,cat_size,h])
theorem Tot.cv {α:Type} {P:α→Prop} {s t:ByteArray} {f:ByteArray→Option α} (hs:s.size+t.size≤1000000000) (k:∀ r,r.size=s.size+t.size→Tot (f r) P):Tot ((Go.Fw.cat s t).bind f) P:=.bd (.cat hs) fun r hr=>k r (by rw [hr,cat_size])
theorem Tot.cr {α:Type} {P:α→Prop} {s t:ByteArray} {f:ByteArray→Option α} (n:Nat) (h:s.size=n) (hs:n+t.size≤1000000000) (k:∀ r,r.size=n+t.size→Tot (f r) P):Tot ((Go.Fw.cat s t).bind f) P:=.bd (.cat (by omega)) fun r hr=>k r (by rw [hr,cat_size,h])
end Go.Fw
namespace Go.Proofs.Ytfglbdkfnphjgaa
open Go.RowKit Go.Fw
def EB:Nat→Nat
 | 0=>6
 | d+1=>2 * EB d+8
theorem EB.lo:∀ d,6≤EB d∧EB d+8≤14 * 2 ^ d
 | 0=>by decide
 | d+1=>by
  have h:=EB.lo d
  have e:EB (d+1)=2 * EB d+8:=rfl
  have:1≤2 ^ d:=Nat.one_le_two_pow
  rw [Nat.pow_succ]
  omega
theorem p_rank {fu:Nat} {op:Int}:Tot (m_r03_rank fu op) (fun r=>(1≤r∧r≤6)∧(r=5→4≤op∧op≤5)∧(r < 5→6≤op∧op≤17)):=by
 unfold m_r03_rank
 have hJ0:Tot (m_r03_rank_J0 fu op) (LdP (fun b=>b=true→14≤op∧op≤17) (fun _=>False)):=by
  unfold m_r03_rank_J0
  refine .ite (fun _=>.go fun _=>by omega) fun _=>.ite (fun _=>.go fun _=>by omega) fun _=>.ite (fun _=>.go fun _=>by omega) fun _=>.go fun z=>by have:=of_decide_eq_true z;omega
 have hJ1:Tot (m_r03_rank_J1 fu op) (LdP (fun b=>b=true→11≤op∧op≤13) (fun _=>False)):=by
  unfold m_r03_rank_J1
  refine .ite (fun _=>.go fun _=>by omega) fun _=>.ite (fun _=>.go fun _=>by omega) fun _=>.go fun z=>by have:=of_decide_eq_true z;omega
 have hJ2:Tot (m_r03_rank_J2 fu op) (LdP (fun b=>b=true→6≤op∧op≤7) (fun _=>False)):=by
  unfold m_r03_rank_J2
  refine .ite (fun _=>.go fun _=>by omega) fun _=>.go fun z=>by have:=of_decide_eq_true z;omega
 refine .el hJ0 (fun b hb=>.ite (fun z=>.mk (by have:=hb z;omega)) fun _=>?_) fun _ z=>z.elim
 refine .el hJ1 (fun b hb=>.ite (fun z=>.mk (by have:=hb z;omega)) fun _=>?_) fun _ z=>z.elim
 refine .el hJ2 (fun b hb=>.ite (fun z=>.mk (by have:=hb z;omega)) fun _=>?_) fun _ z=>z.elim
 refine .ite (fun _=>.mk (by omega)) fun _=>.ite (fun _=>.mk (by omega)) fun _=>.ite (fun _=>.mk (by omega)) fun _=>.ite (fun _=>.mk (by omega)) fun _=>.ite (fun _=>.mk (by omega)) fun _=>.mk (by omega)
theorem sg_size:∀ x ∈ ([(⟨#[43]⟩:ByteArray),(⟨#[45]⟩:ByteArray),(⟨#[42]⟩:ByteArray),(⟨#[47]⟩:ByteArray),(⟨#[37]⟩:ByteArray),(⟨#[38]⟩:ByteArray),(⟨#[124]⟩:ByteArray),(⟨#[94]⟩:ByteArray),(⟨#[60]⟩:ByteArray),(⟨#[60,61]⟩:ByteArray),(⟨#[61,61]⟩:ByteArray),(⟨#[33,61]⟩:ByteArray)]:List ByteArray),x.size≤2:=by
 intro x hx
 simp only [List.mem_cons,List.not_mem_nil,or_false] at hx
 rcases hx with rfl | rfl | rfl | rfl | rfl | rfl | rfl | rfl | rfl | rfl | rfl | rfl <;> decide
theorem ng_size:∀ x ∈ ([(⟨#[45]⟩:ByteArray),(⟨#[33]⟩:ByteArray)]:List ByteArray),x.size≤2:=by
 intro x hx
 simp only [List.mem_cons,List.not_mem_nil,or_false] at hx
 rcases hx with rfl | rfl <;> decide
theorem p_Expr:∀ {d fu:Nat} {x:GExpr} {l:Int},GE d x→d≤5→d+19≤fu→Tot (m_r03_Expr fu x l) (fun s=>s.size≤EB d)
 | 0,_,_,_,h,_,_=>h.elim
 | d+1,0,_,_,_,_,h=>by omega
 | d+1,fu+1,x,l,h,hd,hf=>by
  show Tot (F_r03_Expr fu (m_r03_Expr fu) x l) _
  obtain ⟨⟨h1,h2,h3,h4⟩,h5,h6⟩:=h
  have hE:EB (d+1)=2 * EB d+8:=rfl
  have hlo:=EB.lo d
  have hp:(2:Nat) ^ d≤2 ^ 5:=Nat.pow_le_pow_right (by decide) (by omega)
  have h32:(2:Nat) ^ 5=32:=by decide
  unfold F_r03_Expr
  refine .bd p_rank fun r hr=>?_
  have sub:∀ {y:GExpr} {l:Int},y ∈ x.Args→Tot (m_r03_Expr fu y l) (fun s=>s.size≤EB d):=fun hy=>p_Expr (h6 _ hy) (by omega) (by omega)
  have hJ:Tot (F_r03_Expr_J0 fu (m_r03_Expr fu) x r) (LdP (fun s=>s.size≤2 * EB d+6) (fun _=>False)):=by
   unfold F_r03_Expr_J0
   refine .ite (fun _=>.bd (g_Digits (d:=18) h3 (by omega) (by decide) (by decide) (by omega)) fun s hs=>.go (by omega)) fun _=>?_
   refine .ite (fun _=>.cl 1 rfl (by omega) fun g e1=>.cv (by omega) fun g2 e2=>.go (by omega)) fun _=>?_
   have hJ1:Tot (F_r03_Expr_J1 fu (m_r03_Expr fu) x) (LdP (fun b=>b=true→0 < x.Args.length) (fun _=>False)):=by
     unfold F_r03_Expr_J1
     exact .ite (fun _=>.go fun z=>by have:=of_decide_eq_true z;omega) fun _=>.go fun z=>(by cases z)
   refine .eoo hJ1 fun b hb=>.ite (fun z=>?_) fun _=>?_
   · have:=hb z
     refine .bd (.ix (by decide) (by omega)) fun y hy=>.cl 1 rfl (by omega) fun g e1=>.bd (sub (List.mem_of_getElem? hy)) fun s hs=>.cv (by omega) fun g2 e2=>.cl 1 rfl (by omega) fun g3 e3=>.go (by omega)
   have hJ2:Tot (F_r03_Expr_J2 fu (m_r03_Expr fu) x r) (LdP (fun b=>b=true→r=5∧0 < x.Args.length) (fun _=>False)):=by
     unfold F_r03_Expr_J2
     exact .ite (fun _=>.go fun z=>by have:=of_decide_eq_true z;omega) fun _=>.go fun z=>(by cases z)
   refine .eoo hJ2 fun b hb=>.ite (fun z=>?_) fun _=>?_
   · obtain ⟨q1,q2⟩:=hb z
     have q3:=hr.2.1 q1
     rw [wr_id (by omega) (by omega)]
     exact .bd (.ix (by decide) (by omega)) fun y hy=>.bd (.ix (by omega) (by simp only [List.length_cons,List.length_nil];omega)) fun n hn=>.bd (sub (List.mem_of_getElem? hy)) fun s hs=>.cv (by have:=ng_size n (List.mem_of_getElem? hn);omega) fun g e=>.go (by have:=ng_size n (List.mem_of_getElem? hn);omega)
   refine .ite (fun q1=>.ite (fun q2=>?_) fun _=>.go (by omega)) fun _=>.go (by omega)
   have hJ3:Tot (F_r03_Expr_J3 fu (m_r03_Expr fu) r) (LdP (fun _=>True) (fun _=>False)):=by
     unfold F_r03_Expr_J3
     exact .ite (fun _=>.go trivial) fun _=>.go trivial
   have q3:=hr.2.2 q1
   refine .eoo hJ3 fun lv _=>?_
   rw [wr_id (n:=x.Op - 6) (by omega) (by omega)]
   refine .bd (.ix (by decide) (by omega)) fun y hy=>.bd (.ix (by decide) (by omega)) fun y' hy'=>.bd (.ix (by omega) (by simp only [List.length_cons,List.length_nil];omega)) fun n hn=>?_
   have hn2:=sg_size n (List.mem_of_getElem? hn)
   exact .bd (sub (List.mem_of_getElem? hy)) fun s hs=>.cl 1 rfl (by omega) fun g e1=>.cv (by omega) fun g2 e2=>.cl 1 rfl (by omega) fun g3 e3=>.bd (sub (List.mem_of_getElem? hy')) fun s' hs'=>.cv (by omega) fun g4 e4=>.go (by omega)
  refine .el hJ (fun s hs=>?_) fun _ z=>z.elim
  exact .ite (fun _=>.cr 1 rfl (by omega) fun g e1=>.cl 1 rfl (by omega) fun g2 e2=>.mk (by omega)) fun _=>.mk (by omega)
theorem p_Expr4 {fu:Nat} (hf:30≤fu) {x:GExpr} {l:Int} (h:GE 4 x):Tot (m_r03_Expr fu x l) (fun s=>s.size≤216):=p_Expr h (by decide) (by omega)
theorem p_list_L0 {fu:Nat} (hf:30≤fu) {O:ByteArray→Prop}:∀ (l:List GExpr) (k:Nat) (s:ByteArray),(∀ y ∈ l,GE 4 y)→s.size+l.length * 218≤1000000→Tot (m_r03_list_L0 fu l k s) (LdP (fun r=>r.size≤s.size+l.length * 218) O)
 | [],k,s,h,hs=>.go (by simp only [List.length_nil];omega)
 | x :: l,k,s,h,hs=>by
  rw [m_r03_list_L0]
  rw [List.length_cons] at hs ⊢
  have hJ:Tot (m_r03_list_J1 fu s k) (LdP (fun r=>r.size≤s.size+2) O):=by
   unfold m_r03_list_J1
   exact .ite (fun _=>.cl 2 rfl (by omega) fun g e=>.go (by omega)) fun _=>.go (by omega)
  refine .eoo hJ fun s2 h2=>.bd (p_Expr4 hf (h x (List.mem_cons_self ..))) fun t ht=>.cv (by omega) fun g e=>?_
  exact (p_list_L0 hf l (k+1) g (fun y hy=>h y (List.mem_cons_of_mem _ hy)) (by omega)).imp fun v hv=>by
   cases v with
   | go r=>exact Nat.le_trans (show r.size≤_ from hv) (by omega)
   | out o=>exact hv
theorem p_list {fu:Nat} (hf:30≤fu) {l:List GExpr} (h:l.length≤4∧∀ y ∈ l,GE 4 y):Tot (m_r03_list fu l) (fun r=>r.size≤872):=by
 unfold m_r03_list
 have h0:(⟨#[]⟩:ByteArray).size=0:=rfl
 exact .el (p_list_L0 hf l 0 _ h.2 (O:=fun _=>False) (by omega)) (fun s hs=>.mk (by omega)) fun _ z=>z.elim
theorem p_words_L0 {fu:Nat} {O:ByteArray→Prop}:∀ (l:List ByteArray) (k:Nat) (s:ByteArray),(∀ y ∈ l,y.size≤4)→s.size+l.length * 6≤1000000→Tot (m_r03_words_L0 fu l k s) (LdP (fun r=>r.size≤s.size+l.length * 6) O)
 | [],k,s,h,hs=>.go (by simp only [List.length_nil];omega)
 | x :: l,k,s,h,hs=>by
  rw [m_r03_words_L0]
  rw [List.length_cons] at hs ⊢
  have hx:=h x (List.mem_cons_self ..)
  have go:∀ g:ByteArray,g.size≤s.size+6→Tot (m_r03_words_L0 fu l (k+1) g) (LdP (fun r=>r.size≤s.size+(l.length+1) * 6) O):=fun g hg=>(p_words_L0 l (k+1) g (fun y hy=>h y (List.mem_cons_of_mem _ hy)) (by omega)).imp fun v hv=>by
   cases v with
   | go r=>exact Nat.le_trans (show r.size≤_ from hv) (by omega)
   | out o=>exact hv
  exact .ite (fun _=>.cl 2 rfl (by omega) fun g e=>.cv (by omega) fun g2 e2=>go g2 (by omega)) fun _=>.cv (by omega) fun g2 e2=>go g2 (by omega)
theorem p_words {fu:Nat} {l:List ByteArray} (h:l.length≤4∧∀ y ∈ l,y.size≤4):Tot (m_r03_words fu l) (fun r=>r.size≤24):=by
 unfold m_r03_words
 have h0:(⟨#[]⟩:ByteArray).size=0:=rfl
 exact .el (p_words_L0 l 0 _ h.2 (O:=fun _=>False) (by omega)) (fun s hs=>.mk (by omega)) fun _ z=>z.elim
theorem p_value {fu:Nat} (hf:30≤fu) {k:Nat} {x:GStmt} (h:GS k x):Tot (m_p03_value fu x) (fun r=>r.size≤878):=by
 obtain _ | k:=k
 · exact h.elim
 unfold m_p03_value
 have h1:=h.1.2.2.1
 exact .ite (fun _=>.cl 1 rfl (by omega) fun g e=>.bd (p_list hf h.2.2.1) fun s hs=>.cv (by omega) fun g2 e2=>.cl 1 rfl (by omega) fun g3 e3=>.mk (by omega)) fun _=>.bd (p_list hf h.2.2.1) fun s hs=>.mk (by omega)
def CB:Nat→Nat
 | 0=>0
 | k+1=>1200+18 * CB k
theorem p_block:∀ {k fu:Nat} {l:List GStmt} {tb:ByteArray},k≤4→(∀ y ∈ l,GS k y)→l.length≤22→tb.size+k≤5→k+40≤fu→Tot (m_p03_block fu l tb) (fun r=>r.size≤l.length * CB k)
 | _,0,_,_,_,_,_,_,h=>by omega
 | 0,fu+1,l,tb,_,h,_,_,_=>by
  cases l with
  | nil=>exact .mk (Nat.zero_le _)
  | cons x l=>exact (h x (List.mem_cons_self ..)).elim
 | k+1,fu+1,l,tb,hk,h,hl,ht,hf=>by
  show Tot (F_p03_block fu (m_p03_block fu) l tb) _
  unfold F_p03_block
  have hC:CB (k+1)=1200+18 * CB k:=rfl
  have hC3:CB k≤411600:=by
   obtain _ | _ | _ | _ | k:=k
   · simp only [CB];decide
   · simp only [CB];decide
   · simp only [CB];decide
   · simp only [CB];decide
   · omega
  have hB:∀ {m:List GStmt} {u:ByteArray},(m.length≤9∧∀ y ∈ m,GS k y)→u.size=tb.size+1→Tot (m_p03_block fu m u) (fun r=>r.size≤9 * CB k):=fun hm hu=>(p_block (by omega) hm.2 (by omega) (by omega) (by omega)).imp fun r hr=>Nat.le_trans hr (Nat.mul_le_mul_right _ hm.1)
  have hL:∀ (l:List GStmt) (i:Nat) (s:ByteArray),(∀ y ∈ l,GS (k+1) y)→s.size+l.length * CB (k+1)≤500000000→Tot (F_p03_block_L0 fu (m_p03_block fu) tb l i s) (LdP (fun r=>r.size≤s.size+l.length * CB (k+1)) (fun _=>False)):=by
   intro l
   induction l with
   | nil=>intro i s _ hs;exact .go (by simp only [List.length_nil];omega)
   | cons x l ih=>
     intro i s hy hs
     rw [List.length_cons,Nat.succ_mul] at hs ⊢
     have hx:=hy x (List.mem_cons_self ..)
     have go:∀ g:ByteArray,g.size≤s.size+CB (k+1)→Tot (F_p03_block_L0 fu (m_p03_block fu) tb l (i+1) g) (LdP (fun r=>r.size≤s.size+(l.length * CB (k+1)+CB (k+1))) (fun _=>False)):=fun g hg=>(ih (i+1) g (fun y hy'=>hy y (List.mem_cons_of_mem _ hy')) (by omega)).imp fun v hv=>by
       cases v with
       | go r=>exact Nat.le_trans (show r.size≤_ from hv) (by omega)
       | out o=>exact hv
     have hv:Tot (m_p03_value fu x) (fun r=>r.size≤878):=p_value (by omega) hx
     obtain ⟨⟨a1,a2,a3,a4,a5⟩,hx2,hx3,hx4,hx5⟩:=hx
     rw [F_p03_block_L0]
     have hJ1:Tot (F_p03_block_J1 fu (m_p03_block fu) x) (LdP (fun s=>s.size≤219) (fun _=>False)):=by
       unfold F_p03_block_J1
       exact .ite (fun _=>.bd (.ix (by decide) (by omega)) fun y hy=>.bd (p_Expr4 (by omega) (hx2.2 y (List.mem_of_getElem? hy))) fun s hs=>.cl 3 rfl (by omega) fun g e=>.go (by omega)) fun _=>.go (Nat.zero_le _)
     refine .eoo hJ1 fun tg htg=>.ite (fun _=>?_) fun _=>?_
     · have hJ2:Tot (F_p03_block_J2 fu (m_p03_block fu) x) (LdP (fun s=>s.size≤4) (fun _=>False)):=by
         unfold F_p03_block_J2
         exact .ite (fun _=>.go (by decide)) fun _=>.go a2
       have hJ3:∀ u:ByteArray,u.size≤4→Tot (F_p03_block_J3 fu (m_p03_block fu) x u) (LdP (fun s=>s.size≤8) (fun _=>False)):=by
         intro u hu
         unfold F_p03_block_J3
         exact .ite (fun _=>.bd (g_Digits (d:=1) a4 (by omega) (by decide) (by decide) (by omega)) fun s hs=>.cr 4 rfl (by omega) fun g e=>.cl 1 rfl (by omega) fun g2 e2=>.go (by omega)) fun _=>.go (by omega)
       refine .eoo hJ2 fun u hu=>.eoo (hJ3 u hu) fun ty hty=>?_
       exact .cv (by omega) fun g1 e1=>.cl 4 rfl (by omega) fun g2 e2=>.cv (by omega) fun g3 e3=>.cl 2 rfl (by omega) fun g4 e4=>.cv (by omega) fun g5 e5=>.cl 2 rfl (by omega) fun g6 e6=>go g6 (by omega)
     have hJ4:Tot (F_p03_block_J4 fu (m_p03_block fu) x) (LdP (fun _=>True) (fun _=>False)):=by
       unfold F_p03_block_J4
       exact .ite (fun _=>.go trivial) fun _=>.go trivial
     refine .eoo hJ4 fun b _=>.ite (fun _=>?_) fun _=>.ite (fun _=>?_) fun _=>.ite (fun _=>?_) fun _=>.ite (fun _=>?_) fun _=>.ite (fun _=>?_) fun _=>.ite (fun _=>?_) fun _=>.ite (fun _=>?_) fun _=>go s (by omega)
     · exact .cv (by omega) fun g1 e1=>.cv (by omega) fun g2 e2=>.bd hv fun v k1=>.cv (by omega) fun g3 e3=>.cl 2 rfl (by omega) fun g4 e4=>go g4 (by omega)
     · exact .cv (by omega) fun g1 e1=>.cl 7 rfl (by omega) fun g2 e2=>.bd hv fun v k1=>.cv (by omega) fun g3 e3=>.cl 2 rfl (by omega) fun g4 e4=>go g4 (by omega)
     · exact .cv (by omega) fun g1 e1=>.cl 6 rfl (by omega) fun g2 e2=>.bd hv fun v k1=>.cv (by omega) fun g3 e3=>.cl 2 rfl (by omega) fun g4 e4=>go g4 (by omega)
     · exact .cv (by omega) fun g1 e1=>.cl 6 rfl (by omega) fun g2 e2=>.bd hv fun v k1=>.cv (by omega) fun g3 e3=>.cl 2 rfl (by omega) fun g4 e4=>go g4 (by omega)
     · refine .cv (by omega) fun g1 e1=>.cl 3 rfl (by omega) fun g2 e2=>.cl 1 rfl (by omega) fun t1 t2=>.bd hv fun v k1=>.cv (by omega) fun g3 e3=>.cl 3 rfl (by omega) fun g4 e4=>.bd (hB hx4 t2) fun b1 k2=>.cv (by omega) fun g5 e5=>.ite (fun _=>?_) fun _=>?_
       · exact .cv (by omega) fun g6 e6=>.cl 9 rfl (by omega) fun g7 e7=>.cl 1 rfl (by omega) fun t3 t4=>.bd (hB hx5 t4) fun b2 k3=>.cv (by omega) fun g8 e8=>.cv (by omega) fun g9 e9=>.cl 2 rfl (by omega) fun g10 e10=>go g10 (by omega)
       · exact .cv (by omega) fun g6 e6=>.cl 2 rfl (by omega) fun g10 e10=>go g10 (by omega)
     · exact .cv (by omega) fun g1 e1=>.cl 6 rfl (by omega) fun g2 e2=>.cl 1 rfl (by omega) fun t1 t2=>.bd hv fun v k1=>.cv (by omega) fun g3 e3=>.cl 3 rfl (by omega) fun g4 e4=>.bd (hB hx4 t2) fun b1 k2=>.cv (by omega) fun g5 e5=>.cv (by omega) fun g6 e6=>.cl 2 rfl (by omega) fun g10 e10=>go g10 (by omega)
     · exact .cv (by omega) fun g1 e1=>.cl 6 rfl (by omega) fun g2 e2=>.cl 1 rfl (by omega) fun t1 t2=>.cl 1 rfl (by omega) fun t3 t4=>.bd (hB hx4 t2) fun b1 k2=>.cv (by omega) fun g5 e5=>.cv (by omega) fun g6 e6=>.cl 8 rfl (by omega) fun g7 e7=>.cv (by omega) fun g8 e8=>.cl 3 rfl (by omega) fun g9 e9=>.bd (hB hx5 t4) fun b2 k3=>.cv (by omega) fun g10 e10=>.cv (by omega) fun g11 e11=>.cl 2 rfl (by omega) fun g12 e12=>go g12 (by omega)
  have hlen:l.length * CB (k+1)≤22 * CB (k+1):=Nat.mul_le_mul_right _ hl
  have h0:(⟨#[]⟩:ByteArray).size=0:=rfl
  refine .el (hL l 0 _ h (by omega)) (fun s hs=>.mk (by omega)) fun _ z=>z.elim
theorem p_Print_L1 {fu:Nat} (hf:50≤fu) {B:Nat} (hB:B=163100000) {O:ByteArray→Prop}:∀ (l:List GFunc) (k:Nat) (s:ByteArray),(∀ f ∈ l,GF f)→s.size+l.length * B≤700000000→Tot (m_r03_Print_L1 fu l k s) (LdP (fun r=>r.size≤s.size+l.length * B) O)
 | [],k,s,h,hs=>.go (Nat.le_add_right _ _)
 | x :: l,k,s,h,hs=>by
  rw [m_r03_Print_L1]
  rw [List.length_cons,Nat.succ_mul] at hs ⊢
  obtain ⟨a1,a2,a3⟩:=h x (List.mem_cons_self ..)
  have h9:(⟨#[9]⟩:ByteArray).size=1:=rfl
  refine .cl 5 rfl (by omega) fun g1 e1=>.cv (by omega) fun g2 e2=>.cl 1 rfl (by omega) fun g3 e3=>.bd (p_words a2) fun w hw=>.cv (by omega) fun g4 e4=>.cl 4 rfl (by omega) fun g5 e5=>.bd (p_block (k:=4) (by decide) a3.2 a3.1 (by omega) (by omega)) fun b hb=>?_
  have hb2:b.size≤22 * CB 4:=Nat.le_trans hb (Nat.mul_le_mul_right _ a3.1)
  have hc4:CB 4=7410000:=by simp only [CB]
  refine .cv (by omega) fun g6 e6=>.cl 2 rfl (by omega) fun g7 e7=>?_
  exact (p_Print_L1 hf hB l (k+1) g7 (fun y hy=>h y (List.mem_cons_of_mem _ hy)) (by omega)).imp fun v hv=>by
   cases v with
   | go r=>exact Nat.le_trans (show r.size≤_ from hv) (by omega)
   | out o=>exact hv
theorem p_Print {fu:Nat} (hf:50≤fu) {p:GProgram} (h:GPr p):Tot (m_r03_Print fu p) (fun s=>s.size≤700000000):=by
 unfold m_r03_Print
 have h0:(⟨#[]⟩:ByteArray).size=0:=rfl
 rw [h.recs]
 have hR:Tot (m_r03_Print_L0 fu [⟨⟨#[80]⟩,[⟨#[120]⟩,⟨#[121]⟩]⟩] 0 ⟨#[]⟩) (LdP (fun s=>s.size≤100) (fun _=>False)):=by
  rw [m_r03_Print_L0]
  have h1:(⟨⟨#[80]⟩,[⟨#[120]⟩,⟨#[121]⟩]⟩:GRecord).Name.size=1:=rfl
  refine .cl 7 rfl (by omega) fun g1 e1=>.cv (by omega) fun g2 e2=>.cl 3 rfl (by omega) fun g3 e3=>.bd (p_words ⟨by decide,xy_size⟩) fun w hw=>.cv (by omega) fun g4 e4=>.cl 3 rfl (by omega) fun g5 e5=>?_
  rw [m_r03_Print_L0]
  exact .go (by omega)
 have hl:=h.funcs.2
 have hl2:p.Funcs.length * 163100000≤4 * 163100000:=Nat.mul_le_mul_right _ hl
 refine .el hR (fun s hs=>?_) fun _ z=>z.elim
 exact .el (p_Print_L1 hf rfl p.Funcs 0 s h.el (O:=fun _=>False) (by omega)) (fun s hs=>.mk (by omega)) fun _ z=>z.elim
end Go.Proofs.Ytfglbdkfnphjgaa
