/- The maker of programs answers for any tape: the program. -/
import Derived.Test.YtfglbdkfnphjgaaPi
set_option linter.unusedVariables false
set_option linter.unusedSimpArgs false
namespace Go.Proofs.Ytfglbdkfnphjgaa
open Go.RowKit Go.Fw
structure GF (f:GFunc):Prop where
 name:f.Name.size≤4
 params:f.Params.length≤4∧∀ x ∈ f.Params,x.size≤4
 body:f.Body.length≤22∧∀ y ∈ f.Body,GS 4 y
structure GPr (p:GProgram):Prop where
 recs:p.Records=[⟨⟨#[80]⟩,[⟨#[120]⟩,⟨#[121]⟩]⟩]
 funcs:1≤p.Funcs.length∧p.Funcs.length≤4
 el:∀ f ∈ p.Funcs,GF f
theorem abcd_size:∀ x ∈ ([(⟨#[97]⟩:ByteArray),(⟨#[98]⟩:ByteArray),(⟨#[99]⟩:ByteArray),(⟨#[100]⟩:ByteArray)]:List ByteArray),x.size≤4:=by
 intro x hx
 simp only [List.mem_cons,List.not_mem_nil,or_false] at hx
 rcases hx with rfl | rfl | rfl | rfl <;> decide
theorem abcd_nm {k:Nat} (x:ByteArray) (h:([(⟨#[102]⟩:ByteArray),(⟨#[103]⟩:ByteArray),(⟨#[104]⟩:ByteArray),(⟨#[107]⟩:ByteArray)]:List ByteArray)[k]?=some x):x.size≤4:=fghk_size x (List.mem_of_getElem? h)
theorem g_Program_L0 {fu:Nat} (hf:40≤fu) {a b c d:Int} (ha:0≤a∧a < 4) (hb:0≤b∧b < 3) (hc:0≤c∧c < 4) (hd:0≤d∧d < 5) {O:GProgram→Prop}:∀ (n i:Nat) (out:List GFunc) (T:GTape),TQ T→out.length=i→(i:Int)≤1+a→6≤n+i→(∀ f ∈ out,GF f)→
  Tot (m_kit_Program_L0 fu a b c d n i out T.l T.at_) (LdP (fun r=>pel r fun _ r=>pel r fun o r=>pel r fun _ _=>(1≤o.length∧o.length≤4)∧∀ f ∈ o,GF f) O)
 | 0,i,out,T,hT,h1,h2,h3,h4=>by omega
 | n+1,i,out,T,hT,h1,h2,h3,h4=>by
  rw [m_kit_Program_L0,wr_id (n:=1+a) (by omega) (by omega)]
  refine .ite (fun k=>?_) fun k=>.go ⟨by omega,h4⟩
  have hps:([2,b,c,d]:List Int).length=4∧∀ p ∈ ([2,b,c,d]:List Int),0≤p∧p≤4:=⟨rfl,fun p hp=>by
   simp only [List.mem_cons,List.not_mem_nil,or_false] at hp
   omega⟩
  refine .bd (.ix (by omega) (by rw [hps.1];omega)) fun p hp=>?_
  have hp4:=hps.2 p (List.mem_of_getElem? hp)
  refine .bd (.ix (by omega) (by simp only [List.length_cons,List.length_nil];omega)) fun nm hnm=>?_
  refine .bd (.sl ⟨Int.le_refl _,hp4.1,by simp only [List.length_cons,List.length_nil];omega⟩) fun l hl=>?_
  have hll:l.length≤4∧∀ x ∈ l,x.size≤4:=by
   subst hl
   exact ⟨by rw [List.length_take];omega,fun x hx=>abcd_size x (List.mem_of_mem_drop (List.mem_of_mem_take hx))⟩
  refine .bd (.app (by simp only [List.length_nil];omega)) fun r hr=>?_
  rw [List.nil_append] at hr
  subst hr
  have hJ1:Tot (m_kit_Program_J1 fu i) (LdP (fun s=>s=6 ∨ s=10) O):=by
   unfold m_kit_Program_J1
   exact .ite (fun _=>.go (.inl rfl)) fun _=>.go (.inr rfl)
  refine .eoo hJ1 fun s hs=>?_
  have hM:MP ⟨(i:Int),1+a,[2,b,c,d],r,[],[],0,22⟩:=⟨hps,by dsimp only;omega,⟨by dsimp only;omega,hll.2⟩,⟨(by decide:(0:Int)+22≤40),fun x hx=>(by cases hx)⟩,⟨(by decide:(0:Int)+22≤40),fun x hx=>(by cases hx)⟩,(by decide:(0:Int)≤0∧(0:Int)+22≤22),(by decide:(0:Int)≤22)⟩
  have hS:Tot (m_kit_stmts fu ⟨(i:Int),1+a,[2,b,c,d],r,[],[],0,22⟩ T 1 s) (SP 20 4 ⟨(i:Int),1+a,[2,b,c,d],r,[],[],0,22⟩):=by
   rcases hs with rfl | rfl
   · exact (g_stmts hf hM hT (most:=6) (by decide)).imp fun v hv=>⟨lle hv.1 (by decide),hv.2⟩
   · exact g_stmts hf hM hT (most:=10) (by decide)
  refine .bp hS fun bo q hq=>.pp hq fun M' T' hq=>?_
  obtain ⟨hq1,hq2,hq3⟩:=hq
  have hM':=hq2.mp hM
  have hJ2:Tot (m_kit_Program_J2 fu bo M' T') (LdP (fun r=>pel r fun o r=>pel r fun l a=>(o.length≤21∧∀ y ∈ o,GS 4 y)∧TQ ⟨l,a⟩) O):=by
   unfold m_kit_Program_J2
   have k1:=hM'.ns.1;have k2:=hM'.l
   refine .ite (fun c=>?_) fun _=>.go ⟨lle hq1 (by decide),hq3⟩
   refine .bp (g_next hq3 (by decide) (by decide)) fun v T2 h2=>.ite (fun _=>?_) fun _=>.go ⟨lle hq1 (by decide),h2.2⟩
   refine g_pick h2.2 (by omega) (by omega) fun s T3 hs h3=>.bd (g_variable (hM'.ns.2 s hs)) fun x hx=>?_
   refine .bd (.app (by have:=hq1.1;simp only [List.length_cons,List.length_nil];omega)) fun r hr=>.go ⟨?_,h3⟩
   subst hr
   exact ⟨by rw [len_snoc];have:=hq1.1;omega,mem_snoc hq1.2 (GS.mk b0 b0 b0 z9 len0 (len1 (hx.mono (by decide)) (by decide)) len0 len0)⟩
  refine .eoo hJ2 fun r2 hr=>.pp hr fun o r2 hr=>.pp hr fun tl ta hr=>?_
  refine .bd (.app (by have:=hr.1.1;simp only [List.length_cons,List.length_nil];omega)) fun r84 hr84=>.bd (.app (by simp only [List.length_cons,List.length_nil];omega)) fun r90 hr90=>?_
  subst hr84 hr90
  rw [wr_id (by omega) (by omega)]
  refine g_Program_L0 hf ha hb hc hd n (i+1) _ ⟨tl,ta⟩ hr.2 (by rw [len_snoc];omega) (by omega) (by omega) (mem_snoc h4 ⟨abcd_nm nm hnm,hll,?_⟩)
  exact ⟨by dsimp only;rw [len_snoc];have:=hr.1.1;omega,mem_snoc hr.1.2 (GS.nil.mono (by decide))⟩
theorem g_Program {fu:Nat} (hf:40≤fu) {l:List Int} (hl:l.length≤1000):Tot (m_kit_Program fu l) GPr:=by
 unfold m_kit_Program
 refine .bp (g_next (T:=⟨l,0⟩) ⟨Int.le_refl _,by dsimp only;omega,hl⟩ (by decide) (by decide)) fun a T1 h1=>.bp (g_next h1.2 (by decide) (by decide)) fun b T2 h2=>.bp (g_next h2.2 (by decide) (by decide)) fun c T3 h3=>.bp (g_next h3.2 (by decide) (by decide)) fun d T4 h4=>?_
 refine .el (g_Program_L0 hf h1.1 h2.1 h3.1 h4.1 (O:=fun _=>False) fu 0 [] T4 h4.2 rfl (by omega) (by omega) fun f hf=>(by cases hf)) (fun r hr=>?_) fun _ z=>z.elim
 exact .pp hr fun _ r hr=>.pp hr fun o r hr=>.pp hr fun _ _ hr=>.mk ⟨rfl,hr.1,hr.2⟩
theorem g_Short {fu:Nat} {l:List Int}:Tot (m_kit_Short fu l) (fun r=>r.length≤200):=by
 unfold m_kit_Short
 refine .ite (fun c=>.bd (.sl ⟨by decide,by decide,by omega⟩) fun r hr=>.mk ?_) fun c=>.mk (by omega)
 rw [hr,List.length_take]
 omega
end Go.Proofs.Ytfglbdkfnphjgaa
