/- The law of names: the program answers true for any tape. -/
import Derived.Test.YtfglbdkfnphjgaaPl
import Derived.Test.YtfglbdkfnphjgaaPn
set_option linter.unusedVariables false
set_option linter.unusedSimpArgs false
namespace Go.Proofs.Ytfglbdkfnphjgaa
open Go.RowKit Go.Fw
def visF (i:Int):List GVarInfo→Nat→List Int
 | [],_=>[]
 | x :: r,k=>if x.From≤i∧i≤x.To then (k:Int) :: visF i r (k+1) else visF i r (k+1)
theorem visF_len {i:Int}:∀ (r:List GVarInfo) (k:Nat),(visF i r k).length≤r.length
 | [],_=>Nat.le_refl _
 | x :: r,k=>by
  have h:=visF_len (i:=i) r (k+1)
  unfold visF
  split
  · exact Nat.succ_le_succ h
  · exact Nat.le_succ_of_le h
theorem visF_mem {i q:Int}:∀ (r:List GVarInfo) (k:Nat),q ∈ visF i r k→∃ (j:Nat) (x:GVarInfo),q=((k+j:Nat):Int)∧r[j]?=some x∧x.From≤i∧i≤x.To
 | [],_,h=>by cases h
 | x :: r,k,h=>by
  unfold visF at h
  have go:q ∈ visF i r (k+1)→∃ (j:Nat) (y:GVarInfo),q=((k+j:Nat):Int)∧(x :: r)[j]?=some y∧y.From≤i∧i≤y.To:=fun h=>by
    obtain ⟨j,y,h1,h2,h3⟩:=visF_mem r (k+1) h
    exact ⟨j+1,y,by omega,h2,h3⟩
  by_cases c:x.From≤i∧i≤x.To
  · rw [if_pos c] at h
    rcases List.mem_cons.1 h with h | h
    · exact ⟨0,x,h,rfl,c⟩
    · exact go h
  · rw [if_neg c] at h
    exact go h
theorem visF_up {i:Int}:∀ (r:List GVarInfo) (k:Nat),(visF i r k).Pairwise (· < ·)
 | [],_=>List.Pairwise.nil
 | x :: r,k=>by
  have h:=visF_up (i:=i) r (k+1)
  unfold visF
  split
  · refine List.Pairwise.cons (fun q hq=>?_) h
    obtain ⟨j,y,h1,_⟩:=visF_mem r (k+1) hq
    omega
  · exact h
theorem v_vis_L0 {fu:Nat} {i:Int}:∀ (r:List GVarInfo) (k:Nat) (acc:List Int),acc.length+r.length≤1000000000→m_checker_Visible_L0 fu i r k acc=some (.go (acc ++ visF i r k))
 | [],k,acc,_=>by rw [m_checker_Visible_L0,visF,List.append_nil]
 | x :: r,k,acc,h=>by
  rw [List.length_cons] at h
  rw [m_checker_Visible_L0,visF]
  by_cases c1:x.From≤i
  · by_cases c2:i≤x.To
    · rw [if_pos c1,if_pos c2,if_pos ⟨c1,c2⟩]
      have:app acc [((k:Nat):Int)]=some (acc ++ [((k:Nat):Int)]):=if_pos (by simp only [List.length_cons,List.length_nil];omega)
      rw [this]
      show m_checker_Visible_L0 fu i r (k+1) (acc ++ [((k:Nat):Int)])=_
      rw [v_vis_L0 r (k+1) _ (by simp only [List.length_append,List.length_cons,List.length_nil];omega),List.append_assoc]
      rfl
    · rw [if_pos c1,if_neg c2,if_neg fun z=>c2 z.2]
      exact v_vis_L0 r (k+1) acc (by omega)
  · rw [if_neg c1,if_neg fun z=>c1 z.1]
    exact v_vis_L0 r (k+1) acc (by omega)
def visS (s:GSource) (f i:Int):List Int:=if f < 0 then [] else match s.Vars[f.toNat]? with
 | none=>[]
 | some V=>visF i V 0
theorem v_Visible {fu:Nat} {s:GSource} {f i:Int} (h:∀ V ∈ s.Vars,V.length≤24):m_checker_Visible fu s f i=some (visS s f i):=by
 unfold m_checker_Visible visS
 by_cases c:f < 0
 · rw [if_pos c,if_pos c]
 rw [if_neg c,if_neg c]
 by_cases d:(s.Vars.length:Int)≤f
 · rw [if_pos d,List.getElem?_eq_none (by omega)]
 rw [if_neg d]
 obtain ⟨V,hV⟩:=get_ex (l:=s.Vars) (k:=f.toNat) (by omega)
 have:ix s.Vars f=some V:=by
   unfold Go.Fw.ix
   rw [if_neg (by omega),hV]
 rw [this,hV]
 show (m_checker_Visible_L0 fu i V 0 []).bind _=_
 rw [v_vis_L0 V 0 [] (by have:=h V (List.mem_of_getElem? hV);rw [List.length_nil];omega),List.nil_append]
 rfl
theorem visS_get {s:GSource} {f i:Int} {j:Nat} {q:Int} (h:(visS s f i)[j]?=some q):0≤f∧f < s.Vars.length∧∃ V x,s.Vars[f.toNat]?=some V∧0≤q∧q < V.length∧V[q.toNat]?=some x∧x.From≤i∧i≤x.To:=by
 unfold visS at h
 by_cases c:f < 0
 · rw [if_pos c] at h;cases h
 rw [if_neg c] at h
 cases hV:s.Vars[f.toNat]? with
 | none=>rw [hV] at h;cases h
 | some V=>
   rw [hV] at h
   have hl:=lt_of_get hV
   obtain ⟨j,x,h1,h2,h3⟩:=visF_mem V 0 (List.mem_of_getElem? h)
   have hx:=lt_of_get h2
   exact ⟨by omega,by omega,V,x,rfl,by omega,by omega,by rw [h1];simpa using h2,h3⟩
theorem visS_up {s:GSource} {f i:Int} {j k:Nat} {p q:Int} (hj:(visS s f i)[j]?=some p) (hk:(visS s f i)[k]?=some q) (h:j < k):p < q:=by
 have hp:(visS s f i).Pairwise (· < ·):=by
  unfold visS
  split
  · exact List.Pairwise.nil
  · split
    · exact List.Pairwise.nil
    · exact visF_up _ _
 obtain ⟨h1,rfl⟩:=List.getElem?_eq_some_iff.1 hj
 obtain ⟨h2,rfl⟩:=List.getElem?_eq_some_iff.1 hk
 exact List.pairwise_iff_getElem.1 hp j k h1 h2 h
theorem visS_len {s:GSource} {f i:Int} (h:∀ V ∈ s.Vars,V.length≤24):(visS s f i).length≤24:=by
 unfold visS
 split
 · exact Nat.zero_le _
 · split
   · exact Nat.zero_le _
   · next V hV=>exact Nat.le_trans (visF_len V 0) (h V (List.mem_of_getElem? hV))
structure CK (s:GSource):Prop where
 np:∀ V ∈ s.Vars,NP V
 vn:∀ V ∈ s.Vars,V.length≤24
 st:s.Stmts.length≤200
theorem c_Text {fu:Nat} (hf:50≤fu) {l:List Int} (hl:l.length≤1000):Tot (m_kit_Text fu l) (fun s=>s.size≤700000000):=by
 unfold m_kit_Text
 exact .bd (g_Program (by omega) hl) fun p hp=>.bd (p_Print hf hp) fun s hs=>.mk hs
theorem c_Checked {fu:Nat} (hf:10100≤fu) {l:List Int}:Tot (m_kit_Checked fu l) (fun r=>pel r fun s b=>b=true→CK s):=by
 unfold m_kit_Checked
 refine .bd g_Short fun l2 h2=>.bd (c_Text (by omega) (by omega)) fun t _=>?_
 refine .bp (t_Parse (by omega)) fun p r hr=>.pp hr fun a e hp=>.ite (fun _=>.mk fun z=>(by cases z)) fun c=>?_
 refine .bp (u_Check hf (hp (by omega))) fun s r hr=>.pp hr fun a e hs=>.mk fun z=>?_
 have q:=hs (of_decide_eq_true z)
 exact ⟨fun V hV=>(q.1.2 V hV).1,fun V hV=>(q.1.2 V hV).2,q.2⟩
theorem n_L2 {fu:Nat} {s:GSource} (hs:CK s) {e:GStmtInfo} {i:Int} {q:Int} {k:Nat} (hk:(visS s e.Func i)[k]?=some q) (hk2:k≤24):∀ (n j:Nat),j≤k→26≤n+j→Tot (m_l04_CheckerNames_L2 fu s e (visS s e.Func i) k n j) (LdP (fun _=>True) (fun _=>False))
 | 0,_,_,h=>by omega
 | n+1,j,hj,hn=>by
  rw [m_l04_CheckerNames_L2]
  refine .ite (fun c=>?_) fun _=>.go trivial
  have hlt:=lt_of_get hk
  obtain ⟨p,hp⟩:=get_ex (l:=visS s e.Func i) (k:=j) (by omega)
  obtain ⟨f0,f1,V,y,hV,q0,q1,hy,y1,y2⟩:=visS_get hk
  obtain ⟨_,_,V',x,hV',p0,p1,hx,x1,x2⟩:=visS_get hp
  rw [hV] at hV'
  cases hV'
  have hpq:=visS_up hp hk (by omega)
  refine .bd (.ix f0 f1) fun V' hV'=>.bd (.ix (by omega) (by omega)) fun p' hp'=>.bd (.ix (by omega) (by omega)) fun q' hq'=>?_
  rw [Int.toNat_natCast] at hp' hq'
  rw [hV] at hV';cases hV'
  rw [hp] at hp';cases hp'
  rw [hk] at hq';cases hq'
  rw [if_neg (by omega)]
  refine .bd (.ix p0 p1) fun x' hx'=>.bd (.ix q0 q1) fun y' hy'=>?_
  rw [hx] at hx';cases hx'
  rw [hy] at hy';cases hy'
  have hne:x.Name≠y.Name:=by
   rcases hs.np V (List.mem_of_getElem? hV) p.toNat q.toNat x y (by omega) hx hy with h | h
   · exact h
   · omega
  rw [if_neg hne,wr_id (by omega) (by omega)]
  exact n_L2 hs hk hk2 n (j+1) (by omega) (by omega)
theorem n_L1 {fu:Nat} (hf:100≤fu) {s:GSource} (hs:CK s) {e:GStmtInfo} {i:Int}:∀ (n k:Nat),k≤25→26≤n+k→Tot (m_l04_CheckerNames_L1 fu s e (visS s e.Func i) n k) (LdP (fun _=>True) (fun _=>False))
 | 0,_,_,h=>by omega
 | n+1,k,hk,hn=>by
  rw [m_l04_CheckerNames_L1]
  refine .ite (fun c=>?_) fun _=>.go trivial
  have hlen:=visS_len (f:=e.Func) (i:=i) hs.vn
  obtain ⟨q,hq⟩:=get_ex (l:=visS s e.Func i) (k:=k) (by omega)
  refine .eoo (n_L2 hs hq (by omega) fu 0 (Nat.zero_le _) (by omega)) fun _ _=>?_
  rw [wr_id (by omega) (by omega)]
  exact n_L1 hf hs n (k+1) (by omega) (by omega)
theorem n_L0 {fu:Nat} (hf:100≤fu) {s:GSource} (hs:CK s):∀ (n i:Nat),i≤s.Stmts.length→201≤n+i→Tot (m_l04_CheckerNames_L0 fu s n i) (LdP (fun _=>True) (fun _=>False))
 | 0,_,h,h2=>by have:=hs.st;omega
 | n+1,i,hi,hn=>by
  have hst:=hs.st
  rw [m_l04_CheckerNames_L0]
  refine .ite (fun c=>?_) fun _=>.go trivial
  refine .bd (.ix (by omega) c) fun e he=>?_
  rw [v_Visible hs.vn]
  show Tot ((m_l04_CheckerNames_L1 fu s e (visS s e.Func i) fu 0).bind _) _
  refine .eoo (n_L1 hf hs fu 0 (Nat.zero_le _) (by omega)) fun _ _=>?_
  rw [wr_id (by omega) (by omega)]
  exact n_L0 hf hs n (i+1) (by omega) (by omega)
theorem names_true (l:List Int):m_l04_CheckerNames 10100 l=some true:=by
 have h:Tot (m_l04_CheckerNames 10100 l) (fun b=>b=true):=by
  unfold m_l04_CheckerNames
  rw [k_known]
  refine .bp (c_Checked (Nat.le_refl _)) fun s b hs=>.ite (fun _=>.mk rfl) fun c=>?_
  refine .el (n_L0 (by decide) (hs (by simpa using c)) 10100 0 (Nat.zero_le _) (by decide)) (fun _ _=>.mk rfl) fun _ z=>z.elim
 obtain ⟨v,h1,rfl⟩:=h
 exact h1
end Go.Proofs.Ytfglbdkfnphjgaa
