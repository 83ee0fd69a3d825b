/- The law of names: the program answers true for any tape. -/
import Derived.Test.YtfglbdkfnphjgaaPl
import Derived.Test.YtfglbdkfnphjgaaPn
set_option linter.unusedVariables false
set_option linter.unusedSimpArgs false
namespace Go.Proofs.Ytfglbdkfnphjgaa
open Go.RowKit Go.Fw
def visF (i:Int):List GVarInfo→Nat→List Int
 | [],_=>[]
 | x :: r,k=>if x.From≤i∧i≤x.To then (k:Int) :: visF i r (k+1) else visF i r (k+1)
theorem v_vis_L0 {fu:Nat} {i:Int}:∀ (r:List GVarInfo) (k:Nat) (acc:List Int),acc.length+r.length≤1000000000→m_checker_Visible_L0 fu i r k acc=some (.go (acc ++ visF i r k))
 | [],k,acc,_=>by rw [m_checker_Visible_L0,visF,List.append_nil]
 | x :: r,k,acc,h=>by
  rw [List.length_cons] at h
  rw [m_checker_Visible_L0,visF]
  by_cases c1:x.From≤i
  · by_cases c2:i≤x.To
    · rw [if_pos c1,if_pos c2,if_pos ⟨c1,c2⟩]
      have:app acc [((k:Nat):Int)]=some (acc ++ [((k:Nat):Int)]):=if_pos (by simp only [List.length_cons,List.length_nil];omega)
      rw [this]
      show m_checker_Visible_L0 fu i r (k+1) (acc ++ [((k:Nat):Int)])=_
      rw [v_vis_L0 r (k+1) _ (by simp only [List.length_append,List.length_cons,List.length_nil];omega),List.append_assoc]
      rfl
    · rw [if_pos c1,if_neg c2,if_neg fun z=>c2 z.2]
      exact v_vis_L0 r (k+1) acc (by omega)
  · rw [if_neg c1,if_neg fun z=>c1 z.1]
    exact v_vis_L0 r (k+1) acc (by omega)
def visS (s:GSource) (f i:Int):List Int:=if f < 0 then [] else match s.Vars[f.toNat]? with
 | none=>[]
 | some V=>visF i V 0
theorem v_Visible {fu:Nat} {s:GSource} {f i:Int} (h:∀ V ∈ s.Vars,V.length≤24):m_checker_Visible fu s f i=some (visS s f i):=by
 unfold m_checker_Visible visS
 by_cases c:f < 0
 · rw [if_pos c,if_pos c]
 rw [if_neg c,if_neg c]
 by_cases d:(s.Vars.length:Int)≤f
 · rw [if_pos d,List.getElem?_eq_none (by omega)]
 rw [if_neg d]
 obtain ⟨V,hV⟩:=get_ex (l:=s.Vars) (k:=f.toNat) (by omega)
 have:ix s.Vars f=some V:=by
   unfold Go.Fw.ix
   rw [if_neg (by omega),hV]
 rw [this,hV]
 show (m_checker_Visible_L0 fu i V 0 []).bind _=_
 rw [v_vis_L0 V 0 [] (by have:=h V (List.mem_of_getElem? hV);rw [List.length_nil];omega),List.nil_append]
 rfl
end Go.Proofs.Ytfglbdkfnphjgaa
