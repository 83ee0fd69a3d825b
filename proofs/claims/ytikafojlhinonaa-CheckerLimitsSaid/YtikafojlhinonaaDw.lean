/- Regions that draw their order, by an invariant over what has been done; over any program. -/
import Derived.Test.YtikafojlhinonaaFw
set_option linter.unusedVariables false
namespace Go.Fw
open Go.RowKit
section
variable {P : Program} {N : Nat} {ops : Array Oper} {K : Fr → World → Prop} {f : Fr} {w : World}

/-- what one operation must do -/
def Does (P : Program) (ops : Array Oper) (oi : Oper) (f : Fr) (w : World) (J : Fr → World → Prop) : Prop :=
  (wantF ops f oi.guard = false ∧ J (updO f oi.dst undef) w) ∨
  (wantF ops f oi.guard = true ∧ ((∃ v w', (execOp (ev f) oi).run P w = .ok (.value v) w' ∧ J (updO f oi.dst v) w') ∨ (∃ w', (execOp (ev f) oi).run P w = .ok .skip w' ∧ J (updO f oi.dst undef) w') ∨
    ∃ g args w' R, (execOp (ev f) oi).run P w = .ok (.enter g args) w' ∧ Calls P g args w' (Ret R) ∧ ∀ v w'', R v w'' → J (updO f oi.dst v) w''))

theorem oSkip {S : World → Prop} {T : List Nat} {n : Nat} {L : Array Bool} {i : Nat} {oi : Oper} (hi : ops[i]? = some oi) (hw : wantF ops f oi.guard = false)
    (hS : SL T S (L.setIfInBounds i true) w) (k : WPh P N ops S T K n (L.setIfInBounds i true) (updO f oi.dst undef) w) : One P N ops S T K n L f w i := by
  unfold One
  unfold WPh at k
  intro hok hcl a ha
  have hd : dstOk N oi = true := hok oi (by have := Array.mem_of_getElem? hi; simpa using this)
  unfold wpOp
  simp only [hi]
  rw [if_neg (by rw [wanted_eq ha, hw]; simp)]
  exact ⟨hS, k hok hcl _ (ha.put _ (dstOk_lt hd) undef)⟩

def cntF (L : Array Bool) : Nat := L.toList.count false
theorem cntF_set {L : Array Bool} {i : Nat} (h : L.getD i true = false) : cntF (L.setIfInBounds i true) + 1 = cntF L := by
  have hi : i < L.size := by
    rcases Nat.lt_or_ge i L.size with h' | h'
    · exact h'
    · rw [Array.getD_eq_getD_getElem?, Array.getElem?_eq_none h'] at h; cases h
  have hv : L.toList[i]'(by simpa using hi) = false := by
    rw [Array.getD_eq_getD_getElem?, Array.getElem?_eq_getElem hi] at h
    simpa using h
  unfold cntF
  rw [Array.toList_setIfInBounds, List.count_set (by simpa using hi)]
  have hpos : 0 < L.toList.count false := List.count_pos_iff.2 (by rw [← hv]; exact List.getElem_mem _)
  rw [hv, if_pos (by rfl), if_neg (by decide)]
  omega
theorem ready_lt {L : Array Bool} {i : Nat} (h : i ∈ Region.ready .any ops L) : L.getD i true = false := (mem_ready.1 h).1
theorem cntF_zero {L : Array Bool} (h : cntF L = 0) : Region.ready .any ops L = [] := by
  cases hr : Region.ready .any ops L with
  | nil => rfl
  | cons i l =>
    have hm : i ∈ Region.ready .any ops L := by rw [hr]; simp
    have := cntF_set (ready_lt hm)
    omega

theorem anyI (Inv : Array Bool → Fr → World → Prop) (hstep : ∀ L f w i oi, L.size = ops.size → Closed ops L → i ∈ Region.ready .any ops L → ops[i]? = some oi → Inv L f w → Does P ops oi f w (Inv (L.setIfInBounds i true)))
    (hend : ∀ L f w, L.size = ops.size → Closed ops L → Region.ready .any ops L = [] → Inv L f w → K f w) :
    ∀ (n : Nat) (L : Array Bool) (f : Fr) (w : World), L.size = ops.size → cntF L ≤ n → Inv L f w → WPh P N ops (fun _ => True) [] K n L f w := by
  intro n
  induction n with
  | zero =>
    intro L f w hs hc hI
    have hr := cntF_zero (ops := ops) (by omega : cntF L = 0)
    unfold WPh
    intro hok hcl a ha
    exact ⟨hr, f, ha, hend L f w hs hcl hr hI⟩
  | succ n ih =>
    intro L f w hs hc hI
    unfold WPh
    intro hok hcl a ha
    refine ⟨fun hr => ⟨f, ha, hend L f w hs hcl hr hI⟩, fun i hi => ?_⟩
    obtain ⟨hun, oi, hoi, _⟩ := mem_ready.1 hi
    have hcs := cntF_set hun
    have key : One P N ops (fun _ => True) [] K n L f w i := by
      have go : ∀ f' w', Inv (L.setIfInBounds i true) f' w' → WPh P N ops (fun _ => True) [] K n (L.setIfInBounds i true) f' w' := fun f' w' h' => ih _ f' w' (by simpa using hs) (by omega) h'
      rcases hstep L f w i oi hs hcl hi hoi hI with ⟨hw, hj⟩ | ⟨hw, ⟨v, w', h1, hj⟩ | ⟨w', h1, hj⟩ | ⟨g, args, w', R, h1, h2, hj⟩⟩
      · exact oSkip hoi hw (sl_of trivial) (go _ _ hj)
      · exact oRun hoi hw h1 (sl_of trivial) (go _ _ hj)
      · exact oDo hoi hw h1 (sl_of trivial) (go _ _ hj)
      · exact oCall hoi hw h1 h2 fun v w'' hR => ⟨sl_of trivial, go _ _ (hj v w'' hR)⟩
    unfold One at key
    exact key hok (hcl.step hi) a ha

/-- a region that draws: an invariant that every operation keeps, whenever it comes up -/
theorem wDrawI {Q : Post} {ri : Nat} (Inv : Array Bool → Fr → World → Prop) (hm : P.follows .mixedOrders = true) (h0 : Inv (Array.replicate ops.size false) f w.drew)
    (hstep : ∀ L f w i oi, L.size = ops.size → Closed ops L → i ∈ Region.ready .any ops L → ops[i]? = some oi → Inv L f w → Does P ops oi f w (Inv (L.setIfInBounds i true)))
    (hend : ∀ L f w, L.size = ops.size → Closed ops L → Region.ready .any ops L = [] → Inv L f w → Q.n f w) : WP P N (.region ri ops true) Q f w :=
  wDraw (fun _ => True) [] hm (anyI Inv hstep hend _ _ _ _ (by simp) (by unfold cntF; simp) h0)
end
end Go.Fw
