/- The walk of LinkArrives. -/
import Derived.Test.YtnppmdhgelfloaaAW
set_option linter.unusedVariables false
namespace Go.Proofs.Ytnppmdhgelfloaa
open Go.RowKit Go.Fw

theorem ti22 : TI Try.prog 22 (.slice none 0 0) 1 24 := ti_of (by kernel_rfl)
theorem cal18 : Callable Try.prog 18 := ⟨_, Try.func18, by kernel_rfl, by kernel_rfl⟩
theorem cal19 : Callable Try.prog 19 := ⟨_, Try.func19, by kernel_rfl, by kernel_rfl⟩

set_option maxHeartbeats 2000000 in
theorem arrives_big (A : Option Addr) (c : Nat) (fs : List Flight) (now : Int) (w0 : World) (hf : FlR w0 w0.heap.size A fs.length fs) (hfs : fs.length ≤ 4611686018427387904) (hlg : lg fs = true) :
    Calls Try.prog 4 #[.slice A fs.length c, .int .i64 now] w0 (Ret fun v w' => v = .bool true ∧ Ext w0 w') := by
  refine calls_of Try.func4 rfl (Nat.le_of_ble_eq_true rfl) (by kernel_rfl) ?_
  refine wCut [(0, .slice A fs.length c), (1, .int .i64 now)] ⟨rfl, rfl, trivial⟩ fun g => ?_
  refine wSeq ?_
  refine wReg ?_
  refine sRun (xAsB rfl) ?_
  refine sNil ?_
  refine wSeq ?_
  refine wSeq ?_
  refine wReg ?_
  refine sRun (xMvS rfl) ?_
  refine sCall (eCall cal8 rfl) (large_spec A c fs w0 hf (by omega)) ?_
  rintro _ w0 ⟨rfl, rfl⟩
  rw [hlg]
  refine sNil ?_
  refine wIfT rfl ?_
  refine wSeq ?_
  refine wReg ?_
  refine sCall (eCall cal9 rfl) (awake_spec _) ?_
  rintro _ w17 ⟨rfl, he17⟩
  refine sRun (xAsB rfl) ?_
  refine sNil ?_
  refine wRet ?_
  refine res1 (P := Try.prog) (fn := Try.f4) rfl ?_
  exact ⟨rfl, he17⟩

theorem arr_len (fs : List Flight) (now : Int) : (arrF fs now).length ≤ fs.length := by unfold arrF; rw [isortF_len]; exact List.length_filter_le _ _
theorem stay_len (fs : List Flight) (now : Int) : (stayF fs now).length ≤ fs.length := List.length_filter_le _ _

theorem bs4_18 {ρ : Operand → Value} {w : World} {d : Option Nat} {ty : TypeId} {pos : String} {af : Array Edge} {g : Option (Nat × Bool)}    :
    (execOp ρ ⟨d, .buildSlice 22 0 #[], ty, pos, af, g⟩).run Try.prog w = .ok (.value (.slice (some ⟨w.heap.size, 0, none⟩) 0 0)) (w.alloc (.cells #[] 37)) := by
  have e : (Instr.buildSlice 22 0 #[]).run Try.prog w = .ok (.slice (some ⟨w.heap.size, 0, none⟩) 0 0) (w.alloc (.cells #[] 37)) := by kernel_rfl
  simp [execOp, e]
theorem bs4_39 {ρ : Operand → Value} {w : World} {d : Option Nat} {ty : TypeId} {pos : String} {af : Array Edge} {g : Option (Nat × Bool)} {x0A : Option Addr} {x0n x0c : Nat} {x1A : Option Addr} {x1n x1c : Nat} {o0 : Operand} {o1 : Operand} (h0 : ρ o0 = .slice x0A x0n x0c) (h1 : ρ o1 = .slice x1A x1n x1c) :
    (execOp ρ ⟨d, .buildSlice 38 2 #[(0, o0), (1, o1)], ty, pos, af, g⟩).run Try.prog w = .ok (.value (.slice (some ⟨w.heap.size, 0, none⟩) 2 2)) (w.alloc (.cells #[.slice x0A x0n x0c, .slice x1A x1n x1c] 22)) := by
  have e : (Instr.buildSlice 38 2 #[(0, .slice x0A x0n x0c), (1, .slice x1A x1n x1c)]).run Try.prog w = .ok (.slice (some ⟨w.heap.size, 0, none⟩) 2 2) (w.alloc (.cells #[.slice x0A x0n x0c, .slice x1A x1n x1c] 22)) := by kernel_rfl
  simp [execOp, h0, h1, e]
theorem bs4_48 {ρ : Operand → Value} {w : World} {d : Option Nat} {ty : TypeId} {pos : String} {af : Array Edge} {g : Option (Nat × Bool)} {x0 : Int} {x1 : Int} {o0 : Operand} {o1 : Operand} (h0 : ρ o0 = .int .i64 x0) (h1 : ρ o1 = .int .i64 x1) :
    (execOp ρ ⟨d, .buildSlice 23 2 #[(0, o0), (1, o1)], ty, pos, af, g⟩).run Try.prog w = .ok (.value (.slice (some ⟨w.heap.size, 0, none⟩) 2 2)) (w.alloc (.cells #[.int .i64 x0, .int .i64 x1] 3)) := by
  have e : (Instr.buildSlice 23 2 #[(0, .int .i64 x0), (1, .int .i64 x1)]).run Try.prog w = .ok (.slice (some ⟨w.heap.size, 0, none⟩) 2 2) (w.alloc (.cells #[.int .i64 x0, .int .i64 x1] 3)) := by kernel_rfl
  simp [execOp, h0, h1, e]
set_option maxHeartbeats 2000000 in
theorem arrives_small (A : Option Addr) (c : Nat) (fs : List Flight) (now : Int) (w0 : World) (hf : FlR w0 w0.heap.size A fs.length fs) (hfs : fs.length ≤ 4611686018427387904) (hlg : lg fs = false) :
    Calls Try.prog 4 #[.slice A fs.length c, .int .i64 now] w0 (Ret fun v w' => v = .bool true ∧ Ext w0 w') := by
  obtain ⟨hf30, hf300⟩ := lg_false hlg
  have hf' := hf
  obtain ⟨_, xs0, hfx, hflx⟩ := hf'
  refine calls_of Try.func4 rfl (Nat.le_of_ble_eq_true rfl) (by kernel_rfl) ?_
  refine wCut [(0, .slice A fs.length c), (1, .int .i64 now)] ⟨rfl, rfl, trivial⟩ fun g => ?_
  refine wSeq ?_
  refine wReg ?_
  refine sRun (xAsB rfl) ?_
  refine sNil ?_
  refine wSeq ?_
  refine wSeq ?_
  refine wReg ?_
  refine sRun (xMvS rfl) ?_
  refine sCall (eCall cal8 rfl) (large_spec A c fs w0 hf (by omega)) ?_
  rintro _ w0 ⟨rfl, rfl⟩
  rw [hlg]
  refine sNil ?_
  refine wIfF rfl ?_
  refine wSkip ?_
  refine wSeq ?_
  refine wReg ?_
  refine sTo (aRow (bs4_18)) ?_
  rintro _ w18 ⟨b18, rfl, hge18, hB18, he18⟩
  refine sRun (xMvS rfl) ?_
  refine sTo (aAppend (w0.heap.size) (fs.length) Try.underlying22 ti37 rfl (by decide) rfl rfl (hB18.own (n := 0) (size := 2) hge18 (Nat.zero_le _) rfl) (hfx.ext he18) (hflx.one) (by have := he18.le; omega) (by omega) (by omega) (by omega)) ?_
  rintro _ w20 ⟨A20, c20, rfl, ho20, hg20, hr20⟩
  have he20 : Ext w0 w20 := grown_ext he18 hg20 (fun i hi => by simp [rowOf] at hi; omega)
  obtain ⟨gs, hxs, hgs, hbod⟩ := hflx.gs
  subst hxs
  subst hgs
  simp only [List.nil_append] at ho20
  simp only [List.length_map] at *
  refine sRun (xAsS rfl) ?_
  refine sNil ?_
  refine wSeq ?_
  refine wSeq ?_
  refine wReg ?_
  refine sRun (xAsI rfl) ?_
  refine sNil ?_
  refine wBlock ?_
  refine wLoopG (fun n f w => ∃ k, n = gs.length - k ∧ k ≤ gs.length ∧ Has f [(0, .slice A gs.length c), (1, .int .i64 now), (5, .slice A20 gs.length c20), (6, .int .i64 (k : Nat))] ∧ Ext w0 w ∧ Own w w0.heap.size 37 2 A20 gs.length c20 (fl (half gs k))) (gs.length) ⟨0, rfl, Nat.zero_le _, ⟨rfl, rfl, rfl, rfl, trivial⟩, he20, by simpa [half] using ho20⟩ ?_
  rintro n f w ⟨k, rfl, hk, hf0, hx, ho⟩
  obtain ⟨g, rfl⟩ := has_updL _ _ hf0
  clear hf0
  refine wSeq ?_
  refine wSeq ?_
  refine wReg ?_
  refine sRun (xMvI rfl) ?_
  refine sRun (xMvS rfl) ?_
  refine sRun (xLen Try.underlying22 rfl) ?_
  refine sSplit (xLss rfl rfl) (fun h24 => ?_) (fun h24 => ?_)
  · obtain ⟨q, rfl⟩ := ho.adr (by omega)
    obtain ⟨x, hxk⟩ : ∃ x, gs[k]? = some x := ⟨gs[k], List.getElem?_eq_getElem (by omega)⟩
    have hhk := half_at hxk
    refine sNil ?_
    refine wIfT rfl ?_
    refine wSkip ?_
    refine wSeq ?_
    refine wBlock ?_
    refine wReg ?_
    refine sRun (xMvS rfl) ?_
    refine sRun (xMvI rfl) ?_
    refine sRun (xMvS rfl) ?_
    refine sRun (xMvI rfl) ?_
    refine sRun (xIdx k Try.underlying22 ti37 rfl rfl (by omega) (by omega)) ?_
    refine sRun (xFld0 Try.underlying37 rfl rfl ti3 (by decide) rfl) ?_
    refine sRun (xLoad Try.underlying3 rfl rfl (by rw [Nat.zero_add]; exact ho.cell (fl_at hhk).1)) ?_
    refine sCall (eCall cal10 rfl) (mod_spec x.1 6 w (by decide) (by decide)) ?_
    rintro _ w ⟨rfl, rfl⟩
    refine sRun (xIdx k Try.underlying22 ti37 rfl rfl (by omega) (by omega)) ?_
    refine sRun (xFld0 Try.underlying37 rfl rfl ti3 (by decide) rfl) ?_
    refine sDo (tStore (v := .int .i64 (x.1 % 6)) ti3 rfl rfl rfl (by rw [Nat.zero_add]; exact ho.cell (fl_at hhk).1) (ho.frozen _)) ?_
    have hoz := ho.set (k * 2) (.int .i64 (x.1 % 6))
    rw [fl_set1 hhk, show ((x.1 % 6, x.2) : G) = md6 x from rfl, half_set hxk] at hoz
    have hcz := Chg.setCell w q (k * 2) (.int .i64 (x.1 % 6))
    rw [show 0 + k * 2 = k * 2 by omega]
    generalize w.setCell ⟨q, k * 2, none⟩ (.int .i64 (x.1 % 6)) = wz at *
    refine sNil ?_
    refine wReg ?_
    refine sRun (xMvI rfl) ?_
    refine sRun (xAdd64 rfl rfl (by omega) (by omega)) ?_
    refine sRun (xAsI rfl) ?_
    refine sNil ?_
    exact ⟨gs.length - (k + 1), by omega, k + 1, rfl, by omega, ⟨rfl, rfl, rfl, rfl, trivial⟩, Chg.ext hx hcz (ho.row q rfl).1, hoz⟩
  · refine sNil ?_
    refine wIfF rfl ?_
    refine wExit ?_
    refine wSeq ?_
    refine wSeq ?_
    obtain rfl : k = gs.length := by omega
    have hxn := hx
    have hom := ho
    refine wReg ?_
    refine sRun (xMvS rfl) ?_
    refine sRun (xMvS rfl) ?_
    refine sTo (aRow (bs4_39 rfl rfl)) ?_
    rintro _ w39 ⟨b39, rfl, hge39, hB39, he39⟩
    have hxm : Ext w0 w39 := hxn.trans he39
    refine sRun (xLen Try.underlying38 rfl) ?_
    refine sRun (xMvI rfl) ?_
    refine sNil ?_
    refine wBlock ?_
    
    refine wLoopG (fun n f w => ∃ k, n = 2 - k ∧ k ≤ 2 ∧ Has f [(39, .slice (some ⟨b39, 0, none⟩) 2 2), (40, .int .i64 2), (41, .int .i64 (k : Nat)), (1, .int .i64 now)] ∧ Ext w39 w) (2) ⟨0, rfl, by decide, ⟨rfl, rfl, rfl, rfl, trivial⟩, Ext.refl _⟩ ?_
    clear hx ho
    rintro n f w ⟨k, rfl, hk, hf0, hx⟩
    obtain ⟨g, rfl⟩ := has_updL _ _ hf0
    clear hf0
    refine wSeq ?_
    refine wReg ?_
    refine sSplit (xLss rfl rfl) (fun h42 => ?_) (fun h42 => ?_)
    · refine sNil ?_
      refine wSeq ?_
      refine wIfT rfl ?_
      refine wSkip ?_
      refine wSeq ?_
      refine wBlock ?_
      refine wSeq ?_
      obtain ⟨Ae, ce, fe, hcel, hfe, hfl, hfb⟩ : ∃ Ae ce fe, w.cell? ⟨b39, 0 + k, none⟩ = some (.slice Ae (List.length fe) ce) ∧ FlR w w.heap.size Ae fe.length fe ∧ fe.length ≤ 30 ∧ ∀ (i : Nat) (d : Int) (b : List Int), fe[i]? = some (d, b) → b.length ≤ 1000000 := by
        have hcc := (hB39.ext hx).cells
        have hk01 : k = 0 ∨ k = 1 := by omega
        rcases hk01 with rfl | rfl
        · exact ⟨A, c, gs.map toF, by simpa using hcc 0 _ rfl, by simpa using (hf.ext (hxm.trans hx)).up (hxm.trans hx).le, by simpa using hf30, fun i d b h => by have := hf300 i d b h; omega⟩
        · refine ⟨A20, c20, (half gs gs.length).map toF, by simpa [half_len] using hcc 1 _ rfl, ?_, by simpa [half_len] using hf30, half_small hf300 _⟩
          have h2 := (flr_old hom hxn (half_bod hbod _)).ext (he39.trans hx)
          simpa [half_len] using h2.up (he39.trans hx).le
      refine wReg ?_
      refine sRun (xIdx1 k Try.underlying38 ti22 rfl rfl (by omega) (by omega)) ?_
      refine sRun (xLoad Try.underlying22 rfl rfl hcel) ?_
      refine sRun (xAsS rfl) ?_
      refine sNil ?_
      refine wSeq ?_
      refine wReg ?_
      refine sRun (xMvI rfl) ?_
      refine sRun (xMvI rfl) ?_
      refine sCall (eCall cal10 rfl) (mod_spec now 7 w (by decide) (by decide)) ?_
      rintro _ w ⟨rfl, rfl⟩
      refine sTo (aRow (bs4_48 rfl rfl)) ?_
      rintro _ w48 ⟨b48, rfl, hge48, hB48, he48⟩
      refine sRun (xLen Try.underlying23 rfl) ?_
      refine sRun (xMvI rfl) ?_
      refine sNil ?_
      refine wBlock ?_
      refine wLoopG (fun n f w2 => ∃ k2, n = 2 - k2 ∧ k2 ≤ 2 ∧ Has f [(48, .slice (some ⟨b48, 0, none⟩) 2 2), (49, .int .i64 2), (50, .int .i64 (k2 : Nat)), (8, .slice Ae fe.length ce), (39, .slice (some ⟨b39, 0, none⟩) 2 2), (40, .int .i64 2), (41, .int .i64 (k : Nat)), (1, .int .i64 now)] ∧ Ext w48 w2) (2) ⟨0, rfl, by decide, ⟨rfl, rfl, rfl, rfl, rfl, rfl, rfl, rfl, trivial⟩, Ext.refl _⟩ ?_
      rintro n f w2 ⟨k2, rfl, hk2, hf0, hx2⟩
      obtain ⟨g, rfl⟩ := has_updL _ _ hf0
      clear hf0
      refine wSeq ?_
      refine wReg ?_
      refine sSplit (xLss rfl rfl) (fun h51 => ?_) (fun h51 => ?_)
      · refine sNil ?_
        refine wSeq ?_
        refine wIfT rfl ?_
        refine wSkip ?_
        refine wSeq ?_
        refine wBlock ?_
        refine wSeq ?_
        obtain ⟨nw, hcel2⟩ : ∃ nw, w2.cell? ⟨b48, 0 + k2, none⟩ = some (.int .i64 nw) := by
          have hcc := (hB48.ext hx2).cells
          have hk01 : k2 = 0 ∨ k2 = 1 := by omega
          rcases hk01 with rfl | rfl
          · exact ⟨now, hcc 0 _ rfl⟩
          · exact ⟨now % 7, hcc 1 _ rfl⟩
        refine wReg ?_
        refine sRun (xIdx1 k2 Try.underlying23 ti3 rfl rfl (by omega) (by omega)) ?_
        refine sRun (xLoad Try.underlying3 rfl rfl hcel2) ?_
        refine sRun (xAsI rfl) ?_
        refine sNil ?_
        refine wSeq ?_
        refine wReg ?_
        refine sRun (xMvS rfl) ?_
        refine sRun (xMvI rfl) ?_
        refine sCall (eCall cal17 rfl) (arrive_any 1000000 sortN Ae _ ce fe nw w2 ((hfe.ext (he48.trans hx2)).up (he48.trans hx2).le) (by omega) (by omega) hfb) ?_
        rintro _ w57 ⟨A57, n57, c57, A57r, n57r, c57r, rfl, hb57, hf57, he57⟩
        refine sRun xMove ?_
        refine sRun (xExtract rfl rfl) ?_
        refine sRun (xExtract rfl rfl) ?_
        refine sRun (xAsS rfl) ?_
        refine sRun (xAsS rfl) ?_
        refine sNil ?_
        refine wSeq ?_
        refine wReg ?_
        refine sRun (xMvS rfl) ?_
        refine sRun (xMvI rfl) ?_
        refine sCall (eCall cal18 rfl) (refArrive_spec Ae ce fe nw w57 ((hfe.ext ((he48.trans hx2).trans he57)).up ((he48.trans hx2).trans he57).le) (by omega) hfb) ?_
        rintro _ w63 ⟨A63, n63, c63, A63r, n63r, c63r, rfl, hb63, hf63, he63⟩
        obtain rfl := hb57.1
        obtain rfl := hb63.1
        refine sRun xMove ?_
        refine sRun (xExtract rfl rfl) ?_
        refine sRun (xExtract rfl rfl) ?_
        refine sRun (xAsS rfl) ?_
        refine sRun (xAsS rfl) ?_
        refine sNil ?_
        refine wSeq ?_
        refine wReg ?_
        refine sRun (xMvS rfl) ?_
        refine sRun (xMvS rfl) ?_
        refine sCall (eCall cal19 rfl) (bodies_spec A57 A63 c57 c63 _ w63 ((hb57.ext he63).up he63.le) hb63 (by have := arr_len fe nw; simp only [List.length_map]; omega)) ?_
        rintro _ w68 ⟨rfl, he68⟩
        refine sRun (xNot rfl) ?_
        refine sRun (xMvB rfl) ?_
        refine sGo rfl ?_
        refine sRun (xMvS rfl) ?_
        refine sGo rfl ?_
        refine sRun (xMvS rfl) ?_
        refine sGo rfl ?_
        refine sCall (eCall cal11 rfl) (same_any A57r A63r _ _ c57r c63r _ w68 ((hf57.ext (he63.trans he68)).up (he63.trans he68).le) ((hf63.ext he68).up he68.le) (by have := hf57.1; have := stay_len fe nw; omega)) ?_
        rintro _ w73 ⟨rfl, he73⟩
        refine sGo rfl ?_
        refine sRun (xNot rfl) ?_
        refine sRun (xPkFB rfl rfl) ?_
        refine sNil ?_
        refine wIfF rfl ?_
        refine wSkip ?_
        refine wReg ?_
        refine sRun (xAdd64 rfl rfl (by omega) (by omega)) ?_
        refine sRun (xMvI rfl) ?_
        refine sNil ?_
        exact ⟨2 - (k2 + 1), by omega, k2 + 1, rfl, by omega, ⟨rfl, rfl, rfl, rfl, rfl, rfl, rfl, rfl, trivial⟩, hx2.trans (he57.trans (he63.trans (he68.trans he73)))⟩
      · refine sNil ?_
        refine wSeq ?_
        refine wIfF rfl ?_
        refine wExit ?_
        refine wReg ?_
        refine sRun (xAdd64 rfl rfl (by omega) (by omega)) ?_
        refine sRun (xMvI rfl) ?_
        refine sNil ?_
        exact ⟨2 - (k + 1), by omega, k + 1, rfl, by omega, ⟨rfl, rfl, rfl, rfl, trivial⟩, hx.trans (he48.trans hx2)⟩
    · refine sNil ?_
      refine wSeq ?_
      refine wIfF rfl ?_
      refine wExit ?_
      refine wSeq ?_
      refine wReg ?_
      refine sCall (eCall cal9 rfl) (awake_spec _) ?_
      rintro _ w78 ⟨rfl, he78⟩
      refine sRun (xAsB rfl) ?_
      refine sNil ?_
      refine wRet ?_
      refine res1 (P := Try.prog) (fn := Try.f4) rfl ?_
      exact ⟨rfl, (hxm.trans hx).trans he78⟩

theorem arrives_walk (A : Option Addr) (c : Nat) (fs : List Flight) (now : Int) (w0 : World) (hf : FlR w0 w0.heap.size A fs.length fs) (hfs : fs.length ≤ 4611686018427387904) :
    Calls Try.prog 4 #[.slice A fs.length c, .int .i64 now] w0 (Ret fun v w' => v = .bool true ∧ Ext w0 w') := by
  cases h : lg fs with
  | true => exact arrives_big A c fs now w0 hf hfs h
  | false => exact arrives_small A c fs now w0 hf hfs h

end Go.Proofs.Ytnppmdhgelfloaa
