/- The walk of LinkKeeps. -/
import Derived.Test.YtnppmdhgelfloaaKp
import Derived.Test.YtnppmdhgelfloaaLA
set_option linter.unusedVariables false
namespace Go.Proofs.Ytnppmdhgelfloaa
open Go.RowKit Go.Fw

theorem ti45 : TI Try.prog 45 (.agg (Array.replicate 120 (.int .i64 0))) 120 960 := ti_of (by kernel_rfl)
theorem ti46 : TI Try.prog 46 (.agg (Array.replicate 1440 (.int .i64 0))) 1440 11520 := ti_of (by kernel_rfl)
theorem bd5_35 {ρ : Operand → Value} {w : World} {d : Option Nat} {ty : TypeId} {pos : String} {af : Array Edge} {g : Option (Nat × Bool)} {x0A : Option Addr} {x0n x0c : Nat} {o0 : Operand} (h0 : ρ o0 = .slice x0A x0n x0c) : Yl Try.prog ρ (.build 25 #[(0, o0)]) d ty pos af g w (.agg #[.slice x0A x0n x0c, .int .i64 0, .int .i64 0]) := by
  have e : (Instr.build 25 #[(0, .slice x0A x0n x0c)]).run Try.prog w = .ok (.agg #[.slice x0A x0n x0c, .int .i64 0, .int .i64 0]) w := by kernel_rfl
  simp [Yl, execOp, h0, e]
theorem bs5_38 {ρ : Operand → Value} {w : World} {d : Option Nat} {ty : TypeId} {pos : String} {af : Array Edge} {g : Option (Nat × Bool)} {x0 : Int} {o0 : Operand} (h0 : ρ o0 = .int .u8 x0) :
    (execOp ρ ⟨d, .buildSlice 27 1 #[(0, o0)], ty, pos, af, g⟩).run Try.prog w = .ok (.value (.slice (some ⟨w.heap.size, 0, none⟩) 1 1)) (w.alloc (.cells #[.int .u8 x0] 5)) := by
  have e : (Instr.buildSlice 27 1 #[(0, .int .u8 x0)]).run Try.prog w = .ok (.slice (some ⟨w.heap.size, 0, none⟩) 1 1) (w.alloc (.cells #[.int .u8 x0] 5)) := by kernel_rfl
  simp [execOp, h0, e]
set_option maxHeartbeats 2000000 in
theorem keeps_walk (A : Option Addr) (nn c : Nat) (dss : List (List Int)) (w0 : World) (hd : DsR w0 w0.heap.size A nn dss) (hc : nn ≤ c) (hnb : nn ≤ 4611686018427387904) :
    Calls Try.prog 5 #[.slice A nn c] w0 (Ret fun v w' => v = .bool true ∧ Ext w0 w') := by
  refine calls_of Try.func5 rfl (Nat.le_of_ble_eq_true rfl) (by kernel_rfl) ?_
  refine wCut [(0, .slice A nn c)] ⟨rfl, trivial⟩ fun g => ?_
  refine wSeq ?_
  refine wReg ?_
  refine sRun (xAsB rfl) ?_
  refine sNil ?_
  refine wSeqJ (fun f w => ∃ nn c dss, Has f [(0, .slice A nn c)] ∧ w = w0 ∧ DsR w0 w0.heap.size A nn dss ∧ nn ≤ 12) ?_ ?_
  · refine wSeq ?_
    refine wReg ?_
    refine sRun (xMvS rfl) ?_
    refine sRun (xLen Try.underlying44 rfl) ?_
    refine sSplit (xGtr rfl rfl) (fun h15 => ?_) (fun h15 => ?_)
    · refine sNil ?_
      refine wIfT rfl ?_
      refine wReg ?_
      refine sRun (xMvS rfl) ?_
      refine sRun (xSlcH 12 Try.underlying44 ti23 rfl rfl rfl (by omega)) ?_
      refine sRun (xAsS rfl) ?_
      refine sNil ?_
      exact ⟨12, c, dss.take 12, ⟨rfl, trivial⟩, rfl, hd.take (by omega), by omega⟩
    · refine sNil ?_
      refine wIfF rfl ?_
      refine wSkip ?_
      exact ⟨nn, c, dss, ⟨rfl, trivial⟩, rfl, hd, by omega⟩
  clear hd hc
  clear dss
  clear hnb
  rintro f w0 ⟨nn, c, dss, hf0, rfl, hd, hn⟩
  obtain ⟨g, rfl⟩ := has_updL _ _ hf0
  clear hf0
  refine wSeq ?_
  refine wReg ?_
  refine sRun (xAsS rfl) ?_
  refine sNil ?_
  refine wSeq ?_
  refine wReg ?_
  refine sTo (aNew (mAlloc ti46)) ?_
  rintro _ w4 ⟨b4, rfl, hge4, hB4, he4⟩
  rw [show (Value.agg (Array.replicate 1440 (.int .i64 0))).cells = tabA (cnt []) from tab_zero] at hB4
  refine sNil ?_
  refine wSeq ?_
  refine wSeq ?_
  refine wReg ?_
  refine sRun (xAsI rfl) ?_
  refine sNil ?_
  refine wBlock ?_
  refine wLoopG (fun n f w => ∃ k nl Al cl fs, n = nn - k ∧ k ≤ nn ∧ nl ≤ 6 * k ∧ Has f [(0, .slice A nn c), (3, .slice Al nl cl), (4, .pointer (some ⟨b4, 0, none⟩)), (5, .int .i64 (k : Nat))] ∧ Ext w0 w ∧ FlR w w.heap.size Al nl fs ∧ GF fs 0 ∧ Blk w b4 46 (tabA (cnt fs))) (nn) ⟨0, 0, none, 0, [], rfl, Nat.zero_le _, Nat.le_refl _, ⟨rfl, rfl, rfl, rfl, trivial⟩, he4, FlR.nil, (fun f hf => by cases hf), hB4⟩ ?_
  rintro n f w ⟨k, nl, Al, cl, fs, rfl, hk, hnl, hf0, hx, hfl, hgf, hB⟩
  obtain ⟨g, rfl⟩ := has_updL _ _ hf0
  clear hf0
  refine wSeq ?_
  refine wSeq ?_
  refine wReg ?_
  refine sRun (xMvI rfl) ?_
  refine sRun (xMvS rfl) ?_
  refine sRun (xLen Try.underlying44 rfl) ?_
  refine sSplit (xLss rfl rfl) (fun h21 => ?_) (fun h21 => ?_)
  · obtain ⟨b, o, ds, Ad, cd, rfl, hb, hdk, hcel, hdc, hdl, hsd⟩ := (hd.ext hx).at (k := k) (by omega)
    obtain ⟨w1, hw1⟩ : ∃ w1, w1 = w := ⟨w, rfl⟩
    subst hw1
    refine sNil ?_
    refine wIfT rfl ?_
    refine wSkip ?_
    refine wSeq ?_
    refine wBlock ?_
    refine wSeq ?_
    refine wReg ?_
    refine sRun (xMvS rfl) ?_
    refine sRun (xMvI rfl) ?_
    refine sRun (xIdx1 k Try.underlying44 ti23 rfl rfl (by omega) (by omega)) ?_
    refine sRun (xLoad Try.underlying23 rfl rfl hcel) ?_
    refine sRun (xAsS rfl) ?_
    refine sNil ?_
    refine wSeqJ (fun f w => ∃ nd cd ds, Has f [(0, .slice (some ⟨b, o, none⟩) nn c), (3, .slice Al nl cl), (4, .pointer (some ⟨b4, 0, none⟩)), (5, .int .i64 (k : Nat)), (6, .slice Ad nd cd)] ∧ w = w1 ∧ Sl w1 w0.heap.size 1 Ad nd (ins ds) ∧ nd = ds.length ∧ nd ≤ 6) ?_ ?_
    · refine wSeq ?_
      refine wReg ?_
      refine sRun (xMvS rfl) ?_
      refine sRun (xLen Try.underlying23 rfl) ?_
      refine sSplit (xGtr rfl rfl) (fun h30 => ?_) (fun h30 => ?_)
      · refine sNil ?_
        refine wIfT rfl ?_
        refine wReg ?_
        refine sRun (xMvS rfl) ?_
        refine sRun (xSlcH 6 Try.underlying23 ti3 rfl rfl rfl (by omega)) ?_
        refine sRun (xAsS rfl) ?_
        refine sNil ?_
        exact ⟨6, cd, ds.take 6, ⟨rfl, rfl, rfl, rfl, rfl, trivial⟩, rfl, by simpa [ins, List.map_take] using hsd.take (j := 6) (by omega), by simp; omega, by omega⟩
      · refine sNil ?_
        refine wIfF rfl ?_
        refine wSkip ?_
        exact ⟨ds.length, cd, ds, ⟨rfl, rfl, rfl, rfl, rfl, trivial⟩, rfl, hsd, rfl, by omega⟩
    clear hsd hdc hdl hcel hdk
    clear ds
    clear cd
    rintro f w ⟨nd, cd, ds, hf0, rfl, hsd, hnd, hnd6⟩
    obtain ⟨g, rfl⟩ := has_updL _ _ hf0
    clear hf0
    refine wSeq ?_
    refine wReg ?_
    refine sRun (xMvS rfl) ?_
    refine sRun (xMvS rfl) ?_
    refine sRun (bd5_35 rfl) ?_
    refine sRun (xMvI rfl) ?_
    refine sRun (xConv _ ⟨_, Try.underlying3⟩ Try.underlying5 rfl) ?_
    refine sTo (aRow (bs5_38 rfl)) ?_
    rintro _ w38 ⟨b38, rfl, hge38, hB38, he38⟩
    refine sRun (xMvI rfl) ?_
    refine sCall (eCall cal12 rfl) (send_any Al Ad (some ⟨b38, 0, none⟩) nl nd 1 cl cd 1 fs ds [IntKind.u8.wrap (k : Int)] 0 0 (k : Int) w38 ((hfl.ext he38).up he38.le) ((hsd.ext he38).up (by have := hx.le; have := he38.le; omega)) (hB38.sl (n := 1) (size := 1) rfl) (by omega) hgf.len1 (by decide) (by omega) (by omega)) ?_
    rintro _ w40 ⟨A40, n40, c40, rfl, hf40, he40⟩
    rw [u8_in (by omega) (by omega), send_fly (by omega) (by omega)] at hf40
    have hn40 : n40 = nl + nd := by rw [hf40.1, hfl.1, hnd]; simp [fly]
    have hx40 := hx.trans (he38.trans he40)
    have hB40 := hB.ext (he38.trans he40)
    refine sRun (xAsS rfl) ?_
    refine sNil ?_
    refine wSeq ?_
    refine wReg ?_
    refine sRun (xAsI rfl) ?_
    refine sNil ?_
    refine wBlock ?_
    refine wLoopG (fun n f w2 => ∃ j, n = nd - j ∧ j ≤ nd ∧ Has f [(0, .slice (some ⟨b, o, none⟩) nn c), (3, .slice A40 n40 c40), (4, .pointer (some ⟨b4, 0, none⟩)), (5, .int .i64 (k : Nat)), (6, .slice Ad nd cd), (7, .int .i64 (j : Nat))] ∧ Chg b4 w40 w2 ∧ Blk w2 b4 46 (tabA (cnt (fs ++ fly k (ds.take j))))) (nd) ⟨0, rfl, Nat.zero_le _, ⟨rfl, rfl, rfl, rfl, rfl, rfl, trivial⟩, Chg.refl _ _, by simpa [fly] using hB40⟩ ?_
    rintro n f w2 ⟨j, rfl, hj, hf0, hxc, hB2⟩
    obtain ⟨g, rfl⟩ := has_updL _ _ hf0
    clear hf0
    have hsd2 := (hsd.ext (he38.trans he40)).chg hxc hge4
    refine wSeq ?_
    refine wSeq ?_
    refine wReg ?_
    refine sRun (xMvI rfl) ?_
    refine sRun (xMvS rfl) ?_
    refine sRun (xLen Try.underlying23 rfl) ?_
    refine sSplit (xLss rfl rfl) (fun h44 => ?_) (fun h44 => ?_)
    · obtain ⟨bd, od, v, rfl, hbd, hv, hcd⟩ := Sl.at1 hsd2 (k := j) (by omega)
      obtain ⟨dl, hdj, rfl⟩ := ins_at hv
      have hcl := clampD_bd dl
      obtain ⟨cc, hcc⟩ := Int.eq_ofNat_of_zero_le (show 0 ≤ clampD dl by omega)
      have hct := cnt_le (fs ++ fly k (ds.take j)) k (k + cc)
      have hll : (fs ++ fly k (ds.take j)).length ≤ 200 := by rw [List.length_append]; have := hfl.1; simp [fly]; omega
      refine sNil ?_
      refine wIfT rfl ?_
      refine wSkip ?_
      refine wSeq ?_
      refine wBlock ?_
      refine wDraw (fun wS => Ext w2 wS) [15] (by kernel_rfl) ?_
      refine hTake 0 rfl (by kernel_rfl) rfl (fun wS => (xMvI rfl)) (sl_of (Ext.refl w2).drew) ?_
      refine hTake 1 rfl (by kernel_rfl) rfl (fun wS => (xMvI rfl)) (sl_of (Ext.refl w2).drew) ?_
      refine hTake 2 rfl (by kernel_rfl) rfl (fun wS => (xMvS rfl)) (sl_of (Ext.refl w2).drew) ?_
      refine hTake 3 rfl (by kernel_rfl) rfl (fun wS => (xMvI rfl)) (sl_of (Ext.refl w2).drew) ?_
      refine hTake 4 rfl (by kernel_rfl) rfl (fun wS => (xIdx1 j Try.underlying23 ti3 rfl rfl (by omega) (by omega))) (sl_of (Ext.refl w2).drew) ?_
      refine hTakeS 5 rfl (by kernel_rfl) (by kernel_rfl) rfl (fun wS hS => (xLoad Try.underlying3 rfl rfl (hS.cellS hcd))) (sl_of (Ext.refl w2).drew) ?_
      refine hTake 6 rfl (by kernel_rfl) rfl (fun wS => (xMax rfl rfl)) (sl_of (Ext.refl w2).drew) ?_
      refine hTake 7 rfl (by kernel_rfl) rfl (fun wS => (xMin rfl rfl)) (sl_of (Ext.refl w2).drew) ?_
      refine hTake 8 rfl (by kernel_rfl) rfl (fun wS => (xAdd64 (b := clampD dl) rfl rfl (by omega) (by omega))) (sl_of (Ext.refl w2).drew) ?_
      rw [show ((k : Int) + clampD dl) = ((k + cc : Nat) : Int) by omega]
      refine hTake 9 rfl (by kernel_rfl) rfl (fun wS => (xIdxA k Try.underlying46 ti45 rfl rfl (by omega) (by omega))) (sl_of (Ext.refl w2).drew) ?_
      refine hTake 10 rfl (by kernel_rfl) rfl (fun wS => (xIdxA1 (k + cc) Try.underlying45 ti3 rfl rfl (by omega) (by omega))) (sl_of (Ext.refl w2).drew) ?_
      refine hTakeS 11 rfl (by kernel_rfl) (by kernel_rfl) rfl (fun wS hS => (xLoad Try.underlying3 rfl rfl (hS.cellS (hB2.cell (tab_get _ (by omega) (by omega)))))) (sl_of (Ext.refl w2).drew) ?_
      refine hTake 12 rfl (by kernel_rfl) rfl (fun wS => (xAdd64 rfl rfl (by omega) (by omega))) (sl_of (Ext.refl w2).drew) ?_
      refine hTake 13 rfl (by kernel_rfl) rfl (fun wS => (xIdxA k Try.underlying46 ti45 rfl rfl (by omega) (by omega))) (sl_of (Ext.refl w2).drew) ?_
      refine hTake 14 rfl (by kernel_rfl) rfl (fun wS => (xIdxA1 (k + cc) Try.underlying45 ti3 rfl rfl (by omega) (by omega))) (sl_of (Ext.refl w2).drew) ?_
      refine hOne 15 (by kernel_rfl) (oSt1 (v := .int .i64 (cnt (fs ++ fly k (ds.take j)) k (k + cc) + 1)) rfl rfl ti3 rfl rfl rfl (hB2.ext (Ext.refl w2).drew) (by rw [tab_size]; omega) ?_)
      intro w3 hB3 hC3
      have hca := cnt_add (fs ++ fly k (ds.take j)) [] k (k + cc)
      rw [List.append_nil] at hca
      rw [tab_set _ _ (by omega) (by omega), ← hca] at hB3
      refine ⟨(sl_late 15 (by kernel_rfl)), ?_⟩
      refine hDone (by kernel_rfl) ?_
      refine wReg ?_
      refine sRun (xMvI rfl) ?_
      refine sRun (xAdd64 rfl rfl (by omega) (by omega)) ?_
      refine sRun (xAsI rfl) ?_
      refine sNil ?_
      exact ⟨nd - (j + 1), by omega, j + 1, rfl, by omega, ⟨rfl, rfl, rfl, rfl, rfl, rfl, trivial⟩, hxc.trans ((Ext.refl w2).drew.chg.trans hC3), by rw [fly_snoc hdj, ← List.append_assoc, show ((k : Int) + clampD dl) = ((k + cc : Nat) : Int) by omega]; exact hB3⟩
    · refine sNil ?_
      refine wIfF rfl ?_
      refine wExit ?_
      refine wReg ?_
      refine sRun (xMvI rfl) ?_
      refine sRun (xAdd64 rfl rfl (by omega) (by omega)) ?_
      refine sRun (xAsI rfl) ?_
      refine sNil ?_
      exact ⟨nn - (k + 1), by omega, k + 1, n40, A40, c40, _, rfl, by omega, by omega, ⟨rfl, rfl, rfl, rfl, trivial⟩, Chg.ext hx40 hxc hge4, (hf40.chgT hB40 hxc).up hxc.size, fly_gf (by omega) hgf, by rw [List.take_of_length_le (by omega)] at hB2; exact hB2⟩
  · refine sNil ?_
    refine wIfF rfl ?_
    refine wExit ?_
    refine wSeq ?_
    refine wSeq ?_
    refine wReg ?_
    refine sRun (xAsI rfl) ?_
    refine sNil ?_
    refine wBlock ?_
    refine wLoopG (fun n f w => ∃ t nl Al cl fs, n = 120 - t ∧ t ≤ 120 ∧ nl ≤ 72 ∧ Has f [(3, .slice Al nl cl), (4, .pointer (some ⟨b4, 0, none⟩)), (8, .int .i64 (t : Nat))] ∧ Ext w0 w ∧ FlR w w.heap.size Al nl fs ∧ GF fs t ∧ Blk w b4 46 (tabA (cnt fs))) (120) ⟨0, nl, Al, cl, fs, rfl, by decide, by omega, ⟨rfl, rfl, rfl, trivial⟩, hx, hfl, hgf, hB⟩ ?_
    clear hx hfl hgf hB hnl
    clear fs Al cl nl
    rintro n f w ⟨t, nl, Al, cl, fs, rfl, ht, hnl, hf0, hx, hfl, hgf, hB⟩
    obtain ⟨g, rfl⟩ := has_updL _ _ hf0
    clear hf0
    refine wSeq ?_
    refine wSeq ?_
    refine wReg ?_
    refine sRun (xMvI rfl) ?_
    refine sSplit (xLss rfl rfl) (fun h63 => ?_) (fun h63 => ?_)
    · refine sNil ?_
      refine wIfT rfl ?_
      refine wSkip ?_
      refine wSeq ?_
      refine wBlock ?_
      refine wSeq ?_
      refine wReg ?_
      refine sRun (xAsS rfl) ?_
      refine sNil ?_
      refine wSeq ?_
      refine wReg ?_
      refine sRun (xMvS rfl) ?_
      refine sRun (xMvI rfl) ?_
      refine sCall (eCall cal17 rfl) (arrive_any 1000000 sortN Al nl cl fs (t : Int) w hfl (by omega) (by omega) hgf.len1) ?_
      rintro _ w69 ⟨A69, n69, c69, A69r, n69r, c69r, rfl, hb69, hf69, he69⟩
      have hB69 := hB.ext he69
      have hx69 := hx.trans he69
      rw [cnt_perm (split_perm fs t)] at hB69
      have hal := arr_len fs t
      have hsl := stay_len fs t
      have hn69 : n69 ≤ 72 := by rw [hb69.1, List.length_map]; have := hfl.1; omega
      refine sRun xMove ?_
      refine sRun (xExtract rfl rfl) ?_
      refine sRun (xExtract rfl rfl) ?_
      refine sRun (xAsS rfl) ?_
      refine sRun (xAsS rfl) ?_
      refine sNil ?_
      refine wSeq ?_
      refine wReg ?_
      refine sRun (xAsI rfl) ?_
      refine sNil ?_
      refine wBlock ?_
      refine wLoopG (fun n f w2 => ∃ a, n = n69 - a ∧ a ≤ n69 ∧ Has f [(3, .slice A69r n69r c69r), (4, .pointer (some ⟨b4, 0, none⟩)), (8, .int .i64 (t : Nat)), (9, .slice A69 n69 c69), (10, .int .i64 (a : Nat))] ∧ Chg b4 w69 w2 ∧ Blk w2 b4 46 (tabA (cnt (stayF fs t ++ (arrF fs t).drop a)))) (n69) ⟨0, rfl, Nat.zero_le _, ⟨rfl, rfl, rfl, rfl, rfl, trivial⟩, Chg.refl _ _, by simpa using hB69⟩ ?_
      rintro n f w2 ⟨a, rfl, ha, hf0, hxc, hBa⟩
      obtain ⟨g, rfl⟩ := has_updL _ _ hf0
      clear hf0
      have hb2 := hb69.chgT hB69 hxc
      refine wSeq ?_
      refine wSeq ?_
      refine wReg ?_
      refine sRun (xMvI rfl) ?_
      refine sRun (xMvS rfl) ?_
      refine sRun (xLen Try.underlying39 rfl) ?_
      refine sSplit (xLss rfl rfl) (fun h75 => ?_) (fun h75 => ?_)
      · obtain ⟨b, o, bs, A1, c1, rfl, hb, hba, hcel, hsl1⟩ := hb2.at (k := a) (by omega)
        obtain ⟨e, hea, rfl⟩ : ∃ e, (arrF fs t)[a]? = some e ∧ e.2 = bs := by
          rw [List.getElem?_map] at hba
          cases hg : (arrF fs t)[a]? with
          | none => rw [hg] at hba; cases hba
          | some e => rw [hg] at hba; exact ⟨e, rfl, by simpa using hba⟩
        obtain ⟨i, hi, rfl⟩ := hgf.arr e (List.mem_of_getElem? hea)
        obtain ⟨p, r, v, rfl, _, hv, hx0⟩ := Sl.at1 hsl1 (k := 0) (by simp)
        obtain rfl : Value.int .u8 (i : Int) = v := by simpa using hv
        have hdr : (arrF fs t).drop a = ((t : Int), [(i : Int)]) :: (arrF fs t).drop (a + 1) := by
          have hl : a < (arrF fs t).length := (List.getElem?_eq_some_iff.1 hea).1
          rw [List.drop_eq_getElem_cons hl, ← Option.some.inj ((List.getElem?_eq_getElem hl).symm.trans hea)]
        rw [hdr] at hBa
        have hct := cnt_le (stayF fs t ++ ((t : Int), [(i : Int)]) :: (arrF fs t).drop (a + 1)) i t
        have hll : (stayF fs t ++ ((t : Int), [(i : Int)]) :: (arrF fs t).drop (a + 1)).length ≤ 500 := by have := hfl.1; simp; omega
        refine sNil ?_
        refine wIfT rfl ?_
        refine wSkip ?_
        refine wSeq ?_
        refine wBlock ?_
        refine wSeq ?_
        refine wSeq ?_
        refine wReg ?_
        refine sRun (xMvS rfl) ?_
        refine sRun (xMvI rfl) ?_
        refine sRun (xIdx1 a Try.underlying39 ti27 rfl rfl (by omega) (by omega)) ?_
        refine sRun (xLoad Try.underlying27 rfl rfl hcel) ?_
        refine sRun (xLen Try.underlying27 rfl) ?_
        refine sRun (xNeqF rfl rfl (by simp)) ?_
        refine sRun (xMvB rfl) ?_
        refine sGo rfl ?_
        refine sRun (xMvS rfl) ?_
        refine sGo rfl ?_
        refine sRun (xMvI rfl) ?_
        refine sGo rfl ?_
        refine sRun (xIdx1 a Try.underlying39 ti27 rfl rfl (by omega) (by omega)) ?_
        refine sGo rfl ?_
        refine sRun (xLoad Try.underlying27 rfl rfl hcel) ?_
        refine sGo rfl ?_
        refine sRun (xIdx1 0 Try.underlying27 ti5 rfl rfl rfl (by simp)) ?_
        refine sGo rfl ?_
        refine sRun (xLoad Try.underlying5 rfl rfl hx0) ?_
        refine sGo rfl ?_
        refine sRun (xGtrF rfl rfl (by omega)) ?_
        refine sRun (xPkFB rfl rfl) ?_
        refine sNil ?_
        refine wIfF rfl ?_
        refine wSkip ?_
        refine wDraw (fun wS => Ext w2 wS) [13] (by kernel_rfl) ?_
        refine hTake 0 rfl (by kernel_rfl) rfl (fun wS => (xMvS rfl)) (sl_of (Ext.refl w2).drew) ?_
        refine hTake 1 rfl (by kernel_rfl) rfl (fun wS => (xMvI rfl)) (sl_of (Ext.refl w2).drew) ?_
        refine hTake 2 rfl (by kernel_rfl) rfl (fun wS => (xIdx1 a Try.underlying39 ti27 rfl rfl (by omega) (by omega))) (sl_of (Ext.refl w2).drew) ?_
        refine hTakeS 3 rfl (by kernel_rfl) (by kernel_rfl) rfl (fun wS hS => (xLoad Try.underlying27 rfl rfl (hS.cellS hcel))) (sl_of (Ext.refl w2).drew) ?_
        refine hTake 4 rfl (by kernel_rfl) rfl (fun wS => (xIdx1 0 Try.underlying27 ti5 rfl rfl rfl (by simp))) (sl_of (Ext.refl w2).drew) ?_
        refine hTakeS 5 rfl (by kernel_rfl) (by kernel_rfl) rfl (fun wS hS => (xLoad Try.underlying5 rfl rfl (hS.cellS hx0))) (sl_of (Ext.refl w2).drew) ?_
        refine hTake 6 rfl (by kernel_rfl) rfl (fun wS => (xMvI rfl)) (sl_of (Ext.refl w2).drew) ?_
        refine hTake 7 rfl (by kernel_rfl) rfl (fun wS => (xIdxA i Try.underlying46 ti45 rfl rfl (by omega) (by omega))) (sl_of (Ext.refl w2).drew) ?_
        refine hTake 8 rfl (by kernel_rfl) rfl (fun wS => (xIdxA1 t Try.underlying45 ti3 rfl rfl (by omega) (by omega))) (sl_of (Ext.refl w2).drew) ?_
        refine hTakeS 9 rfl (by kernel_rfl) (by kernel_rfl) rfl (fun wS hS => (xLoad Try.underlying3 rfl rfl (hS.cellS (hBa.cell (tab_get _ (by omega) (by omega)))))) (sl_of (Ext.refl w2).drew) ?_
        refine hTake 10 rfl (by kernel_rfl) rfl (fun wS => (xSub64 rfl rfl (by omega) (by omega))) (sl_of (Ext.refl w2).drew) ?_
        refine hTake 11 rfl (by kernel_rfl) rfl (fun wS => (xIdxA i Try.underlying46 ti45 rfl rfl (by omega) (by omega))) (sl_of (Ext.refl w2).drew) ?_
        refine hTake 12 rfl (by kernel_rfl) rfl (fun wS => (xIdxA1 t Try.underlying45 ti3 rfl rfl (by omega) (by omega))) (sl_of (Ext.refl w2).drew) ?_
        refine hOne 13 (by kernel_rfl) (oSt1 (v := .int .i64 (cnt (stayF fs t ++ ((t : Int), [(i : Int)]) :: (arrF fs t).drop (a + 1)) i t - 1)) rfl rfl ti3 rfl rfl rfl (hBa.ext (Ext.refl w2).drew) (by rw [tab_size]; omega) ?_)
        intro w3 hB3 hC3
        rw [tab_set _ _ (by omega) (by omega), ← cnt_sub] at hB3
        refine ⟨(sl_late 13 (by kernel_rfl)), ?_⟩
        refine hDone (by kernel_rfl) ?_
        refine wReg ?_
        refine sRun (xMvI rfl) ?_
        refine sRun (xAdd64 rfl rfl (by omega) (by omega)) ?_
        refine sRun (xAsI rfl) ?_
        refine sNil ?_
        exact ⟨n69 - (a + 1), by omega, a + 1, rfl, by omega, ⟨rfl, rfl, rfl, rfl, rfl, trivial⟩, hxc.trans ((Ext.refl w2).drew.chg.trans hC3), hB3⟩
      · refine sNil ?_
        refine wIfF rfl ?_
        refine wExit ?_
        refine wReg ?_
        refine sRun (xMvI rfl) ?_
        refine sRun (xAdd64 rfl rfl (by omega) (by omega)) ?_
        refine sRun (xAsI rfl) ?_
        refine sNil ?_
        exact ⟨120 - (t + 1), by omega, t + 1, n69r, A69r, c69r, _, rfl, by omega, by have h1 := hf69.1; have h2 := hfl.1; omega, ⟨rfl, rfl, rfl, trivial⟩, Chg.ext hx69 hxc hge4, (hf69.chgT hB69 hxc).up hxc.size, hgf.stay, by have h1 := hb69.1; simp only [List.length_map] at h1; rw [List.drop_eq_nil_of_le (by omega), List.append_nil] at hBa; exact hBa⟩
    · refine sNil ?_
      refine wIfF rfl ?_
      refine wExit ?_
      refine wSeq ?_
      refine wSeq ?_
      refine wReg ?_
      refine sRun (xAsI rfl) ?_
      refine sNil ?_
      refine wBlock ?_
      obtain rfl := hgf.done (by omega)
      obtain rfl : nl = 0 := hfl.1
      obtain ⟨w9, hw9⟩ : ∃ w9, w9 = w := ⟨w, rfl⟩
      subst hw9
      refine wLoopG (fun n f w => ∃ i, n = 12 - i ∧ i ≤ 12 ∧ Has f [(3, .slice Al 0 cl), (4, .pointer (some ⟨b4, 0, none⟩)), (11, .int .i64 (i : Nat))] ∧ w = w9) (12) ⟨0, rfl, by decide, ⟨rfl, rfl, rfl, trivial⟩, rfl⟩ ?_
      rintro n f w9 ⟨i, rfl, hi, hf0, rfl⟩
      obtain ⟨g, rfl⟩ := has_updL _ _ hf0
      clear hf0
      refine wSeq ?_
      refine wSeq ?_
      refine wReg ?_
      refine sRun (xMvI rfl) ?_
      refine sSplit (xLss rfl rfl) (fun h107 => ?_) (fun h107 => ?_)
      · refine sNil ?_
        refine wIfT rfl ?_
        refine wSkip ?_
        refine wSeq ?_
        refine wBlock ?_
        refine wSeq ?_
        refine wReg ?_
        refine sRun (xAsI rfl) ?_
        refine sNil ?_
        refine wBlock ?_
        refine wLoopG (fun n f w => ∃ t, n = 120 - t ∧ t ≤ 120 ∧ Has f [(3, .slice Al 0 cl), (4, .pointer (some ⟨b4, 0, none⟩)), (11, .int .i64 (i : Nat)), (12, .int .i64 (t : Nat))] ∧ w = w9) (120) ⟨0, rfl, by decide, ⟨rfl, rfl, rfl, rfl, trivial⟩, rfl⟩ ?_
        rintro n f w9 ⟨t, rfl, ht, hf0, rfl⟩
        obtain ⟨g, rfl⟩ := has_updL _ _ hf0
        clear hf0
        refine wSeq ?_
        refine wSeq ?_
        refine wReg ?_
        refine sRun (xMvI rfl) ?_
        refine sSplit (xLss rfl rfl) (fun h111 => ?_) (fun h111 => ?_)
        · refine sNil ?_
          refine wIfT rfl ?_
          refine wSkip ?_
          refine wSeq ?_
          refine wBlock ?_
          refine wSeq ?_
          refine wReg ?_
          refine sRun (xMvI rfl) ?_
          refine sRun (xMvI rfl) ?_
          refine sRun (xIdxA i Try.underlying46 ti45 rfl rfl (by omega) (by omega)) ?_
          refine sRun (xIdxA1 t Try.underlying45 ti3 rfl rfl (by omega) (by omega)) ?_
          refine sRun (xLoad Try.underlying3 rfl rfl (hB.cell (tab_get _ (by omega) (by omega)))) ?_
          refine sRun (xNeqF rfl rfl (by simp [cnt])) ?_
          refine sNil ?_
          refine wIfF rfl ?_
          refine wSkip ?_
          refine wReg ?_
          refine sRun (xMvI rfl) ?_
          refine sRun (xAdd64 rfl rfl (by omega) (by omega)) ?_
          refine sRun (xAsI rfl) ?_
          refine sNil ?_
          exact ⟨120 - (t + 1), by omega, t + 1, rfl, by omega, ⟨rfl, rfl, rfl, rfl, trivial⟩, rfl⟩
        · refine sNil ?_
          refine wIfF rfl ?_
          refine wExit ?_
          refine wReg ?_
          refine sRun (xMvI rfl) ?_
          refine sRun (xAdd64 rfl rfl (by omega) (by omega)) ?_
          refine sRun (xAsI rfl) ?_
          refine sNil ?_
          exact ⟨12 - (i + 1), by omega, i + 1, rfl, by omega, ⟨rfl, rfl, rfl, trivial⟩, rfl⟩
      · refine sNil ?_
        refine wIfF rfl ?_
        refine wExit ?_
        refine wSeq ?_
        refine wReg ?_
        refine sRun (xMvS rfl) ?_
        refine sRun (xLen Try.underlying22 rfl) ?_
        refine sRun (xEqlT rfl rfl (by omega)) ?_
        refine sRun (xMvB rfl) ?_
        refine sGo rfl ?_
        refine sCall (eCall cal9 rfl) (awake_spec _) ?_
        rintro _ w124 ⟨rfl, he124⟩
        refine sRun (xPkTB rfl rfl) ?_
        refine sRun (xAsB rfl) ?_
        refine sNil ?_
        refine wRet ?_
        refine res1 (P := Try.prog) (fn := Try.f5) rfl ?_
        exact ⟨rfl, hx.trans he124⟩
end Go.Proofs.Ytnppmdhgelfloaa
