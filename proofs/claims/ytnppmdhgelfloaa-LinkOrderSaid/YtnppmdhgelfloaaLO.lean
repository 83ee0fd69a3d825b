/- LinkOrder walked. -/
import Derived.Test.YtnppmdhgelfloaaOrd
set_option linter.unusedVariables false
namespace Go.Proofs.Ytnppmdhgelfloaa
open Go.RowKit Go.Fw


theorem bs6_34 {ρ : Operand → Value} {w : World} {d : Option Nat} {ty : TypeId} {pos : String} {af : Array Edge} {g : Option (Nat × Bool)} {x0 : Int} {o0 : Operand} (h0 : ρ o0 = .int .i64 x0) :
    (execOp ρ ⟨d, .buildSlice 23 1 #[(0, o0)], ty, pos, af, g⟩).run Try.prog w = .ok (.value (.slice (some ⟨w.heap.size, 0, none⟩) 1 1)) (w.alloc (.cells #[.int .i64 x0] 3)) := by
  have e : (Instr.buildSlice 23 1 #[(0, .int .i64 x0)]).run Try.prog w = .ok (.slice (some ⟨w.heap.size, 0, none⟩) 1 1) (w.alloc (.cells #[.int .i64 x0] 3)) := by kernel_rfl
  simp [execOp, h0, e]
theorem bd6_35 {ρ : Operand → Value} {w : World} {d : Option Nat} {ty : TypeId} {pos : String} {af : Array Edge} {g : Option (Nat × Bool)} {x0A : Option Addr} {x0n x0c : Nat} {o0 : Operand} (h0 : ρ o0 = .slice x0A x0n x0c) : Yl Try.prog ρ (.build 25 #[(0, o0)]) d ty pos af g w (.agg #[.slice x0A x0n x0c, .int .i64 0, .int .i64 0]) := by
  have e : (Instr.build 25 #[(0, .slice x0A x0n x0c)]).run Try.prog w = .ok (.agg #[.slice x0A x0n x0c, .int .i64 0, .int .i64 0]) w := by kernel_rfl
  simp [Yl, execOp, h0, e]
theorem bs6_40 {ρ : Operand → Value} {w : World} {d : Option Nat} {ty : TypeId} {pos : String} {af : Array Edge} {g : Option (Nat × Bool)} {x0 : Int} {x1 : Int} {o0 : Operand} {o1 : Operand} (h0 : ρ o0 = .int .u8 x0) (h1 : ρ o1 = .int .u8 x1) :
    (execOp ρ ⟨d, .buildSlice 27 2 #[(0, o0), (1, o1)], ty, pos, af, g⟩).run Try.prog w = .ok (.value (.slice (some ⟨w.heap.size, 0, none⟩) 2 2)) (w.alloc (.cells #[.int .u8 x0, .int .u8 x1] 5)) := by
  have e : (Instr.buildSlice 27 2 #[(0, .int .u8 x0), (1, .int .u8 x1)]).run Try.prog w = .ok (.slice (some ⟨w.heap.size, 0, none⟩) 2 2) (w.alloc (.cells #[.int .u8 x0, .int .u8 x1] 5)) := by kernel_rfl
  simp [execOp, h0, h1, e]
set_option maxHeartbeats 4000000 in
set_option maxRecDepth 4000 in
theorem order_walk (nn now0 : Int) (Ad : Option Addr) (cd : Nat) (ds : List Int) (w0 : World) (hd : Sl w0 w0.heap.size 1 Ad ds.length (ins ds)) (hds : ds.length ≤ 4611686018427387904) :
    Calls Try.prog 6 #[.int .i64 nn, .int .i64 now0, .slice Ad ds.length cd] w0 (Ret fun v w' => v = .bool true ∧ Ext w0 w') := by
  refine calls_of Try.func6 rfl (Nat.le_of_ble_eq_true rfl) (by kernel_rfl) ?_
  refine wCut [(0, .int .i64 nn), (1, .int .i64 now0), (2, .slice Ad ds.length cd)] ⟨rfl, rfl, rfl, trivial⟩ fun g => ?_
  refine wSeq ?_
  refine wReg ?_
  refine sRun (xAsB rfl) ?_
  refine sNil ?_
  refine wSeq ?_
  refine wReg ?_
  refine sRun (xMvI rfl) ?_
  refine sCall (eCall cal10 rfl) (mod_spec nn 20 w0 (by decide) (by decide)) ?_
  rintro _ w0 ⟨rfl, rfl⟩
  obtain ⟨m, hm⟩ := Int.eq_ofNat_of_zero_le (Int.emod_nonneg nn (show (20 : Int) ≠ 0 by decide))
  have hm20 := Int.emod_lt_of_pos nn (show (0 : Int) < 20 by decide)
  rw [hm] at hm20 ⊢
  refine sRun (xAsI rfl) ?_
  refine sNil ?_
  refine wSeq ?_
  refine wReg ?_
  refine sRun (xMvI rfl) ?_
  refine sCall (eCall cal10 rfl) (mod_spec now0 1000 w0 (by decide) (by decide)) ?_
  rintro _ w0 ⟨rfl, rfl⟩
  have hn0 := Int.emod_nonneg now0 (show (1000 : Int) ≠ 0 by decide)
  have hn1 := Int.emod_lt_of_pos now0 (show (0 : Int) < 1000 by decide)
  generalize now0 % 1000 = now at *
  refine sRun (xAsI rfl) ?_
  refine sNil ?_
  refine wSeq ?_
  refine wReg ?_
  refine sRun (xAsS rfl) ?_
  refine sNil ?_
  refine wSeq ?_
  refine wSeq ?_
  refine wReg ?_
  refine sRun (xAsI rfl) ?_
  refine sNil ?_
  refine wBlock ?_
  refine wLoopG (fun n f w => ∃ k fs Al cl, n = m - k ∧ k ≤ m ∧ Has f [(0, .int .i64 (m : Nat)), (1, .int .i64 now), (2, .slice Ad ds.length cd), (8, .int .i64 (k : Nat)), (7, .slice Al k cl)] ∧ Ext w0 w ∧ Sents now k fs ∧ FlR w w.heap.size Al k fs) (m) ⟨0, [], none, 0, rfl, Nat.zero_le _, ⟨rfl, rfl, rfl, rfl, rfl, trivial⟩, Ext.refl _, Sents.nil now, FlR.nil⟩ ?_
  rintro n f w ⟨k, fs, Al, cl, rfl, hk, hf0, hx, hs, hfl⟩
  obtain ⟨g, rfl⟩ := has_updL _ _ hf0
  clear hf0
  refine wSeq ?_
  refine wSeq ?_
  refine wReg ?_
  refine sRun (xMvI rfl) ?_
  refine sRun (xMvI rfl) ?_
  refine sSplit (xLss rfl rfl) (fun h19 => ?_) (fun h19 => ?_)
  · refine sNil ?_
    refine wIfT rfl ?_
    refine wSkip ?_
    refine wSeq ?_
    refine wBlock ?_
    refine wSeq ?_
    refine wReg ?_
    refine sRun (xAsI rfl) ?_
    refine sNil ?_
    refine wSeq ?_
    refine wSeq ?_
    refine wReg ?_
    refine sRun (xMvI rfl) ?_
    refine sRun (xMvS rfl) ?_
    refine sRun (xLen Try.underlying23 rfl) ?_
    refine sSplit (xLss rfl rfl) (fun h25 => ?_) (fun h25 => ?_)
    · obtain ⟨b, o, v, rfl, hb, hv, hcd⟩ := Sl.at1 (hd.ext hx) (k := k) (by omega)
      obtain ⟨dl, hdk, rfl⟩ := ins_at hv
      refine sNil ?_
      refine wIfT rfl ?_
      refine wReg ?_
      refine sRun (xMvS rfl) ?_
      refine sRun (xMvI rfl) ?_
      refine sRun (xIdx1 k Try.underlying23 ti3 rfl rfl (by omega) (by omega)) ?_
      refine sRun (xLoad Try.underlying3 rfl rfl hcd) ?_
      refine sCall (eCall cal10 rfl) (mod_spec dl 3 w (by decide) (by decide)) ?_
      rintro _ w ⟨rfl, rfl⟩
      have hq0 := Int.emod_nonneg dl (show (3 : Int) ≠ 0 by decide)
      have hq1 := Int.emod_lt_of_pos dl (show (0 : Int) < 3 by decide)
      refine sRun (xAdd64 rfl rfl (by omega) (by omega)) ?_
      refine sRun (xAsI rfl) ?_
      refine sNil ?_
      refine wReg ?_
      refine sRun (xMvS rfl) ?_
      refine sRun (xMvI rfl) ?_
      refine sTo (aRow (bs6_34 rfl)) ?_
      rintro _ w34 ⟨b34, rfl, hge34, hB34, he34⟩
      refine sRun (bd6_35 rfl) ?_
      refine sRun (xMvI rfl) ?_
      refine sRun (xConv _ ⟨_, Try.underlying3⟩ Try.underlying5 rfl) ?_
      refine sRun (xMvI rfl) ?_
      refine sRun (xConv _ ⟨_, Try.underlying3⟩ Try.underlying5 rfl) ?_
      refine sTo (aRow (bs6_40 rfl rfl)) ?_
      rintro _ w40 ⟨b40, rfl, hge40, hB40, he40⟩
      refine sRun (xMvI rfl) ?_
      refine sCall (eCall cal12 rfl) (send_any Al (some ⟨b34, 0, none⟩) (some ⟨b40, 0, none⟩) k 1 2 cl 1 2 fs [(1 + dl % 3)] [IntKind.u8.wrap (1 + dl % 3), IntKind.u8.wrap (k : Int)] 0 0 now w40 ((hfl.ext (he34.trans he40)).up (he34.trans he40).le) ((hB34.ext he40).sl (n := 1) (size := 1) rfl) (hB40.sl (n := 2) (size := 1) rfl) (by omega) (fun i e b h => by have := hs.two (e, b) (List.mem_of_getElem? h); simp at this; omega) (by decide) (by decide) (by omega)) ?_
      rintro _ w42 ⟨A42, n42, c42, rfl, hf42, he42⟩
      rw [u8_in (by omega) (by omega), u8_in (by omega) (by omega), send_one fs (1 + dl % 3) k now (by omega) (by omega) (by omega) (by omega)] at hf42
      have hs2 := hs.snoc (d := (1 + dl % 3)) (by omega) (by omega)
      have hn42 : n42 = k + 1 := by rw [hf42.1, hs2.len]
      subst hn42
      refine sRun (xAsS rfl) ?_
      refine sNil ?_
      refine wReg ?_
      refine sRun (xMvI rfl) ?_
      refine sRun (xAdd64 rfl rfl (by omega) (by omega)) ?_
      refine sRun (xAsI rfl) ?_
      refine sNil ?_
      refine ⟨m - (k + 1), by omega, k + 1, _, A42, c42, rfl, by omega, ⟨rfl, rfl, rfl, rfl, rfl, trivial⟩, hx.trans ((he34.trans he40).trans he42), hs2, hf42⟩
    · refine sNil ?_
      refine wIfF rfl ?_
      refine wSkip ?_
      refine wReg ?_
      refine sRun (xMvS rfl) ?_
      refine sRun (xMvI rfl) ?_
      refine sTo (aRow (bs6_34 rfl)) ?_
      rintro _ w34 ⟨b34, rfl, hge34, hB34, he34⟩
      refine sRun (bd6_35 rfl) ?_
      refine sRun (xMvI rfl) ?_
      refine sRun (xConv _ ⟨_, Try.underlying3⟩ Try.underlying5 rfl) ?_
      refine sRun (xMvI rfl) ?_
      refine sRun (xConv _ ⟨_, Try.underlying3⟩ Try.underlying5 rfl) ?_
      refine sTo (aRow (bs6_40 rfl rfl)) ?_
      rintro _ w40 ⟨b40, rfl, hge40, hB40, he40⟩
      refine sRun (xMvI rfl) ?_
      refine sCall (eCall cal12 rfl) (send_any Al (some ⟨b34, 0, none⟩) (some ⟨b40, 0, none⟩) k 1 2 cl 1 2 fs [(1 : Int)] [IntKind.u8.wrap (1 : Int), IntKind.u8.wrap (k : Int)] 0 0 now w40 ((hfl.ext (he34.trans he40)).up (he34.trans he40).le) ((hB34.ext he40).sl (n := 1) (size := 1) rfl) (hB40.sl (n := 2) (size := 1) rfl) (by omega) (fun i e b h => by have := hs.two (e, b) (List.mem_of_getElem? h); simp at this; omega) (by decide) (by decide) (by omega)) ?_
      rintro _ w42 ⟨A42, n42, c42, rfl, hf42, he42⟩
      rw [u8_in (by omega) (by omega), u8_in (by omega) (by omega), send_one fs (1 : Int) k now (by omega) (by omega) (by omega) (by omega)] at hf42
      have hs2 := hs.snoc (d := (1 : Int)) (by omega) (by omega)
      have hn42 : n42 = k + 1 := by rw [hf42.1, hs2.len]
      subst hn42
      refine sRun (xAsS rfl) ?_
      refine sNil ?_
      refine wReg ?_
      refine sRun (xMvI rfl) ?_
      refine sRun (xAdd64 rfl rfl (by omega) (by omega)) ?_
      refine sRun (xAsI rfl) ?_
      refine sNil ?_
      refine ⟨m - (k + 1), by omega, k + 1, _, A42, c42, rfl, by omega, ⟨rfl, rfl, rfl, rfl, rfl, trivial⟩, hx.trans ((he34.trans he40).trans he42), hs2, hf42⟩
  · refine sNil ?_
    refine wIfF rfl ?_
    refine wExit ?_
    refine wSeq ?_
    refine wReg ?_
    refine sRun (xMvS rfl) ?_
    refine sRun (xMvI rfl) ?_
    refine sRun (xAdd64 rfl rfl (by omega) (by omega)) ?_
    refine sCall (eCall cal17 rfl) (arrive_any 20 sort20 Al k cl fs (now + 3) w hfl (by omega) (by omega) (fun i e b h => by have := hs.two (e, b) (List.mem_of_getElem? h); simp at this; omega)) ?_
    rintro _ w47 ⟨A47, n47, c47, Ar, nr, cr, rfl, hb47, hf47, he47⟩
    rw [hs.arr.1] at hb47
    rw [hs.arr.2] at hf47
    have hkm : k = m := by omega
    have hn47 : n47 = m := by rw [hb47.1, List.length_map, isortF_len, hs.len, hkm]
    obtain rfl : nr = 0 := hf47.1
    refine sRun xMove ?_
    refine sRun (xExtract rfl rfl) ?_
    refine sRun (xExtract rfl rfl) ?_
    refine sRun (xAsS rfl) ?_
    refine sRun (xAsS rfl) ?_
    refine sNil ?_
    refine wSeq ?_
    refine wSeq ?_
    refine wReg ?_
    refine sRun (xAsI rfl) ?_
    refine sNil ?_
    refine wBlock ?_
    have hx0 := hx.trans he47
    clear hx
    refine wLoopG (fun n f w => ∃ i, n = n47 - i ∧ i ≤ n47 ∧ Has f [(10, .slice A47 n47 c47), (12, .int .i64 (i : Nat)), (0, .int .i64 (m : Nat)), (11, .slice Ar 0 cr)] ∧ Ext w47 w) (n47) ⟨0, rfl, Nat.zero_le _, ⟨rfl, rfl, rfl, rfl, trivial⟩, Ext.refl _⟩ ?_
    rintro n f w2 ⟨i, rfl, hi, hf0, hx⟩
    obtain ⟨g, rfl⟩ := has_updL _ _ hf0
    clear hf0
    refine wSeq ?_
    refine wSeq ?_
    refine wReg ?_
    refine sRun (xMvI rfl) ?_
    refine sRun (xMvS rfl) ?_
    refine sRun (xLen Try.underlying39 rfl) ?_
    refine sSplit (xLss rfl rfl) (fun h53 => ?_) (fun h53 => ?_)
    · obtain ⟨bX, oX, bsX, AX, cX, hAX, _, hbX, hclX, hslX⟩ := (hb47.ext hx).at (k := i) (by omega)
      obtain ⟨eX, geX, rfl⟩ : ∃ e, (isortF fs)[i]? = some e ∧ e.2 = bsX := by
        rw [List.getElem?_map] at hbX
        cases hg : (isortF fs)[i]? with
        | none => rw [hg] at hbX; cases hbX
        | some e => rw [hg] at hbX; exact ⟨e, rfl, by simpa using hbX⟩
      obtain ⟨dX, jX, hd1X, hd3X, hjX, rfl⟩ := hs.all eX (List.mem_of_getElem? geX)
      obtain ⟨pX, rX, vX, rfl, _, hvX, hx0X⟩ := Sl.at1 hslX (k := 0) (by simp)
      obtain ⟨p2X, r2X, v2X, hpeX, _, hwX, hx1X⟩ := Sl.at1 hslX (k := 1) (by simp)
      obtain ⟨rfl, rfl⟩ : pX = p2X ∧ rX = r2X := by simpa using hpeX
      obtain rfl : Value.int .u8 dX = vX := by simpa using hvX
      obtain rfl : Value.int .u8 (jX : Int) = v2X := by simpa using hwX
      subst hAX
      refine sNil ?_
      refine wIfT rfl ?_
      refine wSkip ?_
      refine wSeq ?_
      refine wBlock ?_
      refine wSeq ?_
      refine wDraw (fun wS => Ext w2 wS) [] (by kernel_rfl) ?_
      refine hTake 0 rfl (by kernel_rfl) rfl (fun wS => (xMvS rfl)) (sl_of (Ext.refl w2).drew) ?_
      refine hTake 1 rfl (by kernel_rfl) rfl (fun wS => (xMvI rfl)) (sl_of (Ext.refl w2).drew) ?_
      refine hTake 2 rfl (by kernel_rfl) rfl (fun wS => (xIdx1 i Try.underlying39 ti27 rfl rfl (by omega) (by omega))) (sl_of (Ext.refl w2).drew) ?_
      refine hTakeS 3 rfl (by kernel_rfl) (by kernel_rfl) rfl (fun wS hS => (xLoad Try.underlying27 rfl rfl (hS.cellS hclX))) (sl_of (Ext.refl w2).drew) ?_
      refine hTake 4 rfl (by kernel_rfl) rfl (fun wS => (xLen Try.underlying27 rfl)) (sl_of (Ext.refl w2).drew) ?_
      refine hTake 5 rfl (by kernel_rfl) rfl (fun wS => (xNeqF rfl rfl (by simp))) (sl_of (Ext.refl w2).drew) ?_
      refine hTake 6 rfl (by kernel_rfl) rfl (fun wS => (xMvB rfl)) (sl_of (Ext.refl w2).drew) ?_
      refine hTake 7 rfl (by kernel_rfl) rfl (fun wS => (xMvI rfl)) (sl_of (Ext.refl w2).drew) ?_
      refine hSplit 8 rfl (by kernel_rfl) rfl (fun wS => (xGtr rfl rfl)) (sl_of (Ext.refl w2).drew) (fun h64 => ?_) (fun h64 => ?_)
      · obtain ⟨bY, oY, bsY, AY, cY, hAY, _, hbY, hclY, hslY⟩ := (hb47.ext hx).at (k := (i - 1)) (by omega)
        obtain ⟨eY, geY, rfl⟩ : ∃ e, (isortF fs)[(i - 1)]? = some e ∧ e.2 = bsY := by
          rw [List.getElem?_map] at hbY
          cases hg : (isortF fs)[(i - 1)]? with
          | none => rw [hg] at hbY; cases hbY
          | some e => rw [hg] at hbY; exact ⟨e, rfl, by simpa using hbY⟩
        obtain ⟨dY, jY, hd1Y, hd3Y, hjY, rfl⟩ := hs.all eY (List.mem_of_getElem? geY)
        obtain ⟨pY, rY, vY, rfl, _, hvY, hx0Y⟩ := Sl.at1 hslY (k := 0) (by simp)
        obtain ⟨p2Y, r2Y, v2Y, hpeY, _, hwY, hx1Y⟩ := Sl.at1 hslY (k := 1) (by simp)
        obtain ⟨rfl, rfl⟩ : pY = p2Y ∧ rY = r2Y := by simpa using hpeY
        obtain rfl : Value.int .u8 dY = vY := by simpa using hvY
        obtain rfl : Value.int .u8 (jY : Int) = v2Y := by simpa using hwY
        obtain ⟨rfl, rfl⟩ : bX = bY ∧ oX = oY := by simpa using hAY
        have hlx := hs.lxs.get (i := i - 1) (j := i) (by omega) geY geX
        have hle : dY ≤ dX := by rcases hlx with h | h <;> simp at h <;> omega
        have hlt : dX = dY → (jY : Int) < jX := by intro h; rcases hlx with h' | h' <;> simp [idx] at h' <;> omega
        refine hTake 9 rfl (by kernel_rfl) rfl (fun wS => (xMvB rfl)) (sl_of (Ext.refl w2).drew) ?_
        refine hTake 10 rfl (by kernel_rfl) rfl (fun wS => (xMvS rfl)) (sl_of (Ext.refl w2).drew) ?_
        refine hTake 11 rfl (by kernel_rfl) rfl (fun wS => (xMvI rfl)) (sl_of (Ext.refl w2).drew) ?_
        refine hTake 12 rfl (by kernel_rfl) rfl (fun wS => (xIdx1 i Try.underlying39 ti27 rfl rfl (by omega) (by omega))) (sl_of (Ext.refl w2).drew) ?_
        refine hTakeS 13 rfl (by kernel_rfl) (by kernel_rfl) rfl (fun wS hS => (xLoad Try.underlying27 rfl rfl (hS.cellS hclX))) (sl_of (Ext.refl w2).drew) ?_
        refine hTake 14 rfl (by kernel_rfl) rfl (fun wS => (xIdx1 0 Try.underlying27 ti5 rfl rfl rfl (by simp))) (sl_of (Ext.refl w2).drew) ?_
        refine hTakeS 15 rfl (by kernel_rfl) (by kernel_rfl) rfl (fun wS hS => (xLoad Try.underlying5 rfl rfl (hS.cellS hx0X))) (sl_of (Ext.refl w2).drew) ?_
        refine hTake 16 rfl (by kernel_rfl) rfl (fun wS => (xMvS rfl)) (sl_of (Ext.refl w2).drew) ?_
        refine hTake 17 rfl (by kernel_rfl) rfl (fun wS => (xMvI rfl)) (sl_of (Ext.refl w2).drew) ?_
        refine hTake 18 rfl (by kernel_rfl) rfl (fun wS => (xSub64 rfl rfl (by omega) (by omega))) (sl_of (Ext.refl w2).drew) ?_
        refine hTake 19 rfl (by kernel_rfl) rfl (fun wS => (xIdx1 (i - 1) Try.underlying39 ti27 rfl rfl (by omega) (by omega))) (sl_of (Ext.refl w2).drew) ?_
        refine hTakeS 20 rfl (by kernel_rfl) (by kernel_rfl) rfl (fun wS hS => (xLoad Try.underlying27 rfl rfl (hS.cellS hclY))) (sl_of (Ext.refl w2).drew) ?_
        refine hTake 21 rfl (by kernel_rfl) rfl (fun wS => (xIdx1 0 Try.underlying27 ti5 rfl rfl rfl (by simp))) (sl_of (Ext.refl w2).drew) ?_
        refine hTakeS 22 rfl (by kernel_rfl) (by kernel_rfl) rfl (fun wS hS => (xLoad Try.underlying5 rfl rfl (hS.cellS hx0Y))) (sl_of (Ext.refl w2).drew) ?_
        refine hTake 23 rfl (by kernel_rfl) rfl (fun wS => (xLssF rfl rfl (by omega))) (sl_of (Ext.refl w2).drew) ?_
        refine hTake 24 rfl (by kernel_rfl) rfl (fun wS => (xMvB rfl)) (sl_of (Ext.refl w2).drew) ?_
        refine hTake 25 rfl (by kernel_rfl) rfl (fun wS => (xMvS rfl)) (sl_of (Ext.refl w2).drew) ?_
        refine hTake 26 rfl (by kernel_rfl) rfl (fun wS => (xMvI rfl)) (sl_of (Ext.refl w2).drew) ?_
        refine hTake 27 rfl (by kernel_rfl) rfl (fun wS => (xIdx1 i Try.underlying39 ti27 rfl rfl (by omega) (by omega))) (sl_of (Ext.refl w2).drew) ?_
        refine hTakeS 28 rfl (by kernel_rfl) (by kernel_rfl) rfl (fun wS hS => (xLoad Try.underlying27 rfl rfl (hS.cellS hclX))) (sl_of (Ext.refl w2).drew) ?_
        refine hTake 29 rfl (by kernel_rfl) rfl (fun wS => (xIdx1 0 Try.underlying27 ti5 rfl rfl rfl (by simp))) (sl_of (Ext.refl w2).drew) ?_
        refine hTakeS 30 rfl (by kernel_rfl) (by kernel_rfl) rfl (fun wS hS => (xLoad Try.underlying5 rfl rfl (hS.cellS hx0X))) (sl_of (Ext.refl w2).drew) ?_
        refine hTake 31 rfl (by kernel_rfl) rfl (fun wS => (xMvS rfl)) (sl_of (Ext.refl w2).drew) ?_
        refine hTake 32 rfl (by kernel_rfl) rfl (fun wS => (xMvI rfl)) (sl_of (Ext.refl w2).drew) ?_
        refine hTake 33 rfl (by kernel_rfl) rfl (fun wS => (xSub64 rfl rfl (by omega) (by omega))) (sl_of (Ext.refl w2).drew) ?_
        refine hTake 34 rfl (by kernel_rfl) rfl (fun wS => (xIdx1 (i - 1) Try.underlying39 ti27 rfl rfl (by omega) (by omega))) (sl_of (Ext.refl w2).drew) ?_
        refine hTakeS 35 rfl (by kernel_rfl) (by kernel_rfl) rfl (fun wS hS => (xLoad Try.underlying27 rfl rfl (hS.cellS hclY))) (sl_of (Ext.refl w2).drew) ?_
        refine hTake 36 rfl (by kernel_rfl) rfl (fun wS => (xIdx1 0 Try.underlying27 ti5 rfl rfl rfl (by simp))) (sl_of (Ext.refl w2).drew) ?_
        refine hTakeS 37 rfl (by kernel_rfl) (by kernel_rfl) rfl (fun wS hS => (xLoad Try.underlying5 rfl rfl (hS.cellS hx0Y))) (sl_of (Ext.refl w2).drew) ?_
        refine hSplit 38 rfl (by kernel_rfl) rfl (fun wS => (xEqlD rfl rfl)) (sl_of (Ext.refl w2).drew) (fun h94 => ?_) (fun h94 => ?_)
        · refine hTake 39 rfl (by kernel_rfl) rfl (fun wS => (xMvB rfl)) (sl_of (Ext.refl w2).drew) ?_
          refine hTake 40 rfl (by kernel_rfl) rfl (fun wS => (xMvS rfl)) (sl_of (Ext.refl w2).drew) ?_
          refine hTake 41 rfl (by kernel_rfl) rfl (fun wS => (xMvI rfl)) (sl_of (Ext.refl w2).drew) ?_
          refine hTake 42 rfl (by kernel_rfl) rfl (fun wS => (xIdx1 i Try.underlying39 ti27 rfl rfl (by omega) (by omega))) (sl_of (Ext.refl w2).drew) ?_
          refine hTakeS 43 rfl (by kernel_rfl) (by kernel_rfl) rfl (fun wS hS => (xLoad Try.underlying27 rfl rfl (hS.cellS hclX))) (sl_of (Ext.refl w2).drew) ?_
          refine hTake 44 rfl (by kernel_rfl) rfl (fun wS => (xIdx1 1 Try.underlying27 ti5 rfl rfl rfl (by simp))) (sl_of (Ext.refl w2).drew) ?_
          refine hTakeS 45 rfl (by kernel_rfl) (by kernel_rfl) rfl (fun wS hS => (xLoad Try.underlying5 rfl rfl (hS.cellS hx1X))) (sl_of (Ext.refl w2).drew) ?_
          refine hTake 46 rfl (by kernel_rfl) rfl (fun wS => (xMvS rfl)) (sl_of (Ext.refl w2).drew) ?_
          refine hTake 47 rfl (by kernel_rfl) rfl (fun wS => (xMvI rfl)) (sl_of (Ext.refl w2).drew) ?_
          refine hTake 48 rfl (by kernel_rfl) rfl (fun wS => (xSub64 rfl rfl (by omega) (by omega))) (sl_of (Ext.refl w2).drew) ?_
          refine hTake 49 rfl (by kernel_rfl) rfl (fun wS => (xIdx1 (i - 1) Try.underlying39 ti27 rfl rfl (by omega) (by omega))) (sl_of (Ext.refl w2).drew) ?_
          refine hTakeS 50 rfl (by kernel_rfl) (by kernel_rfl) rfl (fun wS hS => (xLoad Try.underlying27 rfl rfl (hS.cellS hclY))) (sl_of (Ext.refl w2).drew) ?_
          refine hTake 51 rfl (by kernel_rfl) rfl (fun wS => (xIdx1 1 Try.underlying27 ti5 rfl rfl rfl (by simp))) (sl_of (Ext.refl w2).drew) ?_
          refine hTakeS 52 rfl (by kernel_rfl) (by kernel_rfl) rfl (fun wS hS => (xLoad Try.underlying5 rfl rfl (hS.cellS hx1Y))) (sl_of (Ext.refl w2).drew) ?_
          refine hTake 53 rfl (by kernel_rfl) rfl (fun wS => (xLeqF rfl rfl (by have := hlt h94; omega))) (sl_of (Ext.refl w2).drew) ?_
          refine hTake 54 rfl (by kernel_rfl) rfl (fun wS => (xPkTB rfl rfl)) (sl_of (Ext.refl w2).drew) ?_
          refine hTake 55 rfl (by kernel_rfl) rfl (fun wS => (xPkFB rfl rfl)) (sl_of (Ext.refl w2).drew) ?_
          refine hTake 56 rfl (by kernel_rfl) rfl (fun wS => (xPkTB rfl rfl)) (sl_of (Ext.refl w2).drew) ?_
          refine hTake 57 rfl (by kernel_rfl) rfl (fun wS => (xPkFB rfl rfl)) (sl_of (Ext.refl w2).drew) ?_
          refine hDone (by kernel_rfl) ?_
          refine wIfF rfl ?_
          refine wSkip ?_
          refine wReg ?_
          refine sRun (xMvI rfl) ?_
          refine sRun (xAdd64 rfl rfl (by omega) (by omega)) ?_
          refine sRun (xAsI rfl) ?_
          refine sNil ?_
          refine ⟨n47 - (i + 1), by omega, i + 1, rfl, by omega, ⟨rfl, rfl, rfl, rfl, trivial⟩, hx.drew⟩
        · refine hTake 39 rfl (by kernel_rfl) rfl (fun wS => (xMvB rfl)) (sl_of (Ext.refl w2).drew) ?_
          refine hSkip 40 rfl (by kernel_rfl) rfl (sl_of (Ext.refl w2).drew) ?_
          refine hSkip 41 rfl (by kernel_rfl) rfl (sl_of (Ext.refl w2).drew) ?_
          refine hSkip 42 rfl (by kernel_rfl) rfl (sl_of (Ext.refl w2).drew) ?_
          refine hSkip 43 rfl (by kernel_rfl) rfl (sl_of (Ext.refl w2).drew) ?_
          refine hSkip 44 rfl (by kernel_rfl) rfl (sl_of (Ext.refl w2).drew) ?_
          refine hSkip 45 rfl (by kernel_rfl) rfl (sl_of (Ext.refl w2).drew) ?_
          refine hSkip 46 rfl (by kernel_rfl) rfl (sl_of (Ext.refl w2).drew) ?_
          refine hSkip 47 rfl (by kernel_rfl) rfl (sl_of (Ext.refl w2).drew) ?_
          refine hSkip 48 rfl (by kernel_rfl) rfl (sl_of (Ext.refl w2).drew) ?_
          refine hSkip 49 rfl (by kernel_rfl) rfl (sl_of (Ext.refl w2).drew) ?_
          refine hSkip 50 rfl (by kernel_rfl) rfl (sl_of (Ext.refl w2).drew) ?_
          refine hSkip 51 rfl (by kernel_rfl) rfl (sl_of (Ext.refl w2).drew) ?_
          refine hSkip 52 rfl (by kernel_rfl) rfl (sl_of (Ext.refl w2).drew) ?_
          refine hSkip 53 rfl (by kernel_rfl) rfl (sl_of (Ext.refl w2).drew) ?_
          refine hTake 54 rfl (by kernel_rfl) rfl (fun wS => (xPkFB rfl rfl)) (sl_of (Ext.refl w2).drew) ?_
          refine hTake 55 rfl (by kernel_rfl) rfl (fun wS => (xPkFB rfl rfl)) (sl_of (Ext.refl w2).drew) ?_
          refine hTake 56 rfl (by kernel_rfl) rfl (fun wS => (xPkTB rfl rfl)) (sl_of (Ext.refl w2).drew) ?_
          refine hTake 57 rfl (by kernel_rfl) rfl (fun wS => (xPkFB rfl rfl)) (sl_of (Ext.refl w2).drew) ?_
          refine hDone (by kernel_rfl) ?_
          refine wIfF rfl ?_
          refine wSkip ?_
          refine wReg ?_
          refine sRun (xMvI rfl) ?_
          refine sRun (xAdd64 rfl rfl (by omega) (by omega)) ?_
          refine sRun (xAsI rfl) ?_
          refine sNil ?_
          refine ⟨n47 - (i + 1), by omega, i + 1, rfl, by omega, ⟨rfl, rfl, rfl, rfl, trivial⟩, hx.drew⟩
      · refine hTake 9 rfl (by kernel_rfl) rfl (fun wS => (xMvB rfl)) (sl_of (Ext.refl w2).drew) ?_
        refine hSkip 10 rfl (by kernel_rfl) rfl (sl_of (Ext.refl w2).drew) ?_
        refine hSkip 11 rfl (by kernel_rfl) rfl (sl_of (Ext.refl w2).drew) ?_
        refine hSkip 12 rfl (by kernel_rfl) rfl (sl_of (Ext.refl w2).drew) ?_
        refine hSkip 13 rfl (by kernel_rfl) rfl (sl_of (Ext.refl w2).drew) ?_
        refine hSkip 14 rfl (by kernel_rfl) rfl (sl_of (Ext.refl w2).drew) ?_
        refine hSkip 15 rfl (by kernel_rfl) rfl (sl_of (Ext.refl w2).drew) ?_
        refine hSkip 16 rfl (by kernel_rfl) rfl (sl_of (Ext.refl w2).drew) ?_
        refine hSkip 17 rfl (by kernel_rfl) rfl (sl_of (Ext.refl w2).drew) ?_
        refine hSkip 18 rfl (by kernel_rfl) rfl (sl_of (Ext.refl w2).drew) ?_
        refine hSkip 19 rfl (by kernel_rfl) rfl (sl_of (Ext.refl w2).drew) ?_
        refine hSkip 20 rfl (by kernel_rfl) rfl (sl_of (Ext.refl w2).drew) ?_
        refine hSkip 21 rfl (by kernel_rfl) rfl (sl_of (Ext.refl w2).drew) ?_
        refine hSkip 22 rfl (by kernel_rfl) rfl (sl_of (Ext.refl w2).drew) ?_
        refine hSkip 23 rfl (by kernel_rfl) rfl (sl_of (Ext.refl w2).drew) ?_
        refine hSkip 24 rfl (by kernel_rfl) rfl (sl_of (Ext.refl w2).drew) ?_
        refine hSkip 25 rfl (by kernel_rfl) rfl (sl_of (Ext.refl w2).drew) ?_
        refine hSkip 26 rfl (by kernel_rfl) rfl (sl_of (Ext.refl w2).drew) ?_
        refine hSkip 27 rfl (by kernel_rfl) rfl (sl_of (Ext.refl w2).drew) ?_
        refine hSkip 28 rfl (by kernel_rfl) rfl (sl_of (Ext.refl w2).drew) ?_
        refine hSkip 29 rfl (by kernel_rfl) rfl (sl_of (Ext.refl w2).drew) ?_
        refine hSkip 30 rfl (by kernel_rfl) rfl (sl_of (Ext.refl w2).drew) ?_
        refine hSkip 31 rfl (by kernel_rfl) rfl (sl_of (Ext.refl w2).drew) ?_
        refine hSkip 32 rfl (by kernel_rfl) rfl (sl_of (Ext.refl w2).drew) ?_
        refine hSkip 33 rfl (by kernel_rfl) rfl (sl_of (Ext.refl w2).drew) ?_
        refine hSkip 34 rfl (by kernel_rfl) rfl (sl_of (Ext.refl w2).drew) ?_
        refine hSkip 35 rfl (by kernel_rfl) rfl (sl_of (Ext.refl w2).drew) ?_
        refine hSkip 36 rfl (by kernel_rfl) rfl (sl_of (Ext.refl w2).drew) ?_
        refine hSkip 37 rfl (by kernel_rfl) rfl (sl_of (Ext.refl w2).drew) ?_
        refine hSkip 38 rfl (by kernel_rfl) rfl (sl_of (Ext.refl w2).drew) ?_
        refine hSkip 39 rfl (by kernel_rfl) rfl (sl_of (Ext.refl w2).drew) ?_
        refine hSkip 40 rfl (by kernel_rfl) rfl (sl_of (Ext.refl w2).drew) ?_
        refine hSkip 41 rfl (by kernel_rfl) rfl (sl_of (Ext.refl w2).drew) ?_
        refine hSkip 42 rfl (by kernel_rfl) rfl (sl_of (Ext.refl w2).drew) ?_
        refine hSkip 43 rfl (by kernel_rfl) rfl (sl_of (Ext.refl w2).drew) ?_
        refine hSkip 44 rfl (by kernel_rfl) rfl (sl_of (Ext.refl w2).drew) ?_
        refine hSkip 45 rfl (by kernel_rfl) rfl (sl_of (Ext.refl w2).drew) ?_
        refine hSkip 46 rfl (by kernel_rfl) rfl (sl_of (Ext.refl w2).drew) ?_
        refine hSkip 47 rfl (by kernel_rfl) rfl (sl_of (Ext.refl w2).drew) ?_
        refine hSkip 48 rfl (by kernel_rfl) rfl (sl_of (Ext.refl w2).drew) ?_
        refine hSkip 49 rfl (by kernel_rfl) rfl (sl_of (Ext.refl w2).drew) ?_
        refine hSkip 50 rfl (by kernel_rfl) rfl (sl_of (Ext.refl w2).drew) ?_
        refine hSkip 51 rfl (by kernel_rfl) rfl (sl_of (Ext.refl w2).drew) ?_
        refine hSkip 52 rfl (by kernel_rfl) rfl (sl_of (Ext.refl w2).drew) ?_
        refine hSkip 53 rfl (by kernel_rfl) rfl (sl_of (Ext.refl w2).drew) ?_
        refine hSkip 54 rfl (by kernel_rfl) rfl (sl_of (Ext.refl w2).drew) ?_
        refine hSkip 55 rfl (by kernel_rfl) rfl (sl_of (Ext.refl w2).drew) ?_
        refine hTake 56 rfl (by kernel_rfl) rfl (fun wS => (xPkFB rfl rfl)) (sl_of (Ext.refl w2).drew) ?_
        refine hTake 57 rfl (by kernel_rfl) rfl (fun wS => (xPkFB rfl rfl)) (sl_of (Ext.refl w2).drew) ?_
        refine hDone (by kernel_rfl) ?_
        refine wIfF rfl ?_
        refine wSkip ?_
        refine wReg ?_
        refine sRun (xMvI rfl) ?_
        refine sRun (xAdd64 rfl rfl (by omega) (by omega)) ?_
        refine sRun (xAsI rfl) ?_
        refine sNil ?_
        refine ⟨n47 - (i + 1), by omega, i + 1, rfl, by omega, ⟨rfl, rfl, rfl, rfl, trivial⟩, hx.drew⟩
    · refine sNil ?_
      refine wIfF rfl ?_
      refine wExit ?_
      refine wSeq ?_
      refine wReg ?_
      refine sRun (xMvS rfl) ?_
      refine sRun (xLen Try.underlying39 rfl) ?_
      refine sRun (xMvI rfl) ?_
      refine sRun (xEqlT rfl rfl (by omega)) ?_
      refine sRun (xMvB rfl) ?_
      refine sGo rfl ?_
      refine sRun (xMvS rfl) ?_
      refine sGo rfl ?_
      refine sRun (xLen Try.underlying22 rfl) ?_
      refine sGo rfl ?_
      refine sRun (xEqlT rfl rfl (by omega)) ?_
      refine sRun (xPkTB rfl rfl) ?_
      refine sRun (xMvB rfl) ?_
      refine sGo rfl ?_
      refine sCall (eCall cal9 rfl) (awake_spec _) ?_
      rintro _ w124 ⟨rfl, he124⟩
      refine sRun (xPkTB rfl rfl) ?_
      refine sRun (xAsB rfl) ?_
      refine sNil ?_
      refine wRet ?_
      refine res1 (P := Try.prog) (fn := Try.f6) rfl ?_
      exact ⟨rfl, (hx0.trans hx).trans he124⟩

end Go.Proofs.Ytnppmdhgelfloaa
