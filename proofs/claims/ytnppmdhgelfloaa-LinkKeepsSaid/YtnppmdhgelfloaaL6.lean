/- The contracts of link.FateOf and of awake; the walk of LinkDamages. -/
import Derived.Test.YtnppmdhgelfloaaFate
set_option linter.unusedVariables false
namespace Go.Proofs.Ytnppmdhgelfloaa
open Go.RowKit Go.Fw

theorem ti25 : TI Try.prog 25 (.agg #[.slice none 0 0, .int .i64 0, .int .i64 0]) 3 40 := ti_of (by kernel_rfl)
theorem cal9 : Callable Try.prog 9 := ⟨_, Try.func9, by kernel_rfl, by kernel_rfl⟩
theorem cal12 : Callable Try.prog 12 := ⟨_, Try.func12, by kernel_rfl, by kernel_rfl⟩
theorem cal15 : Callable Try.prog 15 := ⟨_, Try.func15, by kernel_rfl, by kernel_rfl⟩
theorem cal17 : Callable Try.prog 17 := ⟨_, Try.func17, by kernel_rfl, by kernel_rfl⟩
theorem cal23 : Callable Try.prog 23 := ⟨_, Try.func23, by kernel_rfl, by kernel_rfl⟩
theorem bs15_14 {ρ : Operand → Value} {w : World} {d : Option Nat} {ty : TypeId} {pos : String} {af : Array Edge} {g : Option (Nat × Bool)} {x0 : Int} {o0 : Operand} (h0 : ρ o0 = .int .i64 x0) :
    (execOp ρ ⟨d, .buildSlice 23 1 #[(0, o0)], ty, pos, af, g⟩).run Try.prog w = .ok (.value (.slice (some ⟨w.heap.size, 0, none⟩) 1 1)) (w.alloc (.cells #[.int .i64 x0] 3)) := by
  have e : (Instr.buildSlice 23 1 #[(0, .int .i64 x0)]).run Try.prog w = .ok (.slice (some ⟨w.heap.size, 0, none⟩) 1 1) (w.alloc (.cells #[.int .i64 x0] 3)) := by kernel_rfl
  simp [execOp, h0, e]
theorem bd15_15 {ρ : Operand → Value} {w : World} {d : Option Nat} {ty : TypeId} {pos : String} {af : Array Edge} {g : Option (Nat × Bool)} {x0A : Option Addr} {x0n x0c : Nat} {o0 : Operand} (h0 : ρ o0 = .slice x0A x0n x0c) : Yl Try.prog ρ (.build 25 #[(0, o0)]) d ty pos af g w (.agg #[.slice x0A x0n x0c, .int .i64 0, .int .i64 0]) := by
  have e : (Instr.build 25 #[(0, .slice x0A x0n x0c)]).run Try.prog w = .ok (.agg #[.slice x0A x0n x0c, .int .i64 0, .int .i64 0]) w := by kernel_rfl
  simp [Yl, execOp, h0, e]
theorem fateOf_spec (A : Option Addr) (c : Nat) (fas : List Fate) (n : Int) (w : World) (ha : FaR w w.heap.size A fas.length fas) (hl : fas.length ≤ 1000000000) (hdel : ∀ (k : Nat) (fa : Fate), fas[k]? = some fa → fa.1.length ≤ 17592186044416) :
    Calls Try.prog 15 #[.slice A fas.length c, .int .i64 n] w (Ret fun v w' => ∃ Ad cd, v = .agg #[.slice Ad (fateF fas n).1.length cd, .int .i64 (fateF fas n).2.1, .int .i64 (fateF fas n).2.2] ∧ Sl w' w'.heap.size 1 Ad (fateF fas n).1.length (ins (fateF fas n).1) ∧ Ext w w') := by
  refine calls_of Try.func15 rfl (Nat.le_of_ble_eq_true rfl) (by kernel_rfl) ?_
  refine wCut [(0, .slice A fas.length c), (1, .int .i64 n)] ⟨rfl, rfl, trivial⟩ fun g => ?_
  refine wSeq ?_
  refine wReg ?_
  refine sTo (aNew (mAlloc ti25)) ?_
  rintro _ w4 ⟨b4, rfl, hge4, hB4, he4⟩
  refine sNil ?_
  refine wSeq ?_
  refine wSeq ?_
  refine wReg ?_
  refine sRun (xMvI rfl) ?_
  refine sSplit (xLss rfl rfl) (fun h7 => ?_) (fun h7 => ?_)
  · refine sRun (xMvB rfl) ?_
    refine sNo rfl ?_
    refine sNo rfl ?_
    refine sNo rfl ?_
    refine sNo rfl ?_
    refine sRun (xPkTB rfl rfl) ?_
    refine sNil ?_
    refine wIfT rfl ?_
    refine wSeq ?_
    refine wReg ?_
    refine sTo (aRow (bs15_14 rfl)) ?_
    rintro _ w14 ⟨b14, rfl, hge14, hB14, he14⟩
    refine sRun (bd15_15 rfl) ?_
    refine sStS ti25 rfl rfl rfl (by simp [Value.oneCell']) (hB4.ext he14) rfl ?_
    intro wz hBz hCz
    have hez : Ext w wz := Chg.ext (he4.trans he14) hCz hge4
    have hB14z := hB14.chg hCz (hB14.ne (hB4.ext he14) (by decide))
    refine sNil ?_
    refine wRet ?_
    refine resC (P := Try.prog) (fn := Try.f15) rfl Try.underlying25 rfl ti25 rfl rfl hBz ?_
    refine ⟨some ⟨b14, 0, none⟩, 1, ?_, ?_, hez⟩
    · unfold fateF; rw [if_neg (by omega)]; rfl
    · unfold fateF; rw [if_neg (by omega)]; exact hB14z.sl (n := 1) (size := 1) rfl
  · refine sRun (xMvB rfl) ?_
    refine sGo rfl ?_
    refine sRun (xMvI rfl) ?_
    refine sGo rfl ?_
    refine sRun (xMvS rfl) ?_
    refine sGo rfl ?_
    refine sRun (xLen Try.underlying26 rfl) ?_
    refine sGo rfl ?_
    refine sSplit (xGeq rfl rfl) (fun h12 => ?_) (fun h12 => ?_)
    · refine sRun (xPkFB rfl rfl) ?_
      refine sNil ?_
      refine wIfT rfl ?_
      refine wSeq ?_
      refine wReg ?_
      refine sTo (aRow (bs15_14 rfl)) ?_
      rintro _ w14 ⟨b14, rfl, hge14, hB14, he14⟩
      refine sRun (bd15_15 rfl) ?_
      refine sStS ti25 rfl rfl rfl (by simp [Value.oneCell']) (hB4.ext he14) rfl ?_
      intro wz hBz hCz
      have hez : Ext w wz := Chg.ext (he4.trans he14) hCz hge4
      have hB14z := hB14.chg hCz (hB14.ne (hB4.ext he14) (by decide))
      refine sNil ?_
      refine wRet ?_
      refine resC (P := Try.prog) (fn := Try.f15) rfl Try.underlying25 rfl ti25 rfl rfl hBz ?_
      refine ⟨some ⟨b14, 0, none⟩, 1, ?_, ?_, hez⟩
      · unfold fateF; rw [if_neg (by omega)]; rfl
      · unfold fateF; rw [if_neg (by omega)]; exact hB14z.sl (n := 1) (size := 1) rfl
    · obtain ⟨fa, hfa⟩ : ∃ fa, fas[n.toNat]? = some fa := ⟨fas[n.toNat]'(by omega), List.getElem?_eq_getElem (by omega)⟩
      obtain ⟨b, o, Ad, cd, rfl, hb, hc0, hc1, hc2, hsl⟩ := ha.2 n.toNat fa hfa
      have hdl : fa.1.length ≤ 17592186044416 := hdel n.toNat fa hfa
      refine sRun (xPkFB rfl rfl) ?_
      refine sNil ?_
      refine wIfF rfl ?_
      refine wSkip ?_
      refine wSeq ?_
      refine wReg ?_
      refine sRun (xMvS rfl) ?_
      refine sRun (xMvI rfl) ?_
      refine sRun (xIdx n.toNat Try.underlying26 ti25 rfl rfl (by omega) (by omega)) ?_
      refine sRun (xLoadS [.slice Ad fa.1.length cd, .int .i64 fa.2.1, .int .i64 fa.2.2] Try.underlying25 rfl ti25 rfl rfl (cells3 (he4.cellS hc0) (he4.cellS hc1) (he4.cellS hc2))) ?_
      refine sTo (aNew (mAlloc ti25)) ?_
      rintro _ w5 ⟨b5, rfl, hge5, hB5, he5⟩
      refine sStS ti25 rfl rfl rfl (by simp [Value.oneCell']) hB5 rfl ?_
      intro wx hBx hCx
      have hex : Ext w4 wx := Chg.ext he5 hCx hge5
      refine sNil ?_
      refine wSeq ?_
      refine wReg ?_
      refine sRun (xFld0 Try.underlying25 rfl rfl ti23 (by decide) rfl) ?_
      refine sRun (xLoad Try.underlying23 rfl rfl (hBx.cell (i := 0) rfl)) ?_
      refine sCall (eCall cal23 rfl) (clone3 Ad fa.1.length cd (ins fa.1) wx ((hsl.ext (he4.trans hex)).up (he4.trans hex).le) (ins_one _) (by omega)) ?_
      rintro _ w22 ⟨A22, c22, rfl, ho22, he22⟩
      refine sRun (xFld0 Try.underlying25 rfl rfl ti23 (by decide) rfl) ?_
      refine sSt1 ti23 rfl rfl rfl (hBx.ext he22) (Nat.le_of_ble_eq_true rfl) ?_
      intro wy hBy0 hCy
      have hBy : Blk wy b5 25 #[.slice A22 fa.1.length c22, .int .i64 fa.2.1, .int .i64 fa.2.2] := hBy0
      have hey : Ext w4 wy := Chg.ext (hex.trans he22) hCy hge5
      have hoy := ho22.keptB hCy (ho22.apartB (hBx.ext he22) (by decide))
      refine sNil ?_
      refine wSeq ?_
      refine wReg ?_
      refine sRun (xLoadS [.slice A22 fa.1.length c22, .int .i64 fa.2.1, .int .i64 fa.2.2] Try.underlying25 rfl ti25 rfl rfl hBy.cells) ?_
      refine sStS ti25 rfl rfl rfl (by simp [Value.oneCell']) (hB4.ext hey) rfl ?_
      intro wz hBz hCz
      have hez : Ext w wz := Chg.ext (he4.trans hey) hCz hge4
      have hoz := hoy.keptB hCz (hoy.apartB (hB4.ext hey) (by decide))
      refine sNil ?_
      refine wRet ?_
      refine resC (P := Try.prog) (fn := Try.f15) rfl Try.underlying25 rfl ti25 rfl rfl hBz ?_
      refine ⟨A22, c22, ?_, ?_, hez⟩
      · unfold fateF; rw [if_pos ⟨by omega, by omega⟩, List.getD_eq_getElem?_getD, hfa]; rfl
      · unfold fateF; rw [if_pos ⟨by omega, by omega⟩, List.getD_eq_getElem?_getD, hfa]; exact hoz.sl

theorem bs9_5 {ρ : Operand → Value} {w : World} {d : Option Nat} {ty : TypeId} {pos : String} {af : Array Edge} {g : Option (Nat × Bool)} {x0 : Int} {o0 : Operand} (h0 : ρ o0 = .int .u8 x0) :
    (execOp ρ ⟨d, .buildSlice 27 1 #[(0, o0)], ty, pos, af, g⟩).run Try.prog w = .ok (.value (.slice (some ⟨w.heap.size, 0, none⟩) 1 1)) (w.alloc (.cells #[.int .u8 x0] 5)) := by
  have e : (Instr.buildSlice 27 1 #[(0, .int .u8 x0)]).run Try.prog w = .ok (.slice (some ⟨w.heap.size, 0, none⟩) 1 1) (w.alloc (.cells #[.int .u8 x0] 5)) := by kernel_rfl
  simp [execOp, h0, e]
theorem awake_spec (w : World) : Calls Try.prog 9 #[] w (Ret fun v w' => v = .bool true ∧ Ext w w') := by
  refine calls_of Try.func9 rfl (Nat.le_of_ble_eq_true rfl) (by kernel_rfl) ?_
  refine wSeq ?_
  refine wReg ?_
  refine sRun (xAsB rfl) ?_
  refine sNil ?_
  refine wSeq ?_
  refine wReg ?_
  refine sCall (eCall cal15 rfl) (fateOf_spec none 0 [] 5 w FaR.nil (by decide) (fun k fa h => by cases h)) ?_
  rintro _ w4 ⟨Ad, cd, rfl, hd4, he4⟩
  refine sTo (aRow (bs9_5 rfl)) ?_
  rintro _ w5 ⟨b5, rfl, hge5, hB5, he5⟩
  refine sCall (eCall cal12 rfl) (send_spec none Ad (some ⟨b5, 0, none⟩) 0 cd 1 [] [1] [7] 0 0 3 w5 FlR.nil ((hd4.ext he5).up he5.le) (hB5.sl (n := 1) (size := 1) rfl) (by decide) (fun i d b h => by cases h) (by decide) (by decide) (by decide)) ?_
  rintro _ w6 ⟨A6, n6, c6, rfl, hf6, he6⟩
  have hq : sendF [] [1] 0 0 [7] 3 = [(4, [7])] := by decide
  rw [hq] at hf6
  obtain rfl : n6 = 1 := hf6.1
  refine sRun (xAsS rfl) ?_
  refine sNil ?_
  refine wSeq ?_
  refine wReg ?_
  refine sRun (xMvS rfl) ?_
  refine sCall (eCall cal17 rfl) (arrive_spec 20 sort20 A6 c6 [(4, [7])] 4 w6 hf6 (by decide) (by decide) (fun i d b h => by match i with | 0 => simp at h; rw [← h.2]; decide | n + 1 => simp at h)) ?_
  rintro _ w9 ⟨A9, n9, c9, Ar, nr, cr, rfl, hb9, hf9, he9⟩
  have hq1 : (arrF [(4, [7])] 4).map (·.2) = [[7]] := by decide
  have hq2 : stayF [(4, [7])] 4 = [] := by decide
  rw [hq1] at hb9
  rw [hq2] at hf9
  obtain rfl : n9 = 1 := hb9.1
  obtain rfl : nr = 0 := hf9.1
  obtain ⟨b, o, d, bd, A1, c1, rfl, hb, hfk, hc0, hc1, hsl⟩ := (hf6.ext he9).at (k := 0) (by decide)
  obtain ⟨rfl, rfl⟩ : 4 = d ∧ [7] = bd := by simpa using hfk
  obtain ⟨b', o', bs', A2, c2, rfl, hb', hfk', hc', hsl'⟩ := hb9.at (k := 0) (by decide)
  obtain rfl : [7] = bs' := by simpa using hfk'
  obtain ⟨b3, o3, v3, rfl, hb3, hv3, hc3⟩ := Sl.at1 hsl' (k := 0) (by decide)
  obtain rfl : Value.int .u8 7 = v3 := by simpa using hv3
  refine sRun xMove ?_
  refine sRun (xExtract rfl rfl) ?_
  refine sRun (xExtract rfl rfl) ?_
  refine sRun (xAsS rfl) ?_
  refine sRun (xAsS rfl) ?_
  refine sNil ?_
  refine wSeq ?_
  refine wReg ?_
  refine sRun (xMvS rfl) ?_
  refine sRun (xLen Try.underlying22 rfl) ?_
  refine sRun (xEqlT rfl rfl (by omega)) ?_
  refine sRun (xMvB rfl) ?_
  refine sGo rfl ?_
  refine sRun (xMvS rfl) ?_
  refine sGo rfl ?_
  refine sRun (xIdx 0 Try.underlying22 ti37 rfl rfl rfl (by decide)) ?_
  refine sGo rfl ?_
  refine sRun (xFld0 Try.underlying37 rfl rfl ti3 (by decide) rfl) ?_
  refine sGo rfl ?_
  refine sRun (xLoad Try.underlying3 rfl rfl hc0) ?_
  refine sGo rfl ?_
  refine sRun (xEqlT rfl rfl (by omega)) ?_
  refine sRun (xPkTB rfl rfl) ?_
  refine sRun (xMvB rfl) ?_
  refine sGo rfl ?_
  refine sRun (xMvS rfl) ?_
  refine sGo rfl ?_
  refine sRun (xLen Try.underlying39 rfl) ?_
  refine sGo rfl ?_
  refine sRun (xEqlT rfl rfl (by omega)) ?_
  refine sRun (xPkTB rfl rfl) ?_
  refine sRun (xMvB rfl) ?_
  refine sGo rfl ?_
  refine sRun (xMvS rfl) ?_
  refine sGo rfl ?_
  refine sRun (xIdx1 0 Try.underlying39 ti27 rfl rfl rfl (by decide)) ?_
  refine sGo rfl ?_
  refine sRun (xLoad Try.underlying27 rfl rfl hc') ?_
  refine sGo rfl ?_
  refine sRun (xLen Try.underlying27 rfl) ?_
  refine sGo rfl ?_
  refine sRun (xEqlT rfl rfl rfl) ?_
  refine sRun (xPkTB rfl rfl) ?_
  refine sRun (xMvB rfl) ?_
  refine sGo rfl ?_
  refine sRun (xMvS rfl) ?_
  refine sGo rfl ?_
  refine sRun (xIdx1 0 Try.underlying39 ti27 rfl rfl rfl (by decide)) ?_
  refine sGo rfl ?_
  refine sRun (xLoad Try.underlying27 rfl rfl hc') ?_
  refine sGo rfl ?_
  refine sRun (xIdx1 0 Try.underlying27 ti5 rfl rfl rfl (by decide)) ?_
  refine sGo rfl ?_
  refine sRun (xLoad Try.underlying5 rfl rfl hc3) ?_
  refine sGo rfl ?_
  refine sRun (xEqlT rfl rfl (by omega)) ?_
  refine sRun (xPkTB rfl rfl) ?_
  refine sRun (xMvB rfl) ?_
  refine sGo rfl ?_
  refine sRun (xMvS rfl) ?_
  refine sGo rfl ?_
  refine sRun (xLen Try.underlying22 rfl) ?_
  refine sGo rfl ?_
  refine sRun (xEqlT rfl rfl (by omega)) ?_
  refine sRun (xPkTB rfl rfl) ?_
  refine sRun (xAsB rfl) ?_
  refine sNil ?_
  refine wRet ?_
  refine res1 (P := Try.prog) (fn := Try.f9) rfl ?_
  exact ⟨rfl, ((he4.trans he5).trans he6).trans he9⟩
theorem bs7_11 {ρ : Operand → Value} {w : World} {d : Option Nat} {ty : TypeId} {pos : String} {af : Array Edge} {g : Option (Nat × Bool)} {x0 : Int} {o0 : Operand} (h0 : ρ o0 = .int .i64 x0) :
    (execOp ρ ⟨d, .buildSlice 23 1 #[(0, o0)], ty, pos, af, g⟩).run Try.prog w = .ok (.value (.slice (some ⟨w.heap.size, 0, none⟩) 1 1)) (w.alloc (.cells #[.int .i64 x0] 3)) := by
  have e : (Instr.buildSlice 23 1 #[(0, .int .i64 x0)]).run Try.prog w = .ok (.slice (some ⟨w.heap.size, 0, none⟩) 1 1) (w.alloc (.cells #[.int .i64 x0] 3)) := by kernel_rfl
  simp [execOp, h0, e]
theorem damages_walk (Ab Ad : Option Addr) (nd cb cd : Nat) (bs : List Int) (at_ mask : Int) (w : World) (hb0 : Sl w w.heap.size 1 Ab bs.length (bys bs)) (hby : Byte bs) (hat : -9223372036854775808 ≤ at_ ∧ at_ ≤ 9223372036854775807) (hlb : bs.length ≤ 9223372036854775807) :
    Calls Try.prog 7 #[.slice Ab bs.length cb, .agg #[.slice Ad nd cd, .int .i64 at_, .int .i64 mask]] w (Ret fun v w' => v = .bool true ∧ Ext w w') := by
  refine calls_of Try.func7 rfl (Nat.le_of_ble_eq_true rfl) (by kernel_rfl) ?_
  refine wCut [(0, .slice Ab bs.length cb), (1, .agg #[.slice Ad nd cd, .int .i64 at_, .int .i64 mask])] ⟨rfl, rfl, trivial⟩ fun g => ?_
  refine wSeq ?_
  refine wReg ?_
  refine sTo (aNew (mBox rfl)) ?_
  rintro _ w3 ⟨b3, rfl, hge3, hB3, he3⟩
  refine sRun (xAsB rfl) ?_
  refine sNil ?_
  refine wSeq ?_
  refine wSeq ?_
  refine wReg ?_
  refine sRun (xMvS rfl) ?_
  refine sRun (xLen Try.underlying27 rfl) ?_
  refine sSplit (xGtr rfl rfl) (fun h9 => ?_) (fun h9 => ?_)
  · refine sNil ?_
    refine wIfT rfl ?_
    refine wSeq ?_
    refine wReg ?_
    refine sCall (eCall cal9 rfl) (awake_spec _) ?_
    rintro _ w10 ⟨rfl, he10⟩
    refine sRun (xAsB rfl) ?_
    refine sNil ?_
    refine wRet ?_
    refine res1 (P := Try.prog) (fn := Try.f7) rfl ?_
    exact ⟨rfl, he3.trans he10⟩
  · refine sNil ?_
    refine wIfF rfl ?_
    refine wSkip ?_
    refine wSeq ?_
    refine wReg ?_
    refine sTo (aRow (bs7_11 rfl)) ?_
    rintro _ w11 ⟨b11, rfl, hge11, hB11, he11⟩
    refine sRun (xFld0 Try.underlying25 rfl rfl ti23 (by decide) rfl) ?_
    refine sSt1 ti23 rfl rfl rfl (hB3.ext he11) (Nat.le_of_ble_eq_true rfl) ?_
    intro wx hBx0 hCx
    have hBx : Blk wx b3 25 #[.slice (some ⟨b11, 0, none⟩) 1 1, .int .i64 at_, .int .i64 mask] := hBx0
    have hex : Ext w wx := Chg.ext (he3.trans he11) hCx hge3
    have hB11x := hB11.chg hCx (hB11.ne (hB3.ext he11) (by decide))
    refine sNil ?_
    refine wSeq ?_
    refine wReg ?_
    refine sRun (xLoadS [.slice (some ⟨b11, 0, none⟩) 1 1, .int .i64 at_, .int .i64 mask] Try.underlying25 rfl ti25 rfl rfl hBx.cells) ?_
    refine sRun (xMvS rfl) ?_
    refine sCall (eCall cal12 rfl) (send_spec none (some ⟨b11, 0, none⟩) Ab 0 1 cb [] [1] bs at_ mask 0 wx FlR.nil (hB11x.sl (n := 1) (size := 1) rfl) ((hb0.ext hex).up hex.le) (by decide) (fun i d b h => by cases h) (by omega) (by decide) (by decide)) ?_
    rintro _ w15 ⟨A15, n15, c15, rfl, hf15, he15⟩
    have hq : sendF [] [1] at_ mask bs 0 = [(0 + clampD 1, hit bs at_ mask)] := by simp [sendF]
    rw [hq] at hf15
    obtain rfl : n15 = 1 := hf15.1
    obtain ⟨b, o, d, bd, A1, c1, rfl, hb, hfk, hc0, hc1, hsl⟩ := hf15.at (k := 0) (by decide)
    obtain ⟨hd, rfl⟩ : 0 + clampD 1 = d ∧ hit bs at_ mask = bd := by simpa using hfk
    have hhl := hit_len bs at_ mask
    refine sRun (xAsS rfl) ?_
    refine sNil ?_
    refine wSeq ?_
    refine wSeq ?_
    refine wReg ?_
    refine sRun (xMvS rfl) ?_
    refine sRun (xLen Try.underlying22 rfl) ?_
    refine sRun (xNeqF rfl rfl (by omega)) ?_
    refine sRun (xMvB rfl) ?_
    refine sGo rfl ?_
    refine sRun (xMvS rfl) ?_
    refine sGo rfl ?_
    refine sRun (xIdx 0 Try.underlying22 ti37 rfl rfl rfl (by decide)) ?_
    refine sGo rfl ?_
    refine sRun (xFld (k := 1) Try.underlying37 rfl rfl ti27 (by decide) rfl) ?_
    refine sGo rfl ?_
    refine sRun (xLoad Try.underlying27 rfl rfl hc1) ?_
    refine sGo rfl ?_
    refine sRun (xLen Try.underlying27 rfl) ?_
    refine sGo rfl ?_
    refine sRun (xMvS rfl) ?_
    refine sGo rfl ?_
    refine sRun (xLen Try.underlying27 rfl) ?_
    refine sGo rfl ?_
    refine sRun (xNeqF rfl rfl (by rw [hhl])) ?_
    refine sRun (xPkFB rfl rfl) ?_
    refine sNil ?_
    refine wIfF rfl ?_
    refine wSkip ?_
    refine wSeq ?_
    refine wSeq ?_
    refine wReg ?_
    refine sRun (xAsI rfl) ?_
    refine sNil ?_
    refine wBlock ?_
    refine wLoopG (fun n f w => ∃ i, n = bs.length - i ∧ i ≤ bs.length ∧ Has f [(5, .slice (some ⟨b, o, none⟩) 1 c15), (0, .slice Ab bs.length cb), (6, .int .i64 (i : Nat)), (3, .pointer (some ⟨b3, 0, none⟩))] ∧ Ext w15 w) (bs.length) ⟨0, rfl, Nat.zero_le _, ⟨rfl, rfl, rfl, rfl, trivial⟩, Ext.refl _⟩ ?_
    rintro n f w2 ⟨i, rfl, hi, hf0, hx⟩
    obtain ⟨g, rfl⟩ := has_updL _ _ hf0
    clear hf0
    refine wSeq ?_
    refine wSeq ?_
    refine wReg ?_
    refine sRun (xMvI rfl) ?_
    refine sRun (xMvS rfl) ?_
    refine sRun (xLen Try.underlying27 rfl) ?_
    refine sSplit (xLss rfl rfl) (fun h32 => ?_) (fun h32 => ?_)
    · obtain ⟨b5, o5, v5, rfl, hb5, hv5, hc5⟩ := Sl.at1 (hsl.ext hx) (k := i) (by rw [hhl]; omega)
      obtain ⟨y, hy, rfl⟩ := bys_at hv5
      obtain ⟨b6, o6, v6, rfl, hb6, hv6, hc6⟩ := Sl.at1 (hb0.ext ((hex.trans he15).trans hx)) (k := i) (by omega)
      obtain ⟨x, hxx, rfl⟩ := bys_at hv6
      have hBw := (hBx.ext he15).ext hx
      refine sNil ?_
      refine wIfT rfl ?_
      refine wSkip ?_
      refine wSeq ?_
      refine wBlock ?_
      refine wSeq ?_
      refine wDraw (fun wS => Ext w2 wS) [] (by kernel_rfl) ?_
      refine hTake 0 rfl (by kernel_rfl) rfl (fun wS => (xMvS rfl)) (sl_of (Ext.refl w2).drew) ?_
      refine hTake 1 rfl (by kernel_rfl) rfl (fun wS => (xIdx 0 Try.underlying22 ti37 rfl rfl rfl (by decide))) (sl_of (Ext.refl w2).drew) ?_
      refine hTake 2 rfl (by kernel_rfl) rfl (fun wS => (xFld (k := 1) Try.underlying37 rfl rfl ti27 (by decide) rfl)) (sl_of (Ext.refl w2).drew) ?_
      refine hTakeS 3 rfl (by kernel_rfl) (by kernel_rfl) rfl (fun wS hS => (xLoad Try.underlying27 rfl rfl (hS.cellS (hx.cellS hc1)))) (sl_of (Ext.refl w2).drew) ?_
      refine hTake 4 rfl (by kernel_rfl) rfl (fun wS => (xMvI rfl)) (sl_of (Ext.refl w2).drew) ?_
      refine hTake 5 rfl (by kernel_rfl) rfl (fun wS => (xIdx1 i Try.underlying27 ti5 rfl rfl (by omega) (by rw [hhl]; omega))) (sl_of (Ext.refl w2).drew) ?_
      refine hTakeS 6 rfl (by kernel_rfl) (by kernel_rfl) rfl (fun wS hS => (xLoad Try.underlying5 rfl rfl (hS.cellS hc5))) (sl_of (Ext.refl w2).drew) ?_
      refine hTake 7 rfl (by kernel_rfl) rfl (fun wS => (xMvS rfl)) (sl_of (Ext.refl w2).drew) ?_
      refine hTake 8 rfl (by kernel_rfl) rfl (fun wS => (xMvI rfl)) (sl_of (Ext.refl w2).drew) ?_
      refine hTake 9 rfl (by kernel_rfl) rfl (fun wS => (xIdx1 i Try.underlying27 ti5 rfl rfl (by omega) (by omega))) (sl_of (Ext.refl w2).drew) ?_
      refine hTakeS 10 rfl (by kernel_rfl) (by kernel_rfl) rfl (fun wS hS => (xLoad Try.underlying5 rfl rfl (hS.cellS hc6))) (sl_of (Ext.refl w2).drew) ?_
      refine hSplit 11 rfl (by kernel_rfl) rfl (fun wS => (xNeqD rfl rfl)) (sl_of (Ext.refl w2).drew) (fun h46 => ?_) (fun h46 => ?_)
      · refine hTake 12 rfl (by kernel_rfl) rfl (fun wS => (xMvB rfl)) (sl_of (Ext.refl w2).drew) ?_
        refine hTake 13 rfl (by kernel_rfl) rfl (fun wS => (xFld (k := 2) Try.underlying25 rfl rfl ti3 (by decide) rfl)) (sl_of (Ext.refl w2).drew) ?_
        refine hTakeS 14 rfl (by kernel_rfl) (by kernel_rfl) rfl (fun wS hS => (xLoad Try.underlying3 rfl rfl ((hBw.ext hS).cell (i := 0 + 2) rfl))) (sl_of (Ext.refl w2).drew) ?_
        refine hTake 15 rfl (by kernel_rfl) rfl (fun wS => (xAnd rfl rfl)) (sl_of (Ext.refl w2).drew) ?_
        refine hSplit 16 rfl (by kernel_rfl) rfl (fun wS => (xEqlD rfl rfl)) (sl_of (Ext.refl w2).drew) (fun h51 => ?_) (fun h51 => ?_)
        · exact absurd (by rw [hit_zero hby h51] at hy; rw [hy] at hxx; injection hxx) h46
        · refine hTake 17 rfl (by kernel_rfl) rfl (fun wS => (xMvB rfl)) (sl_of (Ext.refl w2).drew) ?_
          refine hTake 18 rfl (by kernel_rfl) rfl (fun wS => (xMvI rfl)) (sl_of (Ext.refl w2).drew) ?_
          refine hTake 19 rfl (by kernel_rfl) rfl (fun wS => (xFld (k := 1) Try.underlying25 rfl rfl ti3 (by decide) rfl)) (sl_of (Ext.refl w2).drew) ?_
          refine hTakeS 20 rfl (by kernel_rfl) (by kernel_rfl) rfl (fun wS hS => (xLoad Try.underlying3 rfl rfl ((hBw.ext hS).cell (i := 0 + 1) rfl))) (sl_of (Ext.refl w2).drew) ?_
          refine hSplit 21 rfl (by kernel_rfl) rfl (fun wS => (xNeqD rfl rfl)) (sl_of (Ext.refl w2).drew) (fun h56 => ?_) (fun h56 => ?_)
          · refine hTake 22 rfl (by kernel_rfl) rfl (fun wS => (xMvB rfl)) (sl_of (Ext.refl w2).drew) ?_
            refine hTake 23 rfl (by kernel_rfl) rfl (fun wS => (xMvI rfl)) (sl_of (Ext.refl w2).drew) ?_
            refine hTake 24 rfl (by kernel_rfl) rfl (fun wS => (xSub64 rfl rfl (by omega) (by omega))) (sl_of (Ext.refl w2).drew) ?_
            refine hTake 25 rfl (by kernel_rfl) rfl (fun wS => (xFld (k := 1) Try.underlying25 rfl rfl ti3 (by decide) rfl)) (sl_of (Ext.refl w2).drew) ?_
            refine hTakeS 26 rfl (by kernel_rfl) (by kernel_rfl) rfl (fun wS hS => (xLoad Try.underlying3 rfl rfl ((hBw.ext hS).cell (i := 0 + 1) rfl))) (sl_of (Ext.refl w2).drew) ?_
            refine hSplit 27 rfl (by kernel_rfl) rfl (fun wS => (xNeqD rfl rfl)) (sl_of (Ext.refl w2).drew) (fun h62 => ?_) (fun h62 => ?_)
            · exact absurd (by rw [hit_ne (by omega) hat h56 h62] at hy; rw [hy] at hxx; injection hxx) h46
            · refine hTake 28 rfl (by kernel_rfl) rfl (fun wS => (xPkTB rfl rfl)) (sl_of (Ext.refl w2).drew) ?_
              refine hTake 29 rfl (by kernel_rfl) rfl (fun wS => (xPkFB rfl rfl)) (sl_of (Ext.refl w2).drew) ?_
              refine hTake 30 rfl (by kernel_rfl) rfl (fun wS => (xPkTB rfl rfl)) (sl_of (Ext.refl w2).drew) ?_
              refine hDone (by kernel_rfl) ?_
              refine wIfF rfl ?_
              refine wSkip ?_
              refine wReg ?_
              refine sRun (xMvI rfl) ?_
              refine sRun (xAdd64 rfl rfl (by omega) (by omega)) ?_
              refine sRun (xAsI rfl) ?_
              refine sNil ?_
              refine ⟨bs.length - (i + 1), by omega, i + 1, rfl, by omega, ⟨rfl, rfl, rfl, rfl, trivial⟩, hx.drew⟩
          · refine hTake 22 rfl (by kernel_rfl) rfl (fun wS => (xMvB rfl)) (sl_of (Ext.refl w2).drew) ?_
            refine hSkip 23 rfl (by kernel_rfl) rfl (sl_of (Ext.refl w2).drew) ?_
            refine hSkip 24 rfl (by kernel_rfl) rfl (sl_of (Ext.refl w2).drew) ?_
            refine hSkip 25 rfl (by kernel_rfl) rfl (sl_of (Ext.refl w2).drew) ?_
            refine hSkip 26 rfl (by kernel_rfl) rfl (sl_of (Ext.refl w2).drew) ?_
            refine hSkip 27 rfl (by kernel_rfl) rfl (sl_of (Ext.refl w2).drew) ?_
            refine hTake 28 rfl (by kernel_rfl) rfl (fun wS => (xPkFB rfl rfl)) (sl_of (Ext.refl w2).drew) ?_
            refine hTake 29 rfl (by kernel_rfl) rfl (fun wS => (xPkFB rfl rfl)) (sl_of (Ext.refl w2).drew) ?_
            refine hTake 30 rfl (by kernel_rfl) rfl (fun wS => (xPkTB rfl rfl)) (sl_of (Ext.refl w2).drew) ?_
            refine hDone (by kernel_rfl) ?_
            refine wIfF rfl ?_
            refine wSkip ?_
            refine wReg ?_
            refine sRun (xMvI rfl) ?_
            refine sRun (xAdd64 rfl rfl (by omega) (by omega)) ?_
            refine sRun (xAsI rfl) ?_
            refine sNil ?_
            refine ⟨bs.length - (i + 1), by omega, i + 1, rfl, by omega, ⟨rfl, rfl, rfl, rfl, trivial⟩, hx.drew⟩
      · refine hTake 12 rfl (by kernel_rfl) rfl (fun wS => (xMvB rfl)) (sl_of (Ext.refl w2).drew) ?_
        refine hSkip 13 rfl (by kernel_rfl) rfl (sl_of (Ext.refl w2).drew) ?_
        refine hSkip 14 rfl (by kernel_rfl) rfl (sl_of (Ext.refl w2).drew) ?_
        refine hSkip 15 rfl (by kernel_rfl) rfl (sl_of (Ext.refl w2).drew) ?_
        refine hSkip 16 rfl (by kernel_rfl) rfl (sl_of (Ext.refl w2).drew) ?_
        refine hSkip 17 rfl (by kernel_rfl) rfl (sl_of (Ext.refl w2).drew) ?_
        refine hSkip 18 rfl (by kernel_rfl) rfl (sl_of (Ext.refl w2).drew) ?_
        refine hSkip 19 rfl (by kernel_rfl) rfl (sl_of (Ext.refl w2).drew) ?_
        refine hSkip 20 rfl (by kernel_rfl) rfl (sl_of (Ext.refl w2).drew) ?_
        refine hSkip 21 rfl (by kernel_rfl) rfl (sl_of (Ext.refl w2).drew) ?_
        refine hSkip 22 rfl (by kernel_rfl) rfl (sl_of (Ext.refl w2).drew) ?_
        refine hSkip 23 rfl (by kernel_rfl) rfl (sl_of (Ext.refl w2).drew) ?_
        refine hSkip 24 rfl (by kernel_rfl) rfl (sl_of (Ext.refl w2).drew) ?_
        refine hSkip 25 rfl (by kernel_rfl) rfl (sl_of (Ext.refl w2).drew) ?_
        refine hSkip 26 rfl (by kernel_rfl) rfl (sl_of (Ext.refl w2).drew) ?_
        refine hSkip 27 rfl (by kernel_rfl) rfl (sl_of (Ext.refl w2).drew) ?_
        refine hSkip 28 rfl (by kernel_rfl) rfl (sl_of (Ext.refl w2).drew) ?_
        refine hSkip 29 rfl (by kernel_rfl) rfl (sl_of (Ext.refl w2).drew) ?_
        refine hTake 30 rfl (by kernel_rfl) rfl (fun wS => (xPkFB rfl rfl)) (sl_of (Ext.refl w2).drew) ?_
        refine hDone (by kernel_rfl) ?_
        refine wIfF rfl ?_
        refine wSkip ?_
        refine wReg ?_
        refine sRun (xMvI rfl) ?_
        refine sRun (xAdd64 rfl rfl (by omega) (by omega)) ?_
        refine sRun (xAsI rfl) ?_
        refine sNil ?_
        refine ⟨bs.length - (i + 1), by omega, i + 1, rfl, by omega, ⟨rfl, rfl, rfl, rfl, trivial⟩, hx.drew⟩
    · refine sNil ?_
      refine wIfF rfl ?_
      refine wExit ?_
      refine wSeq ?_
      refine wReg ?_
      refine sCall (eCall cal9 rfl) (awake_spec _) ?_
      rintro _ w66 ⟨rfl, he66⟩
      refine sRun (xAsB rfl) ?_
      refine sNil ?_
      refine wRet ?_
      refine res1 (P := Try.prog) (fn := Try.f7) rfl ?_
      exact ⟨rfl, ((hex.trans he15).trans hx).trans he66⟩

end Go.Proofs.Ytnppmdhgelfloaa
