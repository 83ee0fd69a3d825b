/- The contract of the reference Send; the walk of LinkSends. -/
import Derived.Test.YtnppmdhgelfloaaRS
set_option linter.unusedVariables false
namespace Go.Proofs.Ytnppmdhgelfloaa
open Go.RowKit Go.Fw

theorem cal8 : Callable Try.prog 8 := ⟨_, Try.func8, by kernel_rfl, by kernel_rfl⟩
theorem cal10 : Callable Try.prog 10 := ⟨_, Try.func10, by kernel_rfl, by kernel_rfl⟩
theorem cal11 : Callable Try.prog 11 := ⟨_, Try.func11, by kernel_rfl, by kernel_rfl⟩
theorem cal13 : Callable Try.prog 13 := ⟨_, Try.func13, by kernel_rfl, by kernel_rfl⟩
theorem cal14 : Callable Try.prog 14 := ⟨_, Try.func14, by kernel_rfl, by kernel_rfl⟩
theorem cal16 : Callable Try.prog 16 := ⟨_, Try.func16, by kernel_rfl, by kernel_rfl⟩
theorem cal22 : Callable Try.prog 22 := ⟨_, Try.func22, by kernel_rfl, by kernel_rfl⟩
theorem bs13_11 {ρ : Operand → Value} {w : World} {d : Option Nat} {ty : TypeId} {pos : String} {af : Array Edge} {g : Option (Nat × Bool)}    :
    (execOp ρ ⟨d, .buildSlice 22 0 #[], ty, pos, af, g⟩).run Try.prog w = .ok (.value (.slice (some ⟨w.heap.size, 0, none⟩) 0 0)) (w.alloc (.cells #[] 37)) := by
  have e : (Instr.buildSlice 22 0 #[]).run Try.prog w = .ok (.slice (some ⟨w.heap.size, 0, none⟩) 0 0) (w.alloc (.cells #[] 37)) := by kernel_rfl
  simp [execOp, e]
theorem bd13_38 {ρ : Operand → Value} {w : World} {d : Option Nat} {ty : TypeId} {pos : String} {af : Array Edge} {g : Option (Nat × Bool)} {x0 : Int} {x1A : Option Addr} {x1n x1c : Nat} {o0 : Operand} {o1 : Operand} (h0 : ρ o0 = .int .i64 x0) (h1 : ρ o1 = .slice x1A x1n x1c) : Yl Try.prog ρ (.build 37 #[(0, o0), (1, o1)]) d ty pos af g w (.agg #[.int .i64 x0, .slice x1A x1n x1c]) := by
  have e : (Instr.build 37 #[(0, .int .i64 x0), (1, .slice x1A x1n x1c)]).run Try.prog w = .ok (.agg #[.int .i64 x0, .slice x1A x1n x1c]) w := by kernel_rfl
  simp [Yl, execOp, h0, h1, e]
theorem bs13_39 {ρ : Operand → Value} {w : World} {d : Option Nat} {ty : TypeId} {pos : String} {af : Array Edge} {g : Option (Nat × Bool)} {x00_ : Int} {x01_A : Option Addr} {x01_n x01_c : Nat} {o0 : Operand} (h0 : ρ o0 = .agg #[.int .i64 x00_, .slice x01_A x01_n x01_c]) :
    (execOp ρ ⟨d, .buildSlice 22 1 #[(0, o0)], ty, pos, af, g⟩).run Try.prog w = .ok (.value (.slice (some ⟨w.heap.size, 0, none⟩) 1 1)) (w.alloc (.cells #[.int .i64 x00_, .slice x01_A x01_n x01_c] 37)) := by
  have e : (Instr.buildSlice 22 1 #[(0, .agg #[.int .i64 x00_, .slice x01_A x01_n x01_c])]).run Try.prog w = .ok (.slice (some ⟨w.heap.size, 0, none⟩) 1 1) (w.alloc (.cells #[.int .i64 x00_, .slice x01_A x01_n x01_c] 37)) := by kernel_rfl
  simp [execOp, h0, e]
set_option maxRecDepth 4000 in
theorem refSend_spec (A Ad Ab : Option Addr) (c cd cb : Nat) (fs : List Flight) (ds bs : List Int) (at_ mask now : Int) (w0 : World) (hf : FlR w0 w0.heap.size A fs.length fs) (hd : Sl w0 w0.heap.size 1 Ad ds.length (ins ds)) (hb0 : Sl w0 w0.heap.size 1 Ab bs.length (bys bs))
    (hfs : fs.length ≤ 1000000) (hbs : bs.length ≤ 1000000) (hds : ds.length ≤ 1000000000000000000) (hnow : -4611686018427387904 ≤ now ∧ now ≤ 4611686018427387904) (hat : -9223372036854775808 ≤ at_ ∧ at_ ≤ 9223372036854775807) :
    Calls Try.prog 13 #[.slice A fs.length c, .agg #[.slice Ad ds.length cd, .int .i64 at_, .int .i64 mask], .slice Ab bs.length cb, .int .i64 now] w0 (Ret fun v w' => ∃ A2 n2 c2, v = .slice A2 n2 c2 ∧ FlR w' w'.heap.size A2 n2 (sendF fs ds at_ mask bs now) ∧ Ext w0 w') := by
  obtain ⟨_, xs0, hfx, hflx⟩ := hf
  refine calls_of Try.func13 rfl (Nat.le_of_ble_eq_true rfl) (by kernel_rfl) ?_
  refine wCut [(0, .slice A fs.length c), (1, .agg #[.slice Ad ds.length cd, .int .i64 at_, .int .i64 mask]), (2, .slice Ab bs.length cb), (3, .int .i64 now)] ⟨rfl, rfl, rfl, rfl, trivial⟩ fun g => ?_
  refine wSeq ?_
  refine wReg ?_
  refine sTo (aNew (mBox rfl)) ?_
  rintro _ w5 ⟨b5, rfl, hge5, hB5, he5⟩
  refine sRun (xAsS rfl) ?_
  refine sNil ?_
  refine wSeq ?_
  refine wReg ?_
  refine sTo (aRow (bs13_11)) ?_
  rintro _ w11 ⟨b11, rfl, hge11, hB11, he11⟩
  refine sRun (xMvS rfl) ?_
  refine sTo (aAppend (w5.heap.size) (fs.length) Try.underlying22 ti37 rfl (by decide) rfl rfl (hB11.own (n := 0) (size := 2) hge11 (by decide) rfl) (hfx.ext (he5.trans he11)) hflx.one (by have := he11.le; omega) (by omega) (by omega) (by omega)) ?_
  rintro _ w13 ⟨A13, c13, rfl, ho13, hg13, hr13⟩
  have hx13 : Ext w5 w13 := grown_ext he11 hg13 (fun i hi => by simp [rowOf] at hi; omega)
  have ho13 : Own w13 w5.heap.size 37 2 A13 fs.length c13 xs0 := by simpa using ho13
  have hk13 : FlK w13 w0.heap.size w5.heap.size xs0 (sendF fs (ds.take 0) at_ mask bs now) := by simpa [sendF] using (hflx.ext (he5.trans hx13)).flk w5.heap.size
  refine sRun (xAsS rfl) ?_
  refine sNil ?_
  refine wSeq ?_
  refine wSeq ?_
  refine wReg ?_
  refine sRun (xAsI rfl) ?_
  refine sNil ?_
  refine wBlock ?_
  refine wLoopG (fun n f w => ∃ k m Ar cr xs, n = ds.length - k ∧ k ≤ ds.length ∧ k ≤ 8 ∧ m = fs.length + k ∧ Has f [(10, .int .i64 (k : Nat)), (9, .slice Ar m cr), (5, .pointer (some ⟨b5, 0, none⟩)), (2, .slice Ab bs.length cb), (3, .int .i64 now)] ∧
      Ext w5 w ∧ Own w w5.heap.size 37 2 Ar m cr xs ∧ FlK w w0.heap.size w5.heap.size xs (sendF fs (ds.take k) at_ mask bs now)) (ds.length) ⟨0, fs.length, A13, c13, xs0, rfl, Nat.zero_le _, Nat.zero_le _, rfl, ⟨rfl, rfl, rfl, rfl, rfl, trivial⟩, hx13, ho13, hk13⟩ ?_
  rintro n f w ⟨k, m, Ar, cr, xs, rfl, hk, hk8, hm, hf0, hx, ho, hfl⟩
  obtain ⟨g, rfl⟩ := has_updL _ _ hf0
  clear hf0
  refine wSeq ?_
  refine wSeq ?_
  refine wReg ?_
  refine sRun (xMvI rfl) ?_
  refine sRun (xFld0 Try.underlying25 rfl rfl ti23 (by decide) rfl) ?_
  refine sRun (xLoad Try.underlying23 rfl rfl ((hB5.ext hx).cell (i := 0) rfl)) ?_
  refine sRun (xLen Try.underlying23 rfl) ?_
  refine sSplit (xLss rfl rfl) (fun h18 => ?_) (fun h18 => ?_)
  · refine sRun (xMvB rfl) ?_
    refine sGo rfl ?_
    refine sRun (xMvI rfl) ?_
    refine sGo rfl ?_
    refine sSplit (xLss rfl rfl) (fun h21 => ?_) (fun h21 => ?_)
    · obtain ⟨bb, o, v, rfl, hb, hv, hcd⟩ := Sl.at1 (hd.ext (he5.trans hx)) (k := k) (by omega)
      obtain ⟨d, hdk, rfl⟩ := ins_at hv
      have hB := hB5.ext hx
      have hcl := clampD_bd d
      refine sRun (xPkTB rfl rfl) ?_
      refine sNil ?_
      refine wIfT rfl ?_
      refine wSkip ?_
      refine wSeq ?_
      refine wBlock ?_
      refine wDraw (fun wS => Blk wS b5 25 #[.slice (some ⟨bb, o, none⟩) ds.length cd, .int .i64 at_, .int .i64 mask] ∧ wS.cell? ⟨bb, o + k, none⟩ = some (.int .i64 d)) [] (by kernel_rfl) ?_
      refine hTake 0 rfl (by kernel_rfl) rfl (fun wS => (xMvS rfl)) (sl_of ⟨hB, hcd⟩) ?_
      refine hTake 1 rfl (by kernel_rfl) rfl (fun wS => (xMvI rfl)) (sl_of ⟨hB, hcd⟩) ?_
      refine hTake 2 rfl (by kernel_rfl) rfl (fun wS => (xFld0 Try.underlying25 rfl rfl ti23 (by decide) rfl)) (sl_of ⟨hB, hcd⟩) ?_
      refine hTakeS 3 rfl (by kernel_rfl) (by kernel_rfl) rfl (fun wS hS => (xLoad Try.underlying23 rfl rfl (hS.1.cell (i := 0) rfl))) (sl_of ⟨hB, hcd⟩) ?_
      refine hTake 4 rfl (by kernel_rfl) rfl (fun wS => (xMvI rfl)) (sl_of ⟨hB, hcd⟩) ?_
      refine hTake 5 rfl (by kernel_rfl) rfl (fun wS => (xIdx1 k Try.underlying23 ti3 rfl rfl (by omega) (by omega))) (sl_of ⟨hB, hcd⟩) ?_
      refine hTakeS 6 rfl (by kernel_rfl) (by kernel_rfl) rfl (fun wS hS => (xLoad Try.underlying3 rfl rfl hS.2)) (sl_of ⟨hB, hcd⟩) ?_
      refine hTake 7 rfl (by kernel_rfl) rfl (fun wS => (xMax rfl rfl)) (sl_of ⟨hB, hcd⟩) ?_
      refine hTake 8 rfl (by kernel_rfl) rfl (fun wS => (xMin rfl rfl)) (sl_of ⟨hB, hcd⟩) ?_
      refine hTake 9 rfl (by kernel_rfl) rfl (fun wS => (xAdd64 (b := clampD d) rfl rfl (by omega) (by omega))) (sl_of ⟨hB, hcd⟩) ?_
      refine hTake 10 rfl (by kernel_rfl) rfl (fun wS => (xMvS rfl)) (sl_of ⟨hB, hcd⟩) ?_
      refine hTakeS 11 rfl (by kernel_rfl) (by kernel_rfl) rfl (fun wS hS => (xLoadS [.slice (some ⟨bb, o, none⟩) ds.length cd, .int .i64 at_, .int .i64 mask] Try.underlying25 rfl ti25 rfl rfl hS.1.cells)) (sl_of ⟨hB, hcd⟩) ?_
      refine hOne 12 (by kernel_rfl) (oCall rfl rfl (eCall cal22 rfl) (damaged_spec Ab _ ds.length cb cd bs at_ mask w.drew ((hb0.ext (he5.trans (hx.drew))).up (he5.trans (hx.drew)).le) hat hbs) ?_)
      rintro _ w37 ⟨A37, c37, rfl, ho37, he37⟩
      have hx37 : Ext w w37 := (Ext.refl w).drew.trans he37
      refine ⟨(sl_of ⟨hB.ext hx37, hx37.cellS hcd⟩), ?_⟩
      refine hTake 13 rfl (by kernel_rfl) rfl (fun wS => (bd13_38 rfl rfl)) (sl_of ⟨hB.ext hx37, hx37.cellS hcd⟩) ?_
      refine hOne 14 (by kernel_rfl) (oTo rfl rfl (aRow (bs13_39 rfl)) ?_)
      rintro _ w39 ⟨b39, rfl, hge39, hB39, he39⟩
      refine ⟨(sl_of ⟨hB.ext (hx37.trans he39), (hx37.trans he39).cellS hcd⟩), ?_⟩
      refine hOne 15 (by kernel_rfl) (oTo rfl rfl (aAppend (w5.heap.size) (m + 1) Try.underlying22 ti37 rfl (by decide) rfl rfl (ho.ext (hx37.trans he39)) (hB39.sl (n := 1) (size := 2) rfl) (by simp [Value.oneCell']) (by have := (hx.trans (hx37.trans he39)).le; omega) (by omega) (by omega) (by omega)) ?_)
      rintro _ w40 ⟨A40, c40, rfl, ho40, hg40, hr40⟩
      refine ⟨(sl_of ⟨(hB.ext (hx37.trans he39)).chgr hg40 ((ho.ext (hx37.trans he39)).apartB (hB.ext (hx37.trans he39)) (by decide)), (by
        refine World.grownBy.cell hg40 ((hx37.trans he39).cellS hcd) (fun e => ?_)
        have h1 := ho.row bb e.symm
        have h2 := he5.le
        omega)⟩), ?_⟩
      refine hTake 16 rfl (by kernel_rfl) rfl (fun wS => (xAsS rfl)) (sl_of ⟨(hB.ext (hx37.trans he39)).chgr hg40 ((ho.ext (hx37.trans he39)).apartB (hB.ext (hx37.trans he39)) (by decide)), (by
        refine World.grownBy.cell hg40 ((hx37.trans he39).cellS hcd) (fun e => ?_)
        have h1 := ho.row bb e.symm
        have h2 := he5.le
        omega)⟩) ?_
      refine hDone (by kernel_rfl) ?_
      refine wReg ?_
      refine sRun (xMvI rfl) ?_
      refine sRun (xAdd64 rfl rfl (by omega) (by omega)) ?_
      refine sRun (xAsI rfl) ?_
      refine sNil ?_
      refine ⟨ds.length - (k + 1), by omega, k + 1, m + 1, A40, c40, _, rfl, by omega, by omega, by omega, ⟨rfl, rfl, rfl, rfl, rfl, trivial⟩, ?_, ho40, ?_⟩
      · exact grown_ext (hx.trans (hx37.trans he39)) hg40 (fun i hi => (ho.row i hi).1)
      · rw [sendF_snoc (by omega) hdk]
        rw [← hit_len bs at_ mask] at ho37 ⊢
        have ho37' := (ho37.mono (hx.drew).le).ext he39
        refine FlK.snoc ((hfl.ext (hx37.trans he39)).grown ((ho.ext (hx37.trans he39)).mono he5.le) (by decide) hg40) ?_
        exact ho37'.kept hg40 (ho37'.apart (ho.ext (hx37.trans he39)) (by decide))
    · refine sRun (xPkTB rfl rfl) ?_
      refine sNil ?_
      refine wIfF rfl ?_
      refine wExit ?_
      refine wSeq ?_
      refine wReg ?_
      refine sRun (xMvS rfl) ?_
      refine sRun (xAsS rfl) ?_
      refine sNil ?_
      refine wRet ?_
      refine res1 (P := Try.prog) (fn := Try.f13) rfl ?_
      refine ⟨Ar, m, cr, rfl, ?_, he5.trans hx⟩
      have hfin : sendF fs (ds.take k) at_ mask bs now = sendF fs ds at_ mask bs now := by
        unfold sendF
        rw [List.take_take]
        congr 2
        rw [Nat.min_eq_left (by omega)]
      rw [hfin] at hfl
      refine ⟨?_, xs, ho.sl, hfl.flx (he5.trans hx).le⟩
      have h1 := ho.len
      have h2 := hfl.1
      omega
  · refine sRun (xMvB rfl) ?_
    refine sNo rfl ?_
    refine sNo rfl ?_
    refine sRun (xPkFB rfl rfl) ?_
    refine sNil ?_
    refine wIfF rfl ?_
    refine wExit ?_
    refine wSeq ?_
    refine wReg ?_
    refine sRun (xMvS rfl) ?_
    refine sRun (xAsS rfl) ?_
    refine sNil ?_
    refine wRet ?_
    refine res1 (P := Try.prog) (fn := Try.f13) rfl ?_
    refine ⟨Ar, m, cr, rfl, ?_, he5.trans hx⟩
    have hfin : sendF fs (ds.take k) at_ mask bs now = sendF fs ds at_ mask bs now := by
      unfold sendF
      rw [List.take_take]
      congr 2
      rw [Nat.min_eq_right (by omega), List.take_of_length_le (by omega), List.take_of_length_le (by omega)]
    rw [hfin] at hfl
    refine ⟨?_, xs, ho.sl, hfl.flx (he5.trans hx).le⟩
    have h1 := ho.len
    have h2 := hfl.1
    omega


set_option maxRecDepth 4000 in
theorem sends_big (A Ad Aa Ab : Option Addr) (c cd ca cb : Nat) (fs : List Flight) (ds bs : List Int) (fas : List Fate) (at_ mask nn aa now : Int) (w0 : World) (hf : FlR w0 w0.heap.size A fs.length fs) (hd : Sl w0 w0.heap.size 1 Ad ds.length (ins ds)) (ha : FaR w0 w0.heap.size Aa fas.length fas) (hb0 : Sl w0 w0.heap.size 1 Ab bs.length (bys bs))
    (hfs : fs.length ≤ 4611686018427387904) (hds : ds.length ≤ 4611686018427387904) (hfa : fas.length ≤ 4611686018427387904) (hbs : bs.length ≤ 4611686018427387904) (hdel : ∀ (k : Nat) (fa : Fate), fas[k]? = some fa → fa.1.length ≤ 17592186044416) (hat : -9223372036854775808 ≤ at_ ∧ at_ ≤ 9223372036854775807) (hlg : lg fs = true) :
    Calls Try.prog 3 #[.slice A fs.length c, .agg #[.slice Ad ds.length cd, .int .i64 at_, .int .i64 mask], .slice Aa fas.length ca, .slice Ab bs.length cb, .int .i64 nn, .int .i64 aa, .int .i64 now] w0 (Ret fun v w' => v = .bool true ∧ Ext w0 w') := by
  refine calls_of Try.func3 rfl (Nat.le_of_ble_eq_true rfl) (by kernel_rfl) ?_
  refine wCut [(0, .slice A fs.length c), (1, .agg #[.slice Ad ds.length cd, .int .i64 at_, .int .i64 mask]), (2, .slice Aa fas.length ca), (3, .slice Ab bs.length cb), (4, .int .i64 nn), (5, .int .i64 aa), (6, .int .i64 now)] ⟨rfl, rfl, rfl, rfl, rfl, rfl, rfl, trivial⟩ fun g => ?_
  refine wSeq ?_
  refine wReg ?_
  refine sTo (aNew (mBox rfl)) ?_
  rintro _ w8 ⟨b8, rfl, hge8, hB8, he8⟩
  refine sRun (xAsB rfl) ?_
  refine sNil ?_
  refine wSeq ?_
  refine wSeq ?_
  refine wReg ?_
  refine sRun (xMvS rfl) ?_
  refine sCall (eCall cal8 rfl) (large_spec A c fs w8 (hf.ext he8 |>.up he8.le) (by omega)) ?_
  rintro _ w8 ⟨rfl, rfl⟩
  rw [hlg]
  refine sRun (xMvB rfl) ?_
  refine sNo rfl ?_
  refine sNo rfl ?_
  refine sNo rfl ?_
  refine sRun (xPkTB rfl rfl) ?_
  refine sRun (xMvB rfl) ?_
  refine sNo rfl ?_
  refine sNo rfl ?_
  refine sNo rfl ?_
  refine sNo rfl ?_
  refine sRun (xPkTB rfl rfl) ?_
  refine sRun (xMvB rfl) ?_
  refine sNo rfl ?_
  refine sNo rfl ?_
  refine sNo rfl ?_
  refine sRun (xPkTB rfl rfl) ?_
  refine sNil ?_
  refine wIfT rfl ?_
  refine wSeq ?_
  refine wReg ?_
  refine sCall (eCall cal9 rfl) (awake_spec _) ?_
  rintro _ w37 ⟨rfl, he37⟩
  refine sRun (xAsB rfl) ?_
  refine sNil ?_
  refine wRet ?_
  refine res1 (P := Try.prog) (fn := Try.f3) rfl ?_
  exact ⟨rfl, he8.trans he37⟩

theorem fate_len {fas : List Fate} (hdel : ∀ (k : Nat) (fa : Fate), fas[k]? = some fa → fa.1.length ≤ 17592186044416) (n : Int) : (fateF fas n).1.length ≤ 4611686018427387904 := by
  unfold fateF
  split
  · rw [List.getD_eq_getElem?_getD]
    cases h : fas[n.toNat]? with
    | none => simp
    | some fa => have := hdel _ fa h; simp only [Option.getD_some]; omega
  · simp

theorem bs3_50 {ρ : Operand → Value} {w : World} {d : Option Nat} {ty : TypeId} {pos : String} {af : Array Edge} {g : Option (Nat × Bool)} {x00_A : Option Addr} {x00_n x00_c : Nat} {x01_ : Int} {x02_ : Int} {x10_A : Option Addr} {x10_n x10_c : Nat} {x11_ : Int} {x12_ : Int} {o0 : Operand} {o1 : Operand} (h0 : ρ o0 = .agg #[.slice x00_A x00_n x00_c, .int .i64 x01_, .int .i64 x02_]) (h1 : ρ o1 = .agg #[.slice x10_A x10_n x10_c, .int .i64 x11_, .int .i64 x12_]) :
    (execOp ρ ⟨d, .buildSlice 26 2 #[(0, o0), (1, o1)], ty, pos, af, g⟩).run Try.prog w = .ok (.value (.slice (some ⟨w.heap.size, 0, none⟩) 2 2)) (w.alloc (.cells #[.slice x00_A x00_n x00_c, .int .i64 x01_, .int .i64 x02_, .slice x10_A x10_n x10_c, .int .i64 x11_, .int .i64 x12_] 25)) := by
  have e : (Instr.buildSlice 26 2 #[(0, .agg #[.slice x00_A x00_n x00_c, .int .i64 x01_, .int .i64 x02_]), (1, .agg #[.slice x10_A x10_n x10_c, .int .i64 x11_, .int .i64 x12_])]).run Try.prog w = .ok (.slice (some ⟨w.heap.size, 0, none⟩) 2 2) (w.alloc (.cells #[.slice x00_A x00_n x00_c, .int .i64 x01_, .int .i64 x02_, .slice x10_A x10_n x10_c, .int .i64 x11_, .int .i64 x12_] 25)) := by kernel_rfl
  simp [execOp, h0, h1, e]
set_option maxRecDepth 4000 in
theorem sends_small (A Ad Aa Ab : Option Addr) (c cd ca cb : Nat) (fs : List Flight) (ds bs : List Int) (fas : List Fate) (at_ mask nn aa now : Int) (w0 : World) (hf : FlR w0 w0.heap.size A fs.length fs) (hd : Sl w0 w0.heap.size 1 Ad ds.length (ins ds)) (ha : FaR w0 w0.heap.size Aa fas.length fas) (hb0 : Sl w0 w0.heap.size 1 Ab bs.length (bys bs))
    (hfs : fs.length ≤ 4611686018427387904) (hds : ds.length ≤ 4611686018427387904) (hfa : fas.length ≤ 4611686018427387904) (hbs : bs.length ≤ 4611686018427387904) (hdel : ∀ (k : Nat) (fa : Fate), fas[k]? = some fa → fa.1.length ≤ 17592186044416) (hat : -9223372036854775808 ≤ at_ ∧ at_ ≤ 9223372036854775807) (hlg : lg fs = false) :
    Calls Try.prog 3 #[.slice A fs.length c, .agg #[.slice Ad ds.length cd, .int .i64 at_, .int .i64 mask], .slice Aa fas.length ca, .slice Ab bs.length cb, .int .i64 nn, .int .i64 aa, .int .i64 now] w0 (Ret fun v w' => v = .bool true ∧ Ext w0 w') := by
  refine calls_of Try.func3 rfl (Nat.le_of_ble_eq_true rfl) (by kernel_rfl) ?_
  refine wCut [(0, .slice A fs.length c), (1, .agg #[.slice Ad ds.length cd, .int .i64 at_, .int .i64 mask]), (2, .slice Aa fas.length ca), (3, .slice Ab bs.length cb), (4, .int .i64 nn), (5, .int .i64 aa), (6, .int .i64 now)] ⟨rfl, rfl, rfl, rfl, rfl, rfl, rfl, trivial⟩ fun g => ?_
  refine wSeq ?_
  refine wReg ?_
  refine sTo (aNew (mBox rfl)) ?_
  rintro _ w8 ⟨b8, rfl, hge8, hB8, he8⟩
  refine sRun (xAsB rfl) ?_
  refine sNil ?_
  refine wSeq ?_
  refine wSeq ?_
  refine wReg ?_
  refine sRun (xMvS rfl) ?_
  refine sCall (eCall cal8 rfl) (large_spec A c fs w8 (hf.ext he8 |>.up he8.le) (by omega)) ?_
  rintro _ w8 ⟨rfl, rfl⟩
  rw [hlg]
  refine sRun (xMvB rfl) ?_
  refine sGo rfl ?_
  refine sRun (xMvS rfl) ?_
  refine sGo rfl ?_
  refine sRun (xLen Try.underlying27 rfl) ?_
  refine sGo rfl ?_
  refine sSplit (xGtr rfl rfl) (fun h24 => ?_) (fun h24 => ?_)
  · refine sRun (xPkFB rfl rfl) ?_
    refine sRun (xMvB rfl) ?_
    refine sNo rfl ?_
    refine sNo rfl ?_
    refine sNo rfl ?_
    refine sNo rfl ?_
    refine sRun (xPkTB rfl rfl) ?_
    refine sRun (xMvB rfl) ?_
    refine sNo rfl ?_
    refine sNo rfl ?_
    refine sNo rfl ?_
    refine sRun (xPkTB rfl rfl) ?_
    refine sNil ?_
    refine wIfT rfl ?_
    refine wSeq ?_
    refine wReg ?_
    refine sCall (eCall cal9 rfl) (awake_spec _) ?_
    rintro _ w37 ⟨rfl, he37⟩
    refine sRun (xAsB rfl) ?_
    refine sNil ?_
    refine wRet ?_
    refine res1 (P := Try.prog) (fn := Try.f3) rfl ?_
    exact ⟨rfl, he8.trans he37⟩
  · refine sRun (xPkFB rfl rfl) ?_
    refine sRun (xMvB rfl) ?_
    refine sGo rfl ?_
    refine sRun (xFld0 Try.underlying25 rfl rfl ti23 (by decide) rfl) ?_
    refine sGo rfl ?_
    refine sRun (xLoad Try.underlying23 rfl rfl (hB8.cell (i := 0) rfl)) ?_
    refine sGo rfl ?_
    refine sRun (xLen Try.underlying23 rfl) ?_
    refine sGo rfl ?_
    refine sSplit (xGtr rfl rfl) (fun h30 => ?_) (fun h30 => ?_)
    · refine sRun (xPkFB rfl rfl) ?_
      refine sRun (xMvB rfl) ?_
      refine sNo rfl ?_
      refine sNo rfl ?_
      refine sNo rfl ?_
      refine sRun (xPkTB rfl rfl) ?_
      refine sNil ?_
      refine wIfT rfl ?_
      refine wSeq ?_
      refine wReg ?_
      refine sCall (eCall cal9 rfl) (awake_spec _) ?_
      rintro _ w37 ⟨rfl, he37⟩
      refine sRun (xAsB rfl) ?_
      refine sNil ?_
      refine wRet ?_
      refine res1 (P := Try.prog) (fn := Try.f3) rfl ?_
      exact ⟨rfl, he8.trans he37⟩
    · refine sRun (xPkFB rfl rfl) ?_
      refine sRun (xMvB rfl) ?_
      refine sGo rfl ?_
      refine sRun (xMvS rfl) ?_
      refine sGo rfl ?_
      refine sRun (xLen Try.underlying26 rfl) ?_
      refine sGo rfl ?_
      refine sSplit (xGtr rfl rfl) (fun h35 => ?_) (fun h35 => ?_)
      · refine sRun (xPkFB rfl rfl) ?_
        refine sNil ?_
        refine wIfT rfl ?_
        refine wSeq ?_
        refine wReg ?_
        refine sCall (eCall cal9 rfl) (awake_spec _) ?_
        rintro _ w37 ⟨rfl, he37⟩
        refine sRun (xAsB rfl) ?_
        refine sNil ?_
        refine wRet ?_
        refine res1 (P := Try.prog) (fn := Try.f3) rfl ?_
        exact ⟨rfl, he8.trans he37⟩
      · refine sRun (xPkFB rfl rfl) ?_
        refine sNil ?_
        refine wIfF rfl ?_
        refine wSkip ?_
        refine wSeq ?_
        refine wReg ?_
        refine sRun (xMvI rfl) ?_
        refine sCall (eCall cal10 rfl) (mod_spec now 1073741824 w8 (by decide) (by decide)) ?_
        rintro _ w8 ⟨rfl, rfl⟩
        obtain ⟨hf30, hf300⟩ := lg_false hlg
        have hn0 := Int.emod_nonneg now (show (1073741824 : Int) ≠ 0 by decide)
        have hn1 := Int.emod_lt_of_pos now (show (0 : Int) < 1073741824 by decide)
        generalize now % 1073741824 = nw at *
        refine sRun (xAsI rfl) ?_
        refine sNil ?_
        refine wSeq ?_
        refine wReg ?_
        refine sRun (xLoadS [.slice Ad ds.length cd, .int .i64 at_, .int .i64 mask] Try.underlying25 rfl ti25 rfl rfl hB8.cells) ?_
        refine sTo (aNew (mAlloc ti25)) ?_
        rintro _ w15 ⟨b15, rfl, hge15, hB15, he15⟩
        refine sStS ti25 rfl rfl rfl (by simp [Value.oneCell']) hB15 rfl ?_
        intro wx hBx hCx
        have hex : Ext w8 wx := Chg.ext he15 hCx hge15
        refine sNil ?_
        refine wSeq ?_
        refine wReg ?_
        refine sRun (xMvI rfl) ?_
        refine sRun (xMvS rfl) ?_
        refine sRun (xLen Try.underlying27 rfl) ?_
        refine sRun (xAdd64 rfl rfl (by omega) (by omega)) ?_
        refine sCall (eCall cal10 rfl) (mod_spec aa ((bs.length : Int) + 3) wx (by omega) (by omega)) ?_
        rintro _ wx ⟨rfl, rfl⟩
        have ha0 := Int.emod_nonneg aa (show (bs.length : Int) + 3 ≠ 0 by omega)
        have ha1 := Int.emod_lt_of_pos aa (show (0 : Int) < (bs.length : Int) + 3 by omega)
        generalize aa % ((bs.length : Int) + 3) = am at *
        refine sRun (xSub64 rfl rfl (by omega) (by omega)) ?_
        refine sRun (xFld (k := 1) Try.underlying25 rfl rfl ti3 (by decide) rfl) ?_
        refine sSt1 ti3 rfl rfl rfl hBx (Nat.le_of_ble_eq_true rfl) ?_
        intro wy hBy0 hCy
        have hBy : Blk wy b15 25 #[.slice Ad ds.length cd, .int .i64 (am - 2), .int .i64 mask] := hBy0
        have hey : Ext w8 wy := Chg.ext hex hCy hge15
        refine sNil ?_
        refine wSeq ?_
        refine wSeq ?_
        refine wReg ?_
        refine sRun (xLoadS [.slice Ad ds.length cd, .int .i64 at_, .int .i64 mask] Try.underlying25 rfl ti25 rfl rfl (hB8.ext hey).cells) ?_
        refine sRun (xLoadS [.slice Ad ds.length cd, .int .i64 (am - 2), .int .i64 mask] Try.underlying25 rfl ti25 rfl rfl hBy.cells) ?_
        refine sTo (aRow (bs3_50 rfl rfl)) ?_
        rintro _ w50 ⟨b50, rfl, hge50, hB50, he50⟩
        refine sRun (xLen Try.underlying26 rfl) ?_
        refine sRun (xMvI rfl) ?_
        refine sNil ?_
        refine wBlock ?_
        refine wLoopG (fun n f w => ∃ k, n = 2 - k ∧ k ≤ 2 ∧ Has f [(50, .slice (some ⟨b50, 0, none⟩) 2 2), (51, .int .i64 2), (52, .int .i64 (k : Nat)), (0, .slice A fs.length c), (3, .slice Ab bs.length cb), (6, .int .i64 nw), (2, .slice Aa fas.length ca), (4, .int .i64 nn)] ∧ Ext w50 w) (2) ⟨0, rfl, by decide, ⟨rfl, rfl, rfl, rfl, rfl, rfl, rfl, rfl, trivial⟩, Ext.refl _⟩ ?_
        rintro n f w ⟨k, rfl, hk, hf0, hx⟩
        obtain ⟨g, rfl⟩ := has_updL _ _ hf0
        clear hf0
        refine wSeq ?_
        refine wReg ?_
        refine sSplit (xLss rfl rfl) (fun h53 => ?_) (fun h53 => ?_)
        · obtain ⟨ax, hax, hcel⟩ : ∃ ax, (-9223372036854775808 ≤ ax ∧ ax ≤ 9223372036854775807) ∧ Cells w b50 (0 + k * 3) [.slice Ad ds.length cd, .int .i64 ax, .int .i64 mask] := by
            have hcc := (hB50.ext hx).cells
            have hk01 : k = 0 ∨ k = 1 := by omega
            rcases hk01 with rfl | rfl
            · exact ⟨at_, hat, cells3 (hcc 0 _ rfl) (hcc 1 _ rfl) (hcc 2 _ rfl)⟩
            · exact ⟨am - 2, by omega, cells3 (hcc 3 _ rfl) (hcc 4 _ rfl) (hcc 5 _ rfl)⟩
          have hex0 : Ext w0 w := (he8.trans (hey.trans he50)).trans hx
          refine sNil ?_
          refine wSeq ?_
          refine wIfT rfl ?_
          refine wSkip ?_
          refine wSeq ?_
          refine wBlock ?_
          refine wSeq ?_
          refine wReg ?_
          refine sRun (xIdx k Try.underlying26 ti25 rfl rfl (by omega) (by omega)) ?_
          refine sRun (xLoadS [.slice Ad ds.length cd, .int .i64 ax, .int .i64 mask] Try.underlying25 rfl ti25 rfl rfl hcel) ?_
          refine sTo (aNew (mAlloc ti25)) ?_
          rintro _ w17 ⟨b17, rfl, hge17, hB17, he17⟩
          refine sStS ti25 rfl rfl rfl (by simp [Value.oneCell']) hB17 rfl ?_
          intro wz hBz hCz
          have hez : Ext w wz := Chg.ext he17 hCz hge17
          have hz0 : Ext w0 wz.drew := (hex0.trans hez).drew
          refine sNil ?_
          refine wSeq ?_
          refine wDraw (fun wS => Blk wS b17 25 #[.slice Ad ds.length cd, .int .i64 ax, .int .i64 mask]) [] (by kernel_rfl) ?_
          refine hTake 0 rfl (by kernel_rfl) rfl (fun wS => (xMvS rfl)) (sl_of hBz) ?_
          refine hTakeS 1 rfl (by kernel_rfl) (by kernel_rfl) rfl (fun wS hS => (xLoadS [.slice Ad ds.length cd, .int .i64 ax, .int .i64 mask] Try.underlying25 rfl ti25 rfl rfl hS.cells)) (sl_of hBz) ?_
          refine hTake 2 rfl (by kernel_rfl) rfl (fun wS => (xMvS rfl)) (sl_of hBz) ?_
          refine hTake 3 rfl (by kernel_rfl) rfl (fun wS => (xMvI rfl)) (sl_of hBz) ?_
          refine hTake 5 rfl (by kernel_rfl) rfl (fun wS => (xMvS rfl)) (sl_of hBz) ?_
          refine hTakeS 6 rfl (by kernel_rfl) (by kernel_rfl) rfl (fun wS hS => (xLoadS [.slice Ad ds.length cd, .int .i64 ax, .int .i64 mask] Try.underlying25 rfl ti25 rfl rfl hS.cells)) (sl_of hBz) ?_
          refine hTake 7 rfl (by kernel_rfl) rfl (fun wS => (xMvS rfl)) (sl_of hBz) ?_
          refine hTake 8 rfl (by kernel_rfl) rfl (fun wS => (xMvI rfl)) (sl_of hBz) ?_
          refine hOne 4 (by kernel_rfl) (oCall rfl rfl (eCall cal12 rfl) (send_spec A Ad Ab c cd cb fs ds bs ax mask nw wz.drew ((hf.ext hz0).up hz0.le) ((hd.ext hz0).up hz0.le) ((hb0.ext hz0).up hz0.le) (by omega) (fun i d b h => by have := hf300 i d b h; omega) (by omega) (by omega) (by omega)) ?_)
          rintro _ w60 ⟨A60, n60, c60, rfl, hf60, he60⟩
          have hz60 : Ext wz w60 := (Ext.refl wz).drew.trans he60
          refine ⟨(sl_of (hBz.ext hz60)), ?_⟩
          refine hOne 9 (by kernel_rfl) (oCall rfl rfl (eCall cal13 rfl) (refSend_spec A Ad Ab c cd cb fs ds bs ax mask nw w60 ((hf.ext (hz0.trans he60)).up (hz0.trans he60).le) ((hd.ext (hz0.trans he60)).up (hz0.trans he60).le) ((hb0.ext (hz0.trans he60)).up (hz0.trans he60).le) (by omega) (by omega) (by omega) (by omega) hax) ?_)
          rintro _ w65 ⟨A65, n65, c65, rfl, hf65, he65⟩
          refine ⟨(sl_of (hBz.ext (hz60.trans he65))), ?_⟩
          refine hOne 10 (by kernel_rfl) (oCall rfl rfl (eCall cal11 rfl) (by rw [hf60.1, hf65.1]; exact same_spec A60 A65 c60 c65 _ w65 (by have h := (hf60.ext he65).up he65.le; rw [hf60.1] at h; exact h) (by have h := hf65; rw [hf65.1] at h; exact h) (by rw [sendF_len]; omega)) ?_)
          rintro _ w66 ⟨rfl, he66⟩
          refine ⟨(sl_of (hBz.ext (hz60.trans (he65.trans he66)))), ?_⟩
          refine hTake 11 rfl (by kernel_rfl) rfl (fun wS => (xNot rfl)) (sl_of (hBz.ext (hz60.trans (he65.trans he66)))) ?_
          refine hDone (by kernel_rfl) ?_
          refine wIfF rfl ?_
          refine wSkip ?_
          refine wReg ?_
          refine sRun (xAdd64 rfl rfl (by omega) (by omega)) ?_
          refine sRun (xMvI rfl) ?_
          refine sNil ?_
          refine ⟨2 - (k + 1), by omega, k + 1, rfl, by omega, ⟨rfl, rfl, rfl, rfl, rfl, rfl, rfl, rfl, trivial⟩, hx.trans (hez.trans (hz60.trans (he65.trans he66)))⟩
        · refine sNil ?_
          refine wSeq ?_
          refine wIfF rfl ?_
          refine wExit ?_
          refine wSeq ?_
          refine wReg ?_
          refine sRun (xMvI rfl) ?_
          refine sRun (xMvS rfl) ?_
          refine sRun (xLen Try.underlying26 rfl) ?_
          refine sRun (xAdd64 rfl rfl (by omega) (by omega)) ?_
          refine sCall (eCall cal10 rfl) (mod_spec nn ((fas.length : Int) + 2) w (by omega) (by omega)) ?_
          rintro _ w ⟨rfl, rfl⟩
          have hxx : Ext w0 w := (he8.trans (hey.trans he50)).trans hx
          refine sRun (xAsI rfl) ?_
          refine sNil ?_
          refine wSeq ?_
          refine wReg ?_
          refine sRun (xMvS rfl) ?_
          refine sRun (xMvI rfl) ?_
          refine sCall (eCall cal15 rfl) (fateOf_spec Aa ca fas nn w ((ha.ext hxx).up hxx.le) (by omega) hdel) ?_
          rintro _ w76 ⟨A76, c76, rfl, hd76, he76⟩
          have hx76 := hxx.trans he76
          refine sRun (xMvS rfl) ?_
          refine sRun (xMvI rfl) ?_
          refine sCall (eCall cal16 rfl) (refFateOf_spec Aa ca fas nn w76 ((ha.ext hx76).up hx76.le) (by omega) hdel) ?_
          rintro _ w79 ⟨A79, c79, rfl, hd79, he79⟩
          have hx79 := hx76.trans he79
          refine sCall (eCall cal14 rfl) (fates_spec A76 A79 c76 c79 _ _ _ w79 ((hd76.ext he79).up he79.le) hd79 (fate_len hdel nn)) ?_
          rintro _ w80 ⟨rfl, he80⟩
          have hx80 := hx79.trans he80
          refine sRun (xMvB rfl) ?_
          refine sGo rfl ?_
          refine sRun (xMvS rfl) ?_
          refine sGo rfl ?_
          refine sRun (xMvI rfl) ?_
          refine sGo rfl ?_
          refine sCall (eCall cal15 rfl) (fateOf_spec Aa ca fas _ w80 ((ha.ext hx80).up hx80.le) (by omega) hdel) ?_
          rintro _ w84 ⟨A84, c84, rfl, hd84, he84⟩
          have hx84 := hx80.trans he84
          refine sGo rfl ?_
          refine sRun (xMvS rfl) ?_
          refine sGo rfl ?_
          refine sRun (xMvI rfl) ?_
          refine sGo rfl ?_
          refine sCall (eCall cal16 rfl) (refFateOf_spec Aa ca fas _ w84 ((ha.ext hx84).up hx84.le) (by omega) hdel) ?_
          rintro _ w87 ⟨A87, c87, rfl, hd87, he87⟩
          have hx87 := hx84.trans he87
          refine sGo rfl ?_
          refine sCall (eCall cal14 rfl) (fates_spec A84 A87 c84 c87 _ _ _ w87 ((hd84.ext he87).up he87.le) hd87 (fate_len hdel _)) ?_
          rintro _ w88 ⟨rfl, he88⟩
          have hx88 := hx87.trans he88
          refine sRun (xPkTB rfl rfl) ?_
          refine sRun (xMvB rfl) ?_
          refine sGo rfl ?_
          refine sCall (eCall cal9 rfl) (awake_spec _) ?_
          rintro _ w91 ⟨rfl, he91⟩
          refine sRun (xPkTB rfl rfl) ?_
          refine sRun (xAsB rfl) ?_
          refine sNil ?_
          refine wRet ?_
          refine res1 (P := Try.prog) (fn := Try.f3) rfl ?_
          exact ⟨rfl, hx88.trans he91⟩

end Go.Proofs.Ytnppmdhgelfloaa
