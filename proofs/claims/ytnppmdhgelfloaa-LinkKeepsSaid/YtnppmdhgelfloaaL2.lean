/- The contract of link.Send. -/
import Derived.Test.YtnppmdhgelfloaaFl
set_option linter.unusedVariables false
namespace Go.Proofs.Ytnppmdhgelfloaa
open Go.RowKit Go.Fw

theorem ti23 : TI Try.prog 23 (.slice none 0 0) 1 24 := ti_of (by kernel_rfl)
theorem ti27 : TI Try.prog 27 (.slice none 0 0) 1 24 := ti_of (by kernel_rfl)
theorem ti37 : TI Try.prog 37 (.agg #[.int .i64 0, .slice none 0 0]) 2 32 := ti_of (by kernel_rfl)
theorem cal20 : Callable Try.prog 20 := ⟨_, Try.func20, by kernel_rfl, by kernel_rfl⟩
theorem cal21 : Callable Try.prog 21 := ⟨_, Try.func21, by kernel_rfl, by kernel_rfl⟩
def clampD (d : Int) : Int := if 100 < (if 1 > d then 1 else d) then 100 else (if 1 > d then 1 else d)
theorem clampD_bd (d : Int) : 1 ≤ clampD d ∧ clampD d ≤ 100 := by unfold clampD; split <;> split <;> omega
/-- the bytes that arrive -/
def hit (b : List Int) (at_ mask : Int) : List Int := dmg (dmg b at_ (IntKind.u8.wrap (mask.fdiv (2 ^ (min (8 : Int).toNat IntKind.i64.bits))))) (IntKind.i64.wrap (at_ + 1)) (IntKind.u8.wrap mask)
/-- the flights behind a datagram that is sent -/
def sendF (fs : List Flight) (ds : List Int) (at_ mask : Int) (b : List Int) (now : Int) : List Flight := fs ++ (ds.take 8).map fun d => (now + clampD d, hit b at_ mask)
theorem sendF_snoc {fs : List Flight} {ds : List Int} {at_ mask : Int} {b : List Int} {now : Int} {k : Nat} {d : Int} (hk : k < 8) (h : ds[k]? = some d) :
    sendF fs (ds.take (k + 1)) at_ mask b now = sendF fs (ds.take k) at_ mask b now ++ [(now + clampD d, hit b at_ mask)] := by
  unfold sendF
  rw [List.take_take, List.take_take, Nat.min_eq_right (by omega), Nat.min_eq_right (by omega), take_snoc h]
  simp
theorem hit_len (b : List Int) (at_ mask : Int) : (hit b at_ mask).length = b.length := by unfold hit; rw [dmg_len, dmg_len]
theorem sendF_len (fs : List Flight) (ds : List Int) (at_ mask : Int) (b : List Int) (now : Int) : (sendF fs ds at_ mask b now).length = fs.length + min 8 ds.length := by unfold sendF; simp

theorem bd12_28 {ρ : Operand → Value} {w : World} {d : Option Nat} {ty : TypeId} {pos : String} {af : Array Edge} {g : Option (Nat × Bool)} {x0 : Int} {x1A : Option Addr} {x1n x1c : Nat} {o0 : Operand} {o1 : Operand} (h0 : ρ o0 = .int .i64 x0) (h1 : ρ o1 = .slice x1A x1n x1c) : Yl Try.prog ρ (.build 37 #[(0, o0), (1, o1)]) d ty pos af g w (.agg #[.int .i64 x0, .slice x1A x1n x1c]) := by
  have e : (Instr.build 37 #[(0, .int .i64 x0), (1, .slice x1A x1n x1c)]).run Try.prog w = .ok (.agg #[.int .i64 x0, .slice x1A x1n x1c]) w := by kernel_rfl
  simp [Yl, execOp, h0, h1, e]
theorem bs12_29 {ρ : Operand → Value} {w : World} {d : Option Nat} {ty : TypeId} {pos : String} {af : Array Edge} {g : Option (Nat × Bool)} {x00_ : Int} {x01_A : Option Addr} {x01_n x01_c : Nat} {o0 : Operand} (h0 : ρ o0 = .agg #[.int .i64 x00_, .slice x01_A x01_n x01_c]) :
    (execOp ρ ⟨d, .buildSlice 22 1 #[(0, o0)], ty, pos, af, g⟩).run Try.prog w = .ok (.value (.slice (some ⟨w.heap.size, 0, none⟩) 1 1)) (w.alloc (.cells #[.int .i64 x00_, .slice x01_A x01_n x01_c] 37)) := by
  have e : (Instr.buildSlice 22 1 #[(0, .agg #[.int .i64 x00_, .slice x01_A x01_n x01_c])]).run Try.prog w = .ok (.slice (some ⟨w.heap.size, 0, none⟩) 1 1) (w.alloc (.cells #[.int .i64 x00_, .slice x01_A x01_n x01_c] 37)) := by kernel_rfl
  simp [execOp, h0, e]
theorem bd12_68 {ρ : Operand → Value} {w : World} {d : Option Nat} {ty : TypeId} {pos : String} {af : Array Edge} {g : Option (Nat × Bool)} {x0 : Int} {x1A : Option Addr} {x1n x1c : Nat} {o0 : Operand} {o1 : Operand} (h0 : ρ o0 = .int .i64 x0) (h1 : ρ o1 = .slice x1A x1n x1c) : Yl Try.prog ρ (.build 37 #[(0, o0), (1, o1)]) d ty pos af g w (.agg #[.int .i64 x0, .slice x1A x1n x1c]) := by
  have e : (Instr.build 37 #[(0, .int .i64 x0), (1, .slice x1A x1n x1c)]).run Try.prog w = .ok (.agg #[.int .i64 x0, .slice x1A x1n x1c]) w := by kernel_rfl
  simp [Yl, execOp, h0, h1, e]
theorem bs12_69 {ρ : Operand → Value} {w : World} {d : Option Nat} {ty : TypeId} {pos : String} {af : Array Edge} {g : Option (Nat × Bool)} {x00_ : Int} {x01_A : Option Addr} {x01_n x01_c : Nat} {o0 : Operand} (h0 : ρ o0 = .agg #[.int .i64 x00_, .slice x01_A x01_n x01_c]) :
    (execOp ρ ⟨d, .buildSlice 22 1 #[(0, o0)], ty, pos, af, g⟩).run Try.prog w = .ok (.value (.slice (some ⟨w.heap.size, 0, none⟩) 1 1)) (w.alloc (.cells #[.int .i64 x00_, .slice x01_A x01_n x01_c] 37)) := by
  have e : (Instr.buildSlice 22 1 #[(0, .agg #[.int .i64 x00_, .slice x01_A x01_n x01_c])]).run Try.prog w = .ok (.slice (some ⟨w.heap.size, 0, none⟩) 1 1) (w.alloc (.cells #[.int .i64 x00_, .slice x01_A x01_n x01_c] 37)) := by kernel_rfl
  simp [execOp, h0, e]
set_option maxRecDepth 4000 in
theorem send_spec (A Ad Ab : Option Addr) (c cd cb : Nat) (fs : List Flight) (ds bs : List Int) (at_ mask now : Int) (w : World) (hf : FlR w w.heap.size A fs.length fs) (hd : Sl w w.heap.size 1 Ad ds.length (ins ds)) (hb0 : Sl w w.heap.size 1 Ab bs.length (bys bs))
    (hfs : fs.length ≤ 1000000) (hbod : ∀ (i : Nat) (d : Int) (b : List Int), fs[i]? = some (d, b) → b.length ≤ 1000000) (hbs : bs.length ≤ 1000000) (hds : ds.length ≤ 1000000000000000000) (hnow : -4611686018427387904 ≤ now ∧ now ≤ 4611686018427387904) :
    Calls Try.prog 12 #[.slice A fs.length c, .agg #[.slice Ad ds.length cd, .int .i64 at_, .int .i64 mask], .slice Ab bs.length cb, .int .i64 now] w
      (Ret fun v w' => ∃ A2 n2 c2, v = .slice A2 n2 c2 ∧ FlR w' w'.heap.size A2 n2 (sendF fs ds at_ mask bs now) ∧ Ext w w') := by
  refine calls_of Try.func12 rfl (Nat.le_of_ble_eq_true rfl) (by kernel_rfl) ?_
  refine wCut [(0, .slice A fs.length c), (1, .agg #[.slice Ad ds.length cd, .int .i64 at_, .int .i64 mask]), (2, .slice Ab bs.length cb), (3, .int .i64 now)] ⟨rfl, rfl, rfl, rfl, trivial⟩ fun g => ?_
  refine wSeq ?_
  refine wReg ?_
  refine sTo (aNew (mBox rfl)) ?_
  rintro _ w5 ⟨b5, rfl, hge5, hB5, he5⟩
  refine sRun (xAsS rfl) ?_
  refine sNil ?_
  refine wSeq ?_
  refine wReg ?_
  refine sRun (xAsS rfl) ?_
  refine sNil ?_
  refine wSeq ?_
  refine wSeq ?_
  refine wReg ?_
  refine sRun (xMvS rfl) ?_
  refine sRun (xLen Try.underlying22 rfl) ?_
  refine sRun (xMvI rfl) ?_
  refine sNil ?_
  refine wBlock ?_
  refine wLoopG (fun n f w => ∃ k Ar cr xs, n = fs.length - k ∧ k ≤ fs.length ∧ Has f [(16, .slice A fs.length c), (17, .int .i64 fs.length), (18, .int .i64 k), (9, .slice Ar k cr), (5, .pointer (some ⟨b5, 0, none⟩)), (2, .slice Ab bs.length cb), (3, .int .i64 now)] ∧
      Ext w5 w ∧ Own w w5.heap.size 37 2 Ar k cr xs ∧ FlO w w5.heap.size xs (fs.take k)) (fs.length) ⟨0, none, 0, [], rfl, Nat.zero_le _, ⟨rfl, rfl, rfl, rfl, rfl, rfl, rfl, trivial⟩, Ext.refl _, Own.nil _ _ _ _, FlO.nil _ _⟩ ?_
  rintro n f w ⟨k, Ar, cr, xs, rfl, hk, hf0, hx, ho, hfl⟩
  obtain ⟨g, rfl⟩ := has_updL _ _ hf0
  clear hf0
  refine wSeq ?_
  refine wReg ?_
  refine sSplit (xLss rfl rfl) (fun h19 => ?_) (fun h19 => ?_)
  · obtain ⟨b, o, d, bd, A1, c1, rfl, hb, hfk, hc0, hc1, hsl⟩ := (hf.ext (he5.trans hx)).at (k := k) (by omega)
    refine sNil ?_
    refine wSeq ?_
    refine wIfT rfl ?_
    refine wSkip ?_
    refine wSeq ?_
    refine wBlock ?_
    refine wSeq ?_
    refine wReg ?_
    refine sRun (xIdx k Try.underlying22 ti37 rfl rfl (by omega) (by omega)) ?_
    refine sRun (xLoadS [.int .i64 d, .slice A1 bd.length c1] Try.underlying37 rfl ti37 rfl rfl (cells2 hc0 hc1)) ?_
    refine sTo (aNew (mAlloc ti37)) ?_
    rintro _ w11 ⟨b11, rfl, hge11, hB11, he11⟩
    refine sStS ti37 rfl rfl rfl (by simp [Value.oneCell']) hB11 rfl ?_
    intro wx hBx hCx
    have hex : Ext w wx := Chg.ext he11 hCx hge11
    have hbl : bd.length ≤ 1000000 := hbod k d bd hfk
    refine sNil ?_
    refine wDraw (fun wS => Blk wS b11 37 #[.int .i64 d, .slice A1 bd.length c1]) [] (by kernel_rfl) ?_
    refine hTake 0 rfl (by kernel_rfl) rfl (fun wS => (xMvS rfl)) (sl_of hBx) ?_
    refine hTake 1 rfl (by kernel_rfl) rfl (fun wS => (xFld0 Try.underlying37 rfl rfl ti3 (by decide) rfl)) (sl_of hBx) ?_
    refine hTakeS 2 rfl (by kernel_rfl) (by kernel_rfl) rfl (fun wS hS => (xLoad Try.underlying3 rfl rfl (Blk.cell hS (i := 0) rfl))) (sl_of hBx) ?_
    refine hTake 3 rfl (by kernel_rfl) rfl (fun wS => (xFld (k := 1) Try.underlying37 rfl rfl ti27 (by decide) rfl)) (sl_of hBx) ?_
    refine hTakeS 4 rfl (by kernel_rfl) (by kernel_rfl) rfl (fun wS hS => (xLoad Try.underlying27 rfl rfl (Blk.cell hS (i := 0 + 1) rfl))) (sl_of hBx) ?_
    refine hOne 5 (by kernel_rfl) (oCall rfl rfl (eCall cal20 rfl) (clone5 A1 bd.length c1 (bys bd) wx.drew ((hsl.ext (hex.trans (Ext.refl _).drew)).up (by have := (he5.trans hx).le; have := (hex.trans (Ext.refl wx).drew).le; omega)) (bys_one _) (by omega)) ?_)
    rintro _ w27 ⟨A27, c27, rfl, ho27, he27⟩
    have hx27 : Ext wx w27 := ((Ext.refl wx).drew).trans he27
    refine ⟨(sl_of (hBx.ext hx27)), ?_⟩
    refine hTake 6 rfl (by kernel_rfl) rfl (fun wS => (bd12_28 rfl rfl)) (sl_of (hBx.ext hx27)) ?_
    refine hOne 7 (by kernel_rfl) (oTo rfl rfl (aRow (bs12_29 rfl)) ?_)
    rintro _ w29 ⟨b29, rfl, hge29, hB29, he29⟩
    refine ⟨(sl_of (hBx.ext (hx27.trans he29))), ?_⟩
    refine hOne 8 (by kernel_rfl) (oTo rfl rfl (aAppend (w5.heap.size) (k + 1) Try.underlying22 ti37 rfl (by decide) rfl rfl (ho.ext ((hex.trans hx27).trans he29)) (hB29.sl (n := 1) (size := 2) rfl) (by simp [Value.oneCell']) (by have := ((hx.trans hex).trans (hx27.trans he29)).le; omega) (by omega) (by omega) (by omega)) ?_)
    rintro _ w30 ⟨A30, c30, rfl, ho30, hg30, hr30⟩
    refine ⟨(sl_of (Blk.chgr (hBx.ext (hx27.trans he29)) hg30 (by intro i hi; have h1 := ho.row i hi; omega))), ?_⟩
    refine hTake 9 rfl (by kernel_rfl) rfl (fun wS => (xAsS rfl)) (sl_of (Blk.chgr (hBx.ext (hx27.trans he29)) hg30 (by intro i hi; have h1 := ho.row i hi; omega))) ?_
    refine hDone (by kernel_rfl) ?_
    refine wReg ?_
    refine sRun (xAdd64 rfl rfl (by omega) (by omega)) ?_
    refine sRun (xMvI rfl) ?_
    refine sNil ?_
    refine ⟨fs.length - (k + 1), by omega, k + 1, A30, c30, _, rfl, by omega, ⟨rfl, rfl, rfl, rfl, rfl, rfl, rfl, trivial⟩, ?_, ho30, ?_⟩
    · exact grown_ext (hx.trans (hex.trans (hx27.trans he29))) hg30 (fun i hi => (ho.row i hi).1)
    · rw [take_snoc hfk]
      refine FlO.snoc ((hfl.ext (hex.trans (hx27.trans he29))).grown (ho.ext (hex.trans (hx27.trans he29))) (by decide) hg30) ?_
      exact (((ho27.mono ((hx.trans (hex.trans (Ext.refl wx).drew)).le)).ext he29).kept hg30 (((ho27.mono ((hx.trans (hex.trans (Ext.refl wx).drew)).le)).ext he29).apart (ho.ext (hex.trans (hx27.trans he29))) (by decide)))
  · refine sNil ?_
    refine wSeq ?_
    refine wIfF rfl ?_
    refine wExit ?_
    refine wSeq ?_
    refine wSeq ?_
    refine wReg ?_
    refine sRun (xFld0 Try.underlying25 rfl rfl ti23 (by decide) rfl) ?_
    refine sRun (xLoad Try.underlying23 rfl rfl ((hB5.ext hx).cell (i := 0) rfl)) ?_
    refine sRun (xLen Try.underlying23 rfl) ?_
    refine sRun (xMvI rfl) ?_
    refine sNil ?_
    refine wBlock ?_
    obtain rfl : k = fs.length := by omega
    have hkn : fs.length = fs.length := rfl
    refine wLoopG (fun n f w => ∃ k m Ar cr xs, n = ds.length - k ∧ k ≤ ds.length ∧ k ≤ 8 ∧ m = fs.length + k ∧ Has f [(33, .slice Ad ds.length cd), (34, .int .i64 ds.length), (35, .int .i64 k), (9, .slice Ar m cr), (5, .pointer (some ⟨b5, 0, none⟩)), (2, .slice Ab bs.length cb), (3, .int .i64 now)] ∧
        Ext w5 w ∧ Own w w5.heap.size 37 2 Ar m cr xs ∧ FlO w w5.heap.size xs (sendF fs (ds.take k) at_ mask bs now)) (ds.length) ⟨0, fs.length, Ar, cr, xs, rfl, Nat.zero_le _, Nat.zero_le _, rfl, ⟨rfl, rfl, rfl, by rw [← hkn]; rfl, rfl, rfl, rfl, trivial⟩, hx, by rw [← hkn]; exact ho, by rw [hkn, List.take_length] at hfl; simpa [sendF] using hfl⟩ ?_
    clear hfl ho hx xs cr Ar
    rintro n f w ⟨k, m, Ar, cr, xs, rfl, hk, hk8, hm, hf0, hx, ho, hfl⟩
    obtain ⟨g, rfl⟩ := has_updL _ _ hf0
    clear hf0
    refine wSeq ?_
    refine wReg ?_
    refine sSplit (xLss rfl rfl) (fun h36 => ?_) (fun h36 => ?_)
    · obtain ⟨bb, o, v, rfl, hb, hv, hcd⟩ := Sl.at1 (hd.ext (he5.trans hx)) (k := k) (by omega)
      obtain ⟨d, hdk, rfl⟩ := ins_at hv
      refine sNil ?_
      refine wSeq ?_
      refine wIfT rfl ?_
      refine wSkip ?_
      refine wSeq ?_
      refine wBlock ?_
      refine wSeq ?_
      refine wReg ?_
      refine sRun (xMvI rfl) ?_
      refine sRun (xIdx1 k Try.underlying23 ti3 rfl rfl (by omega) (by omega)) ?_
      refine sRun (xLoad Try.underlying3 rfl rfl hcd) ?_
      refine sRun (xAsI rfl) ?_
      refine sRun (xAsI rfl) ?_
      refine sNil ?_
      refine wSeq ?_
      refine wSeq ?_
      refine wReg ?_
      refine sRun (xMvI rfl) ?_
      refine sSplit (xEqlD rfl rfl) (fun h41 => ?_) (fun h41 => ?_)
      · refine sNil ?_
        refine wIfT rfl ?_
        refine wExit ?_
        refine wSeq ?_
        refine wReg ?_
        refine sRun (xMvS rfl) ?_
        refine sRun (xAsS rfl) ?_
        refine sNil ?_
        refine wRet ?_
        refine res1 (P := Try.prog) (fn := Try.f12) rfl ?_
        refine ⟨Ar, m, cr, rfl, ?_, he5.trans hx⟩
        have hfin : sendF fs (ds.take k) at_ mask bs now = sendF fs ds at_ mask bs now := by
          unfold sendF
          rw [List.take_take]
          congr 2
          rw [Nat.min_eq_left (by omega)]
        rw [hfin] at hfl
        exact FlR.of ho hfl
      · refine sNil ?_
        refine wIfF rfl ?_
        refine wSkip ?_
        refine wSeq ?_
        refine wReg ?_
        refine sRun (xMvS rfl) ?_
        refine sCall (eCall cal20 rfl) (clone5 Ab bs.length cb (bys bs) w ((hb0.ext (he5.trans hx)).up (he5.trans hx).le) (bys_one _) (by omega)) ?_
        rintro _ w43 ⟨A43, c43, rfl, ho43, he43⟩
        refine sTo (aNew (mAlloc ti27)) ?_
        rintro _ w14 ⟨b14, rfl, hge14, hB14, he14⟩
        refine sSt1 ti27 rfl rfl rfl hB14 (by decide) ?_
        intro wy hBy hCy
        have hey : Ext w wy := Chg.ext (he43.trans he14) hCy (by have := he43.le; omega)
        have hoy := (ho43.ext he14).keptB hCy ((ho43.ext he14).apartB hB14 (by decide))
        refine sNil ?_
        refine wSeq ?_
        refine wReg ?_
        refine sRun xMkFunc ?_
        refine sRun (xAsF rfl) ?_
        refine sNil ?_
        refine wSeq ?_
        refine wReg ?_
        refine sRun (xMvF rfl) ?_
        refine sRun (xFld (k := 1) Try.underlying25 rfl rfl ti3 (by decide) rfl) ?_
        refine sRun (xLoad Try.underlying3 rfl rfl ((hB5.ext (hx.trans hey)).cell (i := 0 + 1) rfl)) ?_
        refine sRun (xFld (k := 2) Try.underlying25 rfl rfl ti3 (by decide) rfl) ?_
        refine sRun (xLoad Try.underlying3 rfl rfl ((hB5.ext (hx.trans hey)).cell (i := 0 + 2) rfl)) ?_
        refine sRun (xShr rfl rfl (by omega)) ?_
        refine sRun (xConv _ ⟨_, Try.underlying3⟩ Try.underlying5 rfl) ?_
        refine sCall (eClos cal21 rfl) (damage_spec _ _ _ _ _ _ _ _ _ hBy hoy) ?_
        rintro _ wz ⟨hoz, hgz⟩
        have hez : Ext w wz := grown_ext hey hgz (fun i hi => (hoy.row i hi).1)
        have hBz := hBy.chgr hgz (hoy.apartB hBy (by decide))
        refine sNil ?_
        refine wSeq ?_
        refine wReg ?_
        refine sRun (xMvF rfl) ?_
        refine sRun (xFld (k := 1) Try.underlying25 rfl rfl ti3 (by decide) rfl) ?_
        refine sRun (xLoad Try.underlying3 rfl rfl ((hB5.ext (hx.trans hez)).cell (i := 0 + 1) rfl)) ?_
        refine sRun (xAdd rfl rfl) ?_
        refine sRun (xFld (k := 2) Try.underlying25 rfl rfl ti3 (by decide) rfl) ?_
        refine sRun (xLoad Try.underlying3 rfl rfl ((hB5.ext (hx.trans hez)).cell (i := 0 + 2) rfl)) ?_
        refine sRun (xConv _ ⟨_, Try.underlying3⟩ Try.underlying5 rfl) ?_
        refine sCall (eClos cal21 rfl) (damage_spec _ _ _ _ _ _ _ _ _ hBz hoz) ?_
        rintro _ wq ⟨hoq, hgq⟩
        have heq : Ext w wq := grown_ext hez hgq (fun i hi => (hoz.row i hi).1)
        have hBq := hBz.chgr hgq (hoz.apartB hBz (by decide))
        have hoq' : Own wq w5.heap.size 5 1 A43 (hit bs at_ mask).length c43 (bys (hit bs at_ mask)) := by rw [hit_len]; exact hoq.mono hx.le
        have hcl := clampD_bd d
        refine sNil ?_
        refine wReg ?_
        refine sRun (xMvS rfl) ?_
        refine sRun (xMvI rfl) ?_
        refine sRun (xMvI rfl) ?_
        refine sRun (xMax rfl rfl) ?_
        refine sRun (xMin rfl rfl) ?_
        refine sRun (xAdd64 (b := clampD d) rfl rfl (by omega) (by omega)) ?_
        refine sRun (xLoad Try.underlying27 rfl rfl (hBq.cell (i := 0) rfl)) ?_
        refine sRun (bd12_68 rfl rfl) ?_
        refine sTo (aRow (bs12_69 rfl)) ?_
        rintro _ w69 ⟨b69, rfl, hge69, hB69, he69⟩
        refine sTo (aAppend (w5.heap.size) (m + 1) Try.underlying22 ti37 rfl (by decide) rfl rfl (ho.ext (heq.trans he69)) (hB69.sl (n := 1) (size := 2) rfl) (by simp [Value.oneCell']) (by have := ((hx.trans heq).trans he69).le; omega) (by omega) (by omega) (by omega)) ?_
        rintro _ w70 ⟨A70, c70, rfl, ho70, hg70, hr70⟩
        refine sRun (xAsS rfl) ?_
        refine sNil ?_
        refine wReg ?_
        refine sRun (xAdd64 rfl rfl (by omega) (by omega)) ?_
        refine sRun (xMvI rfl) ?_
        refine sNil ?_
        refine ⟨ds.length - (k + 1), by omega, k + 1, m + 1, A70, c70, _, rfl, by omega, by omega, by omega, ⟨rfl, rfl, rfl, rfl, rfl, rfl, rfl, trivial⟩, ?_, ho70, ?_⟩
        · exact grown_ext (hx.trans (heq.trans he69)) hg70 (fun i hi => (ho.row i hi).1)
        · rw [sendF_snoc (by omega) hdk]
          rw [← hit_len bs at_ mask]
          refine FlO.snoc ((hfl.ext (heq.trans he69)).grown (ho.ext (heq.trans he69)) (by decide) hg70) ?_
          exact (hoq'.ext he69).kept hg70 ((hoq'.ext he69).apart (ho.ext (heq.trans he69)) (by decide))
    · refine sNil ?_
      refine wSeq ?_
      refine wIfF rfl ?_
      refine wExit ?_
      refine wSeq ?_
      refine wReg ?_
      refine sRun (xMvS rfl) ?_
      refine sRun (xAsS rfl) ?_
      refine sNil ?_
      refine wRet ?_
      refine res1 (P := Try.prog) (fn := Try.f12) rfl ?_
      refine ⟨Ar, m, cr, rfl, ?_, he5.trans hx⟩
      have hfin : sendF fs (ds.take k) at_ mask bs now = sendF fs ds at_ mask bs now := by
        unfold sendF
        rw [List.take_take]
        congr 2
        rw [Nat.min_eq_right (by omega), List.take_of_length_le (by omega), List.take_of_length_le (by omega)]
      rw [hfin] at hfl
      exact FlR.of ho hfl
end Go.Proofs.Ytnppmdhgelfloaa
