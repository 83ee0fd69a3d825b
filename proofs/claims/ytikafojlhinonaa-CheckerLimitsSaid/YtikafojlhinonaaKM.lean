/- CheckerLimits: calls of which the answer is known. -/
import Derived.Test.YtikafojlhinonaaFn
import Derived.Test.YtikafojlhinonaaE29
import Derived.Test.YtikafojlhinonaaLF
set_option linter.unusedVariables false
set_option linter.unusedSimpArgs false
set_option maxRecDepth 100000
namespace Go.Proofs.Ytikafojlhinonaa
open Go.Ev Go.RowKit Go.Fw
noncomputable def Γz : Env := ⟨tab, sites, [], [], .e⟩
theorem Γz_ok (σ : Sg) : Γz.Ok σ := ⟨fun p h => (by cases h), fun p h => (by cases h)⟩
theorem Γz_pc (σ : Sg) : Γz.pc.All (KnQ Try.prog sites σ) := trivial
theorem says_pc (σ : Sg) {n : Nat} {fp : Pp} {vs : List V} {v : V} (hb : belVL 0 vs = true) (hv : belV 0 v = true) (hk : Says Γz n fp vs v) : PCall Try.prog σ (fp, vs, v) := pcall_mk (CV := sites) mixed tys_ok (Γz_ok σ) tab_ok rfl sites_ok (Γz_pc σ) hb hv hk
/-- a table by number -/
noncomputable def pcT (kd : IntKind) (tb : T (Option V)) : KF := fun vs h kH kM => arg1 vs (fun v => v.aK (fun a => a.iK (fun i e => Bool.rec (motive := fun _ => R) none (e.nK (fun c => toPK (nat_lit 20) c (fun p => Option.rec (motive := fun _ => R) kM (fun r => kH r h) (tb.get none p))) none) (Nat.beq (ikK i) (ikK kd)))))
def PcT (σ : Sg) (fp : Pp) (kd : IntKind) (c : Nat) (o : Option V) : Prop := match o with | none => True | some v => PCall Try.prog σ (fp, [.a (.i kd (.n c))], v)
theorem pcT_ok (σ : Sg) {fp : Pp} {kd : IntKind} {tb : T (Option V)} (hc : Callable Try.prog fp.toNat) (h : tb.All (PcT σ fp kd)) : KnQ Try.prog sites σ fp.toNat (some (pcT kd tb)) := by
  refine ⟨hc, fun vs h' kH kM out hk => ?_⟩
  obtain ⟨v, rfl, g⟩ := arg1_some hk
  obtain ⟨a, rfl, g1⟩ := aK_some (v := v) g
  obtain ⟨i, e, rfl, g2⟩ := iK_some (a := a) g1
  obtain ⟨g3, g4⟩ := bif_some g2
  have g3 := ikK_inj g3
  subst g3
  rcases nK_some g4 with ⟨c, rfl, g5⟩ | g5
  · obtain ⟨p, hp, g6⟩ := toPK_some _ _ _ _ g5
    cases hg : tb.get none p with
    | none => rw [hg] at g6; exact .inl g6
    | some r =>
      rw [hg] at g6
      rcases h.get none p with h0 | h0
      · rw [h0] at hg; cases hg
      · rw [hg] at h0
        have h0 : PCall Try.prog σ (fp, [.a (.i i (.n p.toNat))], r) := h0
        rw [hp] at h0
        exact .inr ⟨r, h', g6, h0.does h'⟩
  · cases g5
theorem let_32 : Says Γz 2000 (.l (.r (.r (.l (.r .h))))) [.a (.i .u8 (.n 32))] (.a (.b false)) := by unfold Says; kernel_rfl
theorem let_40 : Says Γz 2000 (.l (.r (.r (.l (.r .h))))) [.a (.i .u8 (.n 40))] (.a (.b false)) := by unfold Says; kernel_rfl
theorem let_41 : Says Γz 2000 (.l (.r (.r (.l (.r .h))))) [.a (.i .u8 (.n 41))] (.a (.b false)) := by unfold Says; kernel_rfl
theorem let_44 : Says Γz 2000 (.l (.r (.r (.l (.r .h))))) [.a (.i .u8 (.n 44))] (.a (.b false)) := by unfold Says; kernel_rfl
theorem let_48 : Says Γz 2000 (.l (.r (.r (.l (.r .h))))) [.a (.i .u8 (.n 48))] (.a (.b false)) := by unfold Says; kernel_rfl
theorem let_49 : Says Γz 2000 (.l (.r (.r (.l (.r .h))))) [.a (.i .u8 (.n 49))] (.a (.b false)) := by unfold Says; kernel_rfl
theorem let_50 : Says Γz 2000 (.l (.r (.r (.l (.r .h))))) [.a (.i .u8 (.n 50))] (.a (.b false)) := by unfold Says; kernel_rfl
theorem let_51 : Says Γz 2000 (.l (.r (.r (.l (.r .h))))) [.a (.i .u8 (.n 51))] (.a (.b false)) := by unfold Says; kernel_rfl
theorem let_52 : Says Γz 2000 (.l (.r (.r (.l (.r .h))))) [.a (.i .u8 (.n 52))] (.a (.b false)) := by unfold Says; kernel_rfl
theorem let_53 : Says Γz 2000 (.l (.r (.r (.l (.r .h))))) [.a (.i .u8 (.n 53))] (.a (.b false)) := by unfold Says; kernel_rfl
theorem let_54 : Says Γz 2000 (.l (.r (.r (.l (.r .h))))) [.a (.i .u8 (.n 54))] (.a (.b false)) := by unfold Says; kernel_rfl
theorem let_55 : Says Γz 2000 (.l (.r (.r (.l (.r .h))))) [.a (.i .u8 (.n 55))] (.a (.b false)) := by unfold Says; kernel_rfl
theorem let_56 : Says Γz 2000 (.l (.r (.r (.l (.r .h))))) [.a (.i .u8 (.n 56))] (.a (.b false)) := by unfold Says; kernel_rfl
theorem let_57 : Says Γz 2000 (.l (.r (.r (.l (.r .h))))) [.a (.i .u8 (.n 57))] (.a (.b false)) := by unfold Says; kernel_rfl
theorem let_58 : Says Γz 2000 (.l (.r (.r (.l (.r .h))))) [.a (.i .u8 (.n 58))] (.a (.b false)) := by unfold Says; kernel_rfl
theorem let_59 : Says Γz 2000 (.l (.r (.r (.l (.r .h))))) [.a (.i .u8 (.n 59))] (.a (.b false)) := by unfold Says; kernel_rfl
theorem let_61 : Says Γz 2000 (.l (.r (.r (.l (.r .h))))) [.a (.i .u8 (.n 61))] (.a (.b false)) := by unfold Says; kernel_rfl
theorem let_97 : Says Γz 2000 (.l (.r (.r (.l (.r .h))))) [.a (.i .u8 (.n 97))] (.a (.b true)) := by unfold Says; kernel_rfl
theorem let_99 : Says Γz 2000 (.l (.r (.r (.l (.r .h))))) [.a (.i .u8 (.n 99))] (.a (.b true)) := by unfold Says; kernel_rfl
theorem let_102 : Says Γz 2000 (.l (.r (.r (.l (.r .h))))) [.a (.i .u8 (.n 102))] (.a (.b true)) := by unfold Says; kernel_rfl
theorem let_105 : Says Γz 2000 (.l (.r (.r (.l (.r .h))))) [.a (.i .u8 (.n 105))] (.a (.b true)) := by unfold Says; kernel_rfl
theorem let_110 : Says Γz 2000 (.l (.r (.r (.l (.r .h))))) [.a (.i .u8 (.n 110))] (.a (.b true)) := by unfold Says; kernel_rfl
theorem let_114 : Says Γz 2000 (.l (.r (.r (.l (.r .h))))) [.a (.i .u8 (.n 114))] (.a (.b true)) := by unfold Says; kernel_rfl
theorem let_116 : Says Γz 2000 (.l (.r (.r (.l (.r .h))))) [.a (.i .u8 (.n 116))] (.a (.b true)) := by unfold Says; kernel_rfl
theorem let_117 : Says Γz 2000 (.l (.r (.r (.l (.r .h))))) [.a (.i .u8 (.n 117))] (.a (.b true)) := by unfold Says; kernel_rfl
theorem let_118 : Says Γz 2000 (.l (.r (.r (.l (.r .h))))) [.a (.i .u8 (.n 118))] (.a (.b true)) := by unfold Says; kernel_rfl
theorem let_123 : Says Γz 2000 (.l (.r (.r (.l (.r .h))))) [.a (.i .u8 (.n 123))] (.a (.b false)) := by unfold Says; kernel_rfl
theorem let_125 : Says Γz 2000 (.l (.r (.r (.l (.r .h))))) [.a (.i .u8 (.n 125))] (.a (.b false)) := by unfold Says; kernel_rfl
noncomputable def letT : T (Option V) := (.n (.n (.n (.n .e none (.n .e none (.n .e (some (.a (.b false))) .e))) none (.n (.n (.n .e none (.n .e (some (.a (.b true))) .e)) none (.n .e (some (.a (.b false))) .e)) none (.n .e none (.n .e (some (.a (.b false))) (.n .e (some (.a (.b false))) .e))))) none (.n (.n (.n (.n .e none (.n .e (some (.a (.b true))) .e)) none (.n .e (some (.a (.b false))) .e)) none (.n (.n .e (some (.a (.b false))) (.n .e (some (.a (.b true))) .e)) none (.n .e (some (.a (.b false))) .e))) none (.n (.n .e none (.n .e (some (.a (.b false))) (.n .e (some (.a (.b true))) .e))) none (.n .e none (.n .e (some (.a (.b false))) (.n .e (some (.a (.b false))) .e)))))) none (.n (.n (.n (.n (.n .e (some (.a (.b false))) .e) none (.n .e (some (.a (.b false))) .e)) none (.n (.n .e (some (.a (.b false))) .e) none (.n .e (some (.a (.b false))) .e))) none (.n (.n .e none (.n .e (some (.a (.b false))) (.n .e (some (.a (.b true))) .e))) none (.n (.n .e (some (.a (.b false))) .e) none .e))) none (.n (.n (.n .e none (.n .e (some (.a (.b false))) (.n .e (some (.a (.b true))) .e))) none (.n .e none (.n .e (some (.a (.b false))) .e))) none (.n (.n (.n .e none (.n .e (some (.a (.b true))) .e)) none (.n .e (some (.a (.b false))) (.n .e (some (.a (.b true))) .e))) none (.n (.n .e none (.n .e (some (.a (.b true))) .e)) none .e)))))
theorem letT_ok (σ : Sg) : letT.All (PcT σ (.l (.r (.r (.l (.r .h))))) .u8) := (all_n trivial (all_n trivial (all_n trivial (all_n trivial all_e (all_n trivial all_e (all_n (says_pc σ rfl rfl let_55) all_e all_e))) (all_n trivial (all_n trivial (all_n trivial all_e (all_n (says_pc σ rfl rfl let_99) all_e all_e)) (all_n (says_pc σ rfl rfl let_51) all_e all_e)) (all_n trivial all_e (all_n (says_pc σ rfl rfl let_59) all_e (all_n (says_pc σ rfl rfl let_123) all_e all_e))))) (all_n trivial (all_n trivial (all_n trivial (all_n trivial all_e (all_n (says_pc σ rfl rfl let_97) all_e all_e)) (all_n (says_pc σ rfl rfl let_49) all_e all_e)) (all_n trivial (all_n (says_pc σ rfl rfl let_41) all_e (all_n (says_pc σ rfl rfl let_105) all_e all_e)) (all_n (says_pc σ rfl rfl let_57) all_e all_e))) (all_n trivial (all_n trivial all_e (all_n (says_pc σ rfl rfl let_53) all_e (all_n (says_pc σ rfl rfl let_117) all_e all_e))) (all_n trivial all_e (all_n (says_pc σ rfl rfl let_61) all_e (all_n (says_pc σ rfl rfl let_125) all_e all_e)))))) (all_n trivial (all_n trivial (all_n trivial (all_n trivial (all_n (says_pc σ rfl rfl let_32) all_e all_e) (all_n (says_pc σ rfl rfl let_48) all_e all_e)) (all_n trivial (all_n (says_pc σ rfl rfl let_40) all_e all_e) (all_n (says_pc σ rfl rfl let_56) all_e all_e))) (all_n trivial (all_n trivial all_e (all_n (says_pc σ rfl rfl let_52) all_e (all_n (says_pc σ rfl rfl let_116) all_e all_e))) (all_n trivial (all_n (says_pc σ rfl rfl let_44) all_e all_e) all_e))) (all_n trivial (all_n trivial (all_n trivial all_e (all_n (says_pc σ rfl rfl let_50) all_e (all_n (says_pc σ rfl rfl let_114) all_e all_e))) (all_n trivial all_e (all_n (says_pc σ rfl rfl let_58) all_e all_e))) (all_n trivial (all_n trivial (all_n trivial all_e (all_n (says_pc σ rfl rfl let_102) all_e all_e)) (all_n (says_pc σ rfl rfl let_54) all_e (all_n (says_pc σ rfl rfl let_118) all_e all_e))) (all_n trivial (all_n trivial all_e (all_n (says_pc σ rfl rfl let_110) all_e all_e)) all_e)))))
theorem letF_ok (σ : Sg) : KnQ Try.prog sites σ 53 (some (pcT .u8 letT)) := pcT_ok σ (fp := (.l (.r (.r (.l (.r .h)))))) ⟨_, Try.func53, by kernel_rfl, by kernel_rfl⟩ (letT_ok σ)
theorem dgt_32 : Says Γz 2000 (.r (.r (.r (.l (.r .h))))) [.a (.i .u8 (.n 32))] (.a (.b false)) := by unfold Says; kernel_rfl
theorem dgt_40 : Says Γz 2000 (.r (.r (.r (.l (.r .h))))) [.a (.i .u8 (.n 40))] (.a (.b false)) := by unfold Says; kernel_rfl
theorem dgt_41 : Says Γz 2000 (.r (.r (.r (.l (.r .h))))) [.a (.i .u8 (.n 41))] (.a (.b false)) := by unfold Says; kernel_rfl
theorem dgt_44 : Says Γz 2000 (.r (.r (.r (.l (.r .h))))) [.a (.i .u8 (.n 44))] (.a (.b false)) := by unfold Says; kernel_rfl
theorem dgt_48 : Says Γz 2000 (.r (.r (.r (.l (.r .h))))) [.a (.i .u8 (.n 48))] (.a (.b true)) := by unfold Says; kernel_rfl
theorem dgt_49 : Says Γz 2000 (.r (.r (.r (.l (.r .h))))) [.a (.i .u8 (.n 49))] (.a (.b true)) := by unfold Says; kernel_rfl
theorem dgt_50 : Says Γz 2000 (.r (.r (.r (.l (.r .h))))) [.a (.i .u8 (.n 50))] (.a (.b true)) := by unfold Says; kernel_rfl
theorem dgt_51 : Says Γz 2000 (.r (.r (.r (.l (.r .h))))) [.a (.i .u8 (.n 51))] (.a (.b true)) := by unfold Says; kernel_rfl
theorem dgt_52 : Says Γz 2000 (.r (.r (.r (.l (.r .h))))) [.a (.i .u8 (.n 52))] (.a (.b true)) := by unfold Says; kernel_rfl
theorem dgt_53 : Says Γz 2000 (.r (.r (.r (.l (.r .h))))) [.a (.i .u8 (.n 53))] (.a (.b true)) := by unfold Says; kernel_rfl
theorem dgt_54 : Says Γz 2000 (.r (.r (.r (.l (.r .h))))) [.a (.i .u8 (.n 54))] (.a (.b true)) := by unfold Says; kernel_rfl
theorem dgt_55 : Says Γz 2000 (.r (.r (.r (.l (.r .h))))) [.a (.i .u8 (.n 55))] (.a (.b true)) := by unfold Says; kernel_rfl
theorem dgt_56 : Says Γz 2000 (.r (.r (.r (.l (.r .h))))) [.a (.i .u8 (.n 56))] (.a (.b true)) := by unfold Says; kernel_rfl
theorem dgt_57 : Says Γz 2000 (.r (.r (.r (.l (.r .h))))) [.a (.i .u8 (.n 57))] (.a (.b true)) := by unfold Says; kernel_rfl
theorem dgt_58 : Says Γz 2000 (.r (.r (.r (.l (.r .h))))) [.a (.i .u8 (.n 58))] (.a (.b false)) := by unfold Says; kernel_rfl
theorem dgt_59 : Says Γz 2000 (.r (.r (.r (.l (.r .h))))) [.a (.i .u8 (.n 59))] (.a (.b false)) := by unfold Says; kernel_rfl
theorem dgt_61 : Says Γz 2000 (.r (.r (.r (.l (.r .h))))) [.a (.i .u8 (.n 61))] (.a (.b false)) := by unfold Says; kernel_rfl
theorem dgt_123 : Says Γz 2000 (.r (.r (.r (.l (.r .h))))) [.a (.i .u8 (.n 123))] (.a (.b false)) := by unfold Says; kernel_rfl
theorem dgt_125 : Says Γz 2000 (.r (.r (.r (.l (.r .h))))) [.a (.i .u8 (.n 125))] (.a (.b false)) := by unfold Says; kernel_rfl
noncomputable def dgtT : T (Option V) := (.n (.n (.n (.n .e none (.n .e none (.n .e (some (.a (.b true))) .e))) none (.n (.n .e none (.n .e (some (.a (.b true))) .e)) none (.n .e none (.n .e (some (.a (.b false))) (.n .e (some (.a (.b false))) .e))))) none (.n (.n (.n .e none (.n .e (some (.a (.b true))) .e)) none (.n (.n .e (some (.a (.b false))) .e) none (.n .e (some (.a (.b true))) .e))) none (.n (.n .e none (.n .e (some (.a (.b true))) .e)) none (.n .e none (.n .e (some (.a (.b false))) (.n .e (some (.a (.b false))) .e)))))) none (.n (.n (.n (.n (.n .e (some (.a (.b false))) .e) none (.n .e (some (.a (.b true))) .e)) none (.n (.n .e (some (.a (.b false))) .e) none (.n .e (some (.a (.b true))) .e))) none (.n (.n .e none (.n .e (some (.a (.b true))) .e)) none (.n (.n .e (some (.a (.b false))) .e) none .e))) none (.n (.n (.n .e none (.n .e (some (.a (.b true))) .e)) none (.n .e none (.n .e (some (.a (.b false))) .e))) none (.n (.n .e none (.n .e (some (.a (.b true))) .e)) none .e))))
theorem dgtT_ok (σ : Sg) : dgtT.All (PcT σ (.r (.r (.r (.l (.r .h))))) .u8) := (all_n trivial (all_n trivial (all_n trivial (all_n trivial all_e (all_n trivial all_e (all_n (says_pc σ rfl rfl dgt_55) all_e all_e))) (all_n trivial (all_n trivial all_e (all_n (says_pc σ rfl rfl dgt_51) all_e all_e)) (all_n trivial all_e (all_n (says_pc σ rfl rfl dgt_59) all_e (all_n (says_pc σ rfl rfl dgt_123) all_e all_e))))) (all_n trivial (all_n trivial (all_n trivial all_e (all_n (says_pc σ rfl rfl dgt_49) all_e all_e)) (all_n trivial (all_n (says_pc σ rfl rfl dgt_41) all_e all_e) (all_n (says_pc σ rfl rfl dgt_57) all_e all_e))) (all_n trivial (all_n trivial all_e (all_n (says_pc σ rfl rfl dgt_53) all_e all_e)) (all_n trivial all_e (all_n (says_pc σ rfl rfl dgt_61) all_e (all_n (says_pc σ rfl rfl dgt_125) all_e all_e)))))) (all_n trivial (all_n trivial (all_n trivial (all_n trivial (all_n (says_pc σ rfl rfl dgt_32) all_e all_e) (all_n (says_pc σ rfl rfl dgt_48) all_e all_e)) (all_n trivial (all_n (says_pc σ rfl rfl dgt_40) all_e all_e) (all_n (says_pc σ rfl rfl dgt_56) all_e all_e))) (all_n trivial (all_n trivial all_e (all_n (says_pc σ rfl rfl dgt_52) all_e all_e)) (all_n trivial (all_n (says_pc σ rfl rfl dgt_44) all_e all_e) all_e))) (all_n trivial (all_n trivial (all_n trivial all_e (all_n (says_pc σ rfl rfl dgt_50) all_e all_e)) (all_n trivial all_e (all_n (says_pc σ rfl rfl dgt_58) all_e all_e))) (all_n trivial (all_n trivial all_e (all_n (says_pc σ rfl rfl dgt_54) all_e all_e)) all_e))))
theorem dgtF_ok (σ : Sg) : KnQ Try.prog sites σ 54 (some (pcT .u8 dgtT)) := pcT_ok σ (fp := (.r (.r (.r (.l (.r .h)))))) ⟨_, Try.func54, by kernel_rfl, by kernel_rfl⟩ (dgtT_ok σ)
theorem res_0 : Says Γz 2000 (.l (.l (.l (.r (.r .h))))) [.a (.t 353)] (.a (.b false)) := by unfold Says; kernel_rfl
theorem res_1 : Says Γz 2000 (.l (.l (.l (.r (.r .h))))) [.a (.t 358)] (.a (.b false)) := by unfold Says; kernel_rfl
theorem res_2 : Says Γz 2000 (.l (.l (.l (.r (.r .h))))) [.a (.t 5963150694)] (.a (.b true)) := by unfold Says; kernel_rfl
theorem res_3 : Says Γz 2000 (.l (.l (.l (.r (.r .h))))) [.a (.t 24273270)] (.a (.b true)) := by unfold Says; kernel_rfl
theorem res_4 : Says Γz 2000 (.l (.l (.l (.r (.r .h))))) [.a (.t 24407657)] (.a (.b true)) := by unfold Says; kernel_rfl
theorem res_5 : Says Γz 2000 (.l (.l (.l (.r (.r .h))))) [.a (.t 77921)] (.a (.b false)) := by unfold Says; kernel_rfl
theorem res_6 : Says Γz 2000 (.l (.l (.l (.r (.r .h))))) [.a (.t 78177)] (.a (.b false)) := by unfold Says; kernel_rfl
theorem res_7 : Says Γz 2000 (.l (.l (.l (.r (.r .h))))) [.a (.t 78433)] (.a (.b false)) := by unfold Says; kernel_rfl
theorem res_8 : Says Γz 2000 (.l (.l (.l (.r (.r .h))))) [.a (.t 78689)] (.a (.b false)) := by unfold Says; kernel_rfl
theorem res_9 : Says Γz 2000 (.l (.l (.l (.r (.r .h))))) [.a (.t 78945)] (.a (.b false)) := by unfold Says; kernel_rfl
theorem res_10 : Says Γz 2000 (.l (.l (.l (.r (.r .h))))) [.a (.t 79201)] (.a (.b false)) := by unfold Says; kernel_rfl
theorem res_11 : Says Γz 2000 (.l (.l (.l (.r (.r .h))))) [.a (.t 77926)] (.a (.b false)) := by unfold Says; kernel_rfl
theorem res_12 : Says Γz 2000 (.l (.l (.l (.r (.r .h))))) [.a (.t 78182)] (.a (.b false)) := by unfold Says; kernel_rfl
theorem res_13 : Says Γz 2000 (.l (.l (.l (.r (.r .h))))) [.a (.t 78438)] (.a (.b false)) := by unfold Says; kernel_rfl
theorem res_14 : Says Γz 2000 (.l (.l (.l (.r (.r .h))))) [.a (.t 78694)] (.a (.b false)) := by unfold Says; kernel_rfl
theorem res_15 : Says Γz 2000 (.l (.l (.l (.r (.r .h))))) [.a (.t 78950)] (.a (.b false)) := by unfold Says; kernel_rfl
theorem res_16 : Says Γz 2000 (.l (.l (.l (.r (.r .h))))) [.a (.t 79206)] (.a (.b false)) := by unfold Says; kernel_rfl
theorem res_17 : Says Γz 2000 (.l (.l (.l (.r (.r .h))))) [.a (.t 79462)] (.a (.b false)) := by unfold Says; kernel_rfl
theorem res_18 : Says Γz 2000 (.l (.l (.l (.r (.r .h))))) [.a (.t 79718)] (.a (.b false)) := by unfold Says; kernel_rfl
theorem res_19 : Says Γz 2000 (.l (.l (.l (.r (.r .h))))) [.a (.t 79974)] (.a (.b false)) := by unfold Says; kernel_rfl
theorem res_20 : Says Γz 2000 (.l (.l (.l (.r (.r .h))))) [.a (.t 80230)] (.a (.b false)) := by unfold Says; kernel_rfl
theorem res_21 : Says Γz 2000 (.l (.l (.l (.r (.r .h))))) [.a (.t 372)] (.a (.b false)) := by unfold Says; kernel_rfl
theorem res_22 : Says Γz 2000 (.l (.l (.l (.r (.r .h))))) [.a (.t 77942)] (.a (.b false)) := by unfold Says; kernel_rfl
theorem res_23 : Says Γz 2000 (.l (.l (.l (.r (.r .h))))) [.a (.t 78198)] (.a (.b false)) := by unfold Says; kernel_rfl
theorem res_24 : Says Γz 2000 (.l (.l (.l (.r (.r .h))))) [.a (.t 19935606)] (.a (.b false)) := by unfold Says; kernel_rfl
theorem res_25 : Says Γz 2000 (.l (.l (.l (.r (.r .h))))) [.a (.t 20001142)] (.a (.b false)) := by unfold Says; kernel_rfl
theorem res_26 : Says Γz 2000 (.l (.l (.l (.r (.r .h))))) [.a (.t 20066678)] (.a (.b false)) := by unfold Says; kernel_rfl
theorem res_27 : Says Γz 2000 (.l (.l (.l (.r (.r .h))))) [.a (.t 20132214)] (.a (.b false)) := by unfold Says; kernel_rfl
theorem res_28 : Says Γz 2000 (.l (.l (.l (.r (.r .h))))) [.a (.t 20197750)] (.a (.b false)) := by unfold Says; kernel_rfl
theorem res_29 : Says Γz 2000 (.l (.l (.l (.r (.r .h))))) [.a (.t 20263286)] (.a (.b false)) := by unfold Says; kernel_rfl
theorem res_30 : Says Γz 2000 (.l (.l (.l (.r (.r .h))))) [.a (.t 20328822)] (.a (.b false)) := by unfold Says; kernel_rfl
theorem res_31 : Says Γz 2000 (.l (.l (.l (.r (.r .h))))) [.a (.t 20394358)] (.a (.b false)) := by unfold Says; kernel_rfl
theorem res_32 : Says Γz 2000 (.l (.l (.l (.r (.r .h))))) [.a (.t 20459894)] (.a (.b false)) := by unfold Says; kernel_rfl
theorem res_33 : Says Γz 2000 (.l (.l (.l (.r (.r .h))))) [.a (.t 20525430)] (.a (.b false)) := by unfold Says; kernel_rfl
theorem res_34 : Says Γz 2000 (.l (.l (.l (.r (.r .h))))) [.a (.t 78454)] (.a (.b false)) := by unfold Says; kernel_rfl
theorem res_35 : Says Γz 2000 (.l (.l (.l (.r (.r .h))))) [.a (.t 19935862)] (.a (.b false)) := by unfold Says; kernel_rfl
theorem res_36 : Says Γz 2000 (.l (.l (.l (.r (.r .h))))) [.a (.t 20001398)] (.a (.b false)) := by unfold Says; kernel_rfl
theorem res_37 : Says Γz 2000 (.l (.l (.l (.r (.r .h))))) [.a (.t 20066934)] (.a (.b false)) := by unfold Says; kernel_rfl
theorem res_38 : Says Γz 2000 (.l (.l (.l (.r (.r .h))))) [.a (.t 20132470)] (.a (.b false)) := by unfold Says; kernel_rfl
theorem res_39 : Says Γz 2000 (.l (.l (.l (.r (.r .h))))) [.a (.t 20198006)] (.a (.b false)) := by unfold Says; kernel_rfl
theorem res_40 : Says Γz 2000 (.l (.l (.l (.r (.r .h))))) [.a (.t 20263542)] (.a (.b false)) := by unfold Says; kernel_rfl
theorem res_41 : Says Γz 2000 (.l (.l (.l (.r (.r .h))))) [.a (.t 78710)] (.a (.b false)) := by unfold Says; kernel_rfl
theorem res_42 : Says Γz 2000 (.l (.l (.l (.r (.r .h))))) [.a (.t 78966)] (.a (.b false)) := by unfold Says; kernel_rfl
theorem res_43 : Says Γz 2000 (.l (.l (.l (.r (.r .h))))) [.a (.t 79222)] (.a (.b false)) := by unfold Says; kernel_rfl
theorem res_44 : Says Γz 2000 (.l (.l (.l (.r (.r .h))))) [.a (.t 79478)] (.a (.b false)) := by unfold Says; kernel_rfl
theorem res_45 : Says Γz 2000 (.l (.l (.l (.r (.r .h))))) [.a (.t 79734)] (.a (.b false)) := by unfold Says; kernel_rfl
theorem res_46 : Says Γz 2000 (.l (.l (.l (.r (.r .h))))) [.a (.t 79990)] (.a (.b false)) := by unfold Says; kernel_rfl
theorem res_47 : Says Γz 2000 (.l (.l (.l (.r (.r .h))))) [.a (.t 80246)] (.a (.b false)) := by unfold Says; kernel_rfl
noncomputable def resL : List (List V × V) := [([.a (.t 353)], .a (.b false)), ([.a (.t 358)], .a (.b false)), ([.a (.t 5963150694)], .a (.b true)), ([.a (.t 24273270)], .a (.b true)), ([.a (.t 24407657)], .a (.b true)), ([.a (.t 77921)], .a (.b false)), ([.a (.t 78177)], .a (.b false)), ([.a (.t 78433)], .a (.b false)), ([.a (.t 78689)], .a (.b false)), ([.a (.t 78945)], .a (.b false)), ([.a (.t 79201)], .a (.b false)), ([.a (.t 77926)], .a (.b false)), ([.a (.t 78182)], .a (.b false)), ([.a (.t 78438)], .a (.b false)), ([.a (.t 78694)], .a (.b false)), ([.a (.t 78950)], .a (.b false)), ([.a (.t 79206)], .a (.b false)), ([.a (.t 79462)], .a (.b false)), ([.a (.t 79718)], .a (.b false)), ([.a (.t 79974)], .a (.b false)), ([.a (.t 80230)], .a (.b false)), ([.a (.t 372)], .a (.b false)), ([.a (.t 77942)], .a (.b false)), ([.a (.t 78198)], .a (.b false)), ([.a (.t 19935606)], .a (.b false)), ([.a (.t 20001142)], .a (.b false)), ([.a (.t 20066678)], .a (.b false)), ([.a (.t 20132214)], .a (.b false)), ([.a (.t 20197750)], .a (.b false)), ([.a (.t 20263286)], .a (.b false)), ([.a (.t 20328822)], .a (.b false)), ([.a (.t 20394358)], .a (.b false)), ([.a (.t 20459894)], .a (.b false)), ([.a (.t 20525430)], .a (.b false)), ([.a (.t 78454)], .a (.b false)), ([.a (.t 19935862)], .a (.b false)), ([.a (.t 20001398)], .a (.b false)), ([.a (.t 20066934)], .a (.b false)), ([.a (.t 20132470)], .a (.b false)), ([.a (.t 20198006)], .a (.b false)), ([.a (.t 20263542)], .a (.b false)), ([.a (.t 78710)], .a (.b false)), ([.a (.t 78966)], .a (.b false)), ([.a (.t 79222)], .a (.b false)), ([.a (.t 79478)], .a (.b false)), ([.a (.t 79734)], .a (.b false)), ([.a (.t 79990)], .a (.b false)), ([.a (.t 80246)], .a (.b false))]
theorem resF_ok (σ : Sg) : KnQ Try.prog sites σ 55 (some (pcL resL)) := by
  refine knL (fp := (.l (.l (.l (.r (.r .h)))))) ⟨_, Try.func55, by kernel_rfl, by kernel_rfl⟩ fun e he => ?_
  simp only [resL, List.mem_cons, List.not_mem_nil, or_false] at he
  rcases he with rfl | rfl | rfl | rfl | rfl | rfl | rfl | rfl | rfl | rfl | rfl | rfl | rfl | rfl | rfl | rfl | rfl | rfl | rfl | rfl | rfl | rfl | rfl | rfl | rfl | rfl | rfl | rfl | rfl | rfl | rfl | rfl | rfl | rfl | rfl | rfl | rfl | rfl | rfl | rfl | rfl | rfl | rfl | rfl | rfl | rfl | rfl | rfl
  · exact says_pc σ rfl rfl res_0
  · exact says_pc σ rfl rfl res_1
  · exact says_pc σ rfl rfl res_2
  · exact says_pc σ rfl rfl res_3
  · exact says_pc σ rfl rfl res_4
  · exact says_pc σ rfl rfl res_5
  · exact says_pc σ rfl rfl res_6
  · exact says_pc σ rfl rfl res_7
  · exact says_pc σ rfl rfl res_8
  · exact says_pc σ rfl rfl res_9
  · exact says_pc σ rfl rfl res_10
  · exact says_pc σ rfl rfl res_11
  · exact says_pc σ rfl rfl res_12
  · exact says_pc σ rfl rfl res_13
  · exact says_pc σ rfl rfl res_14
  · exact says_pc σ rfl rfl res_15
  · exact says_pc σ rfl rfl res_16
  · exact says_pc σ rfl rfl res_17
  · exact says_pc σ rfl rfl res_18
  · exact says_pc σ rfl rfl res_19
  · exact says_pc σ rfl rfl res_20
  · exact says_pc σ rfl rfl res_21
  · exact says_pc σ rfl rfl res_22
  · exact says_pc σ rfl rfl res_23
  · exact says_pc σ rfl rfl res_24
  · exact says_pc σ rfl rfl res_25
  · exact says_pc σ rfl rfl res_26
  · exact says_pc σ rfl rfl res_27
  · exact says_pc σ rfl rfl res_28
  · exact says_pc σ rfl rfl res_29
  · exact says_pc σ rfl rfl res_30
  · exact says_pc σ rfl rfl res_31
  · exact says_pc σ rfl rfl res_32
  · exact says_pc σ rfl rfl res_33
  · exact says_pc σ rfl rfl res_34
  · exact says_pc σ rfl rfl res_35
  · exact says_pc σ rfl rfl res_36
  · exact says_pc σ rfl rfl res_37
  · exact says_pc σ rfl rfl res_38
  · exact says_pc σ rfl rfl res_39
  · exact says_pc σ rfl rfl res_40
  · exact says_pc σ rfl rfl res_41
  · exact says_pc σ rfl rfl res_42
  · exact says_pc σ rfl rfl res_43
  · exact says_pc σ rfl rfl res_44
  · exact says_pc σ rfl rfl res_45
  · exact says_pc σ rfl rfl res_46
  · exact says_pc σ rfl rfl res_47
theorem known_says : Says Γz 20000 (.r (.r (.l .h))) [] (.a (.b true)) := by unfold Says; kernel_rfl
noncomputable def knownL : List (List V × V) := [([], .a (.b true))]
theorem knownF_ok (σ : Sg) : KnQ Try.prog sites σ 10 (some (pcL knownL)) := by
  refine knL (fp := (.r (.r (.l .h)))) ⟨_, Try.func10, by kernel_rfl, by kernel_rfl⟩ fun e he => ?_
  simp only [knownL, List.mem_cons, List.not_mem_nil, or_false] at he
  subst he
  exact says_pc σ rfl rfl known_says
noncomputable def modL (k : Nat) : List (List V × V) := [([.a (.i .i64 (.v 0)), .a (.i .i64 (.n 5))], .a (.i .i64 (.n k)))]
noncomputable def Γm (r : SE) : Env := ⟨tab, sites, [(.b .rem .i64 (.v 0) (.n 5), r)], [], .e⟩
def ModSays (r : SE) (k : Nat) : Prop := Says (Γm r) 200 (.l (.r .h)) [.a (.i .i64 (.v 0)), .a (.i .i64 (.n 5))] (.a (.i .i64 (.n k)))
theorem modF_ok (σ : Sg) (r : SE) (k : Nat) (hm : (SE.b .rem .i64 (.v 0) (.n 5)).den σ = r.den σ) (h : ModSays r k) : KnQ Try.prog sites σ 5 (some (pcL (modL k))) := by
  refine knL (fp := (.l (.r .h))) ⟨_, Try.func5, by kernel_rfl, by kernel_rfl⟩ fun e he => ?_
  simp only [modL, List.mem_cons, List.not_mem_nil, or_false] at he
  subst he
  refine pcall_mk (CV := sites) (Γ := Γm r) mixed tys_ok ⟨fun p hp => ?_, fun p hp => (by cases hp)⟩ tab_ok rfl sites_ok trivial rfl rfl h
  simp only [Γm, List.mem_cons, List.not_mem_nil, or_false] at hp
  subst hp
  exact hm
theorem tmod_rng (n : Int) (k : Int) (hk : 0 < k) : -k < n.tmod k ∧ n.tmod k < k := by
  rcases Int.le_total 0 n with h | h
  · have h1 := Int.tmod_nonneg k h
    have h2 := Int.tmod_lt_of_pos n hk
    omega
  · have h1 := Int.tmod_nonneg k (a := -n) (by omega)
    have h2 := Int.tmod_lt_of_pos (-n) hk
    rw [Int.neg_tmod] at h1 h2
    omega
theorem modP : ∀ k, k < 5 → ModSays (.n k) k
  | 0, _ => by unfold ModSays Says; kernel_rfl
  | 1, _ => by unfold ModSays Says; kernel_rfl
  | 2, _ => by unfold ModSays Says; kernel_rfl
  | 3, _ => by unfold ModSays Says; kernel_rfl
  | 4, _ => by unfold ModSays Says; kernel_rfl
  | k + 5, h => absurd h (by omega)
theorem modN : ∀ j, j < 4 → ∃ k, k < 5 ∧ ModSays (.g j) k
  | 0, _ => ⟨4, by omega, by unfold ModSays Says; kernel_rfl⟩
  | 1, _ => ⟨3, by omega, by unfold ModSays Says; kernel_rfl⟩
  | 2, _ => ⟨2, by omega, by unfold ModSays Says; kernel_rfl⟩
  | 3, _ => ⟨1, by omega, by unfold ModSays Says; kernel_rfl⟩
  | j + 4, h => absurd h (by omega)
theorem mod5 (σ : Sg) : ∃ k : Nat, k < 5 ∧ KnQ Try.prog sites σ 5 (some (pcL (modL k))) := by
  have hr := tmod_rng (σ 0) 5 (by omega)
  have hd : (SE.b .rem .i64 (.v 0) (.n 5)).den σ = (σ 0).tmod 5 := rfl
  cases hx : (σ 0).tmod 5 with
  | ofNat k =>
    have hk : k < 5 := by rw [hx] at hr; have := hr.2; simp only [Int.ofNat_eq_natCast] at this; omega
    exact ⟨k, hk, modF_ok σ (.n k) k (by rw [hd, hx]; rfl) (modP k hk)⟩
  | negSucc j =>
    have hj : j < 4 := by rw [hx] at hr; have := hr.1; omega
    obtain ⟨k, hk, hs⟩ := modN j hj
    exact ⟨k, hk, modF_ok σ (.g j) k (by rw [hd, hx]; rfl) hs⟩
noncomputable def pcS : T (Option KF) := (.n (.n (.n (.n .e none (.n .e none (.n .e (some (pcL resL)) .e))) none .e) none (.n .e none (.n (.n .e none (.n .e (some (pcT .u8 letT)) .e)) none .e))) none (.n .e none (.n .e none (.n (.n .e none (.n .e (some (pcT .u8 dgtT)) .e)) none .e))))
theorem pcS_ok (σ : Sg) : pcS.All (KnQ Try.prog sites σ) := (all_n trivial (all_n trivial (all_n trivial (all_n trivial all_e (all_n trivial all_e (all_n (resF_ok σ) all_e all_e))) all_e) (all_n trivial all_e (all_n trivial (all_n trivial all_e (all_n (letF_ok σ) all_e all_e)) all_e))) (all_n trivial all_e (all_n trivial all_e (all_n trivial (all_n trivial all_e (all_n (dgtF_ok σ) all_e all_e)) all_e))))
noncomputable def Γs : Env := ⟨tab, sites, [], [], pcS⟩
theorem Γs_ok (σ : Sg) : Γs.Ok σ := ⟨fun p h => (by cases h), fun p h => (by cases h)⟩
noncomputable def z0 : A := .i .i64 (.n 0)
noncomputable def z1 : A := .i .i64 (.n 1)
noncomputable def z3 : A := .i .i64 (.n 3)
noncomputable def z4 : A := .i .i64 (.n 4)
noncomputable def restS : List U := [.a z0, .a z0]
end Go.Proofs.Ytikafojlhinonaa
