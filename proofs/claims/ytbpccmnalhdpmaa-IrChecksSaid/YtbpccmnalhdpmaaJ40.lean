/- IrChecks: E26. -/
import Derived.Test.YtbpccmnalhdpmaaJ39
set_option linter.unusedVariables false
namespace Go.Ev
open Go.RowKit Go.Fw
noncomputable section
section
variable {P : Program} {Θ : T (Option TyI)} {σ : Nat → Int} {Γ : Env} {CV : T (Option Site)} (hm : P.follows .mixedOrders = true) (hΘ : Θ.All (TyQ P)) (hΓ : Γ.Ok σ) (hfn : Γ.fns.All (FnQ P Θ (CVr Θ CV))) (hcv : Γ.sites = CV) (hsi : CV.All (SiteQ (CVr Θ CV)))
theorem cvPps_ok {N : Nat} : ∀ {l : List Nat} {qs : List Pp}, cvPps N l = some qs → l = qs.map Pp.toNat ∧ ∀ p ∈ qs, p.toNat < N
  | [], qs, h => by cases h; exact ⟨rfl, fun p hp => by cases hp⟩
  | t :: l, qs, h => by
    obtain ⟨q, h1, h2⟩ := Option.bind_eq_some_iff.1 h
    obtain ⟨p, rfl, h3⟩ := Option.bind_eq_some_iff.1 h2
    obtain ⟨qs', h4, rfl⟩ := Option.map_eq_some_iff.1 h3
    obtain ⟨h5, p', h6, h7⟩ := cvD_some h1
    cases h6
    obtain ⟨h8, h9⟩ := cvPps_ok h4
    refine ⟨by rw [List.map_cons, ← h8, h7], fun p' hp => ?_⟩
    rcases List.mem_cons.1 hp with rfl | hp
    · omega
    · exact h9 p' hp
theorem stp_alloc {η : Eta} {h : AH} {w : World} (hh : HRel P CV σ η h w) (o : Obj) : HRel P CV σ η h (w.alloc o) ∧ Stp η h w η h (w.alloc o) := by
  have old : ∀ b, b < w.heap.size → (w.alloc o).heap[b]? = w.heap[b]? := fun b hb => heap_alloc_old w o hb
  have hsz : (w.alloc o).heap.size = w.heap.size + 1 := by simp
  exact ⟨hh.same (by omega) (fun r b c _ he => old b (hh.bnd r b c he)), ⟨Eta.le.refl _, Nat.le_refl _, fun _ _ h => h, by omega, fun b hb _ => old b hb, fun r b c h1 h2 => (by rw [h1] at h2; cases h2), rfl, rfl, rfl, fun b L hL => ⟨L, by rw [old b (Array.getElem?_eq_some_iff.1 hL).1]; exact hL⟩⟩⟩
/-- entering a range over a function -/
theorem enter_ok {η : Eta} {h : AH} {w : World} {F : Fence} {base : Nat} {ds : List Deferred} (hF : Fok F w) (hh : HRel P CV σ η h w) (hdf : DfR base w ds) (hb : base ≤ w.heap.size) (fn : FuncId) (tmps : Array Value) (ps : Array Tmp) (as bd : Code) :
    ∃ (mark : List Deferred) (wA : World) (dfr : Nat), (Instr.enterLoop fn tmps ps as bd F.round).run P w = .ok (wA.heap.size, mark) (wA.alloc (.loop { state := .ready, pending := none, fn, tmps, params := ps, assign := as, body := bd, defers := dfr })) ∧
      HRel P CV σ η h wA ∧ Stp η h w η h wA ∧ DfR base wA (mark ++ ds) ∧ Fok F wA := by
  rcases hF with rfl | ⟨l, L, rfl, hL⟩
  · obtain ⟨h1, h2⟩ := stp_alloc hh (.deferred (some []))
    have hdf2 := hdf.step hh h2
    refine ⟨[{ target := .collected w.heap.size, args := #[] }], w.alloc (.deferred (some [])), w.heap.size, ?_, h1, h2, ?_, .inl rfl⟩
    · have := run_enterLoop_outer (P := P) (w := w) fn tmps ps as bd
      rw [World.size_alloc]
      exact this
    · obtain ⟨rs, d1, d2, d3⟩ := hdf2
      obtain ⟨rs', d1', d2', d3'⟩ := hdf
      refine ⟨w.heap.size :: rs, by rw [d1]; rfl, List.nodup_cons.2 ⟨fun hin => ?_, d2⟩, fun r hr => ?_⟩
      · have he : rs = rs' := by
          have : rs.map (fun r => ({ target := .collected r, args := #[] } : Deferred)) = rs'.map (fun r => { target := .collected r, args := #[] }) := by rw [← d1, ← d1']
          have inj : ∀ (l m : List Nat), l.map (fun r => ({ target := .collected r, args := #[] } : Deferred)) = m.map (fun r => { target := .collected r, args := #[] }) → l = m := by
            intro l
            induction l with
            | nil => intro m h; cases m with | nil => rfl | cons _ _ => cases h
            | cons x l ih =>
              intro m h
              cases m with
              | nil => cases h
              | cons y m =>
                simp only [List.map_cons, List.cons.injEq] at h
                obtain ⟨h1, h2⟩ := h
                injection h1 with h1
                injection h1 with h1
                rw [h1, ih m h2]
          exact inj rs rs' this
        rw [he] at hin
        have := (Array.getElem?_eq_some_iff.1 (d3' _ hin).2).1
        omega
      · rcases List.mem_cons.1 hr with rfl | hr
        · exact ⟨hb, by rw [heap_alloc_new]⟩
        · exact d3 r hr
  · refine ⟨[], w, L.defers, ?_, hh, Stp.refl η h w, hdf, .inr ⟨l, L, rfl, hL⟩⟩
    show (Instr.enterLoop fn tmps ps as bd (some l)).run P w = _
    unfold Instr.enterLoop
    simp [Sem.run_bind, run_getLoop hL]
variable {rn : Rn} (hg : Good P Θ CV σ rn)
include hcv hsi hg in
theorem Good.toRn : RnOk P CV (CVr Θ CV) σ Γ rn := ⟨hcv, hsi, fun c fr hh k out hk N c' hc => by
  obtain ⟨e, fr', h', h1, h2, _⟩ := hg c fr hh k out hk N c' hc
  exact ⟨e, fr', h', h1, h2⟩⟩
include hΘ hfn hcv hsi hg in
theorem gRf {x : X} {ps : List Pp} {id : Pp} {fr : T V} {h : AH} {k : KE} {out : Out}
    (hk : h.newK (.l 0 fr ps id .nrm) (fun r h1 => (rdX fr x).aK (fun v => v.fK (fun f c => toPK 20 f (fun fp => callK Γ rn fp (.a (.y r) :: capV c) h1 (fun _ h2 => (h2.row r).lK (fun st _ _ _ e => Bool.rec (motive := fun _ => R) (h2.putK r .d (k e fr)) none (Nat.beq st 1))))) (fun _ => none))) = some out)
    (N : Nat) (c' : Code) (hc : CVr Θ CV N c' (.rf x ps id)) : ∃ e fr' h', k e fr' h' = some out ∧ CodeDoes P CV σ N c' fr h e fr' h' := by
  rw [newK_eq] at hk
  obtain ⟨q, hq, g1⟩ := aK_some hk
  rcases fK_some g1 with ⟨f, caps, rfl, g2⟩ | ⟨r, rfl, g2⟩
  · obtain ⟨fp, hfp, g3⟩ := toPK_some _ _ _ _ g2
    obtain ⟨v, h2, g4, g5, g6⟩ := callK_some (P := P) (CV := CV) hΘ hfn (Good.toRn hcv hsi hg) g3
    obtain ⟨st, fr2, ps2, id2, e, hrow, g7⟩ := rowL_some g4
    have g8 : Nat.beq st 1 = false ∧ h2.putK h.nx .d (k e fr) = some out := by
      cases hb : Nat.beq st 1 with
      | true => rw [hb] at g7; cases g7
      | false => rw [hb] at g7; exact ⟨rfl, g7⟩
    obtain ⟨g8, g9⟩ := g8
    rw [putH_eq] at g9
    refine ⟨e, fr, _, g9, ?_⟩
    have inv : ∃ g ps' a' b', c' = .rangeFunc g ps' a' b' ∧ cvX g = some x ∧ cvPps N ps'.toList = some ps ∧ SiteIs CV (id, N, a', b') := by
      obtain ⟨hc, hob⟩ := hc
      cases c' with
      | rangeFunc g ps' a' b' =>
        obtain ⟨x', q1, q2⟩ := Option.bind_eq_some_iff.1 (show ((cvX g).bind fun x => (cvPps N ps'.toList).map fun qs => RC.rf x qs id) = some (.rf x ps id) from hc)
        obtain ⟨qs, q3, q4⟩ := map_inv q2
        cases q4
        exact ⟨g, ps', a', b', rfl, q1, q3, hob _ (by simp [obs])⟩
      | region i ops d => cases d <;> simp [cvC] at hc
      | _ => simp [cvC] at hc
    obtain ⟨g, ps', a', b', rfl, q1, q2, ⟨sit, t1, t2, t3, t4⟩⟩ := inv
    obtain ⟨p1, p2⟩ := cvPps_ok q2
    intro η ac w F base hF hh hfr hN hdf hb
    refine wpIn_rangeFunc fun fn _ => ?_
    obtain ⟨mark, wA, dfr, e1, e2, e3, e4, e5⟩ := enter_ok hF hh hdf hb fn ac.tmps ps' a' b'
    let L0 : Loop := { state := .ready, pending := none, fn, tmps := ac.tmps, params := ps', assign := a', body := b', defers := dfr }
    have hle : η.le (η.add h.nx (wA.heap.size, 0)) := Eta.le_add (hh.dom _ (Nat.le_refl _))
    have hnew := e2.new (o := .loop L0) (c := 0) (row := .l 0 fr ps id .nrm) ⟨L0, sit, t1, rfl, rfl, rfl, hfr.mono hle, p1, fun p hp => by show p.toNat < ac.tmps.size; rw [hN]; exact p2 p hp, by show ac.tmps.size = sit.N; rw [hN]; exact t2.symm, t3.symm, t4.symm⟩ (fun e => Row.noConfusion e)
    have dx := (hfr.xr [g]).get (by simp) q1
    rw [hq] at dx
    obtain ⟨vs, d1, d2⟩ := dx
    have hev : ac.eval g = .func (.func f) #[] vs.toArray := by rw [eval_eq]; exact d2
    rw [hfp] at g5 g6
    have hcall := g5 (η.add h.nx (wA.heap.size, 0)) (.func (.yield wA.heap.size) #[] #[] :: vs) (wA.alloc (.loop L0)) ⟨_, vs, rfl, ⟨wA.heap.size, 0, by simp [Eta.add], rfl⟩, (capV_ok d1).mono hle⟩ hnew.1
    have st1 : Stp η h w (η.add h.nx (wA.heap.size, 0)) _ (wA.alloc (.loop L0)) := Stp.trans hh.dom e3 hnew.2
    refine ⟨wA.heap.size, mark, _, { target := .fn (.func f) vs.toArray, args := #[.func (.yield wA.heap.size) #[] #[]] }, wA.alloc (.loop L0), f, (.func (.yield wA.heap.size) #[] #[] :: vs).toArray, wA.alloc (.loop L0), e1, ?_, fun f' _ => hF.fn f', ?_, hF.depth, ?_⟩
    · have hy : ac.eval (.const (.func (.yield wA.heap.size) #[] #[])) = .func (.yield wA.heap.size) #[] #[] := rfl
      simp [resolve, hev, hy, Deferred.ofValue, L0]
    · simp [invoke, run_callFunc g6]
    · refine hF.calls (hcall.mono fun en w3 he => ?_)
      obtain ⟨v', rfl, η2, r1, r2, r3⟩ := he
      have hb2 : η2 h.nx = some (wA.heap.size, 0) := r3.le _ _ (by simp [Eta.add])
      have hR := r2.rows h.nx _ _ hb2
      rw [hrow] at hR
      obtain ⟨L2, sv, s0, s1, s2, s3, s4, s5, s6, s7, s8⟩ := hR
      have hnb : L2.state ≠ .busy := by
        intro e
        rw [e] at s2
        match st, s2, g8 with
        | 0, s2, _ => cases s2
        | 1, _, g8 => cases g8
        | 2, s2, _ => cases s2
      have hlt : wA.heap.size < w3.heap.size := (Array.getElem?_eq_some_iff.1 s1).1
      have hup := r2.upd (r := h.nx) (row := .d) hb2 (by rw [hrow]; exact fun e => Row.noConfusion e) (putObj_chg w3 wA.heap.size (.loop { L2 with state := .exhausted })) trivial (fun L _ => ⟨_, World.putObj_heap_same hlt⟩)
      have st2 := Stp.trans hh.dom st1 (Stp.trans hnew.1.dom r3 hup.2)
      have hend0 := run_endLoop (P := P) s1 hnb
      have hend : (Instr.endLoop wA.heap.size).run P w3 = .ok e.code (w3.putObj wA.heap.size (.loop { L2 with state := .exhausted })) := by rw [← s3]; exact hend0
      have hdf3 : DfR base (w3.putObj wA.heap.size (.loop { L2 with state := .exhausted })) (mark ++ ac.defers) := ((e4.step e2 hnew.2).step hnew.1 r3).step r2 hup.2
      have hQ : ∀ x, x = e.exit → CQ P CV σ N base η h w e fr ⟨h2.nx, T.set .d .d h.nx h2.rows⟩ x { ac with defers := mark ++ ac.defers } (w3.putObj wA.heap.size (.loop { L2 with state := .exhausted })) := fun x hx => ⟨hx, η2, hup.1, (hfr.mono (hle.trans r3.le)), hN, hdf3, st2⟩
      refine ⟨e.code, _, hend, ?_⟩
      cases e with
      | nrm => exact hQ _ rfl
      | ex i => exact wpIn_exit (hQ _ rfl)
      | rt => exact wpIn_ret (hQ _ rfl)
  · cases g2
include hm hΘ hΓ hfn hcv hsi in
theorem good_run : ∀ n, Good P Θ CV σ (run Γ n)
  | 0 => fun c fr h k out hk => by cases hk
  | n + 1 => by
    have hg := good_run n
    have hrn := Good.toRn hcv hsi hg
    intro c fr h k out hk N c' hc
    have noloop : (∀ body, c ≠ .loop body) → (∃ e fr' h', k e fr' h' = some out ∧ CodeDoes P CV σ N c' fr h e fr' h') → ∃ e fr' h', k e fr' h' = some out ∧ CodeDoes P CV σ N c' fr h e fr' h' ∧
        ∀ body cb, c = .loop body → c' = .loop cb → e ≠ .nrm ∧ ∃ m, RoundsDoes P CV σ N cb m fr h e fr' h' := by
      rintro hn ⟨e, fr', h', h1, h2⟩
      exact ⟨e, fr', h', h1, h2, fun body cb hb => absurd hb (hn body)⟩
    cases c with
    | skip =>
      refine noloop (fun _ e => by cases e) ⟨.nrm, fr, h, hk, ?_⟩
      have inv : c' = .skip := by
        obtain ⟨hc, _⟩ := hc
        cases c' with
        | skip => rfl
        | region i ops d => cases d <;> simp [cvC] at hc
        | _ => simp [cvC] at hc
      subst inv
      exact fun η ac w F base hF hh hfr hN hdf hb => wpIn_skip ⟨rfl, η, hh, hfr, hN, hdf, Stp.refl η h w⟩
    | ex i =>
      refine noloop (fun _ e => by cases e) ⟨.ex i, fr, h, hk, ?_⟩
      have inv : c' = .exit i := by
        obtain ⟨hc, _⟩ := hc
        cases c' with
        | exit j => simp [cvC] at hc; rw [hc]
        | region i ops d => cases d <;> simp [cvC] at hc
        | _ => simp [cvC] at hc
      subst inv
      exact fun η ac w F base hF hh hfr hN hdf hb => wpIn_exit ⟨rfl, η, hh, hfr, hN, hdf, Stp.refl η h w⟩
    | rt =>
      refine noloop (fun _ e => by cases e) ⟨.rt, fr, h, hk, ?_⟩
      have inv : c' = .ret := by
        obtain ⟨hc, _⟩ := hc
        cases c' with
        | ret => rfl
        | region i ops d => cases d <;> simp [cvC] at hc
        | _ => simp [cvC] at hc
      subst inv
      exact fun η ac w F base hF hh hfr hN hdf hb => wpIn_ret ⟨rfl, η, hh, hfr, hN, hdf, Stp.refl η h w⟩
    | reg l =>
      refine noloop (fun _ e => by cases e) ?_
      have inv : ∃ i ops, c' = .region i ops false ∧ cvIs Θ N ops ops.toList = some l := by
        obtain ⟨hc, _⟩ := hc
        cases c' with
        | region i ops d =>
          cases d with
          | true => simp [cvC] at hc
          | false =>
            obtain ⟨l', q1, q2⟩ := map_inv (show (cvIs Θ N ops ops.toList).map RC.reg = some (.reg l) from hc)
            cases q2
            exact ⟨i, ops, rfl, q1⟩
        | _ => simp [cvC] at hc
      obtain ⟨i, ops, rfl, hq⟩ := inv
      obtain ⟨fr', h', g1, g2⟩ := regK_some (P := P) (CV := CV) hΘ hΓ hfn hrn (ops := ops) (pre := []) (rest := ops.toList) rfl hq (show regK l Γ (run Γ n) fr h (fun f h => k .nrm f h) = some out from hk)
      refine ⟨.nrm, fr', h', g1, fun η ac w F base hF hh hfr hN hdf hb => wpIn_region ?_⟩
      have := g2 base η h w F η ac w (CQ P CV σ N base η h w .nrm fr' h') hh.dom ⟨hF, hh, hfr, hN, hdf, Stp.refl η h w⟩ (fun η' a' w' s => ⟨rfl, η', s.hh, s.fr, s.N, s.df, s.st⟩)
      rw [List.range_eq_range']
      simpa using this
    | drw l =>
      refine noloop (fun _ e => by cases e) ?_
      have inv : ∃ i ops, c' = .region i ops true ∧ cvDr Θ N ops l = some l := by
        obtain ⟨hc, _⟩ := hc
        cases c' with
        | region i ops d =>
          cases d with
          | false => simp [cvC] at hc
          | true =>
            obtain ⟨l', q1, q2⟩ := map_inv (show (cvDr Θ N ops l).map RC.drw = some (.drw l) from hc)
            cases q2
            exact ⟨i, ops, rfl, q1⟩
        | _ => simp [cvC] at hc
      obtain ⟨i, ops, rfl, hq⟩ := inv
      obtain ⟨m, rc, hA, fA, tk, g1, g2, g3⟩ := drw_trace (P := P) (CV := CV) hΘ hΓ hfn hrn hq (show drwK l Γ (run Γ n) [] fr h h (fun f h => k .nrm f h) = some out from hk)
      refine ⟨.nrm, fA m, hA m, g1, fun η ac w F base hF hh hfr hN hdf hb => ?_⟩
      refine wpIn_region_any hm ?_
      subst g2
      subst g3
      have hw : HRel P CV σ η (hA 0) w.drew := hh.same (Nat.le_refl _) (fun _ _ _ _ _ => rfl)
      have hst : Stp η (hA 0) w η (hA 0) w.drew := ⟨Eta.le.refl _, Nat.le_refl _, fun _ _ h => h, Nat.le_refl _, fun _ _ _ => rfl, fun r b c h1 h2 => (by rw [h1] at h2; cases h2), rfl, rfl, rfl, fun b L h => ⟨L, h⟩⟩
      have hcut : η.cut (hA 0).nx = η := hw.cut
      have ndn : ∀ j, ¬ dn rc (Array.replicate ops.size false) j := by
        intro j hj
        unfold dn at hj
        simp [Array.getD_eq_getD_getElem?, Array.getElem?_replicate] at hj
        split at hj <;> simp at hj
      refine drawn tk (η0 := η) (w0 := w) (base := base) hh.dom (fun η' a' w' h1 h2 h3 h4 h5 h6 => ⟨rfl, η', h2, h3, h4, h5, h6⟩) ops.size _ ac _ (by simp) (Closed.start ops _) (by unfold cntF; simp) ⟨η, 0, ?_⟩
      refine ⟨Nat.zero_le _, fun j hj hc => ⟨fun h => absurd h (ndn j), fun h => by omega⟩, .inl rfl, hF.step hst, by rw [hcut]; exact hw, by rw [hcut]; exact hst, fun r p hr => .inl ?_, fun j hj => absurd hj.2.2.2.2 (ndn j), fun i j hi => absurd hi.2.2.2.2 (ndn i), fun p => ⟨0, Nat.zero_le _, fun i _ _ hd => absurd hd (ndn i), .inl rfl, ?_⟩, hN, hdf.step hh hst⟩
      · rcases Nat.lt_or_ge r.toNat (hA 0).nx.toNat with h1 | h1
        · exact h1
        · rw [hh.dom r h1] at hr; cases hr
      · rw [hcut]; exact hfr p
    | seq a b => exact noloop (fun _ e => by cases e) (gSeq hg hk N c' hc)
    | cond x a b => exact noloop (fun _ e => by cases e) (gCond hg hk N c' hc)
    | blk i c => exact noloop (fun _ e => by cases e) (gBlk hg hk N c' hc)
    | loop c =>
      have inv : ∃ y, c' = .loop y ∧ CVr Θ CV N y c := by
        obtain ⟨hc, hob⟩ := hc
        cases c' with
        | loop y =>
          obtain ⟨y', q1, q2⟩ := map_inv (show (cvC Θ N y c).map RC.loop = some (.loop c) from hc)
          cases q2
          exact ⟨y, rfl, q1, hob⟩
        | region i ops d => cases d <;> simp [cvC] at hc
        | _ => simp [cvC] at hc
      obtain ⟨y, rfl, q1⟩ := inv
      obtain ⟨e, fr', h', h1, h2, m, h3⟩ := gLoop hg hk N y q1 hc
      exact ⟨e, fr', h', h1, fun η ac w F base hF hh hfr hN hdf hb => wpIn_loop_rounds m (h3 η η h w ac w F base hh (Stp.refl η h w) hF hh hfr hN hdf hb), fun body cb hb hcb => by cases hb; cases hcb; exact ⟨h2, m, h3⟩⟩
    | rf x ps id => exact noloop (fun _ e => by cases e) (gRf hΘ hfn hcv hsi hg hk N c' hc)
end
end
end Go.Ev

