/- FoldRaw: the program's fold of raw code answers as the reference's. No condition. -/
import Derived.Test.YtbpccmnalhdpmaaFz
import Derived.Test.YtbpccmnalhdpmaaGo1
set_option linter.unusedVariables false
namespace Go.Proofs.Ytbpccmnalhdpmaa
open Go.ChangeShapes Go.WideShapes Go.ChangeAt Go.RowKit Go.Fw Go.Joins

theorem slim_of {w : World} {c : GCode Lst} (h : Dat.ok (fun _ => True) w c) : Slim (GCode.er c) := by
  intro b hb
  have h2 : c.Blocks.ok (fun _ => True) w := h.1
  obtain ⟨b0, hb0, rfl⟩ := List.mem_map.1 (show b ∈ c.Blocks.l.map GBlock.er from hb)
  obtain ⟨j, hj⟩ := List.mem_iff_getElem?.1 hb0
  have h3 : Dat.ok (fun _ => True) w b0.Term.To := (Lst.elok (s := c.Blocks) h2 hj).2.2
  have e0 : b0.Term.To.e0.Args.l.length * 8 ≤ 140737488355328 := Lst.bd (s := b0.Term.To.e0.Args) h3.1
  have e1 : b0.Term.To.e1.Args.l.length * 8 ≤ 140737488355328 := Lst.bd (s := b0.Term.To.e1.Args) h3.2
  show b0.Term.To.e0.Args.l.length ≤ _ ∧ b0.Term.To.e1.Args.l.length ≤ _
  omega
theorem foldRaw_walk (w : World) (c : GCode Lst) (h : Dat.ok (fun _ => True) w c) : Calls Try.prog 3 #[.agg (GCode.cells c).toArray] w (Ret fun v w' => v = .bool true ∧ Ext w w') := by
  have := sp_m_l08_FoldRaw w c h
  rw [foldRaw_yes _ (slim_of h)] at this
  exact this

set_option maxRecDepth 100000 in
theorem foldRaw_lifted (os : Os) (started : os.Started) (H : Type) (enc : TypeId × Value → H) :
    ReturnsInHanded {} Try.checked os 3 .any (Rows.foldRawSpec.pre6 enc Try.prog Try.f3 Rows.foldRawRow.domain false) (Rows.foldRawSpec.post enc Try.prog Try.f3 false true false false) := by
  refine returnsInHanded_of_change_sized (C := Try.checked) Try.own started (by kernel_rfl) Try.func3
    (ChangeSpec.witness6 (enc := enc) (C := Try.checked) false ⟨#[], #[.agg #[.int .i64 0, .slice none 0 0, .slice none 0 0, .slice none 0 0]], []⟩ 8 (by kernel_rfl) (by kernel_rfl) (by kernel_rfl) (by kernel_rfl)) ?_
  intro W base args ds gs before hval0 hW hcnd hsz0 _
  have hval : ∀ (j : Nat) t v, Try.f3.params[j]? = some t → args[j]? = some v → Value.okWide Try.prog W .any base t v := hval0
  have hW' := hW
  obtain ⟨p, q, hA0, hV, rfl, hfz, hnd⟩ := hW
  have hA : DataW.TrodAll enc Try.prog W 0 (fun _ => true) true Try.f3.params.toList args.toList ds p := hA0
  have hsz : (DataW.weightsEach Try.prog (Try.f3.params.toList ++ Rows.foldRawSpec.plain.varTypes Try.prog) (ds ++ gs)).all (· ≤ reachBytes) = true := hsz0
  rw [Try.params3] at hA hval hsz
  obtain ⟨v0, vs0, d0, ds0, p0, q0, hargs, rfl, rfl, h0, r0⟩ := trodAll_cons hA
  obtain ⟨rfl, rfl, rfl⟩ := trodAll_nil r0
  obtain rfl : args = #[v0] := by cases args; simp_all
  obtain ⟨rfl, rfl⟩ := trodVars_none hV
  have k0 := h0
  have lt0 : ∀ x ∈ p0, x.block < W.heap.size := by obtain ⟨m, hm⟩ := k0; exact DataW.trod_lt m _ _ _ hm
  have wt0 : Wt 26 d0 := wt_arg hsz (j := 0) rfl rfl
  obtain ⟨cs, rfl, hcz⟩ := okWide_struct Try.underlying26 (hval 0 26 v0 rfl rfl)
  obtain ⟨f0, hf0⟩ := h0
  obtain ⟨m, hm, hok⟩ := op26.op hf0 wt0
  obtain rfl : cs = (GCode.cells m).toArray := by
    have : cs.toList = GCode.cells m := hm
    rw [← this]
  clear hA0 hval0
  refine (foldRaw_walk W m hok).mono fun e W' he => ?_
  obtain ⟨v, rfl, rfl, bel⟩ := he
  exact ⟨_, rfl, _, _, _, [], _, [], hW', trodAll_mk1 (shut_bool Try.underlying4 _), (trodAll_cons_mk (Below.trod Try.laidOut (by kernel_rfl) (of_decide_eq_true (by kernel_rfl)) k0 bel lt0) trodAll_mk0), rfl, Below.frame bel _, fun h => by cases h⟩

/-- the statement -/
theorem foldRaw_holds : Rows.FoldRawSaid :=
  OpenClaim.holds_of_wide 3 Try.f3 rfl rfl rfl rfl rfl rfl rfl ⟨rfl, rfl, rfl, rfl, rfl⟩ rfl rfl rfl rfl rfl (by kernel_rfl) Try.func3 (by kernel_rfl)
    (of_decide_eq_true (by kernel_rfl)) (by unfold Func.isWrapper; first | (rw [if_pos (by decide +kernel)]; kernel_rfl) | (rw [if_neg (by decide +kernel)]; exact ⟨rfl, rfl⟩))
    (fun os started H enc _ => foldRaw_lifted os started H enc)
end Go.Proofs.Ytbpccmnalhdpmaa
