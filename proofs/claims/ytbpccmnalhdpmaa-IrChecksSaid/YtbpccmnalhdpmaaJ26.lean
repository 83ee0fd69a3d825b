/- IrChecks: E12. -/
import Derived.Test.YtbpccmnalhdpmaaJ25
set_option linter.unusedVariables false
namespace Go.Ev
open Go.RowKit Go.Fw
noncomputable section
section
variable {P : Program} {Θ : T (Option TyI)} (hΘ : Θ.All (TyQ P)) {CV : T (Option Site)} {σ : Nat → Int} {Γ : Env} (hΓ : Γ.Ok σ)
variable {fr : T V} {out : Out} {d : Option Nat} {ty : TypeId} {pos : String} {af : Array Edge} {g : Option (Nat × Bool)}
/-- cells laid over those of a row -/
theorem CellsR.over {η : Eta} {n o : Nat} {t t' : T A} {l : List A} {cs : Array Value} {vs : List Value} (hc : CellsR σ η n t cs) (hd : DL σ η l vs) (ho : o + l.length ≤ n)
    (ht : ∀ p : Pp, t'.get .u p = if o ≤ p.toNat ∧ p.toNat < o + l.length then l.getD (p.toNat - o) .u else t.get .u p) : CellsR σ η n t' (cs.toList.take o ++ vs ++ cs.toList.drop (o + vs.length)).toArray := by
  have hl := hd.len
  have hn := hc.1
  refine ⟨by simp; omega, fun p hp => ?_⟩
  rw [ht p] at hp ⊢
  by_cases c1 : o ≤ p.toNat ∧ p.toNat < o + l.length
  · rw [if_pos c1] at hp ⊢
    refine ⟨by omega, ?_⟩
    have h3 : l[p.toNat - o]? = some (l.getD (p.toNat - o) .u) := by simp [List.getElem?_eq_getElem (show p.toNat - o < l.length by omega)]
    obtain ⟨v, h4, h5⟩ := hd.get h3
    refine ⟨v, ?_, h5⟩
    simp only [List.getElem?_toArray, List.getElem?_append, List.length_append, List.length_take, Array.length_toList]
    rw [if_pos (by omega), if_neg (by omega), show p.toNat - min o cs.size = p.toNat - o by omega]
    exact h4
  · rw [if_neg c1] at hp ⊢
    obtain ⟨h1, v, h2, h3⟩ := hc.2 p hp
    refine ⟨h1, v, ?_, h3⟩
    simp only [List.getElem?_toArray, List.getElem?_append, List.length_append, List.length_take, Array.length_toList]
    by_cases c2 : p.toNat < o
    · rw [if_pos (by omega), if_pos (by omega)]
      rw [List.getElem?_take_of_lt c2]
      simpa using h2
    · rw [if_neg (by omega)]
      rw [List.getElem?_drop]
      have : o + vs.length + (p.toNat - (min o cs.size + vs.length)) = p.toNat := by omega
      rw [this]
      simpa using h2
theorem cdSt {t : TypeId} {x y : Operand} {x' y' : X} {i : TyI} {h : AH} {K : V → AH → R} (hi : i.Ok P t) (hx : cvX x = some x') (hy : cvX y = some y') (hk : cSt i.z.length x' y' Γ fr h K = some out) :
    ∃ v h', K v h' = some out ∧ CDoes P CV σ fr h ⟨d, .store t x y, ty, pos, af, g⟩ v h' := by
  obtain ⟨a, ha, g1⟩ := aK_some hk
  obtain ⟨r, o, rfl, g2⟩ := pK_some g1
  obtain ⟨l, g3, g4⟩ := cK_some g2
  obtain ⟨tt, n, tr, hrow, g5⟩ := rowC_some g3
  obtain ⟨g6, g7⟩ := bif_some g5
  obtain ⟨g8, g9⟩ := and_t g6
  have g8 := Nat.eq_of_beq_eq_true g8
  have g9 : o + i.z.length ≤ n := Nat.le_of_ble_eq_true g9
  rw [lenA_eq] at g8
  obtain ⟨t', g10, g11⟩ := putK_some g7
  rw [putH_eq] at g10
  refine ⟨_, _, g10, fun η f w hX hh => ?_⟩
  have dx := hX.get (by simp [Op.operands]) hx
  rw [ha] at dx
  obtain ⟨b, c, h1, h2⟩ := dx
  obtain ⟨vs, d1, d2⟩ := g4 σ η _ (hX.get (by simp [Op.operands]) hy)
  have hR := hh.rows r b c h1
  rw [hrow] at hR
  obtain ⟨cs, j, r1, r2, r3, r4, r5⟩ := hR
  have hl := d1.len
  have hn := r5.1
  obtain ⟨_, zv, ⟨ti, ti1, ti2, ti3, ti4⟩, _⟩ := hi
  have hst := run_storeCells_at (P := P) b o tt vs 0 cs w r1 (by omega) d1.one
  rw [Nat.add_zero] at hst
  have hrun : (execOp (ev f) ⟨d, .store t x y, ty, pos, af, g⟩).run P w = .ok .skip (w.setRow b (cs.toList.take o ++ vs ++ cs.toList.drop (o + vs.length)).toArray) := by
    simp [execOp, h2, Instr.storeAt, Instr.sureAddr, storeVar, sizeOf, typeInfo, ti1, ti3, d2, hl, g8, hst]
  have hB : Blk w b tt cs := r1
  have hup := hh.upd (r := r) (row := .c tt n t') h1 (by rw [hrow]; exact fun e => Row.noConfusion e) (Chg.setRow w b (cs.toList.take o ++ vs ++ cs.toList.drop (o + vs.length)).toArray)
    ⟨_, j, hB.setRow _, r2, by rw [← r3]; simp; omega, r4, r5.over d1 (by omega) g11⟩ (fun L hL => by rw [show w.heap[b]? = _ from r1] at hL; cases hL)
  exact ⟨_, η, .inr ⟨hrun, rfl⟩, hup.1, hup.2⟩
include hΓ in
/-- entries, one of them turned or one more -/
theorem updK_some {ag : Bool} {ks : List Nat} {u v : U} : ∀ {es : List (U × U)} {K : List (U × U) → R}, updK Γ ag ks u v es K = some out →
    ∃ es', K es' = some out ∧ ((∀ η kv vk ents i0, Du σ η u kv → UL ag kv vk → vk.length = ks.length → DE σ η es ents → FindR ag ks vk ents i0 none ∧ ∀ e : MapEntry, Du σ η u e.key → Du σ η v e.val → DE σ η es' (ents ++ [e])) ∨
      ∃ k, ∀ η kv vk ents i0, Du σ η u kv → UL ag kv vk → vk.length = ks.length → DE σ η es ents → ∃ pre e post, ents = pre ++ e :: post ∧ pre.length = k ∧ KeyIs ag ks vk e true ∧ FindR ag ks vk ents i0 (some (i0 + k, e.val)) ∧ ∀ e' : MapEntry, Du σ η u e'.key → Du σ η v e'.val → DE σ η es' (pre ++ e' :: post))
  | [], K, h => ⟨_, h, .inl fun η kv vk ents i0 _ _ _ hd => by
      cases hd
      exact ⟨rfl, fun e h1 h2 => ⟨e, [], rfl, h1, h2, rfl⟩⟩⟩
  | p :: es, K, h => by
    have h0 : eqU Γ ag ks u p.1 (fun t => Bool.rec (motive := fun _ => R) (updK Γ ag ks u v es (fun l' => K (p :: l'))) (K ((u, v) :: es)) t) = some out := h
    obtain ⟨t, h1, h2⟩ := eqU_some hΓ h0
    have uniq : ∀ {kv : Value} {a b : List Value}, UL ag kv a → UL ag kv b → a = b := by
      intro kv a b ha hb
      cases ag with
      | true =>
        have ha : kv = .agg a.toArray := ha
        have hb : kv = .agg b.toArray := hb
        rw [ha] at hb
        injection hb with hb
        simpa using hb
      | false =>
        have ha : a = [kv] := ha
        have hb : b = [kv] := hb
        rw [ha, hb]
    have isk : ∀ η kv vk ents, Du σ η u kv → UL ag kv vk → vk.length = ks.length → DE σ η (p :: es) ents → ∃ e es', ents = e :: es' ∧ KeyIs ag ks vk e t ∧ Du σ η p.1 e.key ∧ Du σ η p.2 e.val ∧ DE σ η es es' := by
      intro η kv vk ents d1 u1 l1 hd
      obtain ⟨e, es', rfl, k1, k2, k3⟩ := hd
      obtain ⟨vs, vs', q1, q2, q3, q4, q5⟩ := h2 η kv e.key d1 k1
      rw [uniq q1 u1] at q5
      exact ⟨e, es', rfl, ⟨vs', q2, q4, q5⟩, k1, k2, k3⟩
    cases t with
    | true =>
      refine ⟨_, h1, .inr ⟨0, fun η kv vk ents i0 d1 u1 l1 hd => ?_⟩⟩
      obtain ⟨e, es', rfl, k1, k2, k3, k4⟩ := isk η kv vk ents d1 u1 l1 hd
      exact ⟨[], e, es', rfl, rfl, k1, .inl ⟨k1, by simp⟩, fun e' q1 q2 => ⟨e', es', rfl, q1, q2, k4⟩⟩
    | false =>
      obtain ⟨es', h3, h4⟩ := updK_some (es := es) h1
      refine ⟨_, h3, ?_⟩
      rcases h4 with h4 | ⟨k, h4⟩
      · refine .inl fun η kv vk ents i0 d1 u1 l1 hd => ?_
        obtain ⟨e, es'', rfl, k1, k2, k3, k4⟩ := isk η kv vk ents d1 u1 l1 hd
        obtain ⟨q1, q2⟩ := h4 η kv vk es'' (i0 + 1) d1 u1 l1 k4
        exact ⟨.inr ⟨k1, q1⟩, fun e' q3 q4 => ⟨e, es'' ++ [e'], rfl, k2, k3, q2 e' q3 q4⟩⟩
      · refine .inr ⟨k + 1, fun η kv vk ents i0 d1 u1 l1 hd => ?_⟩
        obtain ⟨e, es'', rfl, k1, k2, k3, k4⟩ := isk η kv vk ents d1 u1 l1 hd
        obtain ⟨pre, e2, post, rfl, q1, q2, q3, q4⟩ := h4 η kv vk es'' (i0 + 1) d1 u1 l1 k4
        exact ⟨e :: pre, e2, post, rfl, by simp [q1], q2, .inr ⟨k1, by rwa [show i0 + (k + 1) = i0 + 1 + k by omega]⟩, fun e' q5 q6 => ⟨e, pre ++ e' :: post, rfl, k2, k3, q4 e' q5 q6⟩⟩
theorem modify_mid {α : Type} (f : α → α) (e : α) (post : List α) : ∀ pre : List α, (pre ++ e :: post).modify pre.length f = pre ++ f e :: post
  | [] => rfl
  | x :: pre => by simp [modify_mid f e post pre]
theorem leaf_bits {kd : Nat} {v v' : Value} (h : LeafEq kd v v' true) (n : Nat) : Instr.sameBits n v' v = true := by
  rcases h with ⟨_, k, a, b, rfl, rfl, e⟩ | ⟨_, a, b, rfl, rfl, e⟩ | ⟨_, a, b, rfl, rfl, e⟩
  · have : a = b := by simpa using e.symm
    subst this
    simp [Instr.sameBits]
  · have : a = b := by simpa using e.symm
    subst this
    simp [Instr.sameBits]
  · have e2 : (a == b) = true := e.symm
    rw [beq_toListBytes, ByteArray.toList_eq, ByteArray.toList_eq] at e2
    have : a = b := by
      obtain ⟨⟨x⟩⟩ := a
      obtain ⟨⟨y⟩⟩ := b
      simpa using e2
    subst this
    simp only [Instr.sameBits]
    rw [beq_toListBytes]; simp
theorem list_bits : ∀ {ks : List Nat} {vs vs' : List Value}, LEq ks vs vs' true → vs.length = vs'.length ∧ ∀ n, (vs'.zip vs).all (fun p => Instr.sameBits n p.1 p.2) = true
  | [], [], [], _ => ⟨rfl, fun _ => rfl⟩
  | k :: ks, v :: vs, v' :: vs', h => by
    rcases h with ⟨_, h2⟩ | ⟨h1, h2⟩
    · cases h2
    · obtain ⟨h3, h4⟩ := list_bits h2
      exact ⟨by simp [h3], fun n => by simp only [List.zip_cons_cons, List.all_cons, leaf_bits h1 n, h4 n, Bool.and_self]⟩
  | [], [], _ :: _, h => h.elim
  | [], _ :: _, _, h => h.elim
  | _ :: _, [], _, h => h.elim
  | _ :: _, _ :: _, [], h => h.elim
theorem key_bits {ag : Bool} {ks : List Nat} {kv : Value} {vk : List Value} {e : MapEntry} (hv : UL ag kv vk) (h : KeyIs ag ks vk e true) : Instr.sameBits 10000 e.key kv = true := by
  obtain ⟨vs', u1, _, le⟩ := h
  cases ag with
  | true =>
    have hv : kv = .agg vk.toArray := hv
    have u1 : e.key = .agg vs'.toArray := u1
    obtain ⟨h1, h2⟩ := list_bits le
    rw [hv, u1]
    unfold Instr.sameBits
    simp only [List.size_toArray, h1, BEq.rfl, Bool.true_and]
    exact h2 9999
  | false =>
    have hv : vk = [kv] := hv
    have u1 : vs' = [e.key] := u1
    subst hv; subst u1
    cases ks with
    | nil => cases le
    | cons k ks =>
      rcases le with ⟨_, h2⟩ | ⟨h1, h2⟩
      · cases h2
      · exact leaf_bits h1 10000
include hΘ hΓ in
theorem cdMu {t kt et : TypeId} {x k y : Operand} {x' k' y' : X} {ik : TyI} {ks : List Nat} {h : AH} {K : V → AH → R} (ht : P.underlying t = some (.map kt et)) (hik : tyOf Θ kt = some ik) (hks : eqT Θ 10 kt = some ks) (hx : cvX x = some x') (hk : cvX k = some k') (hy : cvX y = some y')
    (hr : cMu (aggD ik.D) ks x' k' y' Γ fr h K = some out) : ∃ v h', K v h' = some out ∧ CDoes P CV σ fr h ⟨d, .mapUpdate t x k y, ty, pos, af, g⟩ v h' := by
  obtain ⟨a, ha, g1⟩ := aK_some hr
  obtain ⟨u, hu, g2⟩ := uK_some g1
  obtain ⟨v, hv, g3⟩ := uK_some g2
  obtain ⟨g4, g5⟩ := bif_some g3
  rcases mK_some g5 with ⟨rfl, g6⟩ | ⟨r, rfl, g6⟩
  · cases g6
  · obtain ⟨es, hrow, g7⟩ := rowM_some g6
    obtain ⟨es', g8, g9⟩ := updK_some hΓ (es := es) g7
    rw [putH_eq] at g8
    refine ⟨_, _, g8, fun η f w hX hh => ?_⟩
    have dx := hX.get (by simp [Op.operands]) hx
    rw [ha] at dx
    obtain ⟨b, c, h1, h2⟩ := dx
    have dk := hX.get (by simp [Op.operands]) hk
    rw [hu] at dk
    have dy := hX.get (by simp [Op.operands]) hy
    rw [hv] at dy
    have dk := Du.v.1 dk
    have dy := Du.v.1 dy
    obtain ⟨vk, e1, e2⟩ := keyOk_ul g4 dk
    have ck : ∀ w, (Instr.checkKey false 10000 kt (ev f k)).run P w = .ok () w := fun w => run_checkKey hΘ false 10 kt ks hks 9990 w _ vk e2 (UL.shp (tyOf_ok hΘ hik).1 e1)
    have hR := hh.rows r b c h1
    rw [hrow] at hR
    obtain ⟨ents, clock, r1, r2⟩ := hR
    have ro : (getObj b).run P w = .ok (.map ents clock) w := run_getObj_some r1
    have hb : b < w.heap.size := hh.bnd r b c h1
    have so : ∀ o : Obj, (setObj b o).run P w = .ok () { w with heap := w.heap.setIfInBounds b o } := fun o => by simp [setObj, Sem.run, r1]
    have chg : ∀ o : Obj, Chg b w { w with heap := w.heap.setIfInBounds b o } := fun o =>
      ⟨rfl, rfl, rfl, by simp, fun i hi hne => by simp only; rw [Array.getElem?_setIfInBounds_ne (by simpa using hne.symm)]⟩
    have at' : ∀ o : Obj, ({ w with heap := w.heap.setIfInBounds b o } : World).heap[b]? = some o := fun o => by simp [hb]
    rcases g9 with g9 | ⟨n, g9⟩
    · obtain ⟨q1, q2⟩ := g9 η _ vk ents.toList 0 dk e1 e2 r2
      have hf := run_findKey hΘ hik hks e1 e2 (w := w) q1
      have hup := hh.upd (r := r) (row := .m es') h1 (by rw [hrow]; exact fun e => Row.noConfusion e) (chg (.map (ents.push { key := ev f k, val := ev f y, born := clock }) (clock + 1)))
        ⟨_, _, at' _, by simpa using q2 { key := ev f k, val := ev f y, born := clock } dk dy⟩ (fun L hL => by rw [r1] at hL; cases hL)
      refine ⟨_, η, .inr ⟨?_, rfl⟩, hup.1, hup.2⟩
      simp [execOp, Instr.mapUpdate, run_underlying ht, h2, ro, ck, hf, so]
    · obtain ⟨pre, e, post, q0, q1, q2, q3, q4⟩ := g9 η _ vk ents.toList 0 dk e1 e2 r2
      have hf := run_findKey hΘ hik hks e1 e2 (w := w) q3
      have hbits := key_bits e1 q2
      have hget : ents[n]? = some e := by
        have : ents.toList[n]? = some e := by rw [q0, ← q1]; simp
        simpa using this
      have hks' : (Instr.keyThatStays (((ents[0 + n]?).map (·.key)).getD (ev f k)) (ev f k)).run P w = .ok (ev f k) w := by
        rw [Nat.zero_add, hget]
        simp [Instr.keyThatStays, hbits]
      have hmod : (ents.modify (0 + n) fun e => { e with key := ev f k, val := ev f y }).toList = pre ++ { e with key := ev f k, val := ev f y } :: post := by
        rw [Nat.zero_add, Array.toList_modify, q0, ← q1, modify_mid]
      have hup := hh.upd (r := r) (row := .m es') h1 (by rw [hrow]; exact fun e => Row.noConfusion e) (chg (.map (ents.modify (0 + n) fun e => { e with key := ev f k, val := ev f y }) clock))
        ⟨_, _, at' _, by rw [hmod]; exact q4 _ dk dy⟩ (fun L hL => by rw [r1] at hL; cases hL)
      refine ⟨_, η, .inr ⟨?_, rfl⟩, hup.1, hup.2⟩
      have hb0 := so (.map (ents.modify (0 + n) fun e => { e with key := ev f k, val := ev f y }) clock)
      show (execOp (ev f) ⟨d, .mapUpdate t x k y, ty, pos, af, g⟩).run P w = _
      unfold execOp
      simp only [Instr.mapUpdate, Sem.run_bind, run_underlying ht, Result.andThen_ok, h2, ro, ck, hf, hks', hb0]
      rfl
end
end
end Go.Ev

