/- IrChecks: E10. -/
import Derived.Test.YtbpccmnalhdpmaaJ23
set_option linter.unusedVariables false
namespace Go.Ev
open Go.RowKit Go.Fw
noncomputable section
section
variable {P : Program} {Θ : T (Option TyI)} (hΘ : Θ.All (TyQ P)) {CV : T (Option Site)} {σ : Nat → Int} {Γ : Env} (hΓ : Γ.Ok σ)
variable {fr : T V} {out : Out} {d : Option Nat} {ty : TypeId} {pos : String} {af : Array Edge} {g : Option (Nat × Bool)}
include hΘ in
theorem run_checkKey (emp : Bool) : ∀ (d t : Nat) (ks : List Nat), eqT Θ d t = some ks → ∀ (k : Nat) (w : World) (v : Value) (vs : List Value), vs.length = ks.length → Shp P t v vs → (Instr.checkKey emp (d + k) t v).run P w = .ok () w
 | 0, _, _, h => by cases h
 | d + 1, t, ks, h => by
  intro k w v vs hl sv
  have hall := run_eq hΘ (d + 1) t ks h
  obtain ⟨i, hi, h2⟩ := Option.bind_eq_some_iff.1 (show ((tyOf Θ t).bind fun i => match i.D with
   | .int _ => some [0]
   | .bool => some [1]
   | .string => some [2]
   | .struct fs => (eqFs (eqT Θ d) fs.toList 0).bind fun ks => bif and i.e (Nat.beq ks.length i.z.length) then some ks else none
   | _ => none) = some ks from h)
  obtain ⟨hu, zv, ⟨j, hj1, hj2, hj3, hj4⟩, hz, hza, hzo, he⟩ := tyOf_ok hΘ hi
  rw [show d + 1 + k = (d + k) + 1 by omega]
  cases hD : i.D with
  | int q => rw [hD] at hu; simp [Instr.checkKey, run_underlying hu]
  | bool => rw [hD] at hu; simp [Instr.checkKey, run_underlying hu]
  | string => rw [hD] at hu; simp [Instr.checkKey, run_underlying hu]
  | struct fs =>
   rw [hD] at h2
   obtain ⟨ks', h3, h4⟩ := Option.bind_eq_some_iff.1 (show ((eqFs (eqT Θ d) fs.toList 0).bind fun ks => bif and i.e (Nat.beq ks.length i.z.length) then some ks else none) = some ks from h2)
   cases hb : and i.e (Nat.beq ks'.length i.z.length) with
   | false => rw [hb] at h4; cases h4
   | true =>
    rw [hb] at h4
    cases h4
    obtain ⟨hb1, hb2⟩ := and_t hb
    obtain ⟨e1, e2, e3⟩ := he hb1
    have e3 := e3 fs hD
    have hnames : ∀ f ∈ fs.toList, f.name ≠ "_" := by
     intro f hf
     have := Array.all_eq_true_iff_forall_mem.1 e3 f (by simpa using hf)
     simpa using this
    rw [hD] at hu
    obtain ⟨D, hD1, sx⟩ := sv
    rw [hu] at hD1
    cases hD1
    have sx : v = .agg vs.toArray := sx
    subst sx
    simp only [Instr.checkKey, Sem.run_bind, run_underlying hu, Result.andThen_ok]
    rw [← Array.forIn_toList]
    have key : ∀ (fl : List Field) (o : Nat) (kl : List Nat), eqFs (eqT Θ d) fl o = some kl → (∀ f ∈ fl, f.name ≠ "_") → ∀ (us xs : List Value), us.length = o → xs.length = kl.length → vs = us ++ xs →
      (forIn fl PUnit.unit fun f r => do
       if f.name ≠ "_" then do
        let a ← part f.type vs.toArray f.offset
        Instr.checkKey emp (d + k) f.type a
        pure (ForInStep.yield PUnit.unit)
       else pure (ForInStep.yield PUnit.unit) : Sem PUnit).run P w = .ok PUnit.unit w := by
     intro fl
     induction fl with
     | nil => intro o kl _ _ us xs _ _ _; simp
     | cons f fl ih =>
      intro o kl hq hn us xs hus hxs hvs
      unfold eqFs at hq
      cases hb : Nat.beq f.offset o with
      | false => rw [hb] at hq; cases hq
      | true =>
       rw [hb] at hq
       have ho : f.offset = o := Nat.eq_of_beq_eq_true hb
       obtain ⟨kf, q1, q2⟩ := Option.bind_eq_some_iff.1 (show ((eqT Θ d f.type).bind fun k => (eqFs (eqT Θ d) fl (Nat.add o k.length)).map (k ++ ·)) = some kl from hq)
       obtain ⟨kt, q3, rfl⟩ := Option.map_eq_some_iff.1 q2
       obtain ⟨⟨D', j', hD', hj', hjs, hja⟩, _⟩ := run_eq hΘ d f.type kf q1
       rw [List.length_append] at hxs
       obtain ⟨x1, x2, rfl, hx1, hx2⟩ : ∃ x1 x2, xs = x1 ++ x2 ∧ x1.length = kf.length ∧ x2.length = kt.length := ⟨xs.take kf.length, xs.drop kf.length, by simp, by rw [List.length_take]; omega, by rw [List.length_drop]; omega⟩
       obtain ⟨a, ha, sa⟩ := run_part (w := w) hD' hj' us x1 x2 (by omega) hja
       rw [hus, List.append_assoc, ← hvs] at ha
       have h6 := run_checkKey emp d f.type kf q1 k w a x1 hx1 sa
       have h7 := ih (o + kf.length) kt q3 (fun g hg => hn g (by simp [hg])) (us ++ x1) x2 (by simp [hus, hx1]) hx2 (by rw [hvs]; simp)
       have hname := hn f (by simp)
       rw [List.forIn_cons]
       simp only [Sem.run_bind, ne_eq, hname, not_false_eq_true, if_true, ho, ha, h6, Result.andThen_ok, Sem.run_pure]
       exact h7
    have := key fs.toList 0 ks h3 hnames [] vs rfl hl rfl
    simp at this ⊢
    rw [this]
    rfl
  | _ => rw [hD] at h2; cases h2
/-- whether an entry has this key -/
def KeyIs (ag : Bool) (ks : List Nat) (vk : List Value) (e : MapEntry) (t : Bool) : Prop := ∃ vs', UL ag e.key vs' ∧ vs'.length = ks.length ∧ LEq ks vk vs' t
def FindR (ag : Bool) (ks : List Nat) (vk : List Value) : List MapEntry → Nat → Option (Nat × Value) → Prop
 | [], _, r => r = none
 | e :: es, i, r => (KeyIs ag ks vk e true ∧ r = some (i, e.val)) ∨ (KeyIs ag ks vk e false ∧ FindR ag ks vk es (i + 1) r)
include hΘ in
theorem run_findKey {kt : Nat} {i : TyI} {ks : List Nat} (hi : tyOf Θ kt = some i) (hk : eqT Θ 10 kt = some ks) {kv : Value} {vk : List Value} (hv : UL (aggD i.D) kv vk) (hl : vk.length = ks.length) {w : World} {es : List MapEntry} {r : Option (Nat × Value)} (hf : FindR (aggD i.D) ks vk es 0 r) :
   (Instr.findKey kt kv es).run P w = .ok r w := by
 have hok := tyOf_ok hΘ hi
 have hu := hok.1
 have asking : ∀ (es : List MapEntry) (i0 : Nat) (r : Option (Nat × Value)), FindR (aggD i.D) ks vk es i0 r → (Instr.findAsking kt kv es i0).run P w = .ok r w := by
   intro es
   induction es with
   | nil => intro i0 r h; have h : r = none := h; subst h; simp [Instr.findAsking]
   | cons e es ih =>
    intro i0 r h
    have eqr : ∀ t, KeyIs (aggD i.D) ks vk e t → (Op.equal kt kv e.key).run P w = .ok t w := fun t ⟨vs', u1, l1, le⟩ =>
      (run_eq hΘ 10 kt ks hk).2 9990 w kv e.key vk vs' t hl l1 (UL.shp hu hv) (UL.shp hu u1) le
    rcases h with ⟨h1, rfl⟩ | ⟨h1, h2⟩
    · simp [Instr.findAsking, eqr true h1]
    · simp [Instr.findAsking, eqr false h1, ih _ _ h2]
 have hkind : (∃ kd, ks = [kd] ∧ aggD i.D = false ∧ ((∃ k, i.D = .int k ∧ kd = 0) ∨ (i.D = .bool ∧ kd = 1) ∨ (i.D = .string ∧ kd = 2))) ∨ ∃ fs, i.D = .struct fs := by
   unfold eqT at hk
   rw [hi] at hk
   simp only [Option.bind_some] at hk
   cases hD : i.D with
   | int k => rw [hD] at hk; cases hk; exact .inl ⟨0, rfl, rfl, .inl ⟨k, rfl, rfl⟩⟩
   | bool => rw [hD] at hk; cases hk; exact .inl ⟨1, rfl, rfl, .inr (.inl ⟨rfl, rfl⟩)⟩
   | string => rw [hD] at hk; cases hk; exact .inl ⟨2, rfl, rfl, .inr (.inr ⟨rfl, rfl⟩)⟩
   | struct fs => exact .inr ⟨fs, rfl⟩
   | _ => rw [hD] at hk; cases hk
 rcases hkind with ⟨kd, rfl, ha, hkd⟩ | ⟨fs, hD⟩
 · rw [ha] at hv hf
   have hv : vk = [kv] := hv
   subst hv
   have now : ∀ (es : List MapEntry) (i0 : Nat) (r : Option (Nat × Value)), FindR false [kd] [kv] es i0 r → Instr.findNow i.D kv es i0 = some r := by
    intro es
    induction es with
    | nil => intro i0 r h; have h : r = none := h; subst h; rfl
    | cons e es ih =>
      intro i0 r h
      have eqr : ∀ t, KeyIs false [kd] [kv] e t → Instr.sameNow i.D kv e.key = some t := by
        rintro t ⟨vs', u1, l1, le⟩
        have u1 : vs' = [e.key] := u1
        subst u1
        have hl : LeafEq kd kv e.key t := by
          rcases le with ⟨q1, rfl⟩ | ⟨q1, q2⟩
          · exact q1
          · have q2 : t = true := q2
            rw [q2]; exact q1
        rcases hkd with ⟨k, hD, rfl⟩ | ⟨hD, rfl⟩ | ⟨hD, rfl⟩ <;> rcases hl with ⟨h0, k', a, b, ea, eb, rfl⟩ | ⟨h0, a, b, ea, eb, rfl⟩ | ⟨h0, a, b, ea, eb, rfl⟩ <;> first | omega | skip
        · rw [hD, ea, eb]; simp only [Instr.sameNow, if_true]; rfl
        · rw [hD, ea, eb]; simp [Instr.sameNow]
        · rw [hD, ea, eb]; simp [Instr.sameNow]
      rcases h with ⟨h1, rfl⟩ | ⟨h1, h2⟩
      · unfold Instr.findNow; rw [eqr true h1]
      · unfold Instr.findNow; rw [eqr false h1]; exact ih _ _ h2
   have hn := now es 0 r hf
   unfold Instr.findKey
   simp [run_underlying hu, hn]
 · cases es with
   | nil =>
    have hf : r = none := hf
    subst hf
    simp [Instr.findKey, run_underlying hu, Instr.findNow]
   | cons e es =>
    have hs : Instr.sameNow i.D kv e.key = none := by rw [hD]; rfl
    have hn : Instr.findNow i.D kv (e :: es) 0 = none := by unfold Instr.findNow; rw [hs]
    have := asking (e :: es) 0 r hf
    unfold Instr.findKey
    simp [run_underlying hu, hn, this]
include hΓ in
theorem lookK_some {ag : Bool} {ks : List Nat} {u : U} : ∀ {es : List (U × U)} {K0 : R} {K : U → R}, lookK Γ ag ks u es K0 K = some out →
  (K0 = some out ∧ ∀ η kv vk ents i0, Du σ η u kv → UL ag kv vk → vk.length = ks.length → DE σ η es ents → FindR ag ks vk ents i0 none) ∨
  (∃ v k, K v = some out ∧ ∀ η kv vk ents i0, Du σ η u kv → UL ag kv vk → vk.length = ks.length → DE σ η es ents → ∃ v', Du σ η v v' ∧ FindR ag ks vk ents i0 (some (i0 + k, v')))
 | [], K0, K, h => .inl ⟨h, fun η kv vk ents i0 _ _ _ hd => by cases hd; rfl⟩
 | p :: es, K0, K, h => by
  have h0 : eqU Γ ag ks u p.1 (fun t => Bool.rec (motive := fun _ => R) (lookK Γ ag ks u es K0 K) (K p.2) t) = some out := h
  obtain ⟨t, h1, h2⟩ := eqU_some hΓ h0
  have uniq : ∀ {kv : Value} {a b : List Value}, UL ag kv a → UL ag kv b → a = b := by
   intro kv a b ha hb
   cases ag with
   | true =>
     have ha : kv = .agg a.toArray := ha
     have hb : kv = .agg b.toArray := hb
     rw [ha] at hb
     injection hb with hb
     simpa using hb
   | false =>
     have ha : a = [kv] := ha
     have hb : b = [kv] := hb
     rw [ha, hb]
  have isk : ∀ η kv vk ents, Du σ η u kv → UL ag kv vk → vk.length = ks.length → DE σ η (p :: es) ents → ∃ e es', ents = e :: es' ∧ KeyIs ag ks vk e t ∧ Du σ η p.2 e.val ∧ DE σ η es es' := by
   intro η kv vk ents d1 u1 l1 hd
   obtain ⟨e, es', rfl, k1, k2, k3⟩ := hd
   obtain ⟨vs, vs', q1, q2, q3, q4, q5⟩ := h2 η kv e.key d1 k1
   rw [uniq q1 u1] at q5
   exact ⟨e, es', rfl, ⟨vs', q2, q4, q5⟩, k2, k3⟩
  cases t with
  | true =>
   refine .inr ⟨p.2, 0, h1, fun η kv vk ents i0 d1 u1 l1 hd => ?_⟩
   obtain ⟨e, es', rfl, k1, k2, k3⟩ := isk η kv vk ents d1 u1 l1 hd
   exact ⟨e.val, k2, .inl ⟨k1, by simp⟩⟩
  | false =>
   rcases lookK_some (es := es) h1 with ⟨h3, h4⟩ | ⟨v, k, h3, h4⟩
   · refine .inl ⟨h3, fun η kv vk ents i0 d1 u1 l1 hd => ?_⟩
     obtain ⟨e, es', rfl, k1, k2, k3⟩ := isk η kv vk ents d1 u1 l1 hd
     exact .inr ⟨k1, h4 η kv vk es' (i0 + 1) d1 u1 l1 k3⟩
   · refine .inr ⟨v, k + 1, h3, fun η kv vk ents i0 d1 u1 l1 hd => ?_⟩
     obtain ⟨e, es', rfl, k1, k2, k3⟩ := isk η kv vk ents d1 u1 l1 hd
     obtain ⟨v', q1, q2⟩ := h4 η kv vk es' (i0 + 1) d1 u1 l1 k3
     exact ⟨v', q1, .inr ⟨k1, by rwa [show i0 + (k + 1) = i0 + 1 + k by omega]⟩⟩
theorem run_getObj_some {w : World} {b : Nat} {es : Array MapEntry} {k : Nat} (h : w.heap[b]? = some (.map es k)) : (getObj b).run P w = .ok (.map es k) w := by
 simp [getObj, Sem.run, h]
theorem keyOk_ul {η : Eta} {ag : Bool} {ks : List Nat} {u : U} {kv : Value} (h : keyOk ag ks u = true) (hd : Du σ η u kv) : ∃ vk, UL ag kv vk ∧ vk.length = ks.length := by
 cases u with
 | a x =>
  obtain ⟨h1, h2⟩ := and_t (show and (not ag) (Nat.beq (lenK ks) 1) = true from h)
  have h2 := Nat.eq_of_beq_eq_true h2
  rw [lenK_eq] at h2
  cases ag with
  | true => cases h1
  | false => exact ⟨[kv], rfl, by rw [h2]; rfl⟩
 | g l =>
  obtain ⟨h1, h2⟩ := and_t (show and ag (Nat.beq (lenA l) (lenK ks)) = true from h)
  have h2 := Nat.eq_of_beq_eq_true h2
  rw [lenA_eq, lenK_eq] at h2
  cases ag with
  | false => cases h1
  | true => obtain ⟨vs, e1, e2⟩ := hd; exact ⟨vs, e2, by rw [e1.len, h2]⟩
theorem found_some {ok is : Bool} {u : U} {K : V → R} (h : found ok u is K = some out) : ∃ v, K v = some out ∧ ∀ η x, Du σ η u x → Dv σ η v (if ok then .tuple #[x, .bool is] else x) := by
 cases ok with
 | true => exact ⟨_, h, fun η x hx => ⟨[x, .bool is], ⟨x, _, rfl, hx, .bool is, [], rfl, rfl, rfl⟩, rfl⟩⟩
 | false => exact ⟨_, h, fun η x hx => Du.v.2 hx⟩
theorem zU_ok {t : Nat} {i : TyI} {z : U} (hi : i.Ok P t) (hz : zU i = some z) : ∃ zv, (∀ w, (zeroValue t).run P w = .ok zv w) ∧ ∀ σ η, Du σ η z zv := by
 obtain ⟨hu, zv, ⟨ti, ti1, ti2, ti3, ti4⟩, hd, ha, ho, _⟩ := hi
 refine ⟨zv, fun w => by simp [zeroValue, typeInfo, ti1, ti2], fun σ η => ?_⟩
 unfold zU at hz
 cases hb : aggD i.D with
 | true =>
  rw [hb] at hz
  cases hz
  obtain ⟨cs, rfl⟩ := ha hb
  exact ⟨cs.toList, by simpa [Value.cells] using hd σ η, by simp⟩
 | false =>
  rw [hb] at hz
  have h1 := hd σ η
  rw [cells_one (ho hb)] at h1
  simp only [cond_false] at hz
  split at hz
  · rename_i a hza
    cases hz
    rw [hza] at h1
    obtain ⟨v, vs, e1, e2, e3⟩ := h1
    simp only [List.cons.injEq] at e1
    rw [e1.1]; exact e2
  · cases hz
include hΘ hΓ in
theorem rdLk {t kt et : TypeId} {x k : Operand} {x' k' : X} {ik ie : TyI} {ok : Bool} {ks : List Nat} {z : U} {h : AH} {K : V → R} (ht : P.underlying t = some (.map kt et)) (hik : tyOf Θ kt = some ik) (hie : ie.Ok P et) (hks : eqT Θ 10 kt = some ks) (hz : zU ie = some z) (hx : cvX x = some x') (hk : cvX k = some k')
   (hr : rLk ok (aggD ik.D) ks z x' k' Γ fr h K = some out) : ∃ v, K v = some out ∧ RDoes P CV σ fr h ⟨d, .lookup t x k ok, ty, pos, af, g⟩ v := by
 obtain ⟨a, ha, g1⟩ := aK_some hr
 obtain ⟨u, hu, g2⟩ := uK_some g1
 obtain ⟨g3, g4⟩ := bif_some g2
 obtain ⟨zv, z1, z2⟩ := zU_ok hie hz
 have ck : ∀ (η : Eta) (f : Fr), XR σ η fr f (Op.lookup t x k ok).operands.toList → ∃ vk, Du σ η u (ev f k) ∧ UL (aggD ik.D) (ev f k) vk ∧ vk.length = ks.length ∧ ∀ emp w, (Instr.checkKey emp 10000 kt (ev f k)).run P w = .ok () w := by
   intro η f hx
   have dk := hx.get (by simp [Op.operands]) hk
   rw [hu] at dk
   obtain ⟨vk, e1, e2⟩ := keyOk_ul g3 (Du.v.1 dk)
   exact ⟨vk, Du.v.1 dk, e1, e2, fun emp w => run_checkKey hΘ emp 10 kt ks hks 9990 w _ vk e2 (UL.shp (tyOf_ok hΘ hik).1 e1)⟩
 rcases mK_some g4 with ⟨rfl, g5⟩ | ⟨r, rfl, g5⟩
 · obtain ⟨v, g6, g7⟩ := found_some (σ := σ) g5
   refine ⟨v, g6, fun η f w hX hh => ⟨_, ?_, g7 η zv (z2 σ η)⟩⟩
   have dx := hX.get (by simp [Op.operands]) hx
   rw [ha] at dx
   have dx : ev f x = .map none := dx
   obtain ⟨vk, _, e1, e2, e3⟩ := ck η f hX
   have hf := run_findKey hΘ hik hks e1 e2 (w := w) (es := []) (r := none) rfl
   simp [execOp, Instr.lookup, run_underlying ht, dx, e3, hf, z1]
 · obtain ⟨es, hrow, g6⟩ := rowM_some g5
   have run : ∀ (η : Eta) (f : Fr) (w : World) (res : Option (Nat × Value)), XR σ η fr f (Op.lookup t x k ok).operands.toList → HRel P CV σ (η.cut h.nx) h w →
      (∀ vk ents, Du σ η u (ev f k) → UL (aggD ik.D) (ev f k) vk → vk.length = ks.length → DE σ η es ents → FindR (aggD ik.D) ks vk ents 0 res) →
      (execOp (ev f) ⟨d, .lookup t x k ok, ty, pos, af, g⟩).run P w = .ok (.value (if ok then .tuple #[(res.map (·.2)).getD zv, .bool res.isSome] else (res.map (·.2)).getD zv)) w := by
     intro η f w res hX hh hfind
     have dx := hX.get (by simp [Op.operands]) hx
     rw [ha] at dx
     obtain ⟨b, c, h1, h2⟩ := dx
     have hR := hh.rows r b c (by unfold Eta.cut; rw [if_pos (hh.lt (by rw [hrow]; exact fun e => Row.noConfusion e))]; exact h1)
     rw [hrow] at hR
     obtain ⟨ents, clock, r1, r2⟩ := hR
     have r2 := r2.mono (Eta.cut_le _ _)
     have ro : (getObj b).run P w = .ok (.map ents clock) w := run_getObj_some r1
     obtain ⟨vk, e0, e1, e2, e3⟩ := ck η f hX
     have hf := run_findKey hΘ hik hks e1 e2 (w := w) (hfind vk ents.toList e0 e1 e2 r2)
     cases res with
     | none => simp [execOp, Instr.lookup, run_underlying ht, h2, ro, e3, hf, z1]
     | some q => obtain ⟨q1, q2⟩ := q; simp [execOp, Instr.lookup, run_underlying ht, h2, ro, e3, hf]
   rcases lookK_some hΓ (es := es) g6 with ⟨g7, g8⟩ | ⟨v, n, g7, g8⟩
   · obtain ⟨v, g9, g10⟩ := found_some (σ := σ) g7
     exact ⟨v, g9, fun η f w hX hh => ⟨_, run η f w none hX hh (fun vk ents e0 e1 e2 e3 => g8 η _ vk ents 0 e0 e1 e2 e3), g10 η zv (z2 σ η)⟩⟩
   · obtain ⟨v2, g9, g10⟩ := found_some (σ := σ) g7
     refine ⟨v2, g9, fun η f w hX hh => ?_⟩
     have dx := hX.get (by simp [Op.operands]) hx
     rw [ha] at dx
     obtain ⟨b, c, h1, h2⟩ := dx
     have hR := hh.rows r b c (by unfold Eta.cut; rw [if_pos (hh.lt (by rw [hrow]; exact fun e => Row.noConfusion e))]; exact h1)
     rw [hrow] at hR
     obtain ⟨ents, clock, r1, r2⟩ := hR
     have r2 := r2.mono (Eta.cut_le _ _)
     have ro : (getObj b).run P w = .ok (.map ents clock) w := run_getObj_some r1
     obtain ⟨vk, e0, e1, e2, e3⟩ := ck η f hX
     obtain ⟨v', q1, q2⟩ := g8 η _ vk ents.toList 0 e0 e1 e2 r2
     have hf := run_findKey hΘ hik hks e1 e2 (w := w) q2
     refine ⟨_, ?_, g10 η v' q1⟩
     simp [execOp, Instr.lookup, run_underlying ht, h2, ro, e3, hf]
end
end
end Go.Ev
