/- DeadSalvages: the walk, by the evaluator. -/
import Derived.Test.YtikafojlhinonaaR8a
set_option linter.unusedVariables false
set_option linter.unusedSimpArgs false
set_option maxRecDepth 100000
namespace Go.Proofs.Ytikafojlhinonaa
open Go.Ev Go.RowKit Go.Fw
theorem wrapAdd (x y : Int) : IntKind.i64.wrap (IntKind.i64.wrap x + y) = IntKind.i64.wrap (x + y) := by
  simp [IntKind.wrap, IntKind.bits, IntKind.signed]
  repeat' split
  all_goals omega
theorem wrapSub (x y : Int) : IntKind.i64.wrap (IntKind.i64.wrap x - y) = IntKind.i64.wrap (x - y) := by
  simp [IntKind.wrap, IntKind.bits, IntKind.signed]
  repeat' split
  all_goals omega
theorem wrap_in {n : Int} (h : -9223372036854775808 ≤ n ∧ n ≤ 9223372036854775807) : IntKind.i64.wrap (0 + n) = n := by
  simp [IntKind.wrap, IntKind.bits, IntKind.signed]
  split <;> omega
theorem denAdd (σ : Sg) (x y : SE) : (SE.b .add .i64 x y).den σ = IntKind.i64.wrap (x.den σ + y.den σ) := rfl
theorem denSub (σ : Sg) (x y : SE) : (SE.b .sub .i64 x y).den σ = IntKind.i64.wrap (x.den σ - y.den σ) := rfl
theorem denN (σ : Sg) (n : Nat) : (SE.n n).den σ = (n : Int) := rfl
theorem denV (σ : Sg) (n : Nat) : (SE.v n).den σ = σ n := rfl
theorem cmpLss (a b : Int) : cmpI .lss a b = some (decide (a < b)) := rfl
theorem cmpEql (a b : Int) : cmpI .eql a b = some (decide (a = b)) := rfl
theorem Γd0_ok (σ : Sg) (hl : σ 1 = 0) (ha : -9223372036854775808 ≤ σ 0 ∧ σ 0 ≤ 9223372036854775807) : Γd0.Ok σ := by
  refine ⟨fun p hp => (by cases hp), fun p hp => ?_⟩
  simp only [Γd0, List.mem_cons, List.not_mem_nil, or_false] at hp
  rcases hp with rfl | rfl
  · simp only [cmpLss, denN, denV]; rw [decide_eq_false (by omega)]
  · simp only [cmpEql, denAdd, denN, denV]; rw [decide_eq_true (by rw [show ((0 : Nat) : Int) + σ 0 = 0 + σ 0 from rfl, wrap_in ha])]
theorem Γd1_ok (σ : Sg) (hl : σ 1 = 1) : Γd1.Ok σ := by
  refine ⟨fun p hp => (by cases hp), fun p hp => ?_⟩
  simp only [Γd1, List.mem_cons, List.not_mem_nil, or_false] at hp
  rcases hp with rfl | rfl | rfl
  · simp only [cmpLss, denN, denV]; rw [decide_eq_true (by omega)]
  · simp only [cmpLss, denN, denV]; rw [decide_eq_false (by omega)]
  · simp only [cmpEql, denAdd, denSub, denN, denV, wrapAdd, wrapSub]; rw [decide_eq_true (by congr 1; omega)]
theorem Γd2_ok (σ : Sg) (hl : σ 1 = 2) : Γd2.Ok σ := by
  refine ⟨fun p hp => (by cases hp), fun p hp => ?_⟩
  simp only [Γd2, List.mem_cons, List.not_mem_nil, or_false] at hp
  rcases hp with rfl | rfl | rfl | rfl
  · simp only [cmpLss, denN, denV]; rw [decide_eq_true (by omega)]
  · simp only [cmpLss, denN, denV]; rw [decide_eq_true (by omega)]
  · simp only [cmpLss, denN, denV]; rw [decide_eq_false (by omega)]
  · simp only [cmpEql, denAdd, denSub, denN, denV, wrapAdd, wrapSub]; rw [decide_eq_true (by congr 1; omega)]
theorem Γd3_ok (σ : Sg) (hl : σ 1 = 3) : Γd3.Ok σ := by
  refine ⟨fun p hp => (by cases hp), fun p hp => ?_⟩
  simp only [Γd3, List.mem_cons, List.not_mem_nil, or_false] at hp
  rcases hp with rfl | rfl | rfl | rfl | rfl
  · simp only [cmpLss, denN, denV]; rw [decide_eq_true (by omega)]
  · simp only [cmpLss, denN, denV]; rw [decide_eq_true (by omega)]
  · simp only [cmpLss, denN, denV]; rw [decide_eq_true (by omega)]
  · simp only [cmpLss, denN, denV]; rw [decide_eq_false (by omega)]
  · simp only [cmpEql, denAdd, denSub, denN, denV, wrapAdd, wrapSub]; rw [decide_eq_true (by congr 1; omega)]
theorem Γd4_ok (σ : Sg) (hl : σ 1 = 4) : Γd4.Ok σ := by
  refine ⟨fun p hp => (by cases hp), fun p hp => ?_⟩
  simp only [Γd4, List.mem_cons, List.not_mem_nil, or_false] at hp
  rcases hp with rfl | rfl | rfl | rfl | rfl | rfl
  · simp only [cmpLss, denN, denV]; rw [decide_eq_true (by omega)]
  · simp only [cmpLss, denN, denV]; rw [decide_eq_true (by omega)]
  · simp only [cmpLss, denN, denV]; rw [decide_eq_true (by omega)]
  · simp only [cmpLss, denN, denV]; rw [decide_eq_true (by omega)]
  · simp only [cmpLss, denN, denV]; rw [decide_eq_false (by omega)]
  · simp only [cmpEql, denAdd, denSub, denN, denV, wrapAdd, wrapSub]; rw [decide_eq_true (by congr 1; omega)]
theorem Γd5_ok (σ : Sg) (hl : σ 1 = 5) : Γd5.Ok σ := by
  refine ⟨fun p hp => (by cases hp), fun p hp => ?_⟩
  simp only [Γd5, List.mem_cons, List.not_mem_nil, or_false] at hp
  rcases hp with rfl | rfl | rfl | rfl | rfl | rfl | rfl
  · simp only [cmpLss, denN, denV]; rw [decide_eq_true (by omega)]
  · simp only [cmpLss, denN, denV]; rw [decide_eq_true (by omega)]
  · simp only [cmpLss, denN, denV]; rw [decide_eq_true (by omega)]
  · simp only [cmpLss, denN, denV]; rw [decide_eq_true (by omega)]
  · simp only [cmpLss, denN, denV]; rw [decide_eq_true (by omega)]
  · simp only [cmpLss, denN, denV]; rw [decide_eq_false (by omega)]
  · simp only [cmpEql, denAdd, denSub, denN, denV, wrapAdd, wrapSub]; rw [decide_eq_true (by congr 1; omega)]
theorem Γd6_ok (σ : Sg) (hl : σ 1 = 6) : Γd6.Ok σ := by
  refine ⟨fun p hp => (by cases hp), fun p hp => ?_⟩
  simp only [Γd6, List.mem_cons, List.not_mem_nil, or_false] at hp
  rcases hp with rfl | rfl | rfl | rfl | rfl | rfl | rfl | rfl
  · simp only [cmpLss, denN, denV]; rw [decide_eq_true (by omega)]
  · simp only [cmpLss, denN, denV]; rw [decide_eq_true (by omega)]
  · simp only [cmpLss, denN, denV]; rw [decide_eq_true (by omega)]
  · simp only [cmpLss, denN, denV]; rw [decide_eq_true (by omega)]
  · simp only [cmpLss, denN, denV]; rw [decide_eq_true (by omega)]
  · simp only [cmpLss, denN, denV]; rw [decide_eq_true (by omega)]
  · simp only [cmpLss, denN, denV]; rw [decide_eq_false (by omega)]
  · simp only [cmpEql, denAdd, denSub, denN, denV, wrapAdd, wrapSub]; rw [decide_eq_true (by congr 1; omega)]
theorem Γd7_ok (σ : Sg) (hl : σ 1 = 7) : Γd7.Ok σ := by
  refine ⟨fun p hp => (by cases hp), fun p hp => ?_⟩
  simp only [Γd7, List.mem_cons, List.not_mem_nil, or_false] at hp
  rcases hp with rfl | rfl | rfl | rfl | rfl | rfl | rfl | rfl | rfl
  · simp only [cmpLss, denN, denV]; rw [decide_eq_true (by omega)]
  · simp only [cmpLss, denN, denV]; rw [decide_eq_true (by omega)]
  · simp only [cmpLss, denN, denV]; rw [decide_eq_true (by omega)]
  · simp only [cmpLss, denN, denV]; rw [decide_eq_true (by omega)]
  · simp only [cmpLss, denN, denV]; rw [decide_eq_true (by omega)]
  · simp only [cmpLss, denN, denV]; rw [decide_eq_true (by omega)]
  · simp only [cmpLss, denN, denV]; rw [decide_eq_true (by omega)]
  · simp only [cmpLss, denN, denV]; rw [decide_eq_false (by omega)]
  · simp only [cmpEql, denAdd, denSub, denN, denV, wrapAdd, wrapSub]; rw [decide_eq_true (by congr 1; omega)]
theorem Γd8_ok (σ : Sg) (hl : σ 1 = 8) : Γd8.Ok σ := by
  refine ⟨fun p hp => (by cases hp), fun p hp => ?_⟩
  simp only [Γd8, List.mem_cons, List.not_mem_nil, or_false] at hp
  rcases hp with rfl | rfl | rfl | rfl | rfl | rfl | rfl | rfl | rfl | rfl
  · simp only [cmpLss, denN, denV]; rw [decide_eq_true (by omega)]
  · simp only [cmpLss, denN, denV]; rw [decide_eq_true (by omega)]
  · simp only [cmpLss, denN, denV]; rw [decide_eq_true (by omega)]
  · simp only [cmpLss, denN, denV]; rw [decide_eq_true (by omega)]
  · simp only [cmpLss, denN, denV]; rw [decide_eq_true (by omega)]
  · simp only [cmpLss, denN, denV]; rw [decide_eq_true (by omega)]
  · simp only [cmpLss, denN, denV]; rw [decide_eq_true (by omega)]
  · simp only [cmpLss, denN, denV]; rw [decide_eq_true (by omega)]
  · simp only [cmpLss, denN, denV]; rw [decide_eq_false (by omega)]
  · simp only [cmpEql, denAdd, denSub, denN, denV, wrapAdd, wrapSub]; rw [decide_eq_true (by congr 1; omega)]
theorem Γd9_ok (σ : Sg) (hl : σ 1 = 9) : Γd9.Ok σ := by
  refine ⟨fun p hp => (by cases hp), fun p hp => ?_⟩
  simp only [Γd9, List.mem_cons, List.not_mem_nil, or_false] at hp
  rcases hp with rfl | rfl | rfl | rfl | rfl | rfl | rfl | rfl | rfl | rfl | rfl
  · simp only [cmpLss, denN, denV]; rw [decide_eq_true (by omega)]
  · simp only [cmpLss, denN, denV]; rw [decide_eq_true (by omega)]
  · simp only [cmpLss, denN, denV]; rw [decide_eq_true (by omega)]
  · simp only [cmpLss, denN, denV]; rw [decide_eq_true (by omega)]
  · simp only [cmpLss, denN, denV]; rw [decide_eq_true (by omega)]
  · simp only [cmpLss, denN, denV]; rw [decide_eq_true (by omega)]
  · simp only [cmpLss, denN, denV]; rw [decide_eq_true (by omega)]
  · simp only [cmpLss, denN, denV]; rw [decide_eq_true (by omega)]
  · simp only [cmpLss, denN, denV]; rw [decide_eq_true (by omega)]
  · simp only [cmpLss, denN, denV]; rw [decide_eq_false (by omega)]
  · simp only [cmpEql, denAdd, denSub, denN, denV, wrapAdd, wrapSub]; rw [decide_eq_true (by congr 1; omega)]
theorem Γd10_ok (σ : Sg) (hl : σ 1 = 10) : Γd10.Ok σ := by
  refine ⟨fun p hp => (by cases hp), fun p hp => ?_⟩
  simp only [Γd10, List.mem_cons, List.not_mem_nil, or_false] at hp
  rcases hp with rfl | rfl | rfl | rfl | rfl | rfl | rfl | rfl | rfl | rfl | rfl | rfl
  · simp only [cmpLss, denN, denV]; rw [decide_eq_true (by omega)]
  · simp only [cmpLss, denN, denV]; rw [decide_eq_true (by omega)]
  · simp only [cmpLss, denN, denV]; rw [decide_eq_true (by omega)]
  · simp only [cmpLss, denN, denV]; rw [decide_eq_true (by omega)]
  · simp only [cmpLss, denN, denV]; rw [decide_eq_true (by omega)]
  · simp only [cmpLss, denN, denV]; rw [decide_eq_true (by omega)]
  · simp only [cmpLss, denN, denV]; rw [decide_eq_true (by omega)]
  · simp only [cmpLss, denN, denV]; rw [decide_eq_true (by omega)]
  · simp only [cmpLss, denN, denV]; rw [decide_eq_true (by omega)]
  · simp only [cmpLss, denN, denV]; rw [decide_eq_true (by omega)]
  · simp only [cmpLss, denN, denV]; rw [decide_eq_false (by omega)]
  · simp only [cmpEql, denAdd, denSub, denN, denV, wrapAdd, wrapSub]; rw [decide_eq_true (by congr 1; omega)]
theorem Γd11_ok (σ : Sg) (hl : 11 ≤ σ 1) : Γd11.Ok σ := by
  refine ⟨fun p hp => (by cases hp), fun p hp => ?_⟩
  simp only [Γd11, List.mem_cons, List.not_mem_nil, or_false] at hp
  rcases hp with rfl | rfl | rfl | rfl | rfl | rfl | rfl | rfl | rfl | rfl | rfl | rfl
  · simp only [cmpLss, denN, denV]; rw [decide_eq_true (by omega)]
  · simp only [cmpLss, denN, denV]; rw [decide_eq_true (by omega)]
  · simp only [cmpLss, denN, denV]; rw [decide_eq_true (by omega)]
  · simp only [cmpLss, denN, denV]; rw [decide_eq_true (by omega)]
  · simp only [cmpLss, denN, denV]; rw [decide_eq_true (by omega)]
  · simp only [cmpLss, denN, denV]; rw [decide_eq_true (by omega)]
  · simp only [cmpLss, denN, denV]; rw [decide_eq_true (by omega)]
  · simp only [cmpLss, denN, denV]; rw [decide_eq_true (by omega)]
  · simp only [cmpLss, denN, denV]; rw [decide_eq_true (by omega)]
  · simp only [cmpLss, denN, denV]; rw [decide_eq_true (by omega)]
  · simp only [cmpLss, denN, denV]; rw [decide_eq_true (by omega)]
  · simp only [cmpEql, denAdd, denSub, denN, denV, wrapAdd, wrapSub]; rw [decide_eq_true (by congr 1; omega)]
theorem elems_get : ∀ (n k i : Nat), i < n → (elems n k).getD i .u = .i .i64 (.v (2 + k + i))
  | 0, k, i, h => absurd h (by omega)
  | n + 1, k, 0, _ => rfl
  | n + 1, k, i + 1, h => by
    show (elems n (k + 1)).getD i .u = _
    rw [elems_get n (k + 1) i (by omega), show 2 + (k + 1) + i = 2 + k + (i + 1) by omega]
theorem elems_len : ∀ (n k : Nat), (elems n k).length = n
  | 0, _ => rfl
  | n + 1, k => by show (elems n (k + 1)).length + 1 = _; rw [elems_len n (k + 1)]
theorem dead_walk (a : Int) (ha : -9223372036854775808 ≤ a ∧ a ≤ 9223372036854775807) (A' : Option Addr) (c : Nat) (zs : List Int) (w : World) (hz : Sl w w.heap.size 1 A' zs.length (zs.map (Value.int .i64))) :
    Calls Try.prog 4 #[.slice A' zs.length c, .int .i64 a] w (Ret fun v w' => v = .bool true ∧ Below w.heap.size w w') := by
  have pc : ∀ (σ : Sg) (Γ : Env), Γ.pc = [kKnown] → ∀ e ∈ Γ.pc, PCall Try.prog σ e := by
    intro σ Γ h e he
    rw [h] at he
    simp only [List.mem_cons, List.not_mem_nil, or_false] at he
    subst he
    exact known_pc σ
  by_cases h0 : zs.length = 0
  · let σ : Sg := ⟨fun j => if j = 0 then a else 0, none⟩
    refine call_top (σ := σ) mixed tys_ok (Γd0_ok σ rfl ha) tab_ok rfl sites_ok (pc σ _ rfl) (vs := argsD) (args := [.slice A' zs.length c, .int .i64 a]) ⟨_, _, rfl, ⟨A', _, c, rfl, by rw [h0]; rfl, fun h => absurd h (by omega)⟩, _, _, rfl, rfl, rfl⟩ ds_0 w
  · obtain ⟨hlen, hcells⟩ := hz
    obtain ⟨b, o, rfl, hb, hc⟩ := hcells (by omega)
    have h1 := hc 0 (.int .i64 (zs.getD 0 0)) (by rw [List.getElem?_map, List.getElem?_eq_getElem (by omega), List.getD_eq_getElem?_getD, List.getElem?_eq_getElem (by omega)]; rfl)
    have hob : ∃ cs ty mk, w.heap[b]? = some (.cells cs ty mk) ∧ ∀ j v, (zs.map (Value.int .i64))[j]? = some v → cs[o + j]? = some v := by
      have cell : ∀ {i : Nat} {v : Value}, w.cell? ⟨b, i, none⟩ = some v → ∃ cs ty mk, w.heap[b]? = some (.cells cs ty mk) ∧ cs[i]? = some v := by
        intro i v h
        unfold World.cell? at h
        simp only at h
        split at h
        · rename_i cs ty mk hx; exact ⟨cs, ty, mk, hx, h⟩
        · cases h
      obtain ⟨cs, ty, mk, q1, _⟩ := cell h1
      refine ⟨cs, ty, mk, q1, fun j v hv => ?_⟩
      obtain ⟨cs', ty', mk', q2, q3⟩ := cell (hc j v hv)
      rw [q1] at q2
      injection q2 with q2
      injection q2 with e1 e2 e3
      subst e1
      exact q3
    obtain ⟨cs, ty, mk, hobj, hcs⟩ := hob
    let σ : Sg := ⟨fun j => if j = 0 then a else if j = 1 then (zs.length : Int) else zs.getD (j - 2) 0, some (.cells cs ty mk)⟩
    have hd : DVL σ (etaExt b o) argsD [.slice (some ⟨b, o, none⟩) zs.length c, .int .i64 a] := ⟨_, _, rfl, ⟨_, _, c, rfl, rfl, fun _ => ⟨b, o, rfl, rfl⟩⟩, _, _, rfl, rfl, rfl⟩
    have hrow : ∀ m, m ≤ zs.length → m ≤ 10 → RowR Try.prog sites σ (etaExt b o) o w.heap[b]? (.w (mkT (elems m 0))) := by
      intro m hm _
      refine ⟨hobj, cs, ty, mk, hobj, fun p hp => ?_⟩
      obtain ⟨p1, p2⟩ := mkT_get (elems m 0) p hp
      rw [elems_len] at p1
      rw [p2, elems_get m 0 _ p1]
      refine ⟨.int .i64 (zs.getD p.toNat 0), hcs _ _ (by rw [List.getElem?_map, List.getElem?_eq_getElem (by omega), List.getD_eq_getElem?_getD, List.getElem?_eq_getElem (by omega)]; rfl), ?_⟩
      show _ = Value.int .i64 (σ (2 + 0 + p.toNat))
      have : σ (2 + 0 + p.toNat) = zs.getD p.toNat 0 := by
        show (if 2 + 0 + p.toNat = 0 then a else if 2 + 0 + p.toNat = 1 then (zs.length : Int) else zs.getD (2 + 0 + p.toNat - 2) 0) = _
        rw [if_neg (by omega), if_neg (by omega), show 2 + 0 + p.toNat - 2 = p.toNat by omega]
      rw [this]
    have go : ∀ (Γ : Env) (m : Nat), Γ.Ok σ → Γ.fns = tab → Γ.sites = sites → Γ.pc = [kKnown] → m ≤ zs.length → m ≤ 10 → YesW Γ 20000 (.r (.l .h)) argsD (mkT (elems m 0)) → Calls Try.prog 4 #[.slice (some ⟨b, o, none⟩) zs.length c, .int .i64 a] w (Ret fun v w' => v = .bool true ∧ Below w.heap.size w w') := by
      intro Γ m hok hf hs hp hm hm' hy
      exact call_topW (σ := σ) (Γ := Γ) mixed tys_ok hok (by rw [hf]; exact tab_ok) hs sites_ok (pc σ _ hp) (fp := (.r (.l .h))) hd hy hb (hrow m hm hm')
    have s1 : σ 1 = (zs.length : Int) := rfl
    rcases Nat.lt_or_ge zs.length 11 with hlt | hge
    · have cs : zs.length = 1 ∨ zs.length = 2 ∨ zs.length = 3 ∨ zs.length = 4 ∨ zs.length = 5 ∨ zs.length = 6 ∨ zs.length = 7 ∨ zs.length = 8 ∨ zs.length = 9 ∨ zs.length = 10 := by omega
      rcases cs with h | h | h | h | h | h | h | h | h | h
      · exact go Γd1 1 (Γd1_ok σ (by rw [s1, h]; rfl)) rfl rfl rfl (by omega) (by omega) ds_1
      · exact go Γd2 2 (Γd2_ok σ (by rw [s1, h]; rfl)) rfl rfl rfl (by omega) (by omega) ds_2
      · exact go Γd3 3 (Γd3_ok σ (by rw [s1, h]; rfl)) rfl rfl rfl (by omega) (by omega) ds_3
      · exact go Γd4 4 (Γd4_ok σ (by rw [s1, h]; rfl)) rfl rfl rfl (by omega) (by omega) ds_4
      · exact go Γd5 5 (Γd5_ok σ (by rw [s1, h]; rfl)) rfl rfl rfl (by omega) (by omega) ds_5
      · exact go Γd6 6 (Γd6_ok σ (by rw [s1, h]; rfl)) rfl rfl rfl (by omega) (by omega) ds_6
      · exact go Γd7 7 (Γd7_ok σ (by rw [s1, h]; rfl)) rfl rfl rfl (by omega) (by omega) ds_7
      · exact go Γd8 8 (Γd8_ok σ (by rw [s1, h]; rfl)) rfl rfl rfl (by omega) (by omega) ds_8
      · exact go Γd9 9 (Γd9_ok σ (by rw [s1, h]; rfl)) rfl rfl rfl (by omega) (by omega) ds_9
      · exact go Γd10 10 (Γd10_ok σ (by rw [s1, h]; rfl)) rfl rfl rfl (by omega) (by omega) ds_10
    · exact go Γd11 10 (Γd11_ok σ (by rw [s1]; omega)) rfl rfl rfl (by omega) (by omega) ds_11
end Go.Proofs.Ytikafojlhinonaa
