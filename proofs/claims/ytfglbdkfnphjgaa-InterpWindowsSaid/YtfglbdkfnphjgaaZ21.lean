/- An event happens. -/
import Derived.Test.YtfglbdkfnphjgaaZ20
set_option linter.unusedVariables false
set_option maxRecDepth 4000
set_option maxHeartbeats 12800000
namespace Go.Proofs.Ytfglbdkfnphjgaa
open Go.RowKit Go.Fw
theorem ZL {P:Program} {N:Fz} {c:Code} {Q:Exit→Act→World→Prop} {f:Fr} {w:World} (l:List (Nat × Value)) (h:Has f l) (k:∀ g,LG P N c Q (Io g l) w):LG P N c Q f w:=by
 rw [← Bw h];exact k f
theorem MJ {n d e:Nat} {f:Fr} {a:Act} {v u:Value} (ha:Ck (n,[]) f a) (hd:d < n) (he:e < n):Ck (n,[]) (upd (upd f d v) e u) { tmps:=((#[d,e]:Array Tmp).zip #[v,u]).foldl (fun tmps (t,a)=>tmps.setIfInBounds t a) a.tmps,defers:=[] }:=by
 have h:=ha.put (some d) (fun k hk=>by injection hk with hk;subst hk;exact hd) v
 have h2:=h.put (some e) (fun k hk=>by injection hk with hk;subst hk;exact he) u
 exact ⟨by have:=h2.size;simpa [Act.put] using this,fun t=>by have:=h2.get t;simpa [Act.put,kG] using this,rfl⟩
theorem Vo:jC Try.prog 120:=⟨_,Try.func120,by kernel_rfl,by kernel_rfl⟩
theorem Lv {h:List kI} {e:kI} {a m:Nat} (hc:h.length < a ∨ m≤(window h a m).length):window (h ++ [e]) a m=window h a m:=by
 unfold window at *
 rcases Nat.lt_or_ge h.length a with h1 | h1
 · rw [show List.drop a (h ++ [e])=[] from List.drop_eq_nil_of_le (by simp;omega),show List.drop a h=[] from List.drop_eq_nil_of_le (by omega)]
 · have h2:=hc.resolve_left (by omega)
   rw [List.drop_append_of_le_length h1,List.take_append_of_le_length (by simp only [List.length_take,List.length_drop] at h2 ⊢;omega)]
theorem RZ {h:List kI} {e:kI} {a m:Nat} (h1:a≤h.length) (h2:(window h a m).length < m):window (h ++ [e]) a m=window h a m ++ [e]:=by
 unfold window at *
 rw [List.drop_append_of_le_length h1]
 simp only [List.length_take,List.length_drop] at h2
 rw [List.take_of_length_le (l:=List.drop a h ++ [e]) (by simp;omega),List.take_of_length_le (l:=List.drop a h) (by simp;omega)]
theorem XV {w0 w w':World} {Z Z' G:Nat→Prop} {L:List It} {D:List Da} {it:It} (h:Bx w0 w Z G L D) (k:Bx w w' Z' (lK []) [it] []):Bx w0 w' Z G (it :: L) D:=
 h.push k.ex (k.at 0 rfl) fun b hb=>Nat.le_of_not_lt fun hlt=>by
  obtain ⟨_,z,_⟩:=(k.it it (List.mem_singleton.2 rfl)).2 b hb hlt
  cases z
theorem FP (l:List Nat):(l.map fun b=>[Pt b]).flatten=l.map fun b=>Pt b:=by
 induction l with
 | nil=>rfl
 | cons a l ih=>simp only [List.map_cons,List.flatten_cons,ih];rfl
theorem Qx {ρ:Operand→Value} {w:World} {d:Option Nat} {ty:TypeId} {pos:String} {af:Array Edge} {g:Option (Nat × Bool)} {n m:Int} {A:Option Addr} {k c:Nat} {x:Operand} (h:ρ x=.agg #[Vi n,Vi m,.slice A k c]) :
  (execOp ρ ⟨d,.buildSlice 48 1 #[(0,x)],ty,pos,af,g⟩).run Try.prog w=.ok (.value (.slice (some ⟨w.heap.size,0,none⟩) 1 1)) (w.alloc (.cells #[Vi n,Vi m,.slice A k c] 53)):=by
 have e:(Instr.buildSlice 48 1 #[(0,.agg #[Vi n,Vi m,.slice A k c])]).run Try.prog w=.ok (.slice (some ⟨w.heap.size,0,none⟩) 1 1) (w.alloc (.cells #[Vi n,Vi m,.slice A k c] 53)):=by kernel_rfl
 simp [execOp,h,e]
theorem QN {ρ:Operand→Value} {w:World} {d:Option Nat} {ty:TypeId} {pos:String} {af:Array Edge} {g:Option (Nat × Bool)} {A:Option Addr} {k c:Nat} {x:Operand} (h:ρ x=.agg #[.slice A k c]) :
  (execOp ρ ⟨d,.buildSlice 36 1 #[(0,x)],ty,pos,af,g⟩).run Try.prog w=.ok (.value (.slice (some ⟨w.heap.size,0,none⟩) 1 1)) (w.alloc (.cells #[.slice A k c] 50)):=by
 have e:(Instr.buildSlice 36 1 #[(0,.agg #[.slice A k c])]).run Try.prog w=.ok (.slice (some ⟨w.heap.size,0,none⟩) 1 1) (w.alloc (.cells #[.slice A k c] 50)):=by kernel_rfl
 simp [execOp,h,e]
theorem YieldAt.mono' {P:Program} {l:Nat} {args:Array Value} {w:World} {R R':Value→World→Prop} (h:YieldAt Fence.wide 0 P l args w (qx R)) (k:∀ v w,R v w→R' v w):YieldAt Fence.wide 0 P l args w (qx R'):=by
 obtain ⟨fn,tmps,q,bd,h1,h2⟩:=h
 exact ⟨fn,tmps,q,bd,h1,h2.mono fun e w he=>by obtain ⟨v,hv,hr⟩:=he;exact ⟨v,hv,k v w hr⟩⟩
theorem Pe {fu : Nat} {w : World} {A : Nat → Prop} {R : Rn} {m : Gc} {ptrs : List Nat} {x : Ao} {s s' : Sg} {xs : List Ao} {gs : List uE} {id : Int} {p : Pn Unit}
    (hP : Pre w A (Mac R m ptrs s.hist s.out ++ [It.act x s.a]) (tN R m s.hist s.out)) (hl : zM w (lK (Mac R m ptrs s.hist s.out ++ [It.act x s.a])) xs gs) (hB : R.B ≤ w.heap.size)
    (hp : ptrs = (xs.map (·.b)).reverse ++ [x.b]) (hn : ptrs.length ≤ 20) (hst : R.st ≤ 5000) (hmo : R.mo ≤ 100) (hm : event (jO fu R.src) R.st gs s id = some (p, s')) :
    Calls Try.prog 100 #[Pt R.rb, Pt x.b, V id] w (RP (fun v w' => v = .tuple #[] ∧ (∃ u, p = .ok u) ∧ Now w w' A (lK (Mac R m ptrs s.hist s.out ++ [It.act x s.a])) R ptrs x s')
      (fun c w' => Pb p c ∧ Now w w' A (lK (Mac R m ptrs s.hist s.out ++ [It.act x s.a])) R ptrs x s')) := by
  have b := hP.bx
  clear hP
  generalize hG : lK (Mac R m ptrs s.hist s.out ++ [It.act x s.a]) = G at b hl ⊢
  refine Oq Try.func100 rfl ?_
  refine ZL [(0, Pt R.rb), (1, Pt x.b), (2, V id)] ⟨rfl, rfl, rfl, trivial⟩ fun av => ?_
  refine Ms rfl ?_
  refine go ?_
  refine tF b (xG rfl) fun w1 b3 b => ?_
  refine go ?_
  refine Ms rfl ?_
  refine go ?_
  refine Qy b (fun _ => True) trivial (by kernel_rfl) fun m1 => ?_
  replace b := m1.1
  refine uF 0 r (fun h=>DF r (h.1.bk 0 r) r) m1 (pF 1 r (xn r) m1 (pF 2 r (Vz r) m1 (uF 3 r (fun h=>JK r (h.1.bk 1 r) r) m1 (uF 4 r (fun h=>DF r (h.1.bk 0 r) r) m1 (pF 5 r (xn r) m1 (pF 6 r (Vv r) m1 (uF 7 r (fun h=>JK r (h.1.bk 1 r) r) m1 (pF 8 r (BM r r) m1 (hD ?_)))))))))
  unfold event at hm
  refine qm rfl (fun h => ?_) (fun h => ?_)
  · rw [if_pos (by omega)] at hm
    obtain ⟨rfl, rfl⟩ := Prod.mk.inj (sm hm)
    refine go ?_
    refine jR (Iy OY rfl) ?_
    exact zV rfl ⟨xH _, m, b.tl⟩
  rw [if_neg (by omega)] at hm
  obtain ⟨fs, hfs, hm⟩ := bs hm
  obtain ⟨rfl, rfl⟩ := Prod.mk.inj (sm hm)
  refine FY ?_
  refine Ms rfl ?_
  refine go ?_
  refine MX rfl ?_
  refine lq (Rx b 5 rfl rfl rfl) fun w2 b => ?_
  dsimp only [List.set] at b
  refine go ?_
  refine Ms rfl ?_
  refine goB b ?_
  refine Ms rfl ?_
  refine goB b ?_
  refine lq (t_n b 1 [V (wr ((s.hist.length : Int) + 1))] rfl mK rfl rfl) fun w3 b => ?_
  rw [Uu (by omega)] at b
  refine go ?_
  refine Ms rfl ?_
  refine go ?_
  refine Qy b (fun _ => True) trivial (by kernel_rfl) fun m1 => ?_
  replace b := m1.1
  refine pF 0 r (MQ r) m1 (uF 1 r (fun h=>DF r (h.1.bk 0 r) r) m1 (pF 2 r (xn r) m1 (pF 3 r (Vr r) m1 (uF 4 r (fun h=>JK r (h.1.bk 1 r) r) m1 (pF 5 r (pU r r) m1 (pF 6 r (kM r) m1 ?_))))))
  by_cases hw : (s.hist.length : Int) < (R.fr : Int)
  · rw [decide_eq_true hw]
    refine kP 7 r (by kernel_rfl) r (sF m1) (kP 8 r (by kernel_rfl) r (sF m1) (kP 9 r (by kernel_rfl) r (sF m1) (kP 10 r (by kernel_rfl) r (sF m1) (kP 11 r (by kernel_rfl) r (sF m1) (kP 12 r (by kernel_rfl) r (sF m1) (kP 13 r (by kernel_rfl) r (sF m1) (kP 14 r (by kernel_rfl) r (sF m1) (kP 15 r (by kernel_rfl) r (sF m1) (kP 16 r (by kernel_rfl) r (sF m1) (pF 17 r (kC r r) m1 (hD ?_)))))))))))
    refine go ?_
    refine kS ⟨rfl, ⟨(), rfl⟩, m, ?_⟩
    dsimp only [Mac, tN, oJ]
    rw [Lv (.inl (by omega)), List.length_append, List.length_singleton]
    exact b.tl
  rw [decide_eq_false hw]
  refine uF 7 r (fun h=>DF r (h.1.bk 0 r) r) m1 (pF 8 r (xn r) m1 (pF 9 r (IE r) m1 (uF 10 r (fun h=>Om r (h.1.bk 1 r) r) m1 (pF 11 r (lu Try.underlying36 r) m1 (uF 12 r (fun h=>DF r (h.1.bk 0 r) r) m1 (pF 13 r (xn r) m1 (pF 14 r (Wj r) m1 (uF 15 r (fun h=>JK r (h.1.bk 1 r) r) m1 (pF 16 r (BM r r) m1 (pF 17 r (jY r r) m1 (hD ?_)))))))))))
  refine qm rfl (fun hw2 => ?_) (fun hw2 => ?_)
  · refine go ?_
    refine kS ⟨rfl, ⟨(), rfl⟩, m, ?_⟩
    dsimp only [Mac, tN, oJ]
    rw [Lv (.inr (by omega)), List.length_append, List.length_singleton]
    exact b.tl
  refine go ?_
  refine Ms rfl ?_
  refine go ?_
  refine tF b (jW Ei) fun w4 b7 b => ?_
  refine go ?_
  refine UQ (P := Try.prog) (fn := Try.f100) (w0 := w) (Z := A) (G := G) (L := fun X Y => ∃ m', X = Mac R m' ptrs (s.hist ++ [⟨fs⟩]) s.out ++ [It.act x ⟨s.a.f, id, s.a.ws⟩] ∧ Y = tN R m' (s.hist ++ [⟨fs⟩]) s.out)
    (KB := fun f w' => ∃ bk, Has f [(3, Pt b3), (7, Pt b7), (57, .func (.func 133) #[] #[Pt bk])] ∧ Bx w w' A G (.box bk 87 #[.slice m.lA ptrs.length m.lC] :: .box b7 50 #[sn] :: .box b3 86 #[Pt R.rb] :: .box R.rb 89 (oJ R m ptrs.length (window s.hist R.fr R.mo).length (s.hist.length + 1) s.out.length).toArray :: .own R.B m.lA m.lC 117 1 (ptrs.map fun b => [Pt b]) :: .own R.B m.eA m.eC 50 (Rp.sz kI) m.ec :: .own R.B m.oA m.oC 3 (Rp.sz Int) m.oc :: [It.act x ⟨s.a.f, id, s.a.ws⟩]) (tN R m s.hist s.out))
    (KR := fun D f w' => Has f [(3, Pt b3), (7, Pt b7)] ∧ ∃ fa fc fcs, Bx w w' A G (.obj D (.deferred (some [])) :: .own w.heap.size fa fc 53 (Rp.sz nI) fcs :: .box b7 50 #[.slice fa fs.length fc] :: .box b3 86 #[Pt R.rb] :: .box R.rb 89 (oJ R m ptrs.length (window s.hist R.fr R.mo).length (s.hist.length + 1) s.out.length).toArray :: .own R.B m.lA m.lC 117 1 (ptrs.map fun b => [Pt b]) :: .own R.B m.eA m.eC 50 (Rp.sz kI) m.ec :: .own R.B m.oA m.oC 3 (Rp.sz Int) m.oc :: [It.act x ⟨s.a.f, id, s.a.ws⟩]) (.els fcs fs :: tN R m s.hist s.out))
    rfl ?_ ?_ ?_ ?_
  · refine goB b ?_
    refine CX (pY UK rfl) (Kg (Z := A)) ?_
    rintro _ w5 ⟨bk, rfl, hK⟩
    refine go ?_
    exact ⟨bk, ⟨rfl, rfl, rfl, trivial⟩, XV b hK⟩
  · rintro f w5 a ⟨bk, hf, b⟩ ha
    clear m1
    obtain ⟨av2, rfl⟩ := gP _ _ hf
    clear hf
    have hg : ev (Io av2 [(3, Pt b3), (7, Pt b7), (57, .func (.func 133) #[] #[Pt bk])]) (.tmp 57) = .func (.func 133) #[] [Pt bk].toArray := rfl
    refine wp_block (Uo (Lx := fun X Y => ∃ fa fc fcs, X = .own w.heap.size fa fc 53 (Rp.sz nI) fcs :: .box b7 50 #[.slice fa fs.length fc] :: .box b3 86 #[Pt R.rb] :: .box R.rb 89 (oJ R m ptrs.length (window s.hist R.fr R.mo).length (s.hist.length + 1) s.out.length).toArray :: .own R.B m.lA m.lC 117 1 (ptrs.map fun b => [Pt b]) :: .own R.B m.eA m.eC 50 (Rp.sz kI) m.ec :: .own R.B m.oA m.oC 3 (Rp.sz Int) m.oc :: [It.act x ⟨s.a.f, id, s.a.ws⟩] ∧ Y = .els fcs fs :: tN R m s.hist s.out) ha hg Wt b ?_ ?_)
    · intro l D fn w6 hL
      generalize hO : Mh fn a.tmps #[58, 59] _ _ D = O at hL ⊢
      refine Calls.mono (Xw (n := ptrs.length) (A := m.lA) (c := m.lC) (ps := fun k => ptrs.getD k 0) (I := fun k w' => ∃ acc fa fc fcs, Ug (jO fu R.src) (((⟨s.a.f, id, s.a.ws⟩ : uE) :: gs).drop (ptrs.length - k)) acc = some fs ∧
        Bx w w' A G (.obj l (.loop O) :: .obj D (.deferred (some [])) :: .box bk 87 #[.slice m.lA ptrs.length m.lC] :: .own w.heap.size fa fc 53 (Rp.sz nI) fcs :: .box b7 50 #[.slice fa acc.length fc] :: .box b3 86 #[Pt R.rb] :: .box R.rb 89 (oJ R m ptrs.length (window s.hist R.fr R.mo).length (s.hist.length + 1) s.out.length).toArray :: .own R.B m.lA m.lC 117 1 (ptrs.map fun b => [Pt b]) :: .own R.B m.eA m.eC 50 (Rp.sz kI) m.ec :: .own R.B m.oA m.oC 3 (Rp.sz Int) m.oc :: [It.act x ⟨s.a.f, id, s.a.ws⟩]) (.els fcs acc :: tN R m s.hist s.out)) ?_ ?_ ?_ ?_ (by omega)) ?_
      · rintro k w7 ⟨acc, fa, fc, fcs, _, hb⟩
        exact hb.bk 2 rfl
      · rintro k w7 hk ⟨acc, fa, fc, fcs, _, hb⟩
        obtain ⟨y, hy⟩ := mF (l := ptrs) hk
        have ho := hb.bo 7 rfl
        rw [List.length_map, FP] at ho
        have h3 := Fe ho (k := k) (v := Pt y) (by rw [List.getElem?_map, hy]; rfl)
        refine ⟨h3.1, ?_⟩
        rw [Nat.mul_one, h3.2.1]
        simp [List.getD_eq_getElem?_getD, hy]
      · rintro k w7 hk ⟨acc, fa, fc, fcs, hacc, hb⟩
        subst hO
        have hlen : ptrs.length = gs.length + 1 := by rw [hp, List.length_append, List.length_reverse, List.length_map, hl.len]; rfl
        have hact : ∃ y g, (((⟨s.a.f, id, s.a.ws⟩ : uE) :: gs))[ptrs.length - (k + 1)]? = some g ∧ ptrs.getD k 0 = y.b ∧ ∀ w', I7 G w w' → (∀ hq : ptrs.length - (k + 1) = 0, (It.act x ⟨s.a.f, id, s.a.ws⟩).p w') → (It.act y g).p w' := by
          have hj : ptrs.length - (k + 1) < gs.length + 1 := by omega
          have hpk : ∀ j, j < gs.length + 1 → ptrs.getD (gs.length - j) 0 = ((x :: xs).map (·.b)).getD j 0 := fun j hj => by
            have e : ptrs = ((x :: xs).map (·.b)).reverse := by rw [hp]; simp
            rw [e, List.getD_eq_getElem?_getD, List.getD_eq_getElem?_getD, List.getElem?_reverse (by simp [hl.len]; omega)]
            congr 2
            simp [hl.len]
            omega
          have e1 : gs.length - (ptrs.length - (k + 1)) = k := by omega
          have hk2 := hpk _ hj
          rw [e1] at hk2
          generalize ptrs.length - (k + 1) = q at hj hk2 ⊢
          cases q with
          | zero => exact ⟨x, _, rfl, by rw [hk2]; rfl, fun w' _ h => h rfl⟩
          | succ q =>
            obtain ⟨g, hg⟩ := mF (l := gs) (k := q) (by omega)
            obtain ⟨y, hy, _⟩ := hl.get hg
            refine ⟨y, g, by simpa using hg, by rw [hk2]; simp [List.getD_eq_getElem?_getD, hy], fun w' hc _ => ?_⟩
            obtain ⟨y', hy', hy2⟩ := (zM.mv' hc (fun b _ h => h) hl).get hg
            rw [hy] at hy'
            exact Option.some.inj hy' ▸ hy2
        obtain ⟨y, g, hg2, hy, hw7⟩ := hact
        rw [hy]
        rw [mZ hg2, Ug, show ptrs.length - (k + 1) + 1 = ptrs.length - k by omega] at hacc
        obtain ⟨fr, hfr, hacc⟩ := bs hacc
        obtain ⟨acc2, hac2, hacc⟩ := bs hacc
        refine YieldAt.mono' (NV (la := [_]) (S1 := fun u => mM u b3 86 #[Pt R.rb]) (S := fun u => mM u b7 50 #[.slice fa acc.length fc]) (T := [8]) (Lx := fun X Y => ∃ fa fc fcs, X = .obj D (.deferred (some [])) :: .box bk 87 #[.slice m.lA ptrs.length m.lC] :: .own w.heap.size fa fc 53 (Rp.sz nI) fcs :: .box b7 50 #[.slice fa acc2.length fc] :: .box b3 86 #[Pt R.rb] :: .box R.rb 89 (oJ R m ptrs.length (window s.hist R.fr R.mo).length (s.hist.length + 1) s.out.length).toArray :: .own R.B m.lA m.lC 117 1 (ptrs.map fun b => [Pt b]) :: .own R.B m.eA m.eC 50 (Rp.sz kI) m.ec :: .own R.B m.oA m.oC 3 (Rp.sz Int) m.oc :: [It.act x ⟨s.a.f, id, s.a.ws⟩] ∧ Y = .els fcs acc2 :: tN R m s.hist s.out)
          hb rfl rfl rfl (MJ ha (by decide) (by decide)) rfl rfl (by kernel_rfl) (by kernel_rfl) (by kernel_rfl) (by kernel_rfl) (Kk (Wd.rnd l) (fun _ h => by cases h) (LU rfl) (XW ⟨rfl, rfl⟩)) ?_) ?_
        · intro w8 b
          replace b := b.drew
          have m1 : mM w8.drew b3 86 #[Pt R.rb] := b.bk 5 rfl
          have m2 : mM w8.drew b7 50 #[.slice fa acc.length fc] := b.bk 4 rfl
          refine pL 0 r (PV r) m1 m2 (tS 9 1 r (fun _ h => ZG r h r) (mD m1 m2) (tU 2 r (fun _ h => DF r h r) (mD m1 m2) (pL 3 r (vO r) m1 m2 ?_)))
          refine hO 4 (oc r r (ec Vo r) (P5 (b.pr [] [0, 1, 2, 3, 4, 5, 6, 7, 8, 9, 10] [3, 4, 5, 6] r) (b.bk 6 rfl) (hw7 _ b.q9 fun _ => b.at 10 rfl) hfr) ?_)
          rintro _ w9 ⟨A1, c1, rfl, hK⟩
          replace b := b.cn [] [0, 1, 2, 3, 4, 5, 6, 7, 8, 9, 10] hK
          refine ⟨mD (b.bk 5 rfl) (b.bk 4 rfl), ?_⟩
          refine hO 5 (oo r r (jL b [[V fr.k, V fr.a, .slice A1 fr.b.length c1]] ([fr] : List nI) (Qx r) r r (by decide) ⟨nI.inn ⟨_, _, rfl, b.dl 0 rfl⟩, trivial⟩) ?_)
          rintro _ w10 ⟨b5, rfl, b⟩
          refine ⟨mD (b.bk 6 rfl) (b.bk 5 rfl), ?_⟩
          refine hO 6 (oo r r (kN b 4 2 r r Try.underlying48 Dy r (by decide) (by decide) (Nat.le_refl _) r r (b.zQ 0 0 r r) hac2) ?_)
          rintro _ w11 ⟨a4, c4, cs4, rfl, b⟩
          refine ⟨mD (b.bk 6 rfl) (b.bk 5 rfl), pL 7 r (PV r) (b.bk 6 rfl) (b.bk 5 rfl) ?_⟩
          refine hO 8 (os r r (nR b 5 [.slice a4 acc2.length c4] r Rk r r) fun w12 b => ⟨sy 8 (b.bk 6 rfl), hD ?_⟩)
          exact ⟨_, _, ⟨a4, c4, cs4, rfl, rfl⟩, (b.arr [1, 2, 3, 4, 5, 6, 7, 8, 9, 10, 11] rfl).dp [2, 3, 4, 5, 6, 7, 8]⟩
        · rintro v w8 ⟨rfl, X', D', ⟨fa, fc, fcs, rfl, rfl⟩, hb⟩
          exact ⟨rfl, acc2, fa, fc, fcs, hacc, hb⟩
      · refine ⟨[], none, 0, [], ?_, ?_⟩
        · rw [Nat.sub_self, List.drop_zero]; exact hfs
        · exact (hL.BU nI 53).arr [1, 2, 3, 0, 4, 5, 6, 7, 8, 9, 10] rfl
      · rintro e w7 ⟨v, rfl, rfl, acc, fa, fc, fcs, hacc, hb⟩
        have hlen : ptrs.length = gs.length + 1 := by rw [hp, List.length_append, List.length_reverse, List.length_map, hl.len]; rfl
        rw [Nat.sub_zero, List.drop_eq_nil_of_le (by rw [hlen]; exact Nat.le_refl _)] at hacc
        obtain rfl := sm hacc
        exact ⟨_, rfl, _, _, ⟨fa, fc, fcs, rfl, rfl⟩, hb.arr [0, 1, 3, 4, 5, 6, 7, 8, 9, 10] rfl⟩
    · rintro D w6 X Y ⟨fa, fc, fcs, rfl, rfl⟩ hb
      exact ⟨rfl, D, rfl, ⟨rfl, rfl, trivial⟩, fa, fc, fcs, hb⟩
  · rintro D f w5 ⟨hf, fa, fc, fcs, b⟩
    obtain ⟨av, rfl⟩ := gP _ _ hf
    clear hf
    replace b := b.fz 1 0 rfl rfl
    have hap : app (window s.hist R.fr R.mo) [(⟨fs⟩ : kI)] = some (window s.hist R.fr R.mo ++ [⟨fs⟩]) := by
      unfold app
      rw [if_pos (by have : (window s.hist R.fr R.mo).length ≤ R.mo := by unfold window; rw [List.length_take]; exact Nat.min_le_left ..
                     simp only [List.length_singleton]; omega)]
    refine uV (fun u => mM u b3 86 #[Pt R.rb]) (fun u => mM u b7 50 #[.slice fa fs.length fc] ∧ mM u R.rb 89 (oJ R m ptrs.length (window s.hist R.fr R.mo).length (s.hist.length + 1) s.out.length).toArray) [7] (by kernel_rfl) ?_
    replace b := b.drew
    have m1 : mM w5.drew b3 86 #[Pt R.rb] := b.bk 2 rfl
    have m2 : mM w5.drew b7 50 #[.slice fa fs.length fc] ∧ mM w5.drew R.rb 89 (oJ R m ptrs.length (window s.hist R.fr R.mo).length (s.hist.length + 1) s.out.length).toArray := ⟨b.bk 1 rfl, b.bk 3 rfl⟩
    refine tU 0 r (fun _ h => DF r h r) (mD m1 m2) (tU 1 r (fun _ h => DF r h r) (mD m1 m2) (pL 2 r (xn r) m1 m2 (pL 3 r (IE r) m1 m2 (tS 12 4 r (fun _ h => Om r h.2 r) (mD m1 m2) (tS 12 5 r (fun _ h => mY [.slice fa fs.length fc] ZW Ei r h.1) (mD m1 m2) ?_)))))
    refine hO 6 (oo r r (jL b [[.slice fa fs.length fc]] ([⟨fs⟩] : List kI) (QN r) r r (by decide) ⟨kI.inn ⟨_, _, rfl, b.dl 0 rfl⟩, trivial⟩) ?_)
    rintro _ w6 ⟨b5, rfl, b⟩
    refine ⟨mD (b.bk 3 rfl) ⟨b.bk 2 rfl, b.bk 4 rfl⟩, ?_⟩
    refine hO 7 (oo r r (kN b 6 2 r r Try.underlying36 Ei r (by decide) (by decide) hB r r (b.zQ 0 0 r r) hap) ?_)
    rintro _ w7 ⟨a4, c4, cs4, rfl, b⟩
    refine ⟨sy 7 (b.bk 3 rfl), tP 8 r (fun _ => xn r) (sy 7 (b.bk 3 rfl)) (tP 9 r (fun _ => IE r) (sy 7 (b.bk 3 rfl)) ?_)⟩
    refine hO 10 (os r r (t_n b 4 [.slice a4 (window s.hist R.fr R.mo ++ [(⟨fs⟩ : kI)]).length c4] r MC r r) fun w8 b => ⟨sy 7 (b.bk 3 rfl), hD ?_⟩)
    refine ⟨_, _, ⟨{ m with eA := a4, eC := c4, ec := cs4 }, rfl, rfl⟩, ?_⟩
    dsimp only [Mac, tN, oJ]
    rw [RZ (by omega) (by omega), show (s.hist ++ [(⟨fs⟩ : kI)]).length = s.hist.length + 1 from by simp]
    exact (b.arr [1, 4, 5, 6, 7, 8] rfl).dp [2, 3, 4, 5, 6, 7]
  · rintro w' X Y ⟨m', rfl, rfl⟩ hb
    exact ⟨rfl, ⟨(), rfl⟩, m', hb⟩
end Go.Proofs.Ytfglbdkfnphjgaa
set_option linter.unusedVariables false
set_option maxRecDepth 4000
set_option maxHeartbeats 12800000
namespace Go.Proofs.Ytfglbdkfnphjgaa
open Go.RowKit Go.Fw
abbrev H7 (R:Rn) (m:Gc) (ptrs:List Nat) (x:Ao) (s:Sg):List It:=Mac R m ptrs s.hist s.out ++ [It.act x s.a]
structure Qs (w:World) (A:Nat→Prop) (R:Rn) (m:Gc) (ptrs:List Nat) (x:Ao) (s:Sg) (xs:List Ao) (gs:List uE) (D:List Da):Prop where
 pre:Pre w A (H7 R m ptrs x s) (D ++ tN R m s.hist s.out)
 lent:zM w (lK (H7 R m ptrs x s)) xs gs
 hB:R.B≤w.heap.size
 hp:ptrs=(xs.map (·.b)).reverse ++ [x.b]
 hn:ptrs.length≤20
structure Vk (R:Rn):Prop where
 st:R.st≤5000
 mo:R.mo≤100
def Ok (w:World) (A:Nat→Prop) (R:Rn) (m:Gc) (ptrs:List Nat) (x:Ao) (s s':Sg) (w':World):Prop:=Now w w' A (lK (H7 R m ptrs x s)) R ptrs x s'
def Pk {α:Type} (p:Pn α) (w:World) (A:Nat→Prop) (R:Rn) (m:Gc) (ptrs:List Nat) (x:Ao) (s s':Sg) (ch:List PanicEntry) (w':World):Prop:=Pb p ch∧Ya w w' A (lK (H7 R m ptrs x s)) R ptrs x s'
abbrev cS (y:jN) (a7:Option Addr) (c7:Nat) (a10:Option Addr) (c10:Nat) (a11:Option Addr) (c11:Nat) (a12:Option Addr) (c12:Nat):List Value:=
 [V y.e,V y.f,V y.n,T y.b,T y.j,V y.m,V y.g,.slice a7 y.c.length c7,T y.k,V y.i,.slice a10 y.a.length c10,.slice a11 y.d.length c11,.slice a12 y.h.length c12]
abbrev dS (y:jN) (a7:Option Addr) (c7:Nat) (a10:Option Addr) (c10:Nat) (a11:Option Addr) (c11:Nat) (a12:Option Addr) (c12:Nat):List Da:=[.l a7 c7 y.c,.l a10 c10 y.a,.l a11 c11 y.d,.l a12 c12 y.h]
def Zn (R:Rn) (sm:List uE→Sm):Prop:=∀ {w:World} {A:Nat→Prop} {m:Gc} {ptrs:List Nat} {x:Ao} {s s':Sg} {xs:List Ao} {gs:List uE} {y:jN} {a7:Option Addr} {c7:Nat} {a10:Option Addr} {c10:Nat} {a11:Option Addr} {c11:Nat} {a12:Option Addr} {c12:Nat} {p:Pn (Option Int)},
 Qs w A R m ptrs x s xs gs (dS y a7 c7 a10 c10 a11 c11 a12 c12)→sm gs s y=some (p,s')→
 Calls Try.prog 75 #[Pt R.rb,Pt x.b,.agg (cS y a7 c7 a10 c10 a11 c11 a12 c12).toArray] w (RP (fun v w'=>∃ o,p=.ok o∧v=.tuple #[V (o.getD 0),.bool o.isSome]∧Ok w A R m ptrs x s s' w') (Pk p w A R m ptrs x s s'))
def WV (R:Rn) (sm:List uE→Sm):Prop:=∀ {w:World} {A:Nat→Prop} {m:Gc} {ptrs:List Nat} {x:Ao} {s s':Sg} {xs:List Ao} {gs:List uE} {l:List jN} {a:Option Addr} {c:Nat} {p:Pn (Option Int)},
 Qs w A R m ptrs x s xs gs [.l a c l]→JJ (sm gs) s l=some (p,s')→
 Calls Try.prog 50 #[Pt R.rb,Pt x.b,.slice a l.length c] w (RP (fun v w'=>∃ o,p=.ok o∧v=.tuple #[V (o.getD 0),.bool o.isSome]∧Ok w A R m ptrs x s s' w') (Pk p w A R m ptrs x s s'))
theorem YK:jC Try.prog 75:=⟨_,Try.func75,by kernel_rfl,by kernel_rfl⟩
theorem MZ:jC Try.prog 50:=⟨_,Try.func50,by kernel_rfl,by kernel_rfl⟩
theorem Az {w w1:World} {A G:Nat→Prop} {L L1:List It} {D:List Da} {xs:List Ao} {gs:List uE} (b:Bx w w1 A G L D) (hl:zM w G xs gs) (hs:∀ it ∈ L1,it ∈ L):zM w1 (lK L1) xs gs:=
 zM.mv' b.q9 (fun k hk ⟨it,hi,hF⟩=>(b.it it (hs it hi)).2 k hF hk) hl
theorem ZT {N:Fz} {ops:Array Oper} {K:KK} {rest:List Oper} {f:Fr} {w w0:World} {d1 d2:Nat} {ty ty2:TypeId} {pos pos2:String} {af af2:Array Edge} {y z:Operand} {Z G:Nat→Prop} {L:List It} {D:List Da}
  (e:Bx w0 w Z G L D) (j:Nat) {a:Option Addr} {c:Nat} {l:List jN} {k:Nat} {i:Int} {x:jN} (hj:D[j]?=some (.l a c l)) (hk:l[k]?=some x) (h1:ev f y=.slice a l.length c) (h2:ev f z=V i) (hi:i=(k:Int))
  (h:∀ a7 c7 a10 c10 a11 c11 a12 c12,Bx w0 w Z G L (dS x a7 c7 a10 c10 a11 c11 a12 c12 ++ D)→kQ Try.prog N ops K rest (upd (upd f d1 (.pointer (some ⟨nM a,oU a+k * 13,none⟩))) d2 (.agg (cS x a7 c7 a10 c10 a11 c11 a12 c12).toArray)) w) :
  kQ Try.prog N ops K (⟨some d1,.indexAddr 80 y z,ty,pos,af,none⟩ :: ⟨some d2,.load 111 (.tmp d1),ty2,pos2,af2,none⟩ :: rest) f w:=by
 obtain ⟨cs,hr,e2⟩:=e.nm j hj hk
 obtain ⟨a7,c7,a10,c10,a11,c11,a12,c12,rfl,h7,h10,h11,h12⟩:=jN.out hr
 have e3:=(((e2.kr (d:=.l a12 c12 x.h) h12).kr (d:=.l a11 c11 x.d) h11).kr (d:=.l a10 c10 x.a) h10).kr (d:=.l a7 c7 x.c) h7
 refine jR (kV Try.underlying80 jP h1 h2 hi (e.dl j hj) hk) ?_
 refine jR (nE (cS x a7 c7 a10 c10 a11 c11 a12 c12) Try.underlying111 rfl jP rfl (by show upd f d1 _ d1=_;unfold upd;rw [Nat.beq_refl];rfl) (e3.dc 4 rfl)) ?_
 exact h a7 c7 a10 c10 a11 c11 a12 c12 (e3.Lm fun d hd=>by
  simp only [dS,List.cons_append,List.nil_append,List.mem_cons] at hd ⊢
  rcases hd with h | h | h | h | h
  · exact .inl h
  · exact .inr (.inl h)
  · exact .inr (.inr (.inl h))
  · exact .inr (.inr (.inr (.inl h)))
  · exact .inr (.inr (.inr (.inr (.inr h)))))
theorem NC {R:Rn} {sm:List uE→Sm} (hS:Zn R sm):WV R sm:=by
 intro w A m ptrs x s s' xs gs l a c p hR hm
 obtain ⟨hP,hl,hB,hp,hn⟩:=hR
 have b:=hP.bx
 clear hP
 unfold Ok Pk
 generalize hG:lK (H7 R m ptrs x s)=G at b hl ⊢
 refine vU Try.func50 rfl ?_
 refine lJ [(0,Pt R.rb),(1,Pt x.b),(2,.slice a l.length c)] ⟨rfl,rfl,rfl,trivial⟩ fun av=>?_
 have hbd:=(b.dl 0 rfl).bd
 refine goB b ?_
 refine kK (fun aw f w'=>∃ (t:Nat) (s1:Sg) (m1:Gc),aw=l.length - t∧t≤l.length∧
     Has f [(0,Pt R.rb),(1,Pt x.b),(12,.slice a l.length c),(13,V (l.length:Int)),(14,V (t:Int))]∧
     Bx w w' A G (H7 R m1 ptrs x s1) (.l a c l :: tN R m1 s1.hist s1.out)∧JJ (sm gs) s1 (l.drop t)=some (p,s'))
   l.length ⟨0,s,m,rfl,Nat.zero_le _,⟨rfl,rfl,rfl,rfl,rfl,trivial⟩,b,hm⟩ ?_
 clear b hm
 rintro aw f w1 ⟨t,s1,m1,rfl,ht,hf,b,hm⟩ J hJ
 obtain ⟨av,rfl⟩:=gP _ _ hf
 clear hf
 refine goB b ?_
 refine qm rfl (fun h=>?_) (fun h=>?_)
 · obtain ⟨y,hy⟩:=mF (l:=l) (k:=t) (by omega)
   rw [mZ hy,JJ] at hm
   obtain ⟨⟨q,s2⟩,h1,hm⟩:=bs hm
   refine goB b ?_
   refine ZT b 0 rfl hy rfl rfl rfl fun a7 c7 a10 c10 a11 c11 a12 c12 b=>?_
   refine tF b (jW jP) fun w2 b9 b=>?_
   refine lq (nR b 0 (cS y a7 c7 a10 c10 a11 c11 a12 c12) rfl jP rfl rfl) fun w3 b=>?_
   refine goB b ?_
   refine jR (mY (cS y a7 c7 a10 c10 a11 c11 a12 c12) lS jP rfl (b.bk 0 rfl)) ?_
   have hr:Qs w3 (Cy w A (pick _ [1,2,3,4,5] ++ pick _ [0])) R m1 ptrs x s1 xs gs (dS y a7 c7 a10 c10 a11 c11 a12 c12):=⟨b.pr [1,2,3,4,5] [0] [0,1,2,3,5,6,7,8,9,10] rfl,Az b hl (fun it hi=>List.mem_cons_of_mem _ hi),Nat.le_trans hB b.q9.size,hp,hn⟩
   refine IZ (pY YK rfl) (hS hr h1) (fun ch w4 hq=>?_) ?_
   · obtain ⟨hq,more,m4,hK⟩:=hq
     have hb:=b.cn [1,2,3,4,5] [0] hK
     have hb:=(hb.arr [0,1,2,3,4] rfl).dp [0,1,2,3,4,5]
     cases q with
     | ok o=>exact hq.elim
     | _=>obtain ⟨rfl,rfl⟩:=Prod.mk.inj (Option.some.inj hm);exact ⟨hq,more,m4,hb⟩
   rintro _ w4 ⟨o,rfl,rfl,m4,hK⟩
   replace b:=b.cn [1,2,3,4,5] [0] hK
   replace b:=(b.arr [0,1,2,3,4] rfl).dp [10,0,1,2,3,4,5]
   cases o with
   | none=>
     refine jR (Gq (.tuple #[V 0,.bool false]) rfl) ?_
     refine go ?_
     exact hJ (l.length - (t+1)) _ _ (by omega) ⟨t+1,s2,m4,rfl,by omega,⟨rfl,rfl,rfl,rfl,congrArg V (Uu (t:=t) (by omega)),trivial⟩,b,hm⟩
   | some v=>
     obtain ⟨rfl,rfl⟩:=Prod.mk.inj (Option.some.inj hm)
     refine jR (Gq (.tuple #[V v,.bool true]) rfl) ?_
     refine go ?_
     refine kS ?_
     refine qb (fn:=Try.f50) rfl (kW rfl) (kW rfl) ?_
     exact ⟨some v,rfl,rfl,m4,b.dp [1,2,3,4,5,6]⟩
 · obtain rfl:t=l.length:=by omega
   rw [lZ,JJ] at hm
   obtain ⟨rfl,rfl⟩:=Prod.mk.inj (Option.some.inj hm)
   refine goB b ?_
   refine uJ ?_
   refine goB b ?_
   refine kS ?_
   refine qb (fn:=Try.f50) rfl (kW rfl) (kW rfl) ?_
   exact ⟨none,rfl,rfl,m1,b.dp [1,2,3,4,5,6]⟩
end Go.Proofs.Ytfglbdkfnphjgaa
set_option linter.unusedVariables false
set_option maxRecDepth 4000
set_option maxHeartbeats 12800000
namespace Go.Proofs.Ytfglbdkfnphjgaa
open Go.RowKit Go.Fw
structure TS where
 a:Option Addr
 n:Nat
 c:Nat
instance:Rp TS:=⟨1,24,fun _ _ cs h=>cs=[.slice h.a h.n h.c],fun h=>by rw [h];rfl,fun h=>by rw [h];rfl,fun h _=>h⟩
def hdl:List Nat→List (List Int)→List TS
 | r :: R,l :: m=>⟨some ⟨r,0,none⟩,l.length,l.length⟩ :: hdl R m
 | _,_=>[]
theorem Df:∀ {R:List Nat} {m:List (List Int)},R.length=m.length→(hdl R m).length=m.length
 | _ :: R,_ :: m,h=>by simp only [hdl,List.length_cons] at h ⊢;rw [Df (R:=R) (m:=m) (by omega)]
 | [],[],_=>rfl
 | [],_ :: _,h=>by simp at h
 | _ :: _,[],h=>by simp at h
theorem KV:∀ {R:List Nat} {m:List (List Int)} {r:Nat} {l:List Int},R.length=m.length→hdl (R ++ [r]) (m ++ [l])=hdl R m ++ [⟨some ⟨r,0,none⟩,l.length,l.length⟩]
 | _ :: R,_ :: m,r,l,h=>by simp only [hdl,List.cons_append,List.length_cons] at h ⊢;rw [KV (R:=R) (m:=m) (by omega)]
 | [],[],_,_,_=>rfl
 | [],_ :: _,_,_,h=>by simp at h
 | _ :: _,[],_,_,h=>by simp at h
theorem Ns:∀ {R:List Nat} {m:List (List Int)} {k:Nat} {l l':List Int},m[k]?=some l→l'.length=l.length→hdl R (m.set k l')=hdl R m
 | _ :: _,_ :: _,0,l,l',h,e=>by
  simp only [List.getElem?_cons_zero,Option.some.injEq] at h
  subst h
  simp only [List.set_cons_zero,hdl,e]
 | r :: R,q :: m,k+1,l,l',h,e=>by
  simp only [List.set_cons_succ,hdl]
  rw [Ns (R:=R) (k:=k) (by simpa using h) e]
 | [],_,_,_,_,_,_=>by simp [hdl]
 | _ :: _,[],_,_,_,h,_=>by simp at h
theorem JC {F:Nat→Prop} {w:World}:∀ {cs:List (List Value)} {R:List Nat} {m:List (List Int)},R.length=m.length→vF F w cs (hdl R m)→cs.flatten=Fq R m
 | c :: cs,_ :: R,_ :: m,h,e=>by
  have h1:c=_:=e.1
  simp only [Fq,List.flatten_cons]
  rw [JC (R:=R) (m:=m) (by simpa using h) e.2,h1]
  rfl
 | [],[],[],_,_=>rfl
 | _ :: _,[],[],_,e=>e.elim
 | [],_ :: _,_ :: _,_,e=>e.elim
 | _,[],_ :: _,h,_=>by simp at h
 | _,_ :: _,[],h,_=>by simp at h
def It.rws (R:List Nat) (m:List (List Int)):It where
 F k:=k ∈ R
 p w:=FZ w R m∧R.Nodup∧∀ l ∈ m,l.length≤8
 bd w h k hk:=h.1.mem hk
 st w w' h k hs:=⟨h.1.st k,h.2⟩
theorem FZ.snoc {w:World}:∀ {R:List Nat} {m:List (List Int)} {r:Nat} {l:List Int},FZ w R m→mM w r 3 (l.map V).toArray→FZ w (R ++ [r]) (m ++ [l])
 | _ :: _,_ :: _,_,_,h,k=>⟨h.1,FZ.snoc h.2 k⟩
 | [],[],_,_,_,k=>⟨k,trivial⟩
 | [],_ :: _,_,_,h,_=>h.elim
 | _ :: _,[],_,_,h,_=>h.elim
section
variable {w w0:World} {Z G:Nat→Prop} {L:List It} {D:List Da}
theorem aaq (h:Bx w0 w Z G L D):Bx w0 w Z G (It.rws [] [] :: L) D:=
 h.push (Ext.refl w) ⟨trivial,List.nodup_nil,fun _ h=>by cases h⟩ (fun b hb=>by cases hb)
theorem RQ {R:List Nat} {m:List (List Int)} {b n:Nat} (h:Bx w0 w Z G (.box b 3 (Array.replicate n (V 0)) :: It.rws R m :: L) D) (hn:n≤8):Bx w0 w Z G (It.rws (R ++ [b]) (m ++ [List.replicate n 0]) :: L) D:=by
 have hB:mM w b 3 (Array.replicate n (V 0)):=h.bk 0 rfl
 have hr:(It.rws R m).p w:=h.at 1 rfl
 have hp1:=List.pairwise_cons.1 h.pw
 have hp2:=List.pairwise_cons.1 hp1.2
 have e:(List.replicate n (0:Int)).map V=List.replicate n (V 0):=by simp
 refine h.step (X:=fun _=>False) ((Ext.refl w).Co _) (fun _ hx=>hx.elim) (fun it hi=>?_) (fun it hi k hk hl=>?_) (List.pairwise_cons.2 ⟨fun y hy k hk=>?_,hp2.2⟩)
 · rcases List.mem_cons.1 hi with rfl | hi
   · refine ⟨hr.1.snoc (by rw [e,← Array.toList_replicate,Array.toArray_toList];exact hB),?_,fun l hl=>?_⟩
     · rw [List.nodup_append]
       refine ⟨hr.2.1,by simp,fun a ha c hc=>?_⟩
       rw [List.mem_singleton.1 hc]
       intro hab
       exact hp1.1 _ (List.mem_cons_self ..) b rfl (hab ▸ ha)
     · rcases List.mem_append.1 hl with hl | hl
       · exact hr.2.2 l hl
       · rw [List.mem_singleton.1 hl,List.length_replicate];exact hn
   · exact (h.it it (List.mem_cons_of_mem _ (List.mem_cons_of_mem _ hi))).1
 · rcases List.mem_cons.1 hi with rfl | hi
   · rcases List.mem_append.1 hk with hk | hk
     · exact ⟨_,List.mem_cons_of_mem _ (List.mem_cons_self ..),hk⟩
     · exact ⟨_,List.mem_cons_self ..,List.mem_singleton.1 hk⟩
   · exact ⟨it,List.mem_cons_of_mem _ (List.mem_cons_of_mem _ hi),hk⟩
 · rcases List.mem_append.1 hk with hk | hk
   · exact hp2.1 y hy k hk
   · exact hp1.1 y (List.mem_cons_of_mem _ hy) k (List.mem_singleton.1 hk)
variable {ρ:Operand→Value} {d:Option Nat} {ty:TypeId} {pos:String} {af:Array Edge} {gd:Option (Nat × Bool)} {p y:Operand}
theorem R4 (hL:Bx w0 w Z G L D) (i:Nat) {R:List Nat} {m:List (List Int)} {k j r:Nat} {l:List Int} {n:Int} (hi:L[i]?=some (It.rws R m)) (hr:R[k]?=some r) (hk:m[k]?=some l) (hj:j < l.length) (hx:ρ p=.pointer (some ⟨r,j,none⟩)) (hy:ρ y=V n) :
   QX Try.prog ρ ⟨d,.store 3 p y,ty,pos,af,gd⟩ w fun w'=>Bx w0 w' Z G (L.set i (It.rws R (m.set k (l.set j n)))) D:=by
 have h:=hL.at i hi
 obtain ⟨r',hr',hB⟩:=h.1.get hk
 rw [hr] at hr'
 obtain rfl:=Option.some.inj hr'
 obtain ⟨q,hi1,hi2,hi3,hi4⟩:=mK
 have hst:=run_storeCells_at (P:=Try.prog) r j 3 [V n] 0 _ w hB (by simp;omega) (fun v hv=>by rcases List.mem_singleton.1 hv with rfl;rfl)
 have e:((l.map V).toArray.toList.take (j+0) ++ [V n] ++ (l.map V).toArray.toList.drop (j+0+[V n].length)).toArray=((l.set j n).map V).toArray:=by
   congr 1
   rw [List.map_set,List.set_eq_take_append_cons_drop]
   simp [hj]
 rw [e] at hst
 have hc:=Du.setRow w r ((l.set j n).map V).toArray
 refine ⟨_,?_,hL.put i (it':=It.rws R (m.set k (l.set j n))) hi ⟨hc.os,hc.tape,hc.output,hc.size,fun b hb hn=>hc.block b hb (by intro e;injection e with e;exact hn (by show b ∈ R;rw [e];exact List.mem_of_getElem? hr))⟩ ⟨h.1.set h.2.1 hr,h.2.1,fun q hq=>?_⟩ (fun b hb=>.inl hb)⟩
 · simp [execOp,hx,Instr.storeAt,Instr.sureAddr,storeVar,sizeOf,typeInfo,hi1,hi3,hst,hy,Value.cells]
 · rcases List.mem_or_eq_of_mem_set hq with hq | rfl
   · exact h.2.2 q hq
   · rw [List.length_set];exact h.2.2 l (List.mem_of_getElem? hk)
theorem Yy {B b c:Nat} {A:Option Addr} {cs:List (List Value)} {R:List Nat} {m:List (List Int)} {f:Int} (h:Bx w0 w Z G (.box b 120 #[V f,V 0,.slice A m.length c] :: .own B A c 22 (Rp.sz TS) cs :: It.rws R m :: L) D) (j:Nat) (hj:D[j]?=some (.els cs (hdl R m))):Bx w0 w Z G (It.act ⟨b,A,c,R⟩ ⟨f,0,m⟩ :: L) D:=by
 have hB:mM w b 120 #[V f,V 0,.slice A m.length c]:=h.bk 0 rfl
 have ho:Go.Fw.Own w B 22 1 A cs.length c cs.flatten:=h.bo 1 rfl
 have hr:(It.rws R m).p w:=h.at 2 rfl
 have hE:=h.de j hj
 have hlen:=hr.1.len
 have h1:=JC hlen hE
 have h2:cs.length=m.length:=by rw [hE.len,Df hlen]
 rw [h1,h2] at ho
 have p1:=List.pairwise_cons.1 h.pw
 have p2:=List.pairwise_cons.1 p1.2
 have p3:=List.pairwise_cons.1 p2.2
 refine h.step (X:=fun _=>False) ((Ext.refl w).Co _) (fun _ hx=>hx.elim) (fun it hi=>?_) (fun it hi k hk hl=>?_) (List.pairwise_cons.2 ⟨fun y hy k hk=>?_,p3.2⟩)
 · rcases List.mem_cons.1 hi with rfl | hi
   · exact ⟨hB,hr.1,Go.Fw.Own.mono ho (Nat.zero_le _),fun hb=>p1.1 _ (List.mem_cons_of_mem _ (List.mem_cons_self ..)) b rfl hb,fun hb=>p1.1 _ (List.mem_cons_self ..) b rfl hb,fun q hq hA=>p2.1 _ (List.mem_cons_self ..) q hA hq,hr.2.1,hr.2.2⟩
   · exact (h.it it (List.mem_cons_of_mem _ (List.mem_cons_of_mem _ (List.mem_cons_of_mem _ hi)))).1
 · rcases List.mem_cons.1 hi with rfl | hi
   · rcases hk with hk | hk | hk
     · exact ⟨_,List.mem_cons_self ..,hk⟩
     · exact ⟨_,List.mem_cons_of_mem _ (List.mem_cons_self ..),hk⟩
     · exact ⟨_,List.mem_cons_of_mem _ (List.mem_cons_of_mem _ (List.mem_cons_self ..)),hk⟩
   · exact ⟨it,List.mem_cons_of_mem _ (List.mem_cons_of_mem _ (List.mem_cons_of_mem _ hi)),hk⟩
 · rcases hk with hk | hk | hk
   · exact p1.1 y (List.mem_cons_of_mem _ (List.mem_cons_of_mem _ hy)) k hk
   · exact p2.1 y (List.mem_cons_of_mem _ hy) k hk
   · exact p3.1 y hy k hk
end
end Go.Proofs.Ytfglbdkfnphjgaa
set_option linter.unusedVariables false
set_option maxRecDepth 4000
set_option maxHeartbeats 12800000
namespace Go.Proofs.Ytfglbdkfnphjgaa
open Go.RowKit Go.Fw
section
variable {ρ:Operand→Value} {w:World} {d:Option Nat} {ty:TypeId} {pos:String} {af:Array Edge} {g:Option (Nat × Bool)} {x y z:Operand} {n m:Int} {A B:Option Addr} {k c k2 c2:Nat}
theorem RA (h:ρ x=Vi n):Yl Try.prog ρ (.build 120 #[(0,x)]) d ty pos af g w (.agg #[Vi n,Vi 0,sn]):=by
 have e:(Instr.build 120 #[(0,Vi n)]).run Try.prog w=.ok (.agg #[Vi n,Vi 0,sn]) w:=by kernel_rfl
 simp [Yl,execOp,h,e]
theorem Ou (h:ρ x=.slice A k c):(execOp ρ ⟨d,.buildSlice 118 1 #[(0,x)],ty,pos,af,g⟩).run Try.prog w=.ok (.value (.slice (some ⟨w.heap.size,0,none⟩) 1 1)) (w.alloc (.cells #[.slice A k c] 22)):=by
 have e:(Instr.buildSlice 118 1 #[(0,.slice A k c)]).run Try.prog w=.ok (.slice (some ⟨w.heap.size,0,none⟩) 1 1) (w.alloc (.cells #[.slice A k c] 22)):=by kernel_rfl
 simp [execOp,h,e]
end
structure PB where
 b:Nat
instance:Rp PB:=⟨1,8,fun _ _ cs p=>cs=[Pt p.b],fun h=>by rw [h];rfl,fun h=>by rw [h];rfl,fun h _=>h⟩
theorem Qn {F:Nat→Prop} {w:World}:∀ l:List Nat,vF F w (l.map fun b=>[Pt b]) (l.map PB.mk)
 | []=>trivial
 | _ :: l=>⟨rfl,Qn l⟩
theorem Fb {F:Nat→Prop} {w:World}:∀ {cs:List (List Value)} {l:List Nat},vF F w cs (l.map PB.mk)→cs=l.map fun b=>[Pt b]
 | [],[],_=>rfl
 | _ :: _,_ :: _,h=>by rw [List.map_cons,← Fb h.2];exact congrArg (· :: _) h.1
 | [],_ :: _,h=>h.elim
 | _ :: _,[],h=>h.elim
theorem Qj {ρ:Operand→Value} {w:World} {d:Option Nat} {ty:TypeId} {pos:String} {af:Array Edge} {g:Option (Nat × Bool)} {x:Operand} {b:Nat} (h:ρ x=Pt b):(execOp ρ ⟨d,.buildSlice 87 1 #[(0,x)],ty,pos,af,g⟩).run Try.prog w=.ok (.value (.slice (some ⟨w.heap.size,0,none⟩) 1 1)) (w.alloc (.cells #[Pt b] 117)):=by
 have e:(Instr.buildSlice 87 1 #[(0,Pt b)]).run Try.prog w=.ok (.slice (some ⟨w.heap.size,0,none⟩) 1 1) (w.alloc (.cells #[Pt b] 117)):=by kernel_rfl
 simp [execOp,h,e]
theorem Po {w0 w:World} {Z G:Nat→Prop} {L:List It} {D:List Da} (h:Bx w0 w Z G L D) (i:Nat) {B c:Nat} {A:Option Addr} {l l2:List Nat} (hi:L[i]?=some (.own B A c 117 1 ((l ++ l2).map fun b=>[Pt b]))):Bx w0 w Z G (L.set i (.own B A c 117 1 (l.map fun b=>[Pt b]))) D:=by
 refine h.put i hi ((Ext.refl w).Co _) ?_ (fun k hk=>.inl hk)
 have ho:=(h.bo i hi).shr l.length (by simp)
 rw [FP,Nat.mul_one,List.map_append,List.take_left' (by simp)] at ho
 show Go.Fw.Own w B 117 1 A (l.map fun b=>[Pt b]).length c (l.map fun b=>[Pt b]).flatten
 rw [List.length_map,FP]
 exact ho
def Zq (R:Rn) (sm:List uE→Sm):Prop:=∀ {w:World} {A:Nat→Prop} {m:Gc} {ptrs:List Nat} {hist h:List kI} {out o:List Int} {xs:List Ao} {gs:List uE} {f:Int} {args:List Int} {a:Option Addr} {c:Nat} {p:Pn Int},
 Pre w A (Mac R m ptrs hist out) (.l a c args :: tN R m hist out)→zM w (lK (Mac R m ptrs hist out)) xs gs→R.B≤w.heap.size→ptrs=(xs.map (·.b)).reverse→ptrs.length≤20→Ef sm R.src gs f args hist out=some (p,h,o)→
 Calls Try.prog 39 #[Pt R.rb,V f,.slice a args.length c] w (RP (fun v w'=>∃ n,p=.ok n∧v=V n∧∃ m',Bx w w' A (lK (Mac R m ptrs hist out)) (Mac R m' ptrs h o) (tN R m' h o))
  (fun ch w'=>Pb p ch∧∃ more m',Bx w w' A (lK (Mac R m ptrs hist out)) (Mac R m' (ptrs ++ more) h o) (tN R m' h o)))
theorem NK {R:Rn} {sm:List uE→Sm} (hS:WV R sm):Zq R sm:=by
 intro w A m ptrs hist ho out o xs gs f args a c p hP hl hB hp hn hm
 have b:=hP.bx
 clear hP
 generalize hG:lK (Mac R m ptrs hist out)=G at b hl ⊢
 refine vU Try.func39 rfl ?_
 refine lJ [(0,Pt R.rb),(1,V f),(2,.slice a args.length c)] ⟨rfl,rfl,rfl,trivial⟩ fun av=>?_
 have hlen:ptrs.length=gs.length:=by rw [hp,List.length_reverse,List.length_map,hl.len]
 unfold Ef at hm
 refine goB b ?_
 refine qm rfl (fun h=>?_) (fun h=>?_)
 · rw [if_pos (by omega)] at hm
   cases hm
   refine go ?_
   refine jR (Iy OY rfl) ?_
   exact zV rfl ⟨xH _,[],m,by rw [List.append_nil];exact b.dp [1,2,3,4,5,6]⟩
 rw [if_neg (by omega)] at hm
 have hlt:ptrs.length+1≤20:=by omega
 refine go ?_
 refine jR (RA rfl) ?_
 refine tF b (xG rfl) fun w1 b7 b=>?_
 refine goB b ?_
 cases hv:ix? R.src.b f with
 | none=>
   rw [hv] at hm
   cases hm
   refine Aj Try.underlying27 rfl rfl (Ai hv) fun u w2 hw=>⟨⟨u,xH _⟩,[],m,?_⟩
   rw [List.append_nil]
   have hb:=(b.arr [1,2,3,4] rfl).dp [1,2,3,4,5,6]
   rcases hw with rfl | rfl
   · exact hb
   · exact hb.drew
 | some vars=>
 rw [hv] at hm
 obtain ⟨q,hq,hm⟩:=bs hm
 obtain ⟨kf,rfl,hvk⟩:=VE hv
 obtain ⟨cs0,hr0,b⟩:=b.nm 5 rfl hvk
 obtain ⟨a3,c3,rfl,hv3⟩:=hr0
 replace b:=b.kr (d:=.l a3 c3 vars) hv3
 refine jR (kV Try.underlying27 Es rfl rfl rfl (b.dl 7 rfl) hvk) (jR (jM Try.underlying60 rfl rfl ((b.dc 1 rfl) 0 _ rfl)) ?_)
 have hbd:=(b.dl 0 rfl).bd
 replace b:=aaq (b.BU TS 22)
 replace b:=(b.arr [2,1,0,3,4,5,6] rfl).dp [0,1,3,4,5,6,7,8,9]
 refine goB b ?_
 refine kK (fun aw f' w'=>∃ (t:Nat) (ws:List (List Int)) (A1:Option Addr) (c1:Nat) (cs:List (List Value)) (Rr:List Nat),aw=vars.length - t∧t≤vars.length∧Rr.length=ws.length∧
     Has f' [(0,Pt R.rb),(1,V (kf:Int)),(2,.slice a args.length c),(7,Pt b7),(31,.slice a3 vars.length c3),(32,V (vars.length:Int)),(33,V (t:Int))]∧
     Bx w w' A G (.box b7 120 #[V (kf:Int),V 0,.slice A1 ws.length c1] :: .own w.heap.size A1 c1 22 (Rp.sz TS) cs :: It.rws Rr ws :: Mac R m ptrs hist out) (.els cs (hdl Rr ws) :: .l a3 c3 vars :: .l a c args :: tN R m hist out)∧FJ (vars.drop t) ws=some q)
   vars.length ⟨0,[],none,0,[],[],rfl,Nat.zero_le _,rfl,⟨rfl,rfl,rfl,rfl,rfl,rfl,rfl,trivial⟩,b,hq⟩ ?_
 clear b hq
 rintro aw f w2 ⟨t,ws,A1,c1,cs,Rr,rfl,ht,hRl,hf,b,hq⟩ J hJ
 obtain ⟨av2,rfl⟩:=gP _ _ hf
 clear hf
 refine goB b ?_
 refine qm rfl (fun h=>?_) (fun h=>?_)
 · obtain ⟨v,hvt⟩:=mF (l:=vars) (k:=t) (by omega)
   rw [mZ hvt,FJ] at hq
   refine goB b ?_
   refine jR (kV Try.underlying60 zY rfl rfl rfl (b.dl 1 rfl) hvt) (jR (nE [T v.b,V v.e,V v.c,V v.a,.bool v.f,V v.d,V v.g] Try.underlying59 rfl zY rfl rfl (uG (b.dl 1 rfl) hvt (fun _ h=>h))) ?_)
   refine tF b (jW zY) fun w3 b9 b=>?_
   refine lq (nR b 0 [T v.b,V v.e,V v.c,V v.a,.bool v.f,V v.d,V v.g] rfl zY rfl rfl) fun w4 b=>?_
   refine goB b ?_
   have herr:v.a < 0 ∨ 8 < v.a→p=.err 4∧ho=hist∧o=out:=fun hc=>by
     rw [if_pos hc] at hq
     cases hq
     cases hm
     exact ⟨rfl,rfl,rfl⟩
   have hb:=(b.arr [4,5,6,7] rfl).dp [3,4,5,6,7,8]
   by_cases h0:v.a < 0
   · rw [decide_eq_true h0]
     refine go ?_
     refine jR (Iy OY rfl) ?_
     obtain ⟨rfl,rfl,rfl⟩:=herr (.inl h0)
     exact zV rfl ⟨xH _,[],m,by rw [List.append_nil];exact hb⟩
   rw [decide_eq_false h0]
   refine goB b ?_
   refine qm rfl (fun h8=>?_) (fun h8=>?_)
   · refine go ?_
     refine jR (Iy OY rfl) ?_
     obtain ⟨rfl,rfl,rfl⟩:=herr (.inr h8)
     exact zV rfl ⟨xH _,[],m,by rw [List.append_nil];exact hb⟩
   clear herr hb
   rw [if_neg (by omega)] at hq
   obtain ⟨ws2,h2,hq⟩:=bs hq
   obtain ⟨n,hn⟩:∃ n:Nat,v.a=(n:Int):=⟨v.a.toNat,by omega⟩
   have hn8:n≤8:=by omega
   rw [hn,Int.toNat_natCast] at h2
   obtain ⟨hcap,rfl⟩:=BJ h2
   have happ:∀ b10:Nat,app (hdl Rr ws) [(⟨some ⟨b10,0,none⟩,n,n⟩:TS)]=some (hdl (Rr ++ [b10]) (ws ++ [List.replicate n 0])):=fun b10=>by
     unfold app
     rw [KV hRl,List.length_replicate,if_pos (by rw [Df hRl];simpa using hcap)]
   refine go ?_
   refine uV (fun u=>mM u b9 59 #[T v.b,V v.e,V v.c,V v.a,.bool v.f,V v.d,V v.g]) (fun u=>mM u b7 120 #[V (kf:Int),V 0,.slice A1 ws.length c1]) [12] (by kernel_rfl) ?_
   replace b:=b.drew
   have m1:mM w4.drew b9 59 #[T v.b,V v.e,V v.c,V v.a,.bool v.f,V v.d,V v.g]:=b.bk 0 rfl
   have m2:mM w4.drew b7 120 #[V (kf:Int),V 0,.slice A1 ws.length c1]:=b.bk 1 rfl
   refine pL 0 r (vO r) m1 m2 (pL 1 r (vO r) m1 m2 (pL 2 r (xn r) m1 m2 (pL 3 r (Dl r) m1 m2 (tS 14 4 r (fun _ h=>Na r h r) (mD m1 m2) (pL 5 r (WS r) m1 m2 (tU 6 r (fun _ h=>JK r h r) (mD m1 m2) ?_))))))
   refine hO 7 (oo r r (aMk (V 0) b n Try.underlying22 mK rfl r r hn (by omega) (by omega)) ?_)
   rintro _ w5 ⟨b10,_,rfl,b⟩
   refine ⟨mD (b.bk 1 rfl) (b.bk 2 rfl),?_⟩
   refine hO 8 (oo r r (jL b [[.slice (some ⟨b10,0,none⟩) n n]] ([⟨some ⟨b10,0,none⟩,n,n⟩]:List TS) (Ou r) r r (by decide) ⟨rfl,trivial⟩) ?_)
   rintro _ w6 ⟨b11,rfl,b⟩
   refine ⟨mD (b.bk 2 rfl) (b.bk 3 rfl),?_⟩
   refine hO 9 (oo r r (kN b 4 1 r r Try.underlying118 Ak r (by decide) (by decide) (Nat.le_refl _) (by show Value.slice A1 ws.length c1=_;rw [Df hRl]) r (b.zQ 0 0 r r) (happ b10)) ?_)
   rintro _ w7 ⟨A2,c2,cs2,rfl,b⟩
   refine ⟨mD (b.bk 2 rfl) (b.bk 3 rfl),pL 10 r (xn r) (b.bk 2 rfl) (b.bk 3 rfl) (pL 11 r (Dl r) (b.bk 2 rfl) (b.bk 3 rfl) ?_)⟩
   refine hO 12 (os r r (t_n b 3 [.slice A2 (hdl (Rr ++ [b10]) (ws ++ [List.replicate n 0])).length c2] r Qi r r) fun w8 b=>⟨sy 12 (b.bk 2 rfl),hD ?_⟩)
   have hRl2:(Rr ++ [b10]).length=(ws ++ [List.replicate n (0:Int)]).length:=by simp [hRl]
   rw [Df hRl2] at b
   replace b:=b.arr [1,5,3,4,6,7,8,9] rfl
   replace b:=RQ b hn8
   replace b:=(b.arr [1,2,0,3,4,5,6] rfl).dp [1,2,3,4,5,6,7,8,9]
   refine go ?_
   refine hJ (vars.length - (t+1)) _ _ (by omega) ⟨t+1,_,A2,c2,cs2,_,rfl,by omega,hRl2,⟨rfl,rfl,rfl,rfl,rfl,rfl,congrArg V (Uu (t:=t) (by omega)),trivial⟩,b,hq⟩
 · obtain rfl:t=vars.length:=by omega
   rw [lZ,FJ] at hq
   cases hq
   refine goB b ?_
   refine uJ ?_
   refine goB b ?_
   have hbd2:=(b.dl 2 rfl).bd
   dsimp only at hm
   generalize hq:IY args 0 ws=q2 at hm
   refine kK (fun aw f' w'=>∃ (t:Nat) (ws1:List (List Int)),aw=args.length - t∧t≤args.length∧Rr.length=ws1.length∧
       Has f' [(0,Pt R.rb),(1,V (kf:Int)),(7,Pt b7),(59,.slice a args.length c),(60,V (args.length:Int)),(61,V (t:Int))]∧
       Bx w w' A G (.box b7 120 #[V (kf:Int),V 0,.slice A1 ws1.length c1] :: .own w.heap.size A1 c1 22 (Rp.sz TS) cs :: It.rws Rr ws1 :: Mac R m ptrs hist out) (.els cs (hdl Rr ws1) :: .l a c args :: tN R m hist out)∧IY (args.drop t) t ws1=q2)
     args.length ⟨0,ws,rfl,Nat.zero_le _,hRl,⟨rfl,rfl,rfl,rfl,rfl,rfl,trivial⟩,b.dp [0,2,3,4,5,6,7,8],hq⟩ ?_
   clear b hq hRl
   rintro aw f w3 ⟨t,ws1,rfl,ht,hRl,hf,b,hq⟩ J2 hJ2
   obtain ⟨av3,rfl⟩:=gP _ _ hf
   clear hf
   have hb:=(b.arr [3,4,5,6] rfl).dp [2,3,4,5,6,7]
   have hrt:q2=.rt→p=.rt∧ho=hist∧o=out:=fun e=>by
     rw [e] at hm
     cases hm
     exact ⟨rfl,rfl,rfl⟩
   refine goB b ?_
   refine qm rfl (fun h=>?_) (fun h=>?_)
   · obtain ⟨v,hvt⟩:=mF (l:=args) (k:=t) (by omega)
     rw [mZ hvt,IY] at hq
     refine goB b ?_
     refine jR (kV Try.underlying22 mK rfl rfl rfl (b.dl 1 rfl) hvt) (jR (jM Try.underlying3 rfl rfl ((uG (ds:=[V v]) (b.dl 1 rfl) hvt (fun _ h=>h)) 0 _ rfl)) ?_)
     refine goB b ?_
     cases hwt:ws1[t]? with
     | none=>
       rw [hwt] at hq
       obtain ⟨rfl,rfl,rfl⟩:=hrt hq.symm
       refine Aj Try.underlying118 rfl rfl (by have:=List.getElem?_eq_none_iff.1 hwt;omega) fun u w4 hw=>⟨⟨u,xH _⟩,[],m,?_⟩
       rw [List.append_nil]
       rcases hw with rfl | rfl
       · exact hb
       · exact hb.drew
     | some row=>
     rw [hwt] at hq
     have hrw:=b.at 2 rfl
     obtain ⟨r0,hr0,hB0⟩:=hrw.1.get hwt
     have how:Go.Fw.Own w3 w.heap.size 22 1 A1 cs.length c1 cs.flatten:=b.bo 1 rfl
     rw [JC hRl (b.de 0 rfl)] at how
     have hcell:=Fe how (Gf hr0 hwt)
     refine jR (Kj t hcell.1 Try.underlying118 Ak rfl rfl rfl (kU hwt)) ?_
     refine jR (jM (a:=⟨nM A1,oU A1+t * 1,none⟩) Try.underlying22 rfl rfl (by rw [Nat.mul_one];exact hcell.2.1)) ?_
     refine goB b ?_
     cases row with
     | nil=>
       obtain ⟨rfl,rfl,rfl⟩:=hrt hq.symm
       refine Aj Try.underlying22 rfl rfl (by simp) fun u w4 hw=>⟨⟨u,xH _⟩,[],m,?_⟩
       rw [List.append_nil]
       rcases hw with rfl | rfl
       · exact hb
       · exact hb.drew
     | cons z row=>
       refine jR (xIdx 0 Try.underlying22 mK rfl rfl rfl (by simp)) ?_
       refine lq (R4 b 2 (j:=0) rfl hr0 hwt (by simp) rfl rfl) fun w4 b=>?_
       rw [← Ns (R:=Rr) (l':=v :: row) hwt (by simp)] at b
       have e2:ws1.length=(ws1.set t (v :: row)).length:=by simp
       rw [e2] at b
       refine go ?_
       exact hJ2 (args.length - (t+1)) _ _ (by omega) ⟨t+1,ws1.set t (v :: row),rfl,by omega,by rw [← e2];exact hRl,⟨rfl,rfl,rfl,rfl,rfl,congrArg V (Uu (t:=t) (by omega)),trivial⟩,b,hq⟩
   · obtain rfl:t=args.length:=by omega
     rw [lZ,IY] at hq
     subst hq
     clear hrt hb
     dsimp only at hm
     refine goB b ?_
     refine uJ ?_
     refine goB b ?_
     replace b:=Yy b 0 rfl
     replace b:=b.dp [2,3,4,5,6,7]
     have happ:app (ptrs.map PB.mk) [PB.mk b7]=some ((ptrs ++ [b7]).map PB.mk):=by
       unfold app
       rw [if_pos (by simp;omega),List.map_append]
       rfl
     refine nO (jL b [[Pt b7]] ([PB.mk b7]:List PB) (Qj rfl) rfl rfl (by decide) ⟨rfl,trivial⟩) ?_
     rintro _ w5 ⟨b10,rfl,b⟩
     replace b:=b.kr (d:=.els (ptrs.map fun b=>[Pt b]) (ptrs.map PB.mk)) (Qn ptrs)
     refine nO (kN (α:=PB) b 3 0 rfl rfl Try.underlying87 ND rfl (by decide) (by decide) hB (by show Value.slice m.lA ptrs.length m.lC=_;rw [List.length_map]) rfl (b.zQ 0 1 rfl rfl) happ) ?_
     rintro _ w6 ⟨A2,c2,cs2,rfl,b⟩
     have hcs:=Fb (b.de 0 rfl)
     subst hcs
     refine goB b ?_
     refine lq (t_n b 2 [.slice A2 ((ptrs ++ [b7]).map PB.mk).length c2] rfl O9 rfl rfl) fun w7 b=>?_
     rw [List.length_map] at b
     replace b:=(b.arr [2,3,4,5,1] rfl).dp [2,3,4,5,6,7]
     refine goB b ?_
     cases hfn:ix? R.src.a.b (kf:Int) with
     | none=>
       rw [hfn] at hm
       cases hm
       refine Aj Try.underlying24 rfl rfl (Ai hfn) fun u w8 hw=>⟨⟨u,xH _⟩,[b7],{ m with lA:=A2,lC:=c2 },?_⟩
       have hb:=b.arr [0,1,2,3] rfl
       rcases hw with rfl | rfl
       · exact hb
       · exact hb.drew
     | some fn=>
     rw [hfn] at hm
     dsimp only at hm
     obtain ⟨⟨q,s2⟩,h1,hm⟩:=bs hm
     obtain ⟨kf2,hk2,hfk⟩:=VE hfn
     obtain ⟨cs0,hr0,b⟩:=b.nm 3 rfl hfk
     obtain ⟨a5,c5,a6,c6,rfl,h5,h6⟩:=nH.out hr0
     replace b:=b.kr (d:=.l a6 c6 fn.d) h6
     refine jR (kV Try.underlying24 nT rfl rfl hk2 (b.dl 5 rfl) hfk) ?_
     refine goB b ?_
     refine jR (jM Try.underlying80 rfl rfl ((b.dc 1 rfl) 3 _ rfl)) ?_
     have hr:Qs w7 (Cy w A (pick _ [0,1,2,3,4] ++ pick _ [])) R { m with lA:=A2,lC:=c2 } (ptrs ++ [b7]) ⟨b7,A1,c1,Rr⟩ ⟨⟨(kf:Int),0,ws1⟩,hist,out⟩ xs gs [.l a6 c6 fn.d]:=
       ⟨b.pr [0,1,2,3,4] [] [0,2,3,4,5,6,7] rfl,Az b hl (fun it hi=>hi),Nat.le_trans hB b.q9.size,by rw [hp],by rw [List.length_append,List.length_singleton];exact hlt⟩
     have hc:=hS hr h1
     clear hr
     refine IZ (pY MZ rfl) hc (fun ch w8 hq=>?_) ?_
     · obtain ⟨hq,more,m4,hK⟩:=hq
       have hb:=b.cn [0,1,2,3,4] [] hK
       have hb:=(hb.arr [0,1,2,3] rfl).dp [0,1,2,3,4,5]
       rw [List.append_assoc] at hb
       cases q with
       | ok o=>exact hq.elim
       | _=>cases hm;exact ⟨hq,[b7] ++ more,m4,hb⟩
     rintro _ w8 ⟨v,rfl,rfl,m4,hK⟩
     replace b:=b.cn [0,1,2,3,4] [] hK
     replace b:=(b.arr [0,1,2,3] rfl).dp [0,1,2,3,4,5]
     cases hm
     refine jR (Gq (.tuple #[V (v.getD 0),.bool v.isSome]) rfl) ?_
     refine go ?_
     have hcap:=(b.bo 1 rfl).cap
     rw [List.length_map,List.length_append,List.length_singleton] at hcap
     refine uV (fun _=>True) (fun u=>mM u R.rb 89 (oJ R m4 (ptrs ++ [b7]).length (window s2.hist R.fr R.mo).length s2.hist.length s2.out.length).toArray) [14] (by kernel_rfl) ?_
     replace b:=b.drew
     have m2:mM w8.drew R.rb 89 (oJ R m4 (ptrs ++ [b7]).length (window s2.hist R.fr R.mo).length s2.hist.length s2.out.length).toArray:=b.bk 0 rfl
     refine pL 0 r (vO r) trivial m2 (pL 1 r (vO r) trivial m2 (pL 2 r (xn r) trivial m2 (pL 3 r (FL r) trivial m2 (tS 16 4 r (fun _ h=>Sn r h r) (mD trivial m2) (pL 5 r (vO r) trivial m2 (pL 6 r (xn r) trivial m2 (pL 7 r (FL r) trivial m2 (tS 16 8 r (fun _ h=>Sn r h r) (mD trivial m2) (pL 9 r (lu Try.underlying87 r) trivial m2 (pL 10 r (xJ r r) trivial m2 ?_))))))))))
     refine pL 11 r (yR ptrs.length Try.underlying87 ND r r (by rw [List.length_append,List.length_singleton];unfold wr;rw [Q5 (by omega) (by omega)];omega) (by omega)) trivial m2 (pL 12 r (xn r) trivial m2 (pL 13 r (FL r) trivial m2 ?_))
     refine hO 14 (os r r (t_n b 0 [.slice m4.lA ptrs.length m4.lC] r O9 r r) fun w9 b=>⟨sy 14 trivial,hD ?_⟩)
     replace b:=Po b 1 rfl
     refine go ?_
     refine kS ?_
     refine jB (fn:=Try.f39) rfl (kW rfl) ?_
     exact ⟨v.getD 0,rfl,rfl,m4,b⟩
end Go.Proofs.Ytfglbdkfnphjgaa
set_option linter.unusedVariables false
set_option maxRecDepth 4000
set_option maxHeartbeats 12800000
namespace Go.Proofs.Ytfglbdkfnphjgaa
open Go.RowKit Go.Fw
theorem KA {P:Program} {w:World} {t:TypeId} {ms:Array (String × TypeId)} (n:Nat) (ht:P.underlying t=some (.interface ms)) {v:Value} {b:Bool} (hv:(v=.nilIface∧b=true) ∨ (∃ t' u,v=.iface t' u∧b=false)):(Op.equalIn (n+1) t v .nilIface).run P w=.ok b w:=by
 rcases hv with ⟨rfl,rfl⟩|⟨t',u,rfl,rfl⟩
 · simp only [Op.equalIn,Sem.run_bind,run_underlying ht,Result.andThen_ok]
   rfl
 · simp only [Op.equalIn,Sem.run_bind,run_underlying ht,Result.andThen_ok]
   rfl
theorem Ol {P:Program} {w:World} {t:TypeId} {ms:Array (String × TypeId)} (ht:P.underlying t=some (.interface ms)) {v:Value} {b:Bool} (hv:(v=.nilIface∧b=true) ∨ (∃ t' u,v=.iface t' u∧b=false)):(Op.equal t v .nilIface).run P w=.ok b w:=
 KA 9999 ht hv
section
variable {P:Program} {w:World} {ρ:Operand→Value} {d:Option Nat} {ty:TypeId} {pos:String} {af:Array Edge} {g:Option (Nat × Bool)} {t t':TypeId} {x:Operand}
theorem Fx {ms:Array (String × TypeId)} {v:Value} {b:Bool} (ht:P.underlying t=some (.interface ms)) (hx:ρ x=v) (hc:ρ (.const .nilIface)=.nilIface) (hv:(v=.nilIface∧b=true) ∨ (∃ t' u,v=.iface t' u∧b=false)) :
  Yl P ρ (.binOp .eql t x (.const .nilIface) t') d ty pos af g w (.bool b):=by
 have heq:=Ol (w:=w) ht hv
 have hg:(eqGuard .eql t x (.const .nilIface) v .nilIface).run P w=.ok () w:=by
  rcases hv with ⟨rfl,_⟩|⟨t',u,rfl,_⟩ <;> simp [eqGuard]
 have hbin:(binOp .eql t v .nilIface).run P w=.ok (.bool b) w:=by
  have:binOp .eql t v .nilIface=(do pure (.bool (← Op.equal t v .nilIface)):Sem Value):=by
   rcases hv with ⟨rfl,_⟩|⟨t',u,rfl,_⟩ <;> rfl
  rw [this]
  simp only [Sem.run_bind,heq,Result.andThen_ok,Sem.run_pure]
 unfold Yl execOp
 simp only [hx,hc,Sem.run_bind,hg,hbin,Result.andThen_ok,Sem.run_pure]
theorem U5 {xt:TypeId} {k:IntKind} {v:Value} (hu:P.underlying t=some (.int k)) (hx:ρ x=.iface t v):Yl P ρ (.typeAssert x xt t true) d ty pos af g w (.tuple #[v,.bool true]):=by
 simp [Yl,execOp,hx,Instr.typeAssert,run_underlying hu]
theorem Xe {xt t2:TypeId} {k:IntKind} {v:Value} {z:Value} {s by_:Nat} (hu:P.underlying t=some (.int k)) (hz:TI P t z s by_) (hx:ρ x=.iface t2 v) (hne:t2≠t):∃ z',Yl P ρ (.typeAssert x xt t true) d ty pos af g w (.tuple #[z',.bool false]):=by
 obtain ⟨i,hi1,hi2,hi3,hi4⟩:=hz
 refine ⟨z,?_⟩
 simp [Yl,execOp,hx,Instr.typeAssert,run_underlying hu,zeroValue,typeInfo,hi1,hi2,hne]
end
end Go.Proofs.Ytfglbdkfnphjgaa
set_option linter.unusedVariables false
set_option maxRecDepth 4000
set_option maxHeartbeats 12800000
namespace Go.Proofs.Ytfglbdkfnphjgaa
open Go.RowKit Go.Fw
abbrev Zp (R:Rn) (b3 b9 b6 b7 b8:Nat) (k:Nat) (v6:Value) (v7 v8:Bool):List It:=[.box b3 86 #[Pt R.rb],.box b9 3 #[V (k:Int)],.box b6 3 #[v6],.box b7 4 #[.bool v7],.box b8 4 #[.bool v8]]
abbrev aA (b3 b9 b6 b7 b8:Nat):Array Value:=#[Pt b3,Pt b9,Pt b6,Pt b7,Pt b8]
theorem R5 {b3 b9 b6 b7 b8:Nat} {u:FrameMode} {w:World} (hu:(Ay u).1=.nilIface):CallsD Try.prog 135 (aA b3 b9 b6 b7 b8) u w (RD (Ay u).2 (fun w'=>w'=w) (fun _ _=>False)):=by
 refine DV Try.func135 rfl rfl rfl ?_
 rw [hu]
 refine lJ [(8,.nilIface)] ⟨rfl,trivial⟩ fun av=>?_
 refine oD ?_
 refine Iz (zZ ?_)
 refine jR (Fx Try.underlying20 rfl rfl (.inl ⟨rfl,rfl⟩)) ?_
 refine go ?_
 refine jR (OC .nilIface rfl) ?_
 refine go ?_
 rfl
theorem RG {b3 b9 b6 b7 b8:Nat} {u:FrameMode} {w:World} {t:TypeId} {v:Value} (hu:(Ay u).1=.iface t v) (ht:t≠90):CallsD Try.prog 135 (aA b3 b9 b6 b7 b8) u w (RD (Ay u).2 (fun _=>False) (fun c w'=>c=[⟨.iface t v,false,false⟩]∧w'=w)):=by
 refine DV Try.func135 rfl rfl rfl ?_
 rw [hu]
 refine lJ [(8,.iface t v)] ⟨rfl,trivial⟩ fun av=>?_
 refine oD ?_
 refine Iz (zZ ?_)
 refine jR (Fx Try.underlying20 rfl rfl (.inr ⟨t,v,rfl,rfl⟩)) ?_
 refine go ?_
 obtain ⟨z', hz⟩ := Xe (P := Try.prog) (w := w) (ρ := ev (kG (Io av [(8, .iface t v)]) (some 10) (.bool false))) (d := some 11) (ty := 0) (pos := "statement.go:62") (af := #[]) (g := none) (x := .tmp 8) (xt := 20) Try.underlying90 WT rfl ht
 refine jR hz ?_
 refine go ?_
 refine jR (OC (.iface t v) rfl) ?_
 refine go ?_
 refine jR (Gq (.iface t v) rfl) ?_
 exact zV rfl ⟨rfl,rfl⟩
theorem Ui {A G:Nat→Prop} {R:Rn} {m:Gc} {ps more:List Nat} {hist:List kI} {out:List Int} {X:List It} {D:List Da} {w0 w:World} {b3 b9 b6 b7 b8:Nat} {v6:Value} {v7 v8:Bool} {u:FrameMode} {n:Int}
  (b:Bx w0 w A G (Zp R b3 b9 b6 b7 b8 ps.length v6 v7 v8 ++ (Mac R m (ps ++ more) hist out ++ X)) D) (hu:(Ay u).1=.iface 90 (V n)) (hl:ps.length < 1000) :
  CallsD Try.prog 135 (aA b3 b9 b6 b7 b8) u w (RD (Ay u).2 (fun w'=>Bx w0 w' A G (Zp R b3 b9 b6 b7 b8 ps.length (V n) false true ++ (Mac R m ps hist out ++ X)) D) (fun _ _=>False)):=by
 refine DV Try.func135 rfl rfl rfl ?_
 rw [hu]
 refine lJ [(0,Pt b3),(1,Pt b9),(2,Pt b6),(3,Pt b7),(4,Pt b8),(8,.iface 90 (V n))] ⟨rfl,rfl,rfl,rfl,rfl,rfl,trivial⟩ fun av=>?_
 refine oD ?_
 refine Iz (zZ ?_)
 refine jR (Fx Try.underlying20 rfl rfl (.inr ⟨90,V n,rfl,rfl⟩)) ?_
 refine go ?_
 refine jR (U5 Try.underlying90 rfl) ?_
 refine go ?_
 have hcap:=(b.bo 6 rfl).cap
 rw [List.length_map,List.length_append] at hcap
 refine uV (fun _=>True) (fun u=>mM u b3 86 #[Pt R.rb]∧mM u b9 3 #[V (ps.length:Int)]∧mM u R.rb 89 (oJ R m (ps ++ more).length (window hist R.fr R.mo).length hist.length out.length).toArray) [9] (by kernel_rfl) ?_
 replace b:=b.drew
 have m2:mM w.drew b3 86 #[Pt R.rb]∧mM w.drew b9 3 #[V (ps.length:Int)]∧mM w.drew R.rb 89 (oJ R m (ps ++ more).length (window hist R.fr R.mo).length hist.length out.length).toArray:=⟨b.bk 0 rfl,b.bk 1 rfl,b.bk 5 rfl⟩
 refine tS 10 0 r (fun _ h=>DF r h.1 r) (mD trivial m2) (tS 10 1 r (fun _ h=>DF r h.1 r) (mD trivial m2) (pL 2 r (xn r) trivial m2 (pL 3 r (FL r) trivial m2 (tS 10 4 r (fun _ h=>Sn r h.2.2 r) (mD trivial m2) (tS 10 5 r (fun _ h=>JK r h.2.1 r) (mD trivial m2) ?_)))))
 refine pL 6 r (yR ps.length Try.underlying87 ND r r rfl (by omega)) trivial m2 (pL 7 r (xn r) trivial m2 (pL 8 r (FL r) trivial m2 ?_))
 refine hO 9 (os r r (t_n b 5 [.slice m.lA ps.length m.lC] r O9 r r) fun w2 b=>⟨sy 9 trivial,hD ?_⟩)
 replace b:=Po b 6 rfl
 refine go ?_
 refine lq (t_n b 2 [V n] rfl mK rfl rfl) fun w3 b=>?_
 refine lq (t_n b 3 [.bool false] rfl LD rfl rfl) fun w4 b=>?_
 refine lq (t_n b 4 [.bool true] rfl LD rfl rfl) fun w5 b=>?_
 refine go ?_
 exact b
end Go.Proofs.Ytfglbdkfnphjgaa
