/- Contracts, printed by gen4.py. -/
import Derived.Test.YtbpccmnalhdpmaaFc
set_option linter.unusedVariables false
set_option linter.unusedSimpArgs false
set_option maxRecDepth 4000
namespace Go.Proofs.Ytbpccmnalhdpmaa
open Go.RowKit Go.Fw
set_option maxHeartbeats 12800000 in
theorem sp_copied (w0 w : World) (L0 : List It) (t : GTerm Lst) (ht : Dat.ok (fun _ => True) w0 t) (hL : Bx w0 w L0) : Calls Try.prog 77 #[.agg (GTerm.cells t).toArray] w (Ret fun v w => ∃ A0 c0 A1 c1 A2 c2, v = .agg #[.int .i64 t.Kind, .int .i64 t.A, .int .i64 t.N, .slice A0 t.Args.l.length c0, .int .i64 t.To.e0.Block, .slice A1 t.To.e0.Args.l.length c1, .int .i64 t.To.e1.Block, .slice A2 t.To.e1.Args.l.length c2] ∧ Bx w0 w (.ownl A0 c0 3 t.Args.l :: .ownl A1 c1 3 t.To.e0.Args.l :: .ownl A2 c2 3 t.To.e1.Args.l :: L0)) := by
  refine calls_of Try.func77 rfl (Nat.le_of_ble_eq_true rfl) (by kernel_rfl) ?_
  refine wCut [(0, .agg (GTerm.cells t).toArray)] ⟨rfl, trivial⟩ fun g => ?_
  refine wSeq (wReg (sTo (aNew (mBox rfl)) ?_))
  rintro _ w1 ⟨b1, rfl, hge1, hB1, he1⟩
  replace hL := hL.new hge1 hB1 he1
  refine sTo (aNew (mAlloc ti58)) ?_
  rintro _ w2 ⟨b2, rfl, hge2, hB2, he2⟩
  replace hL := hL.new hge2 hB2 he2
  refine sNil (wSeq (wReg (sRun (xFld (k := 3) Try.underlying58 rfl rfl ti37 (by decide) rfl) (sRun (xLoad Try.underlying37 rfl rfl ((hL.bk 1 rfl).cell (i := 3) rfl)) (sCall (eCall cal129 rfl) (sp_clone129 w0 _ (.box b2 58 #[.int .i64 (0 : Int), .int .i64 (0 : Int), .int .i64 (0 : Int), .slice none 0 0, .int .i64 (0 : Int), .slice none 0 0, .int .i64 (0 : Int), .slice none 0 0] :: .box b1 58 (GTerm.cells t).toArray :: L0) t.Args ht.1 hL) ?_)))))
  rintro _ w3 ⟨A3, c3, rfl, hL3⟩
  replace hL : Bx w0 w3 (.ownl A3 c3 3 t.Args.l :: .box b2 58 #[.int .i64 (0 : Int), .int .i64 (0 : Int), .int .i64 (0 : Int), .slice none 0 0, .int .i64 (0 : Int), .slice none 0 0, .int .i64 (0 : Int), .slice none 0 0] :: .box b1 58 (GTerm.cells t).toArray :: L0) := hL3
  refine sRun (xFld (k := 3) Try.underlying58 rfl rfl ti37 (by decide) rfl) (sSt1 ti37 rfl rfl rfl (hL.bk 2 rfl) (Nat.le_of_ble_eq_true rfl) ?_)
  intro w4 hB4 hC4
  replace hL : Bx w0 w4 (.ownl A3 c3 3 t.Args.l :: .box b2 58 #[.int .i64 (0 : Int), .int .i64 (0 : Int), .int .i64 (0 : Int), .slice none 0 0, .int .i64 (0 : Int), .slice none 0 0, .int .i64 (0 : Int), .slice none 0 0] :: .box b1 58 #[.int .i64 t.Kind, .int .i64 t.A, .int .i64 t.N, .slice A3 t.Args.l.length c3, .int .i64 t.To.e0.Block, .slice t.To.e0.Args.a t.To.e0.Args.l.length t.To.e0.Args.c, .int .i64 t.To.e1.Block, .slice t.To.e1.Args.a t.To.e1.Args.l.length t.To.e1.Args.c] :: L0) := hL.wr 2 rfl hC4 hB4
  refine sNil (wSeq (wSeq (wReg (sRun (xMvI rfl) (sNil (wBlock (wLoopN 3 (wRnd (wSeq (wReg (sRun (xLssT rfl rfl (by omega)) (sNil (wSeq ?_)))))))))))))
  refine wIfT rfl (wSkip (wSeq (wBlock (wSeq (wReg (sRun (xMvI rfl) (sRun (xAsI rfl) (sNil (wReg (sRun (xMvI rfl) (sRun (xMvI rfl) (sRun (xFld (k := 4) Try.underlying58 rfl rfl ti56 (by decide) rfl) (sRun (xIdxA 0 Try.underlying56 ti55 rfl rfl (by omega) (by omega)) ?_)))))))))))))
  refine sRun (xFld (k := 1) Try.underlying55 rfl rfl ti37 (by decide) rfl) (sRun (xLoad Try.underlying37 rfl rfl ((hL.bk 2 rfl).cell (i := 5) rfl)) (sCall (eCall cal129 rfl) (sp_clone129 w0 _ (.ownl A3 c3 3 t.Args.l :: .box b2 58 #[.int .i64 (0 : Int), .int .i64 (0 : Int), .int .i64 (0 : Int), .slice none 0 0, .int .i64 (0 : Int), .slice none 0 0, .int .i64 (0 : Int), .slice none 0 0] :: .box b1 58 #[.int .i64 t.Kind, .int .i64 t.A, .int .i64 t.N, .slice A3 t.Args.l.length c3, .int .i64 t.To.e0.Block, .slice t.To.e0.Args.a t.To.e0.Args.l.length t.To.e0.Args.c, .int .i64 t.To.e1.Block, .slice t.To.e1.Args.a t.To.e1.Args.l.length t.To.e1.Args.c] :: L0) t.To.e0.Args ht.2.1 hL) ?_))
  rintro _ w5 ⟨A5, c5, rfl, hL5⟩
  replace hL : Bx w0 w5 (.ownl A5 c5 3 t.To.e0.Args.l :: .ownl A3 c3 3 t.Args.l :: .box b2 58 #[.int .i64 (0 : Int), .int .i64 (0 : Int), .int .i64 (0 : Int), .slice none 0 0, .int .i64 (0 : Int), .slice none 0 0, .int .i64 (0 : Int), .slice none 0 0] :: .box b1 58 #[.int .i64 t.Kind, .int .i64 t.A, .int .i64 t.N, .slice A3 t.Args.l.length c3, .int .i64 t.To.e0.Block, .slice t.To.e0.Args.a t.To.e0.Args.l.length t.To.e0.Args.c, .int .i64 t.To.e1.Block, .slice t.To.e1.Args.a t.To.e1.Args.l.length t.To.e1.Args.c] :: L0) := hL5
  refine sRun (xFld (k := 4) Try.underlying58 rfl rfl ti56 (by decide) rfl) (sRun (xIdxA 0 Try.underlying56 ti55 rfl rfl (by omega) (by omega)) (sRun (xFld (k := 1) Try.underlying55 rfl rfl ti37 (by decide) rfl) (sSt1 ti37 rfl rfl rfl (hL.bk 3 rfl) (Nat.le_of_ble_eq_true rfl) ?_)))
  intro w6 hB6 hC6
  replace hL : Bx w0 w6 (.ownl A5 c5 3 t.To.e0.Args.l :: .ownl A3 c3 3 t.Args.l :: .box b2 58 #[.int .i64 (0 : Int), .int .i64 (0 : Int), .int .i64 (0 : Int), .slice none 0 0, .int .i64 (0 : Int), .slice none 0 0, .int .i64 (0 : Int), .slice none 0 0] :: .box b1 58 #[.int .i64 t.Kind, .int .i64 t.A, .int .i64 t.N, .slice A3 t.Args.l.length c3, .int .i64 t.To.e0.Block, .slice A5 t.To.e0.Args.l.length c5, .int .i64 t.To.e1.Block, .slice t.To.e1.Args.a t.To.e1.Args.l.length t.To.e1.Args.c] :: L0) := hL.wr 3 rfl hC6 hB6
  refine sNil (wReg (sRun (xAddK (c := (1 : Int)) rfl rfl (by decide) (by decide) (by decide)) (sRun (xMvI rfl) (sNil (wRnd (wSeq (wReg (sRun (xLssT rfl rfl (by omega)) (sNil (wSeq (wIfT rfl (wSkip (wSeq ?_)))))))))))))
  refine wBlock (wSeq (wReg (sRun (xMvI rfl) (sRun (xAsI rfl) (sNil (wReg (sRun (xMvI rfl) (sRun (xMvI rfl) (sRun (xFld (k := 4) Try.underlying58 rfl rfl ti56 (by decide) rfl) (sRun (xIdxA 1 Try.underlying56 ti55 rfl rfl (by omega) (by omega)) (sRun (xFld (k := 1) Try.underlying55 rfl rfl ti37 (by decide) rfl) (sRun (xLoad Try.underlying37 rfl rfl ((hL.bk 3 rfl).cell (i := 7) rfl)) (sCall (eCall cal129 rfl) (sp_clone129 w0 _ (.ownl A5 c5 3 t.To.e0.Args.l :: .ownl A3 c3 3 t.Args.l :: .box b2 58 #[.int .i64 (0 : Int), .int .i64 (0 : Int), .int .i64 (0 : Int), .slice none 0 0, .int .i64 (0 : Int), .slice none 0 0, .int .i64 (0 : Int), .slice none 0 0] :: .box b1 58 #[.int .i64 t.Kind, .int .i64 t.A, .int .i64 t.N, .slice A3 t.Args.l.length c3, .int .i64 t.To.e0.Block, .slice A5 t.To.e0.Args.l.length c5, .int .i64 t.To.e1.Block, .slice t.To.e1.Args.a t.To.e1.Args.l.length t.To.e1.Args.c] :: L0) t.To.e1.Args ht.2.2 hL) ?_)))))))))))))
  rintro _ w7 ⟨A7, c7, rfl, hL7⟩
  replace hL : Bx w0 w7 (.ownl A7 c7 3 t.To.e1.Args.l :: .ownl A5 c5 3 t.To.e0.Args.l :: .ownl A3 c3 3 t.Args.l :: .box b2 58 #[.int .i64 (0 : Int), .int .i64 (0 : Int), .int .i64 (0 : Int), .slice none 0 0, .int .i64 (0 : Int), .slice none 0 0, .int .i64 (0 : Int), .slice none 0 0] :: .box b1 58 #[.int .i64 t.Kind, .int .i64 t.A, .int .i64 t.N, .slice A3 t.Args.l.length c3, .int .i64 t.To.e0.Block, .slice A5 t.To.e0.Args.l.length c5, .int .i64 t.To.e1.Block, .slice t.To.e1.Args.a t.To.e1.Args.l.length t.To.e1.Args.c] :: L0) := hL7
  refine sRun (xFld (k := 4) Try.underlying58 rfl rfl ti56 (by decide) rfl) (sRun (xIdxA 1 Try.underlying56 ti55 rfl rfl (by omega) (by omega)) (sRun (xFld (k := 1) Try.underlying55 rfl rfl ti37 (by decide) rfl) (sSt1 ti37 rfl rfl rfl (hL.bk 4 rfl) (Nat.le_of_ble_eq_true rfl) ?_)))
  intro w8 hB8 hC8
  replace hL : Bx w0 w8 (.ownl A7 c7 3 t.To.e1.Args.l :: .ownl A5 c5 3 t.To.e0.Args.l :: .ownl A3 c3 3 t.Args.l :: .box b2 58 #[.int .i64 (0 : Int), .int .i64 (0 : Int), .int .i64 (0 : Int), .slice none 0 0, .int .i64 (0 : Int), .slice none 0 0, .int .i64 (0 : Int), .slice none 0 0] :: .box b1 58 #[.int .i64 t.Kind, .int .i64 t.A, .int .i64 t.N, .slice A3 t.Args.l.length c3, .int .i64 t.To.e0.Block, .slice A5 t.To.e0.Args.l.length c5, .int .i64 t.To.e1.Block, .slice A7 t.To.e1.Args.l.length c7] :: L0) := hL.wr 4 rfl hC8 hB8
  refine sNil (wReg (sRun (xAddK (c := (2 : Int)) rfl rfl (by decide) (by decide) (by decide)) (sRun (xMvI rfl) (sNil (wRnd (wSeq (wReg (sRun (xLssF rfl rfl (by omega)) (sNil (wSeq (wIfF rfl (wExit (wSeq ?_)))))))))))))
  refine wReg (sRun (xLoadS [.int .i64 t.Kind, .int .i64 t.A, .int .i64 t.N, .slice A3 t.Args.l.length c3, .int .i64 t.To.e0.Block, .slice A5 t.To.e0.Args.l.length c5, .int .i64 t.To.e1.Block, .slice A7 t.To.e1.Args.l.length c7] Try.underlying58 rfl ti58 rfl rfl ((hL.bk 4 rfl).part rfl)) (sStS ti58 rfl rfl rfl (by simp [Value.oneCell', Dat.cells, GTerm.cells]) (hL.bk 3 rfl) rfl ?_))
  intro w9 hB9 hC9
  replace hL : Bx w0 w9 (.ownl A7 c7 3 t.To.e1.Args.l :: .ownl A5 c5 3 t.To.e0.Args.l :: .ownl A3 c3 3 t.Args.l :: .box b2 58 #[.int .i64 t.Kind, .int .i64 t.A, .int .i64 t.N, .slice A3 t.Args.l.length c3, .int .i64 t.To.e0.Block, .slice A5 t.To.e0.Args.l.length c5, .int .i64 t.To.e1.Block, .slice A7 t.To.e1.Args.l.length c7] :: .box b1 58 #[.int .i64 t.Kind, .int .i64 t.A, .int .i64 t.N, .slice A3 t.Args.l.length c3, .int .i64 t.To.e0.Block, .slice A5 t.To.e0.Args.l.length c5, .int .i64 t.To.e1.Block, .slice A7 t.To.e1.Args.l.length c7] :: L0) := hL.wr 3 rfl hC9 hB9
  refine sNil (wRet (resC (P := Try.prog) (fn := Try.f77) rfl Try.underlying58 rfl ti58 rfl rfl (hL.bk 3 rfl) ?_))
  exact ⟨A3, c3, A5, c5, A7, c7, rfl, (((((hL.front 0 rfl).front 1 rfl).front 2 rfl).front 4 rfl).front 4 rfl).tl.tl⟩

end Go.Proofs.Ytbpccmnalhdpmaa
