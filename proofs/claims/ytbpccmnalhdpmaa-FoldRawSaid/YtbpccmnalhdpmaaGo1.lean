/- An argument opened: a reading of api.Module says what lies in memory. -/
import Derived.Test.YtbpccmnalhdpmaaGq
set_option linter.unusedVariables false
set_option maxRecDepth 4000
namespace Go.Proofs.Ytbpccmnalhdpmaa
open Go.ChangeShapes Go.WideShapes Go.ChangeAt Go.RowKit Go.Fw Go.Joins

theorem op3 : Opens Int 3 := open_int Try.underlying3 (by kernel_rfl) (by kernel_rfl)
theorem op64 : Opens GSrc 64 := ⟨by decide, by kernel_rfl, by kernel_rfl, fun {H enc w base spare held fuel cs x} h hwt => by
  obtain ⟨xs, n, _, rfl, hl, hxl, hf⟩ := DataW.trod_struct Try.underlying64 h
  rw [show Try.prog.cellsOf 64 = 3 by kernel_rfl] at hl
  obtain ⟨a0, e0, k0⟩ := open_field op3 Try.underlying64 hwt hxl hf 0 rfl rfl rfl
  replace e0 : cs.drop 0 = Dat.cells a0 ++ cs.drop 1 := e0
  obtain ⟨a1, e1, k1⟩ := open_field op3 Try.underlying64 hwt hxl hf 1 rfl rfl rfl
  replace e1 : cs.drop 1 = Dat.cells a1 ++ cs.drop 2 := e1
  obtain ⟨a2, e2, k2⟩ := open_field op3 Try.underlying64 hwt hxl hf 2 rfl rfl rfl
  replace e2 : cs.drop 2 = Dat.cells a2 ++ cs.drop 3 := e2
  have ee : cs.drop 3 = [] := List.drop_eq_nil_of_le (by omega)
  refine ⟨⟨a0, a1, a2⟩, ?_, trivial⟩
  rw [← List.drop_zero (l := cs), e0, e1, e2, ee]
  rfl⟩
theorem op66 : Opens GOp 66 := ⟨by decide, by kernel_rfl, by kernel_rfl, fun {H enc w base spare held fuel cs x} h hwt => by
  obtain ⟨xs, n, _, rfl, hl, hxl, hf⟩ := DataW.trod_struct Try.underlying66 h
  rw [show Try.prog.cellsOf 66 = 11 by kernel_rfl] at hl
  obtain ⟨a0, e0, k0⟩ := open_field op3 Try.underlying66 hwt hxl hf 0 rfl rfl rfl
  replace e0 : cs.drop 0 = Dat.cells a0 ++ cs.drop 1 := e0
  obtain ⟨a1, e1, k1⟩ := open_field op3 Try.underlying66 hwt hxl hf 1 rfl rfl rfl
  replace e1 : cs.drop 1 = Dat.cells a1 ++ cs.drop 2 := e1
  obtain ⟨a2, e2, k2⟩ := open_field op3 Try.underlying66 hwt hxl hf 2 rfl rfl rfl
  replace e2 : cs.drop 2 = Dat.cells a2 ++ cs.drop 3 := e2
  obtain ⟨a3, e3, k3⟩ := open_field op3 Try.underlying66 hwt hxl hf 3 rfl rfl rfl
  replace e3 : cs.drop 3 = Dat.cells a3 ++ cs.drop 4 := e3
  obtain ⟨a4, e4, k4⟩ := open_field op3 Try.underlying66 hwt hxl hf 4 rfl rfl rfl
  replace e4 : cs.drop 4 = Dat.cells a4 ++ cs.drop 5 := e4
  obtain ⟨a5, e5, k5⟩ := open_field op3 Try.underlying66 hwt hxl hf 5 rfl rfl rfl
  replace e5 : cs.drop 5 = Dat.cells a5 ++ cs.drop 6 := e5
  obtain ⟨a6, e6, k6⟩ := open_field op3 Try.underlying66 hwt hxl hf 6 rfl rfl rfl
  replace e6 : cs.drop 6 = Dat.cells a6 ++ cs.drop 7 := e6
  obtain ⟨a7, e7, k7⟩ := open_field op3 Try.underlying66 hwt hxl hf 7 rfl rfl rfl
  replace e7 : cs.drop 7 = Dat.cells a7 ++ cs.drop 8 := e7
  obtain ⟨a8, e8, k8⟩ := open_field op64 Try.underlying66 hwt hxl hf 8 rfl rfl rfl
  replace e8 : cs.drop 8 = Dat.cells a8 ++ cs.drop 11 := e8
  have ee : cs.drop 11 = [] := List.drop_eq_nil_of_le (by omega)
  refine ⟨⟨a0, a1, a2, a3, a4, a5, a6, a7, a8⟩, ?_, trivial⟩
  rw [← List.drop_zero (l := cs), e0, e1, e2, e3, e4, e5, e6, e7, e8, ee]
  rfl⟩
theorem op53 : Opens (Lst GOp) 53 := open_lst op66 Try.underlying53 (by kernel_rfl) (by kernel_rfl)
theorem op37 : Opens (Lst Int) 37 := open_lst op3 Try.underlying37 (by kernel_rfl) (by kernel_rfl)
theorem op55 : Opens (GEdge Lst) 55 := ⟨by decide, by kernel_rfl, by kernel_rfl, fun {H enc w base spare held fuel cs x} h hwt => by
  obtain ⟨xs, n, _, rfl, hl, hxl, hf⟩ := DataW.trod_struct Try.underlying55 h
  rw [show Try.prog.cellsOf 55 = 2 by kernel_rfl] at hl
  obtain ⟨a0, e0, k0⟩ := open_field op3 Try.underlying55 hwt hxl hf 0 rfl rfl rfl
  replace e0 : cs.drop 0 = Dat.cells a0 ++ cs.drop 1 := e0
  obtain ⟨a1, e1, k1⟩ := open_field op37 Try.underlying55 hwt hxl hf 1 rfl rfl rfl
  replace e1 : cs.drop 1 = Dat.cells a1 ++ cs.drop 2 := e1
  have ee : cs.drop 2 = [] := List.drop_eq_nil_of_le (by omega)
  refine ⟨⟨a0, a1⟩, ?_, k1⟩
  rw [← List.drop_zero (l := cs), e0, e1, ee]
  rfl⟩
theorem op56 : Opens (GArr56 Lst) 56 := ⟨by decide, by kernel_rfl, by kernel_rfl, fun h hwt => by
  obtain ⟨a, b, rfl, ha, hb⟩ := open_array2 op55 Try.underlying56 (by kernel_rfl) h hwt
  exact ⟨⟨a, b⟩, rfl, ha, hb⟩⟩
theorem op58 : Opens (GTerm Lst) 58 := ⟨by decide, by kernel_rfl, by kernel_rfl, fun {H enc w base spare held fuel cs x} h hwt => by
  obtain ⟨xs, n, _, rfl, hl, hxl, hf⟩ := DataW.trod_struct Try.underlying58 h
  rw [show Try.prog.cellsOf 58 = 8 by kernel_rfl] at hl
  obtain ⟨a0, e0, k0⟩ := open_field op3 Try.underlying58 hwt hxl hf 0 rfl rfl rfl
  replace e0 : cs.drop 0 = Dat.cells a0 ++ cs.drop 1 := e0
  obtain ⟨a1, e1, k1⟩ := open_field op3 Try.underlying58 hwt hxl hf 1 rfl rfl rfl
  replace e1 : cs.drop 1 = Dat.cells a1 ++ cs.drop 2 := e1
  obtain ⟨a2, e2, k2⟩ := open_field op3 Try.underlying58 hwt hxl hf 2 rfl rfl rfl
  replace e2 : cs.drop 2 = Dat.cells a2 ++ cs.drop 3 := e2
  obtain ⟨a3, e3, k3⟩ := open_field op37 Try.underlying58 hwt hxl hf 3 rfl rfl rfl
  replace e3 : cs.drop 3 = Dat.cells a3 ++ cs.drop 4 := e3
  obtain ⟨a4, e4, k4⟩ := open_field op56 Try.underlying58 hwt hxl hf 4 rfl rfl rfl
  replace e4 : cs.drop 4 = Dat.cells a4 ++ cs.drop 8 := e4
  have ee : cs.drop 8 = [] := List.drop_eq_nil_of_le (by omega)
  refine ⟨⟨a0, a1, a2, a3, a4⟩, ?_, ⟨k3, k4⟩⟩
  rw [← List.drop_zero (l := cs), e0, e1, e2, e3, e4, ee]
  rfl⟩
theorem op60 : Opens (GBlock Lst) 60 := ⟨by decide, by kernel_rfl, by kernel_rfl, fun {H enc w base spare held fuel cs x} h hwt => by
  obtain ⟨xs, n, _, rfl, hl, hxl, hf⟩ := DataW.trod_struct Try.underlying60 h
  rw [show Try.prog.cellsOf 60 = 10 by kernel_rfl] at hl
  obtain ⟨a0, e0, k0⟩ := open_field op3 Try.underlying60 hwt hxl hf 0 rfl rfl rfl
  replace e0 : cs.drop 0 = Dat.cells a0 ++ cs.drop 1 := e0
  obtain ⟨a1, e1, k1⟩ := open_field op53 Try.underlying60 hwt hxl hf 1 rfl rfl rfl
  replace e1 : cs.drop 1 = Dat.cells a1 ++ cs.drop 2 := e1
  obtain ⟨a2, e2, k2⟩ := open_field op58 Try.underlying60 hwt hxl hf 2 rfl rfl rfl
  replace e2 : cs.drop 2 = Dat.cells a2 ++ cs.drop 10 := e2
  have ee : cs.drop 10 = [] := List.drop_eq_nil_of_le (by omega)
  refine ⟨⟨a0, a1, a2⟩, ?_, ⟨k1, k2⟩⟩
  rw [← List.drop_zero (l := cs), e0, e1, e2, ee]
  rfl⟩
theorem op22 : Opens (Lst (GBlock Lst)) 22 := open_lst op60 Try.underlying22 (by kernel_rfl) (by kernel_rfl)
theorem op69 : Opens GContext 69 := ⟨by decide, by kernel_rfl, by kernel_rfl, fun {H enc w base spare held fuel cs x} h hwt => by
  obtain ⟨xs, n, _, rfl, hl, hxl, hf⟩ := DataW.trod_struct Try.underlying69 h
  rw [show Try.prog.cellsOf 69 = 3 by kernel_rfl] at hl
  obtain ⟨a0, e0, k0⟩ := open_field op3 Try.underlying69 hwt hxl hf 0 rfl rfl rfl
  replace e0 : cs.drop 0 = Dat.cells a0 ++ cs.drop 1 := e0
  obtain ⟨a1, e1, k1⟩ := open_field op3 Try.underlying69 hwt hxl hf 1 rfl rfl rfl
  replace e1 : cs.drop 1 = Dat.cells a1 ++ cs.drop 2 := e1
  obtain ⟨a2, e2, k2⟩ := open_field op3 Try.underlying69 hwt hxl hf 2 rfl rfl rfl
  replace e2 : cs.drop 2 = Dat.cells a2 ++ cs.drop 3 := e2
  have ee : cs.drop 3 = [] := List.drop_eq_nil_of_le (by omega)
  refine ⟨⟨a0, a1, a2⟩, ?_, trivial⟩
  rw [← List.drop_zero (l := cs), e0, e1, e2, ee]
  rfl⟩
theorem op23 : Opens (Lst GContext) 23 := open_lst op69 Try.underlying23 (by kernel_rfl) (by kernel_rfl)
theorem op72 : Opens GObject 72 := ⟨by decide, by kernel_rfl, by kernel_rfl, fun {H enc w base spare held fuel cs x} h hwt => by
  obtain ⟨xs, n, _, rfl, hl, hxl, hf⟩ := DataW.trod_struct Try.underlying72 h
  rw [show Try.prog.cellsOf 72 = 3 by kernel_rfl] at hl
  obtain ⟨a0, e0, k0⟩ := open_field op3 Try.underlying72 hwt hxl hf 0 rfl rfl rfl
  replace e0 : cs.drop 0 = Dat.cells a0 ++ cs.drop 1 := e0
  obtain ⟨a1, e1, k1⟩ := open_field op3 Try.underlying72 hwt hxl hf 1 rfl rfl rfl
  replace e1 : cs.drop 1 = Dat.cells a1 ++ cs.drop 2 := e1
  obtain ⟨a2, e2, k2⟩ := open_field op3 Try.underlying72 hwt hxl hf 2 rfl rfl rfl
  replace e2 : cs.drop 2 = Dat.cells a2 ++ cs.drop 3 := e2
  have ee : cs.drop 3 = [] := List.drop_eq_nil_of_le (by omega)
  refine ⟨⟨a0, a1, a2⟩, ?_, trivial⟩
  rw [← List.drop_zero (l := cs), e0, e1, e2, ee]
  rfl⟩
theorem op24 : Opens (Lst GObject) 24 := open_lst op72 Try.underlying24 (by kernel_rfl) (by kernel_rfl)
theorem op26 : Opens (GCode Lst) 26 := ⟨by decide, by kernel_rfl, by kernel_rfl, fun {H enc w base spare held fuel cs x} h hwt => by
  obtain ⟨xs, n, _, rfl, hl, hxl, hf⟩ := DataW.trod_struct Try.underlying26 h
  rw [show Try.prog.cellsOf 26 = 4 by kernel_rfl] at hl
  obtain ⟨a0, e0, k0⟩ := open_field op3 Try.underlying26 hwt hxl hf 0 rfl rfl rfl
  replace e0 : cs.drop 0 = Dat.cells a0 ++ cs.drop 1 := e0
  obtain ⟨a1, e1, k1⟩ := open_field op22 Try.underlying26 hwt hxl hf 1 rfl rfl rfl
  replace e1 : cs.drop 1 = Dat.cells a1 ++ cs.drop 2 := e1
  obtain ⟨a2, e2, k2⟩ := open_field op23 Try.underlying26 hwt hxl hf 2 rfl rfl rfl
  replace e2 : cs.drop 2 = Dat.cells a2 ++ cs.drop 3 := e2
  obtain ⟨a3, e3, k3⟩ := open_field op24 Try.underlying26 hwt hxl hf 3 rfl rfl rfl
  replace e3 : cs.drop 3 = Dat.cells a3 ++ cs.drop 4 := e3
  have ee : cs.drop 4 = [] := List.drop_eq_nil_of_le (by omega)
  refine ⟨⟨a0, a1, a2, a3⟩, ?_, ⟨k1, k2, k3⟩⟩
  rw [← List.drop_zero (l := cs), e0, e1, e2, e3, ee]
  rfl⟩
theorem op33 : Opens (Lst (GCode Lst)) 33 := open_lst op26 Try.underlying33 (by kernel_rfl) (by kernel_rfl)
theorem op35 : Opens (GModule Lst) 35 := ⟨by decide, by kernel_rfl, by kernel_rfl, fun {H enc w base spare held fuel cs x} h hwt => by
  obtain ⟨xs, n, _, rfl, hl, hxl, hf⟩ := DataW.trod_struct Try.underlying35 h
  rw [show Try.prog.cellsOf 35 = 1 by kernel_rfl] at hl
  obtain ⟨a0, e0, k0⟩ := open_field op33 Try.underlying35 hwt hxl hf 0 rfl rfl rfl
  replace e0 : cs.drop 0 = Dat.cells a0 ++ cs.drop 1 := e0
  have ee : cs.drop 1 = [] := List.drop_eq_nil_of_le (by omega)
  refine ⟨⟨a0⟩, ?_, k0⟩
  rw [← List.drop_zero (l := cs), e0, ee]
  rfl⟩
end Go.Proofs.Ytbpccmnalhdpmaa
