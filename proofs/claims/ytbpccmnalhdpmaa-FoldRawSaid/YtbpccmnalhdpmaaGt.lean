/- Types of the program, and facts about them. -/
import Derived.Test.YtbpccmnalhdpmaaRows
import Derived.Test.YtbpccmnalhdpmaaMx
set_option linter.unusedVariables false
set_option linter.unusedSimpArgs false
set_option maxRecDepth 4000
namespace Go.Proofs.Ytbpccmnalhdpmaa
open Go.RowKit Go.Fw
structure GSrc where
  Kind : Int
  Val : Int
  Add : Int
def GSrc.cells (x : GSrc) : List Value := [.int .i64 x.Kind, .int .i64 x.Val, .int .i64 x.Add]
instance : Dat GSrc := ⟨3, 24, GSrc.cells, fun _ _ _ => True, fun _ => rfl, fun _ _ _ => trivial⟩
structure GOp where
  Kind : Int
  Dst : Int
  A : Int
  B : Int
  N : Int
  Ctx : Int
  Var : Int
  Piece : Int
  Src : GSrc
def GOp.cells (x : GOp) : List Value := [.int .i64 x.Kind, .int .i64 x.Dst, .int .i64 x.A, .int .i64 x.B, .int .i64 x.N, .int .i64 x.Ctx, .int .i64 x.Var, .int .i64 x.Piece, .int .i64 x.Src.Kind, .int .i64 x.Src.Val, .int .i64 x.Src.Add]
instance : Dat GOp := ⟨11, 88, GOp.cells, fun _ _ _ => True, fun _ => rfl, fun _ _ _ => trivial⟩
structure GEdge (S : Type → Type) where
  Block : Int
  Args : (S Int)
def GEdge.cells (x : GEdge Lst) : List Value := [.int .i64 x.Block, .slice x.Args.a x.Args.l.length x.Args.c]
instance : Dat (GEdge Lst) := ⟨2, 32, GEdge.cells, fun F w x => Dat.ok F w x.Args, fun _ => rfl, fun h k hs => Dat.mv h k hs⟩
abbrev GEdge.er (x : GEdge Lst) : GEdge List := ⟨x.Block, x.Args.l⟩
theorem er1 (x : GEdge Lst) : (GEdge.er x).Block = x.Block := rfl
theorem er2 (x : GEdge Lst) : (GEdge.er x).Args = x.Args.l := rfl
structure GArr56 (S : Type → Type) where
  e0 : (GEdge S)
  e1 : (GEdge S)
def GArr56.cells (x : GArr56 Lst) : List Value := [.int .i64 x.e0.Block, .slice x.e0.Args.a x.e0.Args.l.length x.e0.Args.c, .int .i64 x.e1.Block, .slice x.e1.Args.a x.e1.Args.l.length x.e1.Args.c]
instance : Dat (GArr56 Lst) := ⟨4, 64, GArr56.cells, fun F w x => Dat.ok F w x.e0 ∧ Dat.ok F w x.e1, fun _ => rfl, fun h k hs => ⟨Dat.mv h.1 k hs, Dat.mv h.2 k hs⟩⟩
abbrev GArr56.er (x : GArr56 Lst) : GArr56 List := ⟨(GEdge.er x.e0), (GEdge.er x.e1)⟩
theorem er3 (x : GArr56 Lst) : (GArr56.er x).e0 = (GEdge.er x.e0) := rfl
theorem er4 (x : GArr56 Lst) : (GArr56.er x).e1 = (GEdge.er x.e1) := rfl
structure GTerm (S : Type → Type) where
  Kind : Int
  A : Int
  N : Int
  Args : (S Int)
  To : (GArr56 S)
def GTerm.cells (x : GTerm Lst) : List Value := [.int .i64 x.Kind, .int .i64 x.A, .int .i64 x.N, .slice x.Args.a x.Args.l.length x.Args.c, .int .i64 x.To.e0.Block, .slice x.To.e0.Args.a x.To.e0.Args.l.length x.To.e0.Args.c, .int .i64 x.To.e1.Block, .slice x.To.e1.Args.a x.To.e1.Args.l.length x.To.e1.Args.c]
instance : Dat (GTerm Lst) := ⟨8, 112, GTerm.cells, fun F w x => Dat.ok F w x.Args ∧ Dat.ok F w x.To, fun _ => rfl, fun h k hs => ⟨Dat.mv h.1 k hs, Dat.mv h.2 k hs⟩⟩
abbrev GTerm.er (x : GTerm Lst) : GTerm List := ⟨x.Kind, x.A, x.N, x.Args.l, (GArr56.er x.To)⟩
theorem er5 (x : GTerm Lst) : (GTerm.er x).Kind = x.Kind := rfl
theorem er6 (x : GTerm Lst) : (GTerm.er x).A = x.A := rfl
theorem er7 (x : GTerm Lst) : (GTerm.er x).N = x.N := rfl
theorem er8 (x : GTerm Lst) : (GTerm.er x).Args = x.Args.l := rfl
theorem er9 (x : GTerm Lst) : (GTerm.er x).To = (GArr56.er x.To) := rfl
structure GBlock (S : Type → Type) where
  Params : Int
  Ops : (S GOp)
  Term : (GTerm S)
def GBlock.cells (x : GBlock Lst) : List Value := [.int .i64 x.Params, .slice x.Ops.a x.Ops.l.length x.Ops.c, .int .i64 x.Term.Kind, .int .i64 x.Term.A, .int .i64 x.Term.N, .slice x.Term.Args.a x.Term.Args.l.length x.Term.Args.c, .int .i64 x.Term.To.e0.Block, .slice x.Term.To.e0.Args.a x.Term.To.e0.Args.l.length x.Term.To.e0.Args.c, .int .i64 x.Term.To.e1.Block, .slice x.Term.To.e1.Args.a x.Term.To.e1.Args.l.length x.Term.To.e1.Args.c]
instance : Dat (GBlock Lst) := ⟨10, 144, GBlock.cells, fun F w x => Dat.ok F w x.Ops ∧ Dat.ok F w x.Term, fun _ => rfl, fun h k hs => ⟨Dat.mv h.1 k hs, Dat.mv h.2 k hs⟩⟩
abbrev GBlock.er (x : GBlock Lst) : GBlock List := ⟨x.Params, x.Ops.l, (GTerm.er x.Term)⟩
theorem er10 (x : GBlock Lst) : (GBlock.er x).Params = x.Params := rfl
theorem er11 (x : GBlock Lst) : (GBlock.er x).Ops = x.Ops.l := rfl
theorem er12 (x : GBlock Lst) : (GBlock.er x).Term = (GTerm.er x.Term) := rfl
structure GContext where
  Parent : Int
  Stmt : Int
  Func : Int
def GContext.cells (x : GContext) : List Value := [.int .i64 x.Parent, .int .i64 x.Stmt, .int .i64 x.Func]
instance : Dat GContext := ⟨3, 24, GContext.cells, fun _ _ _ => True, fun _ => rfl, fun _ _ _ => trivial⟩
structure GObject where
  Ctx : Int
  Var : Int
  Words : Int
def GObject.cells (x : GObject) : List Value := [.int .i64 x.Ctx, .int .i64 x.Var, .int .i64 x.Words]
instance : Dat GObject := ⟨3, 24, GObject.cells, fun _ _ _ => True, fun _ => rfl, fun _ _ _ => trivial⟩
structure GCode (S : Type → Type) where
  Params : Int
  Blocks : (S (GBlock S))
  Contexts : (S GContext)
  Objects : (S GObject)
def GCode.cells (x : GCode Lst) : List Value := [.int .i64 x.Params, .slice x.Blocks.a x.Blocks.l.length x.Blocks.c, .slice x.Contexts.a x.Contexts.l.length x.Contexts.c, .slice x.Objects.a x.Objects.l.length x.Objects.c]
instance : Dat (GCode Lst) := ⟨4, 80, GCode.cells, fun F w x => Dat.ok F w x.Blocks ∧ Dat.ok F w x.Contexts ∧ Dat.ok F w x.Objects, fun _ => rfl, fun h k hs => ⟨Dat.mv h.1 k hs, Dat.mv h.2.1 k hs, Dat.mv h.2.2 k hs⟩⟩
abbrev GCode.er (x : GCode Lst) : GCode List := ⟨x.Params, (x.Blocks.l.map GBlock.er), x.Contexts.l, x.Objects.l⟩
theorem er13 (x : GCode Lst) : (GCode.er x).Params = x.Params := rfl
theorem er14 (x : GCode Lst) : (GCode.er x).Blocks = (x.Blocks.l.map GBlock.er) := rfl
theorem er15 (x : GCode Lst) : (GCode.er x).Contexts = x.Contexts.l := rfl
theorem er16 (x : GCode Lst) : (GCode.er x).Objects = x.Objects.l := rfl
structure GModule (S : Type → Type) where
  Funcs : (S (GCode S))
def GModule.cells (x : GModule Lst) : List Value := [.slice x.Funcs.a x.Funcs.l.length x.Funcs.c]
instance : Dat (GModule Lst) := ⟨1, 24, GModule.cells, fun F w x => Dat.ok F w x.Funcs, fun _ => rfl, fun h k hs => Dat.mv h k hs⟩
abbrev GModule.er (x : GModule Lst) : GModule List := ⟨(x.Funcs.l.map GCode.er)⟩
theorem er17 (x : GModule Lst) : (GModule.er x).Funcs = (x.Funcs.l.map GCode.er) := rfl
theorem ti3 : TI Try.prog 3 (.int .i64 0) 1 8 := ti_of (by kernel_rfl)
theorem ti4 : TI Try.prog 4 (.bool false) 1 1 := ti_of (by kernel_rfl)
theorem ti22 : TI Try.prog 22 (.slice none 0 0) 1 24 := ti_of (by kernel_rfl)
theorem ti23 : TI Try.prog 23 (.slice none 0 0) 1 24 := ti_of (by kernel_rfl)
theorem ti24 : TI Try.prog 24 (.slice none 0 0) 1 24 := ti_of (by kernel_rfl)
theorem ti26 : TI Try.prog 26 (.agg #[.int .i64 0, .slice none 0 0, .slice none 0 0, .slice none 0 0]) 4 80 := ti_of (by kernel_rfl)
theorem ti33 : TI Try.prog 33 (.slice none 0 0) 1 24 := ti_of (by kernel_rfl)
theorem ti35 : TI Try.prog 35 (.agg #[.slice none 0 0]) 1 24 := ti_of (by kernel_rfl)
theorem ti37 : TI Try.prog 37 (.slice none 0 0) 1 24 := ti_of (by kernel_rfl)
theorem ti53 : TI Try.prog 53 (.slice none 0 0) 1 24 := ti_of (by kernel_rfl)
theorem ti55 : TI Try.prog 55 (.agg #[.int .i64 0, .slice none 0 0]) 2 32 := ti_of (by kernel_rfl)
theorem ti56 : TI Try.prog 56 (.agg #[.int .i64 0, .slice none 0 0, .int .i64 0, .slice none 0 0]) 4 64 := ti_of (by kernel_rfl)
theorem ti58 : TI Try.prog 58 (.agg #[.int .i64 0, .int .i64 0, .int .i64 0, .slice none 0 0, .int .i64 0, .slice none 0 0, .int .i64 0, .slice none 0 0]) 8 112 := ti_of (by kernel_rfl)
theorem ti60 : TI Try.prog 60 (.agg #[.int .i64 0, .slice none 0 0, .int .i64 0, .int .i64 0, .int .i64 0, .slice none 0 0, .int .i64 0, .slice none 0 0, .int .i64 0, .slice none 0 0]) 10 144 := ti_of (by kernel_rfl)
theorem ti64 : TI Try.prog 64 (.agg #[.int .i64 0, .int .i64 0, .int .i64 0]) 3 24 := ti_of (by kernel_rfl)
theorem ti66 : TI Try.prog 66 (.agg #[.int .i64 0, .int .i64 0, .int .i64 0, .int .i64 0, .int .i64 0, .int .i64 0, .int .i64 0, .int .i64 0, .int .i64 0, .int .i64 0, .int .i64 0]) 11 88 := ti_of (by kernel_rfl)
theorem ti69 : TI Try.prog 69 (.agg #[.int .i64 0, .int .i64 0, .int .i64 0]) 3 24 := ti_of (by kernel_rfl)
theorem ti72 : TI Try.prog 72 (.agg #[.int .i64 0, .int .i64 0, .int .i64 0]) 3 24 := ti_of (by kernel_rfl)
theorem ti79 : TI Try.prog 79 (.map none) 1 8 := ti_of (by kernel_rfl)
theorem ti197 : TI Try.prog 197 (.agg #[.int .i64 0, .int .i64 0, .int .i64 0]) 3 24 := ti_of (by kernel_rfl)
theorem ti199 : TI Try.prog 199 (.agg #[.int .i64 0, .map none]) 2 16 := ti_of (by kernel_rfl)
theorem cal5 : Callable Try.prog 5 := ⟨_, Try.func5, by kernel_rfl, by kernel_rfl⟩
theorem cal8 : Callable Try.prog 8 := ⟨_, Try.func8, by kernel_rfl, by kernel_rfl⟩
theorem cal13 : Callable Try.prog 13 := ⟨_, Try.func13, by kernel_rfl, by kernel_rfl⟩
theorem cal17 : Callable Try.prog 17 := ⟨_, Try.func17, by kernel_rfl, by kernel_rfl⟩
theorem cal18 : Callable Try.prog 18 := ⟨_, Try.func18, by kernel_rfl, by kernel_rfl⟩
theorem cal19 : Callable Try.prog 19 := ⟨_, Try.func19, by kernel_rfl, by kernel_rfl⟩
theorem cal26 : Callable Try.prog 26 := ⟨_, Try.func26, by kernel_rfl, by kernel_rfl⟩
theorem cal27 : Callable Try.prog 27 := ⟨_, Try.func27, by kernel_rfl, by kernel_rfl⟩
theorem cal30 : Callable Try.prog 30 := ⟨_, Try.func30, by kernel_rfl, by kernel_rfl⟩
theorem cal42 : Callable Try.prog 42 := ⟨_, Try.func42, by kernel_rfl, by kernel_rfl⟩
theorem cal43 : Callable Try.prog 43 := ⟨_, Try.func43, by kernel_rfl, by kernel_rfl⟩
theorem cal44 : Callable Try.prog 44 := ⟨_, Try.func44, by kernel_rfl, by kernel_rfl⟩
theorem cal55 : Callable Try.prog 55 := ⟨_, Try.func55, by kernel_rfl, by kernel_rfl⟩
theorem cal56 : Callable Try.prog 56 := ⟨_, Try.func56, by kernel_rfl, by kernel_rfl⟩
theorem cal60 : Callable Try.prog 60 := ⟨_, Try.func60, by kernel_rfl, by kernel_rfl⟩
theorem cal70 : Callable Try.prog 70 := ⟨_, Try.func70, by kernel_rfl, by kernel_rfl⟩
theorem cal71 : Callable Try.prog 71 := ⟨_, Try.func71, by kernel_rfl, by kernel_rfl⟩
theorem cal72 : Callable Try.prog 72 := ⟨_, Try.func72, by kernel_rfl, by kernel_rfl⟩
theorem cal73 : Callable Try.prog 73 := ⟨_, Try.func73, by kernel_rfl, by kernel_rfl⟩
theorem cal74 : Callable Try.prog 74 := ⟨_, Try.func74, by kernel_rfl, by kernel_rfl⟩
theorem cal80 : Callable Try.prog 80 := ⟨_, Try.func80, by kernel_rfl, by kernel_rfl⟩
theorem cal81 : Callable Try.prog 81 := ⟨_, Try.func81, by kernel_rfl, by kernel_rfl⟩
theorem cal86 : Callable Try.prog 86 := ⟨_, Try.func86, by kernel_rfl, by kernel_rfl⟩
theorem cal87 : Callable Try.prog 87 := ⟨_, Try.func87, by kernel_rfl, by kernel_rfl⟩
theorem cal88 : Callable Try.prog 88 := ⟨_, Try.func88, by kernel_rfl, by kernel_rfl⟩
theorem cal89 : Callable Try.prog 89 := ⟨_, Try.func89, by kernel_rfl, by kernel_rfl⟩
theorem cal90 : Callable Try.prog 90 := ⟨_, Try.func90, by kernel_rfl, by kernel_rfl⟩
theorem cal106 : Callable Try.prog 106 := ⟨_, Try.func106, by kernel_rfl, by kernel_rfl⟩
theorem cal120 : Callable Try.prog 120 := ⟨_, Try.func120, by kernel_rfl, by kernel_rfl⟩
theorem cal121 : Callable Try.prog 121 := ⟨_, Try.func121, by kernel_rfl, by kernel_rfl⟩
theorem cal122 : Callable Try.prog 122 := ⟨_, Try.func122, by kernel_rfl, by kernel_rfl⟩
theorem cal123 : Callable Try.prog 123 := ⟨_, Try.func123, by kernel_rfl, by kernel_rfl⟩
theorem cal124 : Callable Try.prog 124 := ⟨_, Try.func124, by kernel_rfl, by kernel_rfl⟩
theorem cal153 : Callable Try.prog 153 := ⟨_, Try.func153, by kernel_rfl, by kernel_rfl⟩
theorem cal154 : Callable Try.prog 154 := ⟨_, Try.func154, by kernel_rfl, by kernel_rfl⟩
theorem cal155 : Callable Try.prog 155 := ⟨_, Try.func155, by kernel_rfl, by kernel_rfl⟩
theorem cal156 : Callable Try.prog 156 := ⟨_, Try.func156, by kernel_rfl, by kernel_rfl⟩
theorem cal157 : Callable Try.prog 157 := ⟨_, Try.func157, by kernel_rfl, by kernel_rfl⟩
end Go.Proofs.Ytbpccmnalhdpmaa
