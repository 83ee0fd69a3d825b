/- More types of the program, and facts about them. -/
import Derived.Test.YtbpccmnalhdpmaaGt
import Derived.Test.YtbpccmnalhdpmaaOx
set_option linter.unusedVariables false
set_option linter.unusedSimpArgs false
set_option maxRecDepth 4000
namespace Go.Proofs.Ytbpccmnalhdpmaa
open Go.RowKit Go.Fw

theorem ti81 : TI Try.prog 81 (.agg #[.map none, .map none]) 2 16 := ti_of (by kernel_rfl)
theorem ti135 : TI Try.prog 135 (.agg #[.map none, .map none]) 2 16 := ti_of (by kernel_rfl)
theorem cal3 : Callable Try.prog 3 := ⟨_, Try.func3, by kernel_rfl, by kernel_rfl⟩
theorem cal9 : Callable Try.prog 9 := ⟨_, Try.func9, by kernel_rfl, by kernel_rfl⟩
theorem cal10 : Callable Try.prog 10 := ⟨_, Try.func10, by kernel_rfl, by kernel_rfl⟩
theorem cal11 : Callable Try.prog 11 := ⟨_, Try.func11, by kernel_rfl, by kernel_rfl⟩
theorem cal12 : Callable Try.prog 12 := ⟨_, Try.func12, by kernel_rfl, by kernel_rfl⟩
theorem cal28 : Callable Try.prog 28 := ⟨_, Try.func28, by kernel_rfl, by kernel_rfl⟩
theorem cal29 : Callable Try.prog 29 := ⟨_, Try.func29, by kernel_rfl, by kernel_rfl⟩
theorem cal31 : Callable Try.prog 31 := ⟨_, Try.func31, by kernel_rfl, by kernel_rfl⟩
theorem cal32 : Callable Try.prog 32 := ⟨_, Try.func32, by kernel_rfl, by kernel_rfl⟩
theorem cal33 : Callable Try.prog 33 := ⟨_, Try.func33, by kernel_rfl, by kernel_rfl⟩
theorem cal34 : Callable Try.prog 34 := ⟨_, Try.func34, by kernel_rfl, by kernel_rfl⟩
theorem cal35 : Callable Try.prog 35 := ⟨_, Try.func35, by kernel_rfl, by kernel_rfl⟩
theorem cal36 : Callable Try.prog 36 := ⟨_, Try.func36, by kernel_rfl, by kernel_rfl⟩
theorem cal37 : Callable Try.prog 37 := ⟨_, Try.func37, by kernel_rfl, by kernel_rfl⟩
theorem cal38 : Callable Try.prog 38 := ⟨_, Try.func38, by kernel_rfl, by kernel_rfl⟩
theorem cal39 : Callable Try.prog 39 := ⟨_, Try.func39, by kernel_rfl, by kernel_rfl⟩
theorem cal40 : Callable Try.prog 40 := ⟨_, Try.func40, by kernel_rfl, by kernel_rfl⟩
theorem cal41 : Callable Try.prog 41 := ⟨_, Try.func41, by kernel_rfl, by kernel_rfl⟩
theorem cal75 : Callable Try.prog 75 := ⟨_, Try.func75, by kernel_rfl, by kernel_rfl⟩
theorem cal76 : Callable Try.prog 76 := ⟨_, Try.func76, by kernel_rfl, by kernel_rfl⟩
theorem cal77 : Callable Try.prog 77 := ⟨_, Try.func77, by kernel_rfl, by kernel_rfl⟩
theorem cal78 : Callable Try.prog 78 := ⟨_, Try.func78, by kernel_rfl, by kernel_rfl⟩
theorem cal79 : Callable Try.prog 79 := ⟨_, Try.func79, by kernel_rfl, by kernel_rfl⟩
theorem cal82 : Callable Try.prog 82 := ⟨_, Try.func82, by kernel_rfl, by kernel_rfl⟩
theorem cal83 : Callable Try.prog 83 := ⟨_, Try.func83, by kernel_rfl, by kernel_rfl⟩
theorem cal84 : Callable Try.prog 84 := ⟨_, Try.func84, by kernel_rfl, by kernel_rfl⟩
theorem cal85 : Callable Try.prog 85 := ⟨_, Try.func85, by kernel_rfl, by kernel_rfl⟩
theorem cal125 : Callable Try.prog 125 := ⟨_, Try.func125, by kernel_rfl, by kernel_rfl⟩
theorem cal126 : Callable Try.prog 126 := ⟨_, Try.func126, by kernel_rfl, by kernel_rfl⟩
theorem cal127 : Callable Try.prog 127 := ⟨_, Try.func127, by kernel_rfl, by kernel_rfl⟩
theorem cal128 : Callable Try.prog 128 := ⟨_, Try.func128, by kernel_rfl, by kernel_rfl⟩
theorem cal129 : Callable Try.prog 129 := ⟨_, Try.func129, by kernel_rfl, by kernel_rfl⟩
theorem cal130 : Callable Try.prog 130 := ⟨_, Try.func130, by kernel_rfl, by kernel_rfl⟩
theorem cal158 : Callable Try.prog 158 := ⟨_, Try.func158, by kernel_rfl, by kernel_rfl⟩
theorem cal159 : Callable Try.prog 159 := ⟨_, Try.func159, by kernel_rfl, by kernel_rfl⟩
theorem cal160 : Callable Try.prog 160 := ⟨_, Try.func160, by kernel_rfl, by kernel_rfl⟩
theorem cal161 : Callable Try.prog 161 := ⟨_, Try.func161, by kernel_rfl, by kernel_rfl⟩
theorem cal162 : Callable Try.prog 162 := ⟨_, Try.func162, by kernel_rfl, by kernel_rfl⟩
theorem cal163 : Callable Try.prog 163 := ⟨_, Try.func163, by kernel_rfl, by kernel_rfl⟩
theorem cal181 : Callable Try.prog 181 := ⟨_, Try.func181, by kernel_rfl, by kernel_rfl⟩
end Go.Proofs.Ytbpccmnalhdpmaa
