/- The table of types, and that it is true. -/
import Derived.Test.YtiffdbdglpabjaaRows
import Derived.Test.YtiffdbdglpabjaaE27
set_option linter.unusedVariables false
set_option maxRecDepth 100000
namespace Go.Proofs.Ytiffdbdglpabjaa
open Go.Ev
noncomputable section
noncomputable def ty1 : TyI := ⟨(TypeDesc.func #[] #[] Bool.false), [.f0], 8, false⟩
noncomputable def ty2 : TyI := ⟨(TypeDesc.int IntKind.i64), [(.i .i64 (.n (nat_lit 0)))], 8, false⟩
noncomputable def ty3 : TyI := ⟨(TypeDesc.int IntKind.i64), [(.i .i64 (.n (nat_lit 0)))], 8, false⟩
noncomputable def ty4 : TyI := ⟨TypeDesc.bool, [(.b false)], 1, false⟩
noncomputable def ty5 : TyI := ⟨(TypeDesc.int IntKind.u8), [(.i .u8 (.n (nat_lit 0)))], 1, false⟩
noncomputable def ty6 : TyI := ⟨(TypeDesc.int IntKind.u8), [(.i .u8 (.n (nat_lit 0)))], 1, false⟩
noncomputable def ty7 : TyI := ⟨undOf (Try.prog.underlying 7), [(.i .i64 (.n (nat_lit 0))), (.i .i64 (.n (nat_lit 0))), (.b false), (.i .u8 (.n (nat_lit 0)))], 24, false⟩
noncomputable def ty8 : TyI := ⟨undOf (Try.prog.underlying 8), [(.i .i64 (.n (nat_lit 0))), (.i .i64 (.n (nat_lit 0))), (.b false), (.i .u8 (.n (nat_lit 0)))], 24, false⟩
noncomputable def ty9 : TyI := ⟨TypeDesc.string, [(.t 1)], 16, true⟩
noncomputable def ty10 : TyI := ⟨TypeDesc.string, [(.t 1)], 16, false⟩
noncomputable def ty11 : TyI := ⟨TypeDesc.string, [(.t 1)], 16, false⟩
noncomputable def ty12 : TyI := ⟨(TypeDesc.int IntKind.u64), [(.i .u64 (.n (nat_lit 0)))], 8, false⟩
noncomputable def ty13 : TyI := ⟨undOf (Try.prog.underlying 13), [(.t 1), (.i .u64 (.n (nat_lit 0)))], 24, false⟩
noncomputable def ty14 : TyI := ⟨undOf (Try.prog.underlying 14), [(.t 1), (.i .u64 (.n (nat_lit 0)))], 24, false⟩
noncomputable def ty15 : TyI := ⟨(TypeDesc.pointer 149), [.p0], 8, false⟩
noncomputable def ty16 : TyI := ⟨(TypeDesc.pointer 152), [.p0], 8, false⟩
noncomputable def ty17 : TyI := ⟨(TypeDesc.pointer 162), [.p0], 8, false⟩
noncomputable def ty18 : TyI := ⟨undOf (Try.prog.underlying 18), [.p0], 8, false⟩
noncomputable def ty19 : TyI := ⟨undOf (Try.prog.underlying 19), [.p0], 8, false⟩
noncomputable def ty20 : TyI := ⟨(TypeDesc.interface #[]), [.q0], 16, false⟩
noncomputable def ty21 : TyI := ⟨(TypeDesc.int IntKind.i32), [(.i .i32 (.n (nat_lit 0)))], 4, false⟩
noncomputable def ty22 : TyI := ⟨(TypeDesc.func #[3, 3] #[3] Bool.false), [.f0], 8, false⟩
noncomputable def ty23 : TyI := ⟨(TypeDesc.slice 98), [.s0], 24, false⟩
noncomputable def ty24 : TyI := ⟨(TypeDesc.slice 52), [.s0], 24, false⟩
noncomputable def ty25 : TyI := ⟨undOf (Try.prog.underlying 25), [.s0, .s0], 48, false⟩
noncomputable def ty26 : TyI := ⟨undOf (Try.prog.underlying 26), [.s0, .s0], 48, false⟩
noncomputable def ty27 : TyI := ⟨(TypeDesc.slice 84), [.s0], 24, false⟩
noncomputable def ty28 : TyI := ⟨(TypeDesc.slice 130), [.s0], 24, false⟩
noncomputable def ty29 : TyI := ⟨undOf (Try.prog.underlying 29), [.s0, .s0, .s0, .s0], 96, false⟩
noncomputable def ty30 : TyI := ⟨undOf (Try.prog.underlying 30), [.s0, .s0, .s0, .s0], 96, false⟩
noncomputable def ty31 : TyI := ⟨(TypeDesc.func #[9] #[30] Bool.false), [.f0], 8, false⟩
noncomputable def ty32 : TyI := ⟨(TypeDesc.slice 62), [.s0], 24, false⟩
noncomputable def ty33 : TyI := ⟨(TypeDesc.int IntKind.i64), [(.i .i64 (.n (nat_lit 0)))], 8, false⟩
noncomputable def ty34 : TyI := ⟨(TypeDesc.slice 3), [.s0], 24, false⟩
noncomputable def ty35 : TyI := ⟨undOf (Try.prog.underlying 35), [(.i .i64 (.n (nat_lit 0))), (.b false), (.i .i64 (.n (nat_lit 0))), .s0], 48, false⟩
noncomputable def ty36 : TyI := ⟨undOf (Try.prog.underlying 36), [(.i .i64 (.n (nat_lit 0))), (.b false), (.i .i64 (.n (nat_lit 0))), .s0], 48, false⟩
noncomputable def ty38 : TyI := ⟨(TypeDesc.func #[30, 3, 34, 3, 3, 3] #[32, 36] Bool.false), [.f0], 8, false⟩
noncomputable def ty39 : TyI := ⟨(TypeDesc.func #[34, 34] #[4] Bool.false), [.f0], 8, false⟩
noncomputable def ty40 : TyI := ⟨(TypeDesc.func #[] #[4] Bool.false), [.f0], 8, false⟩
noncomputable def ty41 : TyI := ⟨(TypeDesc.func #[3, 3] #[4] Bool.false), [.f0], 8, false⟩
noncomputable def ty42 : TyI := ⟨(TypeDesc.func #[9, 34] #[36] Bool.true), [.f0], 8, false⟩
noncomputable def ty43 : TyI := ⟨(TypeDesc.func #[3] #[4] Bool.false), [.f0], 8, false⟩
noncomputable def ty44 : TyI := ⟨(TypeDesc.func #[3, 3, 3] #[4] Bool.false), [.f0], 8, false⟩
noncomputable def ty46 : TyI := ⟨(TypeDesc.func #[9] #[26, 3, 33] Bool.false), [.f0], 8, false⟩
noncomputable def ty48 : TyI := ⟨(TypeDesc.func #[26] #[30, 3, 33] Bool.false), [.f0], 8, false⟩
noncomputable def ty49 : TyI := ⟨(TypeDesc.slice 9), [.s0], 24, false⟩
noncomputable def ty50 : TyI := ⟨(TypeDesc.slice 105), [.s0], 24, false⟩
noncomputable def ty51 : TyI := ⟨undOf (Try.prog.underlying 51), [(.t 1), (.i .i64 (.n (nat_lit 0))), .s0, .s0], 72, false⟩
noncomputable def ty52 : TyI := ⟨undOf (Try.prog.underlying 52), [(.t 1), (.i .i64 (.n (nat_lit 0))), .s0, .s0], 72, false⟩
noncomputable def ty53 : TyI := ⟨(TypeDesc.pointer 56), [.p0], 8, false⟩
noncomputable def ty54 : TyI := ⟨(TypeDesc.slice 80), [.s0], 24, false⟩
noncomputable def ty55 : TyI := ⟨undOf (Try.prog.underlying 55), [.s0, .s0, .s0, .s0, .s0, (.i .i64 (.n (nat_lit 0))), (.i .i64 (.n (nat_lit 0))), (.i .i64 (.n (nat_lit 0))), (.i .i64 (.n (nat_lit 0))), .s0, .s0], 200, false⟩
noncomputable def ty56 : TyI := ⟨undOf (Try.prog.underlying 56), [.s0, .s0, .s0, .s0, .s0, (.i .i64 (.n (nat_lit 0))), (.i .i64 (.n (nat_lit 0))), (.i .i64 (.n (nat_lit 0))), (.i .i64 (.n (nat_lit 0))), .s0, .s0], 200, false⟩
noncomputable def ty57 : TyI := ⟨(TypeDesc.int IntKind.i64), [(.i .i64 (.n (nat_lit 0)))], 8, false⟩
noncomputable def ty58 : TyI := ⟨(TypeDesc.int IntKind.i64), [(.i .i64 (.n (nat_lit 0)))], 8, false⟩
noncomputable def ty59 : TyI := ⟨(TypeDesc.func #[3, 34] #[3] Bool.false), [.f0], 8, false⟩
noncomputable def ty60 : TyI := ⟨(TypeDesc.slice 65), [.s0], 24, false⟩
noncomputable def ty61 : TyI := ⟨undOf (Try.prog.underlying 61), [.s0], 24, false⟩
noncomputable def ty62 : TyI := ⟨undOf (Try.prog.underlying 62), [.s0], 24, false⟩
noncomputable def ty63 : TyI := ⟨(TypeDesc.slice 68), [.s0], 24, false⟩
noncomputable def ty64 : TyI := ⟨undOf (Try.prog.underlying 64), [(.i .i64 (.n (nat_lit 0))), (.i .i64 (.n (nat_lit 0))), .s0], 40, false⟩
noncomputable def ty65 : TyI := ⟨undOf (Try.prog.underlying 65), [(.i .i64 (.n (nat_lit 0))), (.i .i64 (.n (nat_lit 0))), .s0], 40, false⟩
noncomputable def ty66 : TyI := ⟨(TypeDesc.slice 4), [.s0], 24, false⟩
noncomputable def ty67 : TyI := ⟨undOf (Try.prog.underlying 67), [(.i .i64 (.n (nat_lit 0))), .s0, .s0], 56, false⟩
noncomputable def ty68 : TyI := ⟨undOf (Try.prog.underlying 68), [(.i .i64 (.n (nat_lit 0))), .s0, .s0], 56, false⟩
noncomputable def ty69 : TyI := ⟨(TypeDesc.slice 92), [.s0], 24, false⟩
noncomputable def ty71 : TyI := ⟨(TypeDesc.func #[9] #[69, 3, 33] Bool.false), [.f0], 8, false⟩
noncomputable def ty72 : TyI := ⟨(TypeDesc.pointer 74), [.p0], 8, false⟩
noncomputable def ty73 : TyI := ⟨undOf (Try.prog.underlying 73), [.s0, (.i .i64 (.n (nat_lit 0))), (.i .i64 (.n (nat_lit 0))), (.i .i64 (.n (nat_lit 0)))], 48, false⟩
noncomputable def ty74 : TyI := ⟨undOf (Try.prog.underlying 74), [.s0, (.i .i64 (.n (nat_lit 0))), (.i .i64 (.n (nat_lit 0))), (.i .i64 (.n (nat_lit 0)))], 48, false⟩
noncomputable def ty75 : TyI := ⟨(TypeDesc.func #[] #[26] Bool.false), [.f0], 8, false⟩
noncomputable def ty76 : TyI := ⟨(TypeDesc.pointer 78), [.p0], 8, false⟩
noncomputable def ty77 : TyI := ⟨undOf (Try.prog.underlying 77), [.s0, .s0, .s0, .s0, (.i .i64 (.n (nat_lit 0))), .s0, (.i .i64 (.n (nat_lit 0))), (.i .i64 (.n (nat_lit 0)))], 144, false⟩
noncomputable def ty78 : TyI := ⟨undOf (Try.prog.underlying 78), [.s0, .s0, .s0, .s0, (.i .i64 (.n (nat_lit 0))), .s0, (.i .i64 (.n (nat_lit 0))), (.i .i64 (.n (nat_lit 0)))], 144, false⟩
noncomputable def ty79 : TyI := ⟨(TypeDesc.func #[52] #[52] Bool.false), [.f0], 8, false⟩
noncomputable def ty80 : TyI := ⟨(TypeDesc.pointer 83), [.p0], 8, false⟩
noncomputable def ty81 : TyI := ⟨(TypeDesc.slice 34), [.s0], 24, false⟩
noncomputable def ty82 : TyI := ⟨undOf (Try.prog.underlying 82), [(.i .i64 (.n (nat_lit 0))), (.i .i64 (.n (nat_lit 0))), .s0], 40, false⟩
noncomputable def ty83 : TyI := ⟨undOf (Try.prog.underlying 83), [(.i .i64 (.n (nat_lit 0))), (.i .i64 (.n (nat_lit 0))), .s0], 40, false⟩
noncomputable def ty84 : TyI := ⟨(TypeDesc.slice 86), [.s0], 24, false⟩
noncomputable def ty85 : TyI := ⟨undOf (Try.prog.underlying 85), [(.t 1), (.i .i64 (.n (nat_lit 0))), (.i .i64 (.n (nat_lit 0))), (.i .i64 (.n (nat_lit 0))), (.b false), (.i .i64 (.n (nat_lit 0))), (.i .i64 (.n (nat_lit 0)))], 64, false⟩
noncomputable def ty86 : TyI := ⟨undOf (Try.prog.underlying 86), [(.t 1), (.i .i64 (.n (nat_lit 0))), (.i .i64 (.n (nat_lit 0))), (.i .i64 (.n (nat_lit 0))), (.b false), (.i .i64 (.n (nat_lit 0))), (.i .i64 (.n (nat_lit 0)))], 64, false⟩
noncomputable def ty88 : TyI := ⟨(TypeDesc.func #[80, 50] #[3, 4] Bool.false), [.f0], 8, false⟩
noncomputable def ty90 : TyI := ⟨(TypeDesc.func #[9, 3, 3] #[3, 3] Bool.false), [.f0], 8, false⟩
noncomputable def ty91 : TyI := ⟨undOf (Try.prog.underlying 91), [(.i .i64 (.n (nat_lit 0))), (.i .i64 (.n (nat_lit 0))), (.t 1), (.i .i64 (.n (nat_lit 0)))], 40, false⟩
noncomputable def ty92 : TyI := ⟨undOf (Try.prog.underlying 92), [(.i .i64 (.n (nat_lit 0))), (.i .i64 (.n (nat_lit 0))), (.t 1), (.i .i64 (.n (nat_lit 0)))], 40, false⟩
noncomputable def ty94 : TyI := ⟨(TypeDesc.func #[9, 3, 3] #[92, 3, 33] Bool.false), [.f0], 8, false⟩
noncomputable def ty95 : TyI := ⟨(TypeDesc.func #[3, 9] #[4] Bool.false), [.f0], 8, false⟩
noncomputable def ty96 : TyI := ⟨(TypeDesc.func #[] #[9] Bool.false), [.f0], 8, false⟩
noncomputable def ty97 : TyI := ⟨undOf (Try.prog.underlying 97), [(.t 1), .s0], 40, false⟩
noncomputable def ty98 : TyI := ⟨undOf (Try.prog.underlying 98), [(.t 1), .s0], 40, false⟩
noncomputable def ty99 : TyI := ⟨(TypeDesc.func #[9] #[] Bool.false), [.f0], 8, false⟩
noncomputable def ty100 : TyI := ⟨(TypeDesc.func #[] #[49] Bool.false), [.f0], 8, false⟩
noncomputable def ty102 : TyI := ⟨(TypeDesc.func #[3] #[50, 3] Bool.false), [.f0], 8, false⟩
noncomputable def ty103 : TyI := ⟨(TypeDesc.slice 121), [.s0], 24, false⟩
noncomputable def ty104 : TyI := ⟨undOf (Try.prog.underlying 104), [(.i .i64 (.n (nat_lit 0))), (.i .i64 (.n (nat_lit 0))), (.i .i64 (.n (nat_lit 0))), (.t 1), (.t 1), (.i .i64 (.n (nat_lit 0))), (.i .i64 (.n (nat_lit 0))), .s0, (.t 1), (.i .i64 (.n (nat_lit 0))), .s0, .s0, .s0], 192, false⟩
noncomputable def ty105 : TyI := ⟨undOf (Try.prog.underlying 105), [(.i .i64 (.n (nat_lit 0))), (.i .i64 (.n (nat_lit 0))), (.i .i64 (.n (nat_lit 0))), (.t 1), (.t 1), (.i .i64 (.n (nat_lit 0))), (.i .i64 (.n (nat_lit 0))), .s0, (.t 1), (.i .i64 (.n (nat_lit 0))), .s0, .s0, .s0], 192, false⟩
noncomputable def ty106 : TyI := ⟨(TypeDesc.func #[33] #[] Bool.false), [.f0], 8, false⟩
noncomputable def ty107 : TyI := ⟨(TypeDesc.func #[3, 33] #[] Bool.false), [.f0], 8, false⟩
noncomputable def ty108 : TyI := ⟨(TypeDesc.func #[3, 86] #[3] Bool.false), [.f0], 8, false⟩
noncomputable def ty109 : TyI := ⟨(TypeDesc.func #[50] #[50] Bool.false), [.f0], 8, false⟩
noncomputable def ty110 : TyI := ⟨(TypeDesc.func #[80, 105] #[3, 4] Bool.false), [.f0], 8, false⟩
noncomputable def ty111 : TyI := ⟨(TypeDesc.func #[5] #[4] Bool.false), [.f0], 8, false⟩
noncomputable def ty112 : TyI := ⟨(TypeDesc.func #[9] #[4] Bool.false), [.f0], 8, false⟩
noncomputable def ty113 : TyI := ⟨(TypeDesc.func #[9, 3] #[9] Bool.false), [.f0], 8, false⟩
noncomputable def ty114 : TyI := ⟨(TypeDesc.func #[3] #[105] Bool.false), [.f0], 8, false⟩
noncomputable def ty115 : TyI := ⟨(TypeDesc.func #[9] #[3, 4] Bool.false), [.f0], 8, false⟩
noncomputable def ty116 : TyI := ⟨(TypeDesc.func #[105] #[105] Bool.false), [.f0], 8, false⟩
noncomputable def ty117 : TyI := ⟨(TypeDesc.func #[80, 3] #[] Bool.false), [.f0], 8, false⟩
noncomputable def ty118 : TyI := ⟨(TypeDesc.pointer 3), [.p0], 8, false⟩
noncomputable def ty119 : TyI := ⟨(TypeDesc.func #[80, 121] #[118] Bool.false), [.f0], 8, false⟩
noncomputable def ty120 : TyI := ⟨undOf (Try.prog.underlying 120), [(.i .i64 (.n (nat_lit 0))), (.i .i64 (.n (nat_lit 0))), (.i .i64 (.n (nat_lit 0))), (.t 1), (.t 1), .s0], 80, false⟩
noncomputable def ty121 : TyI := ⟨undOf (Try.prog.underlying 121), [(.i .i64 (.n (nat_lit 0))), (.i .i64 (.n (nat_lit 0))), (.i .i64 (.n (nat_lit 0))), (.t 1), (.t 1), .s0], 80, false⟩
noncomputable def ty122 : TyI := ⟨(TypeDesc.func #[80, 121] #[3] Bool.false), [.f0], 8, false⟩
noncomputable def ty123 : TyI := ⟨(TypeDesc.func #[80, 103] #[34] Bool.false), [.f0], 8, false⟩
noncomputable def ty124 : TyI := ⟨(TypeDesc.slice 5), [.s0], 24, false⟩
noncomputable def ty125 : TyI := ⟨(TypeDesc.func #[126] #[] Bool.false), [.f0], 8, false⟩
noncomputable def ty126 : TyI := ⟨(TypeDesc.pointer 105), [.p0], 8, false⟩
noncomputable def ty127 : TyI := ⟨(TypeDesc.func #[3, 3] #[121] Bool.false), [.f0], 8, false⟩
noncomputable def ty128 : TyI := ⟨(TypeDesc.func #[126, 4] #[] Bool.false), [.f0], 8, false⟩
noncomputable def ty129 : TyI := ⟨undOf (Try.prog.underlying 129), [(.i .i64 (.n (nat_lit 0))), (.i .i64 (.n (nat_lit 0))), (.i .i64 (.n (nat_lit 0)))], 24, false⟩
noncomputable def ty130 : TyI := ⟨undOf (Try.prog.underlying 130), [(.i .i64 (.n (nat_lit 0))), (.i .i64 (.n (nat_lit 0))), (.i .i64 (.n (nat_lit 0)))], 24, false⟩
noncomputable def ty131 : TyI := ⟨(TypeDesc.func #[103, 3] #[103] Bool.false), [.f0], 8, false⟩
noncomputable def ty132 : TyI := ⟨(TypeDesc.func #[145] #[] Bool.false), [.f0], 8, false⟩
noncomputable def ty133 : TyI := ⟨(TypeDesc.func #[145] #[] Bool.false), [.f0], 8, false⟩
noncomputable def ty134 : TyI := ⟨(TypeDesc.func #[54] #[133] Bool.false), [.f0], 8, false⟩
noncomputable def ty135 : TyI := ⟨(TypeDesc.func #[80] #[65] Bool.false), [.f0], 8, false⟩
noncomputable def ty136 : TyI := ⟨(TypeDesc.func #[4] #[3] Bool.false), [.f0], 8, false⟩
noncomputable def ty137 : TyI := ⟨(TypeDesc.func #[3, 3, 3] #[3] Bool.false), [.f0], 8, false⟩
noncomputable def ty139 : TyI := ⟨(TypeDesc.func #[80, 50] #[3, 4, 4] Bool.false), [.f0], 8, false⟩
noncomputable def ty140 : TyI := ⟨(TypeDesc.func #[3] #[121] Bool.false), [.f0], 8, false⟩
noncomputable def ty141 : TyI := ⟨(TypeDesc.func #[] #[3, 3] Bool.false), [.f0], 8, false⟩
noncomputable def ty142 : TyI := ⟨(TypeDesc.func #[] #[103] Bool.false), [.f0], 8, false⟩
noncomputable def ty143 : TyI := ⟨(TypeDesc.func #[121, 3] #[121] Bool.false), [.f0], 8, false⟩
noncomputable def ty144 : TyI := ⟨(TypeDesc.func #[30, 9] #[3, 4] Bool.false), [.f0], 8, false⟩
noncomputable def ty145 : TyI := ⟨(TypeDesc.func #[3, 80] #[4] Bool.false), [.f0], 8, false⟩
noncomputable def ty146 : TyI := ⟨(TypeDesc.func #[30, 3, 3] #[34] Bool.false), [.f0], 8, false⟩
noncomputable def ty147 : TyI := ⟨(TypeDesc.func #[34] #[34] Bool.false), [.f0], 8, false⟩
noncomputable def ty148 : TyI := ⟨undOf (Try.prog.underlying 148), [.p0, .p0, .p0, (.t 1)], 40, false⟩
noncomputable def ty149 : TyI := ⟨undOf (Try.prog.underlying 149), [.p0, .p0, .p0, (.t 1)], 40, false⟩
noncomputable def ty150 : TyI := ⟨(TypeDesc.array 0 16), [], 0, false⟩
noncomputable def ty151 : TyI := ⟨undOf (Try.prog.underlying 151), [], 0, false⟩
noncomputable def ty152 : TyI := ⟨undOf (Try.prog.underlying 152), [], 0, false⟩
noncomputable def ty153 : TyI := ⟨(TypeDesc.func #[] #[3] Bool.false), [.f0], 8, false⟩
noncomputable def ty154 : TyI := ⟨(TypeDesc.int IntKind.u32), [(.i .u32 (.n (nat_lit 0)))], 4, false⟩
noncomputable def ty155 : TyI := ⟨(TypeDesc.int IntKind.u8), [(.i .u8 (.n (nat_lit 0)))], 1, false⟩
noncomputable def ty156 : TyI := ⟨(TypeDesc.int IntKind.u8), [(.i .u8 (.n (nat_lit 0)))], 1, false⟩
noncomputable def ty157 : TyI := ⟨(TypeDesc.func #[163, 163] #[4] Bool.false), [.f0], 8, false⟩
noncomputable def ty158 : TyI := ⟨(TypeDesc.pointer 5), [.p0], 8, false⟩
noncomputable def ty159 : TyI := ⟨(TypeDesc.int IntKind.i32), [(.i .i32 (.n (nat_lit 0)))], 4, false⟩
noncomputable def ty160 : TyI := ⟨(TypeDesc.int IntKind.i32), [(.i .i32 (.n (nat_lit 0)))], 4, false⟩
noncomputable def ty161 : TyI := ⟨undOf (Try.prog.underlying 161), [(.i .u64 (.n (nat_lit 0))), (.i .u64 (.n (nat_lit 0))), (.i .u32 (.n (nat_lit 0))), (.i .u8 (.n (nat_lit 0))), (.i .u8 (.n (nat_lit 0))), (.i .u8 (.n (nat_lit 0))), (.i .u8 (.n (nat_lit 0))), .f0, .p0, (.i .i32 (.n (nat_lit 0))), (.i .i32 (.n (nat_lit 0)))], 48, false⟩
noncomputable def ty162 : TyI := ⟨undOf (Try.prog.underlying 162), [(.i .u64 (.n (nat_lit 0))), (.i .u64 (.n (nat_lit 0))), (.i .u32 (.n (nat_lit 0))), (.i .u8 (.n (nat_lit 0))), (.i .u8 (.n (nat_lit 0))), (.i .u8 (.n (nat_lit 0))), (.i .u8 (.n (nat_lit 0))), .f0, .p0, (.i .i32 (.n (nat_lit 0))), (.i .i32 (.n (nat_lit 0)))], 48, false⟩
theorem tyq1 : TyQ Try.prog 1 (some ty1) := ty_mk (zv := .nilFunc) Try.underlying1 (by kernel_rfl) (by kernel_rfl) (by kernel_rfl)
theorem tyq2 : TyQ Try.prog 2 (some ty2) := ty_mk (zv := .int .i64 0) Try.underlying2 (by kernel_rfl) (by kernel_rfl) (by kernel_rfl)
theorem tyq3 : TyQ Try.prog 3 (some ty3) := ty_mk (zv := .int .i64 0) Try.underlying3 (by kernel_rfl) (by kernel_rfl) (by kernel_rfl)
theorem tyq4 : TyQ Try.prog 4 (some ty4) := ty_mk (zv := .bool false) Try.underlying4 (by kernel_rfl) (by kernel_rfl) (by kernel_rfl)
theorem tyq5 : TyQ Try.prog 5 (some ty5) := ty_mk (zv := .int .u8 0) Try.underlying5 (by kernel_rfl) (by kernel_rfl) (by kernel_rfl)
theorem tyq6 : TyQ Try.prog 6 (some ty6) := ty_mk (zv := .int .u8 0) Try.underlying6 (by kernel_rfl) (by kernel_rfl) (by kernel_rfl)
theorem tyq7 : TyQ Try.prog 7 (some ty7) := ty_mk (zv := .agg #[.int .i64 0, .int .i64 0, .bool false, .int .u8 0]) (und_ok Try.underlying7) (by kernel_rfl) (by kernel_rfl) (by kernel_rfl)
theorem tyq8 : TyQ Try.prog 8 (some ty8) := ty_mk (zv := .agg #[.int .i64 0, .int .i64 0, .bool false, .int .u8 0]) (und_ok Try.underlying8) (by kernel_rfl) (by kernel_rfl) (by kernel_rfl)
theorem tyq9 : TyQ Try.prog 9 (some ty9) := ty_mkE (zv := .string ByteArray.empty) Try.underlying9 (by kernel_rfl) (by kernel_rfl) (by kernel_rfl) (by kernel_rfl) (by kernel_rfl) (by kernel_rfl)
theorem tyq10 : TyQ Try.prog 10 (some ty10) := ty_mk (zv := .string ByteArray.empty) Try.underlying10 (by kernel_rfl) (by kernel_rfl) (by kernel_rfl)
theorem tyq11 : TyQ Try.prog 11 (some ty11) := ty_mk (zv := .string ByteArray.empty) Try.underlying11 (by kernel_rfl) (by kernel_rfl) (by kernel_rfl)
theorem tyq12 : TyQ Try.prog 12 (some ty12) := ty_mk (zv := .int .u64 0) Try.underlying12 (by kernel_rfl) (by kernel_rfl) (by kernel_rfl)
theorem tyq13 : TyQ Try.prog 13 (some ty13) := ty_mk (zv := .agg #[.string ByteArray.empty, .int .u64 0]) (und_ok Try.underlying13) (by kernel_rfl) (by kernel_rfl) (by kernel_rfl)
theorem tyq14 : TyQ Try.prog 14 (some ty14) := ty_mk (zv := .agg #[.string ByteArray.empty, .int .u64 0]) (und_ok Try.underlying14) (by kernel_rfl) (by kernel_rfl) (by kernel_rfl)
theorem tyq15 : TyQ Try.prog 15 (some ty15) := ty_mk (zv := .pointer none) Try.underlying15 (by kernel_rfl) (by kernel_rfl) (by kernel_rfl)
theorem tyq16 : TyQ Try.prog 16 (some ty16) := ty_mk (zv := .pointer none) Try.underlying16 (by kernel_rfl) (by kernel_rfl) (by kernel_rfl)
theorem tyq17 : TyQ Try.prog 17 (some ty17) := ty_mk (zv := .pointer none) Try.underlying17 (by kernel_rfl) (by kernel_rfl) (by kernel_rfl)
theorem tyq18 : TyQ Try.prog 18 (some ty18) := ty_mk (zv := .agg #[.pointer none]) (und_ok Try.underlying18) (by kernel_rfl) (by kernel_rfl) (by kernel_rfl)
theorem tyq19 : TyQ Try.prog 19 (some ty19) := ty_mk (zv := .agg #[.pointer none]) (und_ok Try.underlying19) (by kernel_rfl) (by kernel_rfl) (by kernel_rfl)
theorem tyq20 : TyQ Try.prog 20 (some ty20) := ty_mk (zv := .nilIface) Try.underlying20 (by kernel_rfl) (by kernel_rfl) (by kernel_rfl)
theorem tyq21 : TyQ Try.prog 21 (some ty21) := ty_mk (zv := .int .i32 0) Try.underlying21 (by kernel_rfl) (by kernel_rfl) (by kernel_rfl)
theorem tyq22 : TyQ Try.prog 22 (some ty22) := ty_mk (zv := .nilFunc) Try.underlying22 (by kernel_rfl) (by kernel_rfl) (by kernel_rfl)
theorem tyq23 : TyQ Try.prog 23 (some ty23) := ty_mk (zv := .slice none 0 0) Try.underlying23 (by kernel_rfl) (by kernel_rfl) (by kernel_rfl)
theorem tyq24 : TyQ Try.prog 24 (some ty24) := ty_mk (zv := .slice none 0 0) Try.underlying24 (by kernel_rfl) (by kernel_rfl) (by kernel_rfl)
theorem tyq25 : TyQ Try.prog 25 (some ty25) := ty_mk (zv := .agg #[.slice none 0 0, .slice none 0 0]) (und_ok Try.underlying25) (by kernel_rfl) (by kernel_rfl) (by kernel_rfl)
theorem tyq26 : TyQ Try.prog 26 (some ty26) := ty_mk (zv := .agg #[.slice none 0 0, .slice none 0 0]) (und_ok Try.underlying26) (by kernel_rfl) (by kernel_rfl) (by kernel_rfl)
theorem tyq27 : TyQ Try.prog 27 (some ty27) := ty_mk (zv := .slice none 0 0) Try.underlying27 (by kernel_rfl) (by kernel_rfl) (by kernel_rfl)
theorem tyq28 : TyQ Try.prog 28 (some ty28) := ty_mk (zv := .slice none 0 0) Try.underlying28 (by kernel_rfl) (by kernel_rfl) (by kernel_rfl)
theorem tyq29 : TyQ Try.prog 29 (some ty29) := ty_mk (zv := .agg #[.slice none 0 0, .slice none 0 0, .slice none 0 0, .slice none 0 0]) (und_ok Try.underlying29) (by kernel_rfl) (by kernel_rfl) (by kernel_rfl)
theorem tyq30 : TyQ Try.prog 30 (some ty30) := ty_mk (zv := .agg #[.slice none 0 0, .slice none 0 0, .slice none 0 0, .slice none 0 0]) (und_ok Try.underlying30) (by kernel_rfl) (by kernel_rfl) (by kernel_rfl)
theorem tyq31 : TyQ Try.prog 31 (some ty31) := ty_mk (zv := .nilFunc) Try.underlying31 (by kernel_rfl) (by kernel_rfl) (by kernel_rfl)
theorem tyq32 : TyQ Try.prog 32 (some ty32) := ty_mk (zv := .slice none 0 0) Try.underlying32 (by kernel_rfl) (by kernel_rfl) (by kernel_rfl)
theorem tyq33 : TyQ Try.prog 33 (some ty33) := ty_mk (zv := .int .i64 0) Try.underlying33 (by kernel_rfl) (by kernel_rfl) (by kernel_rfl)
theorem tyq34 : TyQ Try.prog 34 (some ty34) := ty_mk (zv := .slice none 0 0) Try.underlying34 (by kernel_rfl) (by kernel_rfl) (by kernel_rfl)
theorem tyq35 : TyQ Try.prog 35 (some ty35) := ty_mk (zv := .agg #[.int .i64 0, .bool false, .int .i64 0, .slice none 0 0]) (und_ok Try.underlying35) (by kernel_rfl) (by kernel_rfl) (by kernel_rfl)
theorem tyq36 : TyQ Try.prog 36 (some ty36) := ty_mk (zv := .agg #[.int .i64 0, .bool false, .int .i64 0, .slice none 0 0]) (und_ok Try.underlying36) (by kernel_rfl) (by kernel_rfl) (by kernel_rfl)
theorem tyq38 : TyQ Try.prog 38 (some ty38) := ty_mk (zv := .nilFunc) Try.underlying38 (by kernel_rfl) (by kernel_rfl) (by kernel_rfl)
theorem tyq39 : TyQ Try.prog 39 (some ty39) := ty_mk (zv := .nilFunc) Try.underlying39 (by kernel_rfl) (by kernel_rfl) (by kernel_rfl)
theorem tyq40 : TyQ Try.prog 40 (some ty40) := ty_mk (zv := .nilFunc) Try.underlying40 (by kernel_rfl) (by kernel_rfl) (by kernel_rfl)
theorem tyq41 : TyQ Try.prog 41 (some ty41) := ty_mk (zv := .nilFunc) Try.underlying41 (by kernel_rfl) (by kernel_rfl) (by kernel_rfl)
theorem tyq42 : TyQ Try.prog 42 (some ty42) := ty_mk (zv := .nilFunc) Try.underlying42 (by kernel_rfl) (by kernel_rfl) (by kernel_rfl)
theorem tyq43 : TyQ Try.prog 43 (some ty43) := ty_mk (zv := .nilFunc) Try.underlying43 (by kernel_rfl) (by kernel_rfl) (by kernel_rfl)
theorem tyq44 : TyQ Try.prog 44 (some ty44) := ty_mk (zv := .nilFunc) Try.underlying44 (by kernel_rfl) (by kernel_rfl) (by kernel_rfl)
theorem tyq46 : TyQ Try.prog 46 (some ty46) := ty_mk (zv := .nilFunc) Try.underlying46 (by kernel_rfl) (by kernel_rfl) (by kernel_rfl)
theorem tyq48 : TyQ Try.prog 48 (some ty48) := ty_mk (zv := .nilFunc) Try.underlying48 (by kernel_rfl) (by kernel_rfl) (by kernel_rfl)
theorem tyq49 : TyQ Try.prog 49 (some ty49) := ty_mk (zv := .slice none 0 0) Try.underlying49 (by kernel_rfl) (by kernel_rfl) (by kernel_rfl)
theorem tyq50 : TyQ Try.prog 50 (some ty50) := ty_mk (zv := .slice none 0 0) Try.underlying50 (by kernel_rfl) (by kernel_rfl) (by kernel_rfl)
theorem tyq51 : TyQ Try.prog 51 (some ty51) := ty_mk (zv := .agg #[.string ByteArray.empty, .int .i64 0, .slice none 0 0, .slice none 0 0]) (und_ok Try.underlying51) (by kernel_rfl) (by kernel_rfl) (by kernel_rfl)
theorem tyq52 : TyQ Try.prog 52 (some ty52) := ty_mk (zv := .agg #[.string ByteArray.empty, .int .i64 0, .slice none 0 0, .slice none 0 0]) (und_ok Try.underlying52) (by kernel_rfl) (by kernel_rfl) (by kernel_rfl)
theorem tyq53 : TyQ Try.prog 53 (some ty53) := ty_mk (zv := .pointer none) Try.underlying53 (by kernel_rfl) (by kernel_rfl) (by kernel_rfl)
theorem tyq54 : TyQ Try.prog 54 (some ty54) := ty_mk (zv := .slice none 0 0) Try.underlying54 (by kernel_rfl) (by kernel_rfl) (by kernel_rfl)
theorem tyq55 : TyQ Try.prog 55 (some ty55) := ty_mk (zv := .agg #[.slice none 0 0, .slice none 0 0, .slice none 0 0, .slice none 0 0, .slice none 0 0, .int .i64 0, .int .i64 0, .int .i64 0, .int .i64 0, .slice none 0 0, .slice none 0 0]) (und_ok Try.underlying55) (by kernel_rfl) (by kernel_rfl) (by kernel_rfl)
theorem tyq56 : TyQ Try.prog 56 (some ty56) := ty_mk (zv := .agg #[.slice none 0 0, .slice none 0 0, .slice none 0 0, .slice none 0 0, .slice none 0 0, .int .i64 0, .int .i64 0, .int .i64 0, .int .i64 0, .slice none 0 0, .slice none 0 0]) (und_ok Try.underlying56) (by kernel_rfl) (by kernel_rfl) (by kernel_rfl)
theorem tyq57 : TyQ Try.prog 57 (some ty57) := ty_mk (zv := .int .i64 0) Try.underlying57 (by kernel_rfl) (by kernel_rfl) (by kernel_rfl)
theorem tyq58 : TyQ Try.prog 58 (some ty58) := ty_mk (zv := .int .i64 0) Try.underlying58 (by kernel_rfl) (by kernel_rfl) (by kernel_rfl)
theorem tyq59 : TyQ Try.prog 59 (some ty59) := ty_mk (zv := .nilFunc) Try.underlying59 (by kernel_rfl) (by kernel_rfl) (by kernel_rfl)
theorem tyq60 : TyQ Try.prog 60 (some ty60) := ty_mk (zv := .slice none 0 0) Try.underlying60 (by kernel_rfl) (by kernel_rfl) (by kernel_rfl)
theorem tyq61 : TyQ Try.prog 61 (some ty61) := ty_mk (zv := .agg #[.slice none 0 0]) (und_ok Try.underlying61) (by kernel_rfl) (by kernel_rfl) (by kernel_rfl)
theorem tyq62 : TyQ Try.prog 62 (some ty62) := ty_mk (zv := .agg #[.slice none 0 0]) (und_ok Try.underlying62) (by kernel_rfl) (by kernel_rfl) (by kernel_rfl)
theorem tyq63 : TyQ Try.prog 63 (some ty63) := ty_mk (zv := .slice none 0 0) Try.underlying63 (by kernel_rfl) (by kernel_rfl) (by kernel_rfl)
theorem tyq64 : TyQ Try.prog 64 (some ty64) := ty_mk (zv := .agg #[.int .i64 0, .int .i64 0, .slice none 0 0]) (und_ok Try.underlying64) (by kernel_rfl) (by kernel_rfl) (by kernel_rfl)
theorem tyq65 : TyQ Try.prog 65 (some ty65) := ty_mk (zv := .agg #[.int .i64 0, .int .i64 0, .slice none 0 0]) (und_ok Try.underlying65) (by kernel_rfl) (by kernel_rfl) (by kernel_rfl)
theorem tyq66 : TyQ Try.prog 66 (some ty66) := ty_mk (zv := .slice none 0 0) Try.underlying66 (by kernel_rfl) (by kernel_rfl) (by kernel_rfl)
theorem tyq67 : TyQ Try.prog 67 (some ty67) := ty_mk (zv := .agg #[.int .i64 0, .slice none 0 0, .slice none 0 0]) (und_ok Try.underlying67) (by kernel_rfl) (by kernel_rfl) (by kernel_rfl)
theorem tyq68 : TyQ Try.prog 68 (some ty68) := ty_mk (zv := .agg #[.int .i64 0, .slice none 0 0, .slice none 0 0]) (und_ok Try.underlying68) (by kernel_rfl) (by kernel_rfl) (by kernel_rfl)
theorem tyq69 : TyQ Try.prog 69 (some ty69) := ty_mk (zv := .slice none 0 0) Try.underlying69 (by kernel_rfl) (by kernel_rfl) (by kernel_rfl)
theorem tyq71 : TyQ Try.prog 71 (some ty71) := ty_mk (zv := .nilFunc) Try.underlying71 (by kernel_rfl) (by kernel_rfl) (by kernel_rfl)
theorem tyq72 : TyQ Try.prog 72 (some ty72) := ty_mk (zv := .pointer none) Try.underlying72 (by kernel_rfl) (by kernel_rfl) (by kernel_rfl)
theorem tyq73 : TyQ Try.prog 73 (some ty73) := ty_mk (zv := .agg #[.slice none 0 0, .int .i64 0, .int .i64 0, .int .i64 0]) (und_ok Try.underlying73) (by kernel_rfl) (by kernel_rfl) (by kernel_rfl)
theorem tyq74 : TyQ Try.prog 74 (some ty74) := ty_mk (zv := .agg #[.slice none 0 0, .int .i64 0, .int .i64 0, .int .i64 0]) (und_ok Try.underlying74) (by kernel_rfl) (by kernel_rfl) (by kernel_rfl)
theorem tyq75 : TyQ Try.prog 75 (some ty75) := ty_mk (zv := .nilFunc) Try.underlying75 (by kernel_rfl) (by kernel_rfl) (by kernel_rfl)
theorem tyq76 : TyQ Try.prog 76 (some ty76) := ty_mk (zv := .pointer none) Try.underlying76 (by kernel_rfl) (by kernel_rfl) (by kernel_rfl)
theorem tyq77 : TyQ Try.prog 77 (some ty77) := ty_mk (zv := .agg #[.slice none 0 0, .slice none 0 0, .slice none 0 0, .slice none 0 0, .int .i64 0, .slice none 0 0, .int .i64 0, .int .i64 0]) (und_ok Try.underlying77) (by kernel_rfl) (by kernel_rfl) (by kernel_rfl)
theorem tyq78 : TyQ Try.prog 78 (some ty78) := ty_mk (zv := .agg #[.slice none 0 0, .slice none 0 0, .slice none 0 0, .slice none 0 0, .int .i64 0, .slice none 0 0, .int .i64 0, .int .i64 0]) (und_ok Try.underlying78) (by kernel_rfl) (by kernel_rfl) (by kernel_rfl)
theorem tyq79 : TyQ Try.prog 79 (some ty79) := ty_mk (zv := .nilFunc) Try.underlying79 (by kernel_rfl) (by kernel_rfl) (by kernel_rfl)
theorem tyq80 : TyQ Try.prog 80 (some ty80) := ty_mk (zv := .pointer none) Try.underlying80 (by kernel_rfl) (by kernel_rfl) (by kernel_rfl)
theorem tyq81 : TyQ Try.prog 81 (some ty81) := ty_mk (zv := .slice none 0 0) Try.underlying81 (by kernel_rfl) (by kernel_rfl) (by kernel_rfl)
theorem tyq82 : TyQ Try.prog 82 (some ty82) := ty_mk (zv := .agg #[.int .i64 0, .int .i64 0, .slice none 0 0]) (und_ok Try.underlying82) (by kernel_rfl) (by kernel_rfl) (by kernel_rfl)
theorem tyq83 : TyQ Try.prog 83 (some ty83) := ty_mk (zv := .agg #[.int .i64 0, .int .i64 0, .slice none 0 0]) (und_ok Try.underlying83) (by kernel_rfl) (by kernel_rfl) (by kernel_rfl)
theorem tyq84 : TyQ Try.prog 84 (some ty84) := ty_mk (zv := .slice none 0 0) Try.underlying84 (by kernel_rfl) (by kernel_rfl) (by kernel_rfl)
theorem tyq85 : TyQ Try.prog 85 (some ty85) := ty_mk (zv := .agg #[.string ByteArray.empty, .int .i64 0, .int .i64 0, .int .i64 0, .bool false, .int .i64 0, .int .i64 0]) (und_ok Try.underlying85) (by kernel_rfl) (by kernel_rfl) (by kernel_rfl)
theorem tyq86 : TyQ Try.prog 86 (some ty86) := ty_mk (zv := .agg #[.string ByteArray.empty, .int .i64 0, .int .i64 0, .int .i64 0, .bool false, .int .i64 0, .int .i64 0]) (und_ok Try.underlying86) (by kernel_rfl) (by kernel_rfl) (by kernel_rfl)
theorem tyq88 : TyQ Try.prog 88 (some ty88) := ty_mk (zv := .nilFunc) Try.underlying88 (by kernel_rfl) (by kernel_rfl) (by kernel_rfl)
theorem tyq90 : TyQ Try.prog 90 (some ty90) := ty_mk (zv := .nilFunc) Try.underlying90 (by kernel_rfl) (by kernel_rfl) (by kernel_rfl)
theorem tyq91 : TyQ Try.prog 91 (some ty91) := ty_mk (zv := .agg #[.int .i64 0, .int .i64 0, .string ByteArray.empty, .int .i64 0]) (und_ok Try.underlying91) (by kernel_rfl) (by kernel_rfl) (by kernel_rfl)
theorem tyq92 : TyQ Try.prog 92 (some ty92) := ty_mk (zv := .agg #[.int .i64 0, .int .i64 0, .string ByteArray.empty, .int .i64 0]) (und_ok Try.underlying92) (by kernel_rfl) (by kernel_rfl) (by kernel_rfl)
theorem tyq94 : TyQ Try.prog 94 (some ty94) := ty_mk (zv := .nilFunc) Try.underlying94 (by kernel_rfl) (by kernel_rfl) (by kernel_rfl)
theorem tyq95 : TyQ Try.prog 95 (some ty95) := ty_mk (zv := .nilFunc) Try.underlying95 (by kernel_rfl) (by kernel_rfl) (by kernel_rfl)
theorem tyq96 : TyQ Try.prog 96 (some ty96) := ty_mk (zv := .nilFunc) Try.underlying96 (by kernel_rfl) (by kernel_rfl) (by kernel_rfl)
theorem tyq97 : TyQ Try.prog 97 (some ty97) := ty_mk (zv := .agg #[.string ByteArray.empty, .slice none 0 0]) (und_ok Try.underlying97) (by kernel_rfl) (by kernel_rfl) (by kernel_rfl)
theorem tyq98 : TyQ Try.prog 98 (some ty98) := ty_mk (zv := .agg #[.string ByteArray.empty, .slice none 0 0]) (und_ok Try.underlying98) (by kernel_rfl) (by kernel_rfl) (by kernel_rfl)
theorem tyq99 : TyQ Try.prog 99 (some ty99) := ty_mk (zv := .nilFunc) Try.underlying99 (by kernel_rfl) (by kernel_rfl) (by kernel_rfl)
theorem tyq100 : TyQ Try.prog 100 (some ty100) := ty_mk (zv := .nilFunc) Try.underlying100 (by kernel_rfl) (by kernel_rfl) (by kernel_rfl)
theorem tyq102 : TyQ Try.prog 102 (some ty102) := ty_mk (zv := .nilFunc) Try.underlying102 (by kernel_rfl) (by kernel_rfl) (by kernel_rfl)
theorem tyq103 : TyQ Try.prog 103 (some ty103) := ty_mk (zv := .slice none 0 0) Try.underlying103 (by kernel_rfl) (by kernel_rfl) (by kernel_rfl)
theorem tyq104 : TyQ Try.prog 104 (some ty104) := ty_mk (zv := .agg #[.int .i64 0, .int .i64 0, .int .i64 0, .string ByteArray.empty, .string ByteArray.empty, .int .i64 0, .int .i64 0, .slice none 0 0, .string ByteArray.empty, .int .i64 0, .slice none 0 0, .slice none 0 0, .slice none 0 0]) (und_ok Try.underlying104) (by kernel_rfl) (by kernel_rfl) (by kernel_rfl)
theorem tyq105 : TyQ Try.prog 105 (some ty105) := ty_mk (zv := .agg #[.int .i64 0, .int .i64 0, .int .i64 0, .string ByteArray.empty, .string ByteArray.empty, .int .i64 0, .int .i64 0, .slice none 0 0, .string ByteArray.empty, .int .i64 0, .slice none 0 0, .slice none 0 0, .slice none 0 0]) (und_ok Try.underlying105) (by kernel_rfl) (by kernel_rfl) (by kernel_rfl)
theorem tyq106 : TyQ Try.prog 106 (some ty106) := ty_mk (zv := .nilFunc) Try.underlying106 (by kernel_rfl) (by kernel_rfl) (by kernel_rfl)
theorem tyq107 : TyQ Try.prog 107 (some ty107) := ty_mk (zv := .nilFunc) Try.underlying107 (by kernel_rfl) (by kernel_rfl) (by kernel_rfl)
theorem tyq108 : TyQ Try.prog 108 (some ty108) := ty_mk (zv := .nilFunc) Try.underlying108 (by kernel_rfl) (by kernel_rfl) (by kernel_rfl)
theorem tyq109 : TyQ Try.prog 109 (some ty109) := ty_mk (zv := .nilFunc) Try.underlying109 (by kernel_rfl) (by kernel_rfl) (by kernel_rfl)
theorem tyq110 : TyQ Try.prog 110 (some ty110) := ty_mk (zv := .nilFunc) Try.underlying110 (by kernel_rfl) (by kernel_rfl) (by kernel_rfl)
theorem tyq111 : TyQ Try.prog 111 (some ty111) := ty_mk (zv := .nilFunc) Try.underlying111 (by kernel_rfl) (by kernel_rfl) (by kernel_rfl)
theorem tyq112 : TyQ Try.prog 112 (some ty112) := ty_mk (zv := .nilFunc) Try.underlying112 (by kernel_rfl) (by kernel_rfl) (by kernel_rfl)
theorem tyq113 : TyQ Try.prog 113 (some ty113) := ty_mk (zv := .nilFunc) Try.underlying113 (by kernel_rfl) (by kernel_rfl) (by kernel_rfl)
theorem tyq114 : TyQ Try.prog 114 (some ty114) := ty_mk (zv := .nilFunc) Try.underlying114 (by kernel_rfl) (by kernel_rfl) (by kernel_rfl)
theorem tyq115 : TyQ Try.prog 115 (some ty115) := ty_mk (zv := .nilFunc) Try.underlying115 (by kernel_rfl) (by kernel_rfl) (by kernel_rfl)
theorem tyq116 : TyQ Try.prog 116 (some ty116) := ty_mk (zv := .nilFunc) Try.underlying116 (by kernel_rfl) (by kernel_rfl) (by kernel_rfl)
theorem tyq117 : TyQ Try.prog 117 (some ty117) := ty_mk (zv := .nilFunc) Try.underlying117 (by kernel_rfl) (by kernel_rfl) (by kernel_rfl)
theorem tyq118 : TyQ Try.prog 118 (some ty118) := ty_mk (zv := .pointer none) Try.underlying118 (by kernel_rfl) (by kernel_rfl) (by kernel_rfl)
theorem tyq119 : TyQ Try.prog 119 (some ty119) := ty_mk (zv := .nilFunc) Try.underlying119 (by kernel_rfl) (by kernel_rfl) (by kernel_rfl)
theorem tyq120 : TyQ Try.prog 120 (some ty120) := ty_mk (zv := .agg #[.int .i64 0, .int .i64 0, .int .i64 0, .string ByteArray.empty, .string ByteArray.empty, .slice none 0 0]) (und_ok Try.underlying120) (by kernel_rfl) (by kernel_rfl) (by kernel_rfl)
theorem tyq121 : TyQ Try.prog 121 (some ty121) := ty_mk (zv := .agg #[.int .i64 0, .int .i64 0, .int .i64 0, .string ByteArray.empty, .string ByteArray.empty, .slice none 0 0]) (und_ok Try.underlying121) (by kernel_rfl) (by kernel_rfl) (by kernel_rfl)
theorem tyq122 : TyQ Try.prog 122 (some ty122) := ty_mk (zv := .nilFunc) Try.underlying122 (by kernel_rfl) (by kernel_rfl) (by kernel_rfl)
theorem tyq123 : TyQ Try.prog 123 (some ty123) := ty_mk (zv := .nilFunc) Try.underlying123 (by kernel_rfl) (by kernel_rfl) (by kernel_rfl)
theorem tyq124 : TyQ Try.prog 124 (some ty124) := ty_mk (zv := .slice none 0 0) Try.underlying124 (by kernel_rfl) (by kernel_rfl) (by kernel_rfl)
theorem tyq125 : TyQ Try.prog 125 (some ty125) := ty_mk (zv := .nilFunc) Try.underlying125 (by kernel_rfl) (by kernel_rfl) (by kernel_rfl)
theorem tyq126 : TyQ Try.prog 126 (some ty126) := ty_mk (zv := .pointer none) Try.underlying126 (by kernel_rfl) (by kernel_rfl) (by kernel_rfl)
theorem tyq127 : TyQ Try.prog 127 (some ty127) := ty_mk (zv := .nilFunc) Try.underlying127 (by kernel_rfl) (by kernel_rfl) (by kernel_rfl)
theorem tyq128 : TyQ Try.prog 128 (some ty128) := ty_mk (zv := .nilFunc) Try.underlying128 (by kernel_rfl) (by kernel_rfl) (by kernel_rfl)
theorem tyq129 : TyQ Try.prog 129 (some ty129) := ty_mk (zv := .agg #[.int .i64 0, .int .i64 0, .int .i64 0]) (und_ok Try.underlying129) (by kernel_rfl) (by kernel_rfl) (by kernel_rfl)
theorem tyq130 : TyQ Try.prog 130 (some ty130) := ty_mk (zv := .agg #[.int .i64 0, .int .i64 0, .int .i64 0]) (und_ok Try.underlying130) (by kernel_rfl) (by kernel_rfl) (by kernel_rfl)
theorem tyq131 : TyQ Try.prog 131 (some ty131) := ty_mk (zv := .nilFunc) Try.underlying131 (by kernel_rfl) (by kernel_rfl) (by kernel_rfl)
theorem tyq132 : TyQ Try.prog 132 (some ty132) := ty_mk (zv := .nilFunc) Try.underlying132 (by kernel_rfl) (by kernel_rfl) (by kernel_rfl)
theorem tyq133 : TyQ Try.prog 133 (some ty133) := ty_mk (zv := .nilFunc) Try.underlying133 (by kernel_rfl) (by kernel_rfl) (by kernel_rfl)
theorem tyq134 : TyQ Try.prog 134 (some ty134) := ty_mk (zv := .nilFunc) Try.underlying134 (by kernel_rfl) (by kernel_rfl) (by kernel_rfl)
theorem tyq135 : TyQ Try.prog 135 (some ty135) := ty_mk (zv := .nilFunc) Try.underlying135 (by kernel_rfl) (by kernel_rfl) (by kernel_rfl)
theorem tyq136 : TyQ Try.prog 136 (some ty136) := ty_mk (zv := .nilFunc) Try.underlying136 (by kernel_rfl) (by kernel_rfl) (by kernel_rfl)
theorem tyq137 : TyQ Try.prog 137 (some ty137) := ty_mk (zv := .nilFunc) Try.underlying137 (by kernel_rfl) (by kernel_rfl) (by kernel_rfl)
theorem tyq139 : TyQ Try.prog 139 (some ty139) := ty_mk (zv := .nilFunc) Try.underlying139 (by kernel_rfl) (by kernel_rfl) (by kernel_rfl)
theorem tyq140 : TyQ Try.prog 140 (some ty140) := ty_mk (zv := .nilFunc) Try.underlying140 (by kernel_rfl) (by kernel_rfl) (by kernel_rfl)
theorem tyq141 : TyQ Try.prog 141 (some ty141) := ty_mk (zv := .nilFunc) Try.underlying141 (by kernel_rfl) (by kernel_rfl) (by kernel_rfl)
theorem tyq142 : TyQ Try.prog 142 (some ty142) := ty_mk (zv := .nilFunc) Try.underlying142 (by kernel_rfl) (by kernel_rfl) (by kernel_rfl)
theorem tyq143 : TyQ Try.prog 143 (some ty143) := ty_mk (zv := .nilFunc) Try.underlying143 (by kernel_rfl) (by kernel_rfl) (by kernel_rfl)
theorem tyq144 : TyQ Try.prog 144 (some ty144) := ty_mk (zv := .nilFunc) Try.underlying144 (by kernel_rfl) (by kernel_rfl) (by kernel_rfl)
theorem tyq145 : TyQ Try.prog 145 (some ty145) := ty_mk (zv := .nilFunc) Try.underlying145 (by kernel_rfl) (by kernel_rfl) (by kernel_rfl)
theorem tyq146 : TyQ Try.prog 146 (some ty146) := ty_mk (zv := .nilFunc) Try.underlying146 (by kernel_rfl) (by kernel_rfl) (by kernel_rfl)
theorem tyq147 : TyQ Try.prog 147 (some ty147) := ty_mk (zv := .nilFunc) Try.underlying147 (by kernel_rfl) (by kernel_rfl) (by kernel_rfl)
theorem tyq148 : TyQ Try.prog 148 (some ty148) := ty_mk (zv := .agg #[.pointer none, .pointer none, .pointer none, .string ByteArray.empty]) (und_ok Try.underlying148) (by kernel_rfl) (by kernel_rfl) (by kernel_rfl)
theorem tyq149 : TyQ Try.prog 149 (some ty149) := ty_mk (zv := .agg #[.pointer none, .pointer none, .pointer none, .string ByteArray.empty]) (und_ok Try.underlying149) (by kernel_rfl) (by kernel_rfl) (by kernel_rfl)
theorem tyq150 : TyQ Try.prog 150 (some ty150) := ty_mk (zv := .agg #[]) Try.underlying150 (by kernel_rfl) (by kernel_rfl) (by kernel_rfl)
theorem tyq151 : TyQ Try.prog 151 (some ty151) := ty_mk (zv := .agg #[]) (und_ok Try.underlying151) (by kernel_rfl) (by kernel_rfl) (by kernel_rfl)
theorem tyq152 : TyQ Try.prog 152 (some ty152) := ty_mk (zv := .agg #[]) (und_ok Try.underlying152) (by kernel_rfl) (by kernel_rfl) (by kernel_rfl)
theorem tyq153 : TyQ Try.prog 153 (some ty153) := ty_mk (zv := .nilFunc) Try.underlying153 (by kernel_rfl) (by kernel_rfl) (by kernel_rfl)
theorem tyq154 : TyQ Try.prog 154 (some ty154) := ty_mk (zv := .int .u32 0) Try.underlying154 (by kernel_rfl) (by kernel_rfl) (by kernel_rfl)
theorem tyq155 : TyQ Try.prog 155 (some ty155) := ty_mk (zv := .int .u8 0) Try.underlying155 (by kernel_rfl) (by kernel_rfl) (by kernel_rfl)
theorem tyq156 : TyQ Try.prog 156 (some ty156) := ty_mk (zv := .int .u8 0) Try.underlying156 (by kernel_rfl) (by kernel_rfl) (by kernel_rfl)
theorem tyq157 : TyQ Try.prog 157 (some ty157) := ty_mk (zv := .nilFunc) Try.underlying157 (by kernel_rfl) (by kernel_rfl) (by kernel_rfl)
theorem tyq158 : TyQ Try.prog 158 (some ty158) := ty_mk (zv := .pointer none) Try.underlying158 (by kernel_rfl) (by kernel_rfl) (by kernel_rfl)
theorem tyq159 : TyQ Try.prog 159 (some ty159) := ty_mk (zv := .int .i32 0) Try.underlying159 (by kernel_rfl) (by kernel_rfl) (by kernel_rfl)
theorem tyq160 : TyQ Try.prog 160 (some ty160) := ty_mk (zv := .int .i32 0) Try.underlying160 (by kernel_rfl) (by kernel_rfl) (by kernel_rfl)
theorem tyq161 : TyQ Try.prog 161 (some ty161) := ty_mk (zv := .agg #[.int .u64 0, .int .u64 0, .int .u32 0, .int .u8 0, .int .u8 0, .int .u8 0, .int .u8 0, .nilFunc, .pointer none, .int .i32 0, .int .i32 0]) (und_ok Try.underlying161) (by kernel_rfl) (by kernel_rfl) (by kernel_rfl)
theorem tyq162 : TyQ Try.prog 162 (some ty162) := ty_mk (zv := .agg #[.int .u64 0, .int .u64 0, .int .u32 0, .int .u8 0, .int .u8 0, .int .u8 0, .int .u8 0, .nilFunc, .pointer none, .int .i32 0, .int .i32 0]) (und_ok Try.underlying162) (by kernel_rfl) (by kernel_rfl) (by kernel_rfl)
noncomputable def tys : T (Option TyI) := (.n (.n (.n (.n (.n (.n (.n (.n .e (some ty127) .e) (some ty63) .e) (some ty31) (.n (.n .e (some ty159) .e) (some ty95) .e)) (some ty15) (.n (.n (.n .e (some ty143) .e) (some ty79) .e) none (.n .e (some ty111) .e))) (some ty7) (.n (.n (.n (.n .e (some ty135) .e) (some ty71) .e) (some ty39) (.n .e (some ty103) .e)) (some ty23) (.n (.n (.n .e (some ty151) .e) none .e) (some ty55) (.n .e (some ty119) .e)))) (some ty3) (.n (.n (.n (.n (.n .e (some ty131) .e) (some ty67) .e) (some ty35) (.n .e (some ty99) .e)) (some ty19) (.n (.n (.n .e (some ty147) .e) (some ty83) .e) (some ty51) (.n .e (some ty115) .e))) (some ty11) (.n (.n (.n (.n .e (some ty139) .e) (some ty75) .e) (some ty43) (.n .e (some ty107) .e)) (some ty27) (.n (.n (.n .e (some ty155) .e) (some ty91) .e) (some ty59) (.n .e (some ty123) .e))))) (some ty1) (.n (.n (.n (.n (.n (.n .e (some ty129) .e) (some ty65) .e) (some ty33) (.n (.n .e (some ty161) .e) (some ty97) .e)) (some ty17) (.n (.n (.n .e (some ty145) .e) (some ty81) .e) (some ty49) (.n .e (some ty113) .e))) (some ty9) (.n (.n (.n (.n .e (some ty137) .e) (some ty73) .e) (some ty41) (.n .e (some ty105) .e)) (some ty25) (.n (.n (.n .e (some ty153) .e) none .e) (some ty57) (.n .e (some ty121) .e)))) (some ty5) (.n (.n (.n (.n (.n .e (some ty133) .e) (some ty69) .e) none .e) (some ty21) (.n (.n (.n .e (some ty149) .e) (some ty85) .e) (some ty53) (.n .e (some ty117) .e))) (some ty13) (.n (.n (.n (.n .e (some ty141) .e) (some ty77) .e) none (.n .e (some ty109) .e)) (some ty29) (.n (.n (.n .e (some ty157) .e) none .e) (some ty61) (.n .e (some ty125) .e)))))) none (.n (.n (.n (.n (.n (.n (.n .e (some ty128) .e) (some ty64) .e) (some ty32) (.n (.n .e (some ty160) .e) (some ty96) .e)) (some ty16) (.n (.n (.n .e (some ty144) .e) (some ty80) .e) (some ty48) (.n .e (some ty112) .e))) (some ty8) (.n (.n (.n (.n .e (some ty136) .e) (some ty72) .e) (some ty40) (.n .e (some ty104) .e)) (some ty24) (.n (.n (.n .e (some ty152) .e) (some ty88) .e) (some ty56) (.n .e (some ty120) .e)))) (some ty4) (.n (.n (.n (.n (.n .e (some ty132) .e) (some ty68) .e) (some ty36) (.n .e (some ty100) .e)) (some ty20) (.n (.n (.n .e (some ty148) .e) (some ty84) .e) (some ty52) (.n .e (some ty116) .e))) (some ty12) (.n (.n (.n (.n .e (some ty140) .e) (some ty76) .e) (some ty44) (.n .e (some ty108) .e)) (some ty28) (.n (.n (.n .e (some ty156) .e) (some ty92) .e) (some ty60) (.n .e (some ty124) .e))))) (some ty2) (.n (.n (.n (.n (.n (.n .e (some ty130) .e) (some ty66) .e) (some ty34) (.n (.n .e (some ty162) .e) (some ty98) .e)) (some ty18) (.n (.n (.n .e (some ty146) .e) (some ty82) .e) (some ty50) (.n .e (some ty114) .e))) (some ty10) (.n (.n (.n .e (some ty74) .e) (some ty42) (.n .e (some ty106) .e)) (some ty26) (.n (.n (.n .e (some ty154) .e) (some ty90) .e) (some ty58) (.n .e (some ty122) .e)))) (some ty6) (.n (.n (.n (.n (.n .e (some ty134) .e) none .e) (some ty38) (.n .e (some ty102) .e)) (some ty22) (.n (.n (.n .e (some ty150) .e) (some ty86) .e) (some ty54) (.n .e (some ty118) .e))) (some ty14) (.n (.n (.n (.n .e (some ty142) .e) (some ty78) .e) (some ty46) (.n .e (some ty110) .e)) (some ty30) (.n (.n (.n .e (some ty158) .e) (some ty94) .e) (some ty62) (.n .e (some ty126) .e)))))))
theorem tys_ok : tys.All (TyQ Try.prog) := (all_n trivial (all_n tyq1 (all_n tyq3 (all_n tyq7 (all_n tyq15 (all_n tyq31 (all_n tyq63 (all_n tyq127 all_e all_e) all_e) (all_n tyq95 (all_n tyq159 all_e all_e) all_e)) (all_n trivial (all_n tyq79 (all_n tyq143 all_e all_e) all_e) (all_n tyq111 all_e all_e))) (all_n tyq23 (all_n tyq39 (all_n tyq71 (all_n tyq135 all_e all_e) all_e) (all_n tyq103 all_e all_e)) (all_n tyq55 (all_n trivial (all_n tyq151 all_e all_e) all_e) (all_n tyq119 all_e all_e)))) (all_n tyq11 (all_n tyq19 (all_n tyq35 (all_n tyq67 (all_n tyq131 all_e all_e) all_e) (all_n tyq99 all_e all_e)) (all_n tyq51 (all_n tyq83 (all_n tyq147 all_e all_e) all_e) (all_n tyq115 all_e all_e))) (all_n tyq27 (all_n tyq43 (all_n tyq75 (all_n tyq139 all_e all_e) all_e) (all_n tyq107 all_e all_e)) (all_n tyq59 (all_n tyq91 (all_n tyq155 all_e all_e) all_e) (all_n tyq123 all_e all_e))))) (all_n tyq5 (all_n tyq9 (all_n tyq17 (all_n tyq33 (all_n tyq65 (all_n tyq129 all_e all_e) all_e) (all_n tyq97 (all_n tyq161 all_e all_e) all_e)) (all_n tyq49 (all_n tyq81 (all_n tyq145 all_e all_e) all_e) (all_n tyq113 all_e all_e))) (all_n tyq25 (all_n tyq41 (all_n tyq73 (all_n tyq137 all_e all_e) all_e) (all_n tyq105 all_e all_e)) (all_n tyq57 (all_n trivial (all_n tyq153 all_e all_e) all_e) (all_n tyq121 all_e all_e)))) (all_n tyq13 (all_n tyq21 (all_n trivial (all_n tyq69 (all_n tyq133 all_e all_e) all_e) all_e) (all_n tyq53 (all_n tyq85 (all_n tyq149 all_e all_e) all_e) (all_n tyq117 all_e all_e))) (all_n tyq29 (all_n trivial (all_n tyq77 (all_n tyq141 all_e all_e) all_e) (all_n tyq109 all_e all_e)) (all_n tyq61 (all_n trivial (all_n tyq157 all_e all_e) all_e) (all_n tyq125 all_e all_e)))))) (all_n tyq2 (all_n tyq4 (all_n tyq8 (all_n tyq16 (all_n tyq32 (all_n tyq64 (all_n tyq128 all_e all_e) all_e) (all_n tyq96 (all_n tyq160 all_e all_e) all_e)) (all_n tyq48 (all_n tyq80 (all_n tyq144 all_e all_e) all_e) (all_n tyq112 all_e all_e))) (all_n tyq24 (all_n tyq40 (all_n tyq72 (all_n tyq136 all_e all_e) all_e) (all_n tyq104 all_e all_e)) (all_n tyq56 (all_n tyq88 (all_n tyq152 all_e all_e) all_e) (all_n tyq120 all_e all_e)))) (all_n tyq12 (all_n tyq20 (all_n tyq36 (all_n tyq68 (all_n tyq132 all_e all_e) all_e) (all_n tyq100 all_e all_e)) (all_n tyq52 (all_n tyq84 (all_n tyq148 all_e all_e) all_e) (all_n tyq116 all_e all_e))) (all_n tyq28 (all_n tyq44 (all_n tyq76 (all_n tyq140 all_e all_e) all_e) (all_n tyq108 all_e all_e)) (all_n tyq60 (all_n tyq92 (all_n tyq156 all_e all_e) all_e) (all_n tyq124 all_e all_e))))) (all_n tyq6 (all_n tyq10 (all_n tyq18 (all_n tyq34 (all_n tyq66 (all_n tyq130 all_e all_e) all_e) (all_n tyq98 (all_n tyq162 all_e all_e) all_e)) (all_n tyq50 (all_n tyq82 (all_n tyq146 all_e all_e) all_e) (all_n tyq114 all_e all_e))) (all_n tyq26 (all_n tyq42 (all_n tyq74 all_e all_e) (all_n tyq106 all_e all_e)) (all_n tyq58 (all_n tyq90 (all_n tyq154 all_e all_e) all_e) (all_n tyq122 all_e all_e)))) (all_n tyq14 (all_n tyq22 (all_n tyq38 (all_n trivial (all_n tyq134 all_e all_e) all_e) (all_n tyq102 all_e all_e)) (all_n tyq54 (all_n tyq86 (all_n tyq150 all_e all_e) all_e) (all_n tyq118 all_e all_e))) (all_n tyq30 (all_n tyq46 (all_n tyq78 (all_n tyq142 all_e all_e) all_e) (all_n tyq110 all_e all_e)) (all_n tyq62 (all_n tyq94 (all_n tyq158 all_e all_e) all_e) (all_n tyq126 all_e all_e)))))))
end
end Go.Proofs.Ytiffdbdglpabjaa
