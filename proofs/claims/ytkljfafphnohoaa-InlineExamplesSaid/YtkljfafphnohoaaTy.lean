/- The table of types, and that it is true. -/
import Derived.Test.YtkljfafphnohoaaRows
import Derived.Test.YtkljfafphnohoaaE27
set_option linter.unusedVariables false
set_option maxRecDepth 100000
namespace Go.Proofs.Ytkljfafphnohoaa
open Go.Ev
noncomputable section
noncomputable def ty1 : TyI := ⟨(TypeDesc.func #[] #[] Bool.false), [.f0], 8, false⟩
noncomputable def ty2 : TyI := ⟨(TypeDesc.int IntKind.i64), [(.i .i64 (.n (nat_lit 0)))], 8, false⟩
noncomputable def ty3 : TyI := ⟨(TypeDesc.int IntKind.i64), [(.i .i64 (.n (nat_lit 0)))], 8, true⟩
noncomputable def ty4 : TyI := ⟨TypeDesc.bool, [(.b false)], 1, false⟩
noncomputable def ty5 : TyI := ⟨(TypeDesc.int IntKind.u8), [(.i .u8 (.n (nat_lit 0)))], 1, false⟩
noncomputable def ty6 : TyI := ⟨(TypeDesc.int IntKind.u8), [(.i .u8 (.n (nat_lit 0)))], 1, false⟩
noncomputable def ty7 : TyI := ⟨undOf (Try.prog.underlying 7), [(.i .i64 (.n (nat_lit 0))), (.i .i64 (.n (nat_lit 0))), (.b false), (.i .u8 (.n (nat_lit 0)))], 24, false⟩
noncomputable def ty8 : TyI := ⟨undOf (Try.prog.underlying 8), [(.i .i64 (.n (nat_lit 0))), (.i .i64 (.n (nat_lit 0))), (.b false), (.i .u8 (.n (nat_lit 0)))], 24, false⟩
noncomputable def ty9 : TyI := ⟨TypeDesc.string, [(.t 1)], 16, false⟩
noncomputable def ty10 : TyI := ⟨TypeDesc.string, [(.t 1)], 16, false⟩
noncomputable def ty11 : TyI := ⟨TypeDesc.string, [(.t 1)], 16, false⟩
noncomputable def ty12 : TyI := ⟨(TypeDesc.int IntKind.u64), [(.i .u64 (.n (nat_lit 0)))], 8, false⟩
noncomputable def ty13 : TyI := ⟨undOf (Try.prog.underlying 13), [(.t 1), (.i .u64 (.n (nat_lit 0)))], 24, false⟩
noncomputable def ty14 : TyI := ⟨undOf (Try.prog.underlying 14), [(.t 1), (.i .u64 (.n (nat_lit 0)))], 24, false⟩
noncomputable def ty15 : TyI := ⟨(TypeDesc.pointer 286), [.p0], 8, false⟩
noncomputable def ty16 : TyI := ⟨(TypeDesc.pointer 289), [.p0], 8, false⟩
noncomputable def ty17 : TyI := ⟨(TypeDesc.pointer 298), [.p0], 8, false⟩
noncomputable def ty18 : TyI := ⟨undOf (Try.prog.underlying 18), [.p0], 8, false⟩
noncomputable def ty19 : TyI := ⟨undOf (Try.prog.underlying 19), [.p0], 8, false⟩
noncomputable def ty20 : TyI := ⟨(TypeDesc.interface #[]), [.q0], 16, false⟩
noncomputable def ty21 : TyI := ⟨(TypeDesc.int IntKind.i32), [(.i .i32 (.n (nat_lit 0)))], 4, false⟩
noncomputable def ty22 : TyI := ⟨(TypeDesc.int IntKind.i64), [(.i .i64 (.n (nat_lit 0)))], 8, false⟩
noncomputable def ty23 : TyI := ⟨undOf (Try.prog.underlying 23), [(.t 1), (.i .i64 (.n (nat_lit 0)))], 24, false⟩
noncomputable def ty24 : TyI := ⟨(TypeDesc.slice 23), [.s0], 24, false⟩
noncomputable def ty25 : TyI := ⟨(TypeDesc.func #[3, 3] #[3] Bool.false), [.f0], 8, false⟩
noncomputable def ty26 : TyI := ⟨(TypeDesc.slice 129), [.s0], 24, false⟩
noncomputable def ty27 : TyI := ⟨(TypeDesc.slice 134), [.s0], 24, false⟩
noncomputable def ty28 : TyI := ⟨undOf (Try.prog.underlying 28), [.s0, .s0], 48, false⟩
noncomputable def ty29 : TyI := ⟨undOf (Try.prog.underlying 29), [.s0, .s0], 48, false⟩
noncomputable def ty31 : TyI := ⟨(TypeDesc.func #[9] #[29, 3, 22] Bool.false), [.f0], 8, false⟩
noncomputable def ty32 : TyI := ⟨(TypeDesc.slice 63), [.s0], 24, false⟩
noncomputable def ty33 : TyI := ⟨(TypeDesc.slice 253), [.s0], 24, false⟩
noncomputable def ty34 : TyI := ⟨undOf (Try.prog.underlying 34), [.s0, .s0, .s0, .s0], 96, false⟩
noncomputable def ty35 : TyI := ⟨undOf (Try.prog.underlying 35), [.s0, .s0, .s0, .s0], 96, false⟩
noncomputable def ty37 : TyI := ⟨(TypeDesc.func #[29] #[35, 3, 22] Bool.false), [.f0], 8, false⟩
noncomputable def ty38 : TyI := ⟨(TypeDesc.func #[] #[4] Bool.false), [.f0], 8, false⟩
noncomputable def ty39 : TyI := ⟨(TypeDesc.func #[3, 3] #[4] Bool.false), [.f0], 8, false⟩
noncomputable def ty40 : TyI := ⟨(TypeDesc.slice 50), [.s0], 24, false⟩
noncomputable def ty41 : TyI := ⟨undOf (Try.prog.underlying 41), [.s0], 24, false⟩
noncomputable def ty42 : TyI := ⟨undOf (Try.prog.underlying 42), [.s0], 24, false⟩
noncomputable def ty44 : TyI := ⟨(TypeDesc.func #[35] #[42, 22] Bool.false), [.f0], 8, false⟩
noncomputable def ty45 : TyI := ⟨(TypeDesc.func #[9] #[35] Bool.false), [.f0], 8, false⟩
noncomputable def ty46 : TyI := ⟨(TypeDesc.slice 59), [.s0], 24, false⟩
noncomputable def ty47 : TyI := ⟨(TypeDesc.slice 113), [.s0], 24, false⟩
noncomputable def ty48 : TyI := ⟨(TypeDesc.slice 145), [.s0], 24, false⟩
noncomputable def ty49 : TyI := ⟨undOf (Try.prog.underlying 49), [(.i .i64 (.n (nat_lit 0))), .s0, .s0, .s0], 80, false⟩
noncomputable def ty50 : TyI := ⟨undOf (Try.prog.underlying 50), [(.i .i64 (.n (nat_lit 0))), .s0, .s0, .s0], 80, false⟩
noncomputable def ty51 : TyI := ⟨(TypeDesc.slice 109), [.s0], 24, false⟩
noncomputable def ty52 : TyI := ⟨(TypeDesc.slice 3), [.s0], 24, false⟩
noncomputable def ty53 : TyI := ⟨undOf (Try.prog.underlying 53), [(.i .i64 (.n (nat_lit 0))), .s0], 32, false⟩
noncomputable def ty54 : TyI := ⟨undOf (Try.prog.underlying 54), [(.i .i64 (.n (nat_lit 0))), .s0], 32, false⟩
noncomputable def ty55 : TyI := ⟨(TypeDesc.array 2 54), [(.i .i64 (.n (nat_lit 0))), .s0, (.i .i64 (.n (nat_lit 0))), .s0], 64, false⟩
noncomputable def ty56 : TyI := ⟨undOf (Try.prog.underlying 56), [(.i .i64 (.n (nat_lit 0))), (.i .i64 (.n (nat_lit 0))), (.i .i64 (.n (nat_lit 0))), .s0, (.i .i64 (.n (nat_lit 0))), .s0, (.i .i64 (.n (nat_lit 0))), .s0], 112, false⟩
noncomputable def ty57 : TyI := ⟨undOf (Try.prog.underlying 57), [(.i .i64 (.n (nat_lit 0))), (.i .i64 (.n (nat_lit 0))), (.i .i64 (.n (nat_lit 0))), .s0, (.i .i64 (.n (nat_lit 0))), .s0, (.i .i64 (.n (nat_lit 0))), .s0], 112, false⟩
noncomputable def ty58 : TyI := ⟨undOf (Try.prog.underlying 58), [(.i .i64 (.n (nat_lit 0))), .s0, (.i .i64 (.n (nat_lit 0))), (.i .i64 (.n (nat_lit 0))), (.i .i64 (.n (nat_lit 0))), .s0, (.i .i64 (.n (nat_lit 0))), .s0, (.i .i64 (.n (nat_lit 0))), .s0], 144, false⟩
noncomputable def ty59 : TyI := ⟨undOf (Try.prog.underlying 59), [(.i .i64 (.n (nat_lit 0))), .s0, (.i .i64 (.n (nat_lit 0))), (.i .i64 (.n (nat_lit 0))), (.i .i64 (.n (nat_lit 0))), .s0, (.i .i64 (.n (nat_lit 0))), .s0, (.i .i64 (.n (nat_lit 0))), .s0], 144, false⟩
noncomputable def ty60 : TyI := ⟨(TypeDesc.func #[42, 3] #[3] Bool.false), [.f0], 8, false⟩
noncomputable def ty61 : TyI := ⟨undOf (Try.prog.underlying 61), [(.t 1), (.i .i64 (.n (nat_lit 0))), (.i .i64 (.n (nat_lit 0))), (.i .i64 (.n (nat_lit 0))), (.b false), (.i .i64 (.n (nat_lit 0))), (.i .i64 (.n (nat_lit 0)))], 64, false⟩
noncomputable def ty62 : TyI := ⟨undOf (Try.prog.underlying 62), [(.t 1), (.i .i64 (.n (nat_lit 0))), (.i .i64 (.n (nat_lit 0))), (.i .i64 (.n (nat_lit 0))), (.b false), (.i .i64 (.n (nat_lit 0))), (.i .i64 (.n (nat_lit 0)))], 64, false⟩
noncomputable def ty63 : TyI := ⟨(TypeDesc.slice 62), [.s0], 24, false⟩
noncomputable def ty64 : TyI := ⟨(TypeDesc.func #[42] #[42] Bool.false), [.f0], 8, false⟩
noncomputable def ty65 : TyI := ⟨(TypeDesc.func #[4] #[42] Bool.false), [.f0], 8, false⟩
noncomputable def ty66 : TyI := ⟨(TypeDesc.slice 73), [.s0], 24, false⟩
noncomputable def ty67 : TyI := ⟨undOf (Try.prog.underlying 67), [(.i .i64 (.n (nat_lit 0))), (.b false), (.i .i64 (.n (nat_lit 0))), .s0], 48, false⟩
noncomputable def ty68 : TyI := ⟨undOf (Try.prog.underlying 68), [(.i .i64 (.n (nat_lit 0))), (.b false), (.i .i64 (.n (nat_lit 0))), .s0], 48, false⟩
noncomputable def ty70 : TyI := ⟨(TypeDesc.func #[35, 42, 3, 52, 3, 3, 3] #[66, 68] Bool.false), [.f0], 8, false⟩
noncomputable def ty71 : TyI := ⟨(TypeDesc.slice 76), [.s0], 24, false⟩
noncomputable def ty72 : TyI := ⟨undOf (Try.prog.underlying 72), [.s0], 24, false⟩
noncomputable def ty73 : TyI := ⟨undOf (Try.prog.underlying 73), [.s0], 24, false⟩
noncomputable def ty74 : TyI := ⟨(TypeDesc.slice 79), [.s0], 24, false⟩
noncomputable def ty75 : TyI := ⟨undOf (Try.prog.underlying 75), [(.i .i64 (.n (nat_lit 0))), (.i .i64 (.n (nat_lit 0))), .s0], 40, false⟩
noncomputable def ty76 : TyI := ⟨undOf (Try.prog.underlying 76), [(.i .i64 (.n (nat_lit 0))), (.i .i64 (.n (nat_lit 0))), .s0], 40, false⟩
noncomputable def ty77 : TyI := ⟨(TypeDesc.slice 4), [.s0], 24, false⟩
noncomputable def ty78 : TyI := ⟨undOf (Try.prog.underlying 78), [(.i .i64 (.n (nat_lit 0))), .s0, .s0], 56, false⟩
noncomputable def ty79 : TyI := ⟨undOf (Try.prog.underlying 79), [(.i .i64 (.n (nat_lit 0))), .s0, .s0], 56, false⟩
noncomputable def ty80 : TyI := ⟨(TypeDesc.func #[3] #[4] Bool.false), [.f0], 8, false⟩
noncomputable def ty81 : TyI := ⟨(TypeDesc.slice 122), [.s0], 24, false⟩
noncomputable def ty83 : TyI := ⟨(TypeDesc.func #[9] #[81, 3, 22] Bool.false), [.f0], 8, false⟩
noncomputable def ty84 : TyI := ⟨(TypeDesc.pointer 86), [.p0], 8, false⟩
noncomputable def ty85 : TyI := ⟨undOf (Try.prog.underlying 85), [.s0, (.i .i64 (.n (nat_lit 0))), (.i .i64 (.n (nat_lit 0))), (.i .i64 (.n (nat_lit 0)))], 48, false⟩
noncomputable def ty86 : TyI := ⟨undOf (Try.prog.underlying 86), [.s0, (.i .i64 (.n (nat_lit 0))), (.i .i64 (.n (nat_lit 0))), (.i .i64 (.n (nat_lit 0)))], 48, false⟩
noncomputable def ty87 : TyI := ⟨(TypeDesc.func #[] #[29] Bool.false), [.f0], 8, false⟩
noncomputable def ty88 : TyI := ⟨(TypeDesc.pointer 91), [.p0], 8, false⟩
noncomputable def ty89 : TyI := ⟨(TypeDesc.map 9 3), [.m0], 8, false⟩
noncomputable def ty90 : TyI := ⟨undOf (Try.prog.underlying 90), [.m0, .m0, .s0, .s0, .s0, .s0, .s0, .s0, .s0, (.i .i64 (.n (nat_lit 0))), (.i .i64 (.n (nat_lit 0)))], 200, false⟩
noncomputable def ty91 : TyI := ⟨undOf (Try.prog.underlying 91), [.m0, .m0, .s0, .s0, .s0, .s0, .s0, .s0, .s0, (.i .i64 (.n (nat_lit 0))), (.i .i64 (.n (nat_lit 0)))], 200, false⟩
noncomputable def ty92 : TyI := ⟨(TypeDesc.func #[29] #[22] Bool.false), [.f0], 8, false⟩
noncomputable def ty94 : TyI := ⟨(TypeDesc.func #[35, 9] #[3, 4] Bool.false), [.f0], 8, false⟩
noncomputable def ty95 : TyI := ⟨(TypeDesc.func #[52, 52] #[4] Bool.false), [.f0], 8, false⟩
noncomputable def ty96 : TyI := ⟨(TypeDesc.func #[35, 3, 3] #[52] Bool.false), [.f0], 8, false⟩
noncomputable def ty97 : TyI := ⟨(TypeDesc.struct #[]), [], 0, false⟩
noncomputable def ty98 : TyI := ⟨(TypeDesc.struct #[]), [], 0, false⟩
noncomputable def ty100 : TyI := ⟨(TypeDesc.pointer 105), [.p0], 8, false⟩
noncomputable def ty101 : TyI := ⟨(TypeDesc.map 3 3), [.m0], 8, false⟩
noncomputable def ty102 : TyI := ⟨(TypeDesc.map 188 3), [.m0], 8, false⟩
noncomputable def ty103 : TyI := ⟨(TypeDesc.slice 146), [.s0], 24, false⟩
noncomputable def ty104 : TyI := ⟨undOf (Try.prog.underlying 104), [.s0, .s0, .s0, .s0, (.i .i64 (.n (nat_lit 0))), (.i .i64 (.n (nat_lit 0))), .s0, .s0, .s0, .m0, (.i .i64 (.n (nat_lit 0))), (.i .i64 (.n (nat_lit 0))), (.b false), (.i .i64 (.n (nat_lit 0))), .m0, .s0, .s0, (.i .i64 (.n (nat_lit 0)))], 288, false⟩
noncomputable def ty105 : TyI := ⟨undOf (Try.prog.underlying 105), [.s0, .s0, .s0, .s0, (.i .i64 (.n (nat_lit 0))), (.i .i64 (.n (nat_lit 0))), .s0, .s0, .s0, .m0, (.i .i64 (.n (nat_lit 0))), (.i .i64 (.n (nat_lit 0))), (.b false), (.i .i64 (.n (nat_lit 0))), .m0, .s0, .s0, (.i .i64 (.n (nat_lit 0)))], 288, false⟩
noncomputable def ty106 : TyI := ⟨undOf (Try.prog.underlying 106), [(.i .i64 (.n (nat_lit 0))), (.i .i64 (.n (nat_lit 0))), (.i .i64 (.n (nat_lit 0)))], 24, false⟩
noncomputable def ty107 : TyI := ⟨undOf (Try.prog.underlying 107), [(.i .i64 (.n (nat_lit 0))), (.i .i64 (.n (nat_lit 0))), (.i .i64 (.n (nat_lit 0)))], 24, true⟩
noncomputable def ty108 : TyI := ⟨undOf (Try.prog.underlying 108), [(.i .i64 (.n (nat_lit 0))), (.i .i64 (.n (nat_lit 0))), (.i .i64 (.n (nat_lit 0))), (.i .i64 (.n (nat_lit 0))), (.i .i64 (.n (nat_lit 0))), (.i .i64 (.n (nat_lit 0))), (.i .i64 (.n (nat_lit 0))), (.i .i64 (.n (nat_lit 0))), (.i .i64 (.n (nat_lit 0))), (.i .i64 (.n (nat_lit 0))), (.i .i64 (.n (nat_lit 0)))], 88, false⟩
noncomputable def ty109 : TyI := ⟨undOf (Try.prog.underlying 109), [(.i .i64 (.n (nat_lit 0))), (.i .i64 (.n (nat_lit 0))), (.i .i64 (.n (nat_lit 0))), (.i .i64 (.n (nat_lit 0))), (.i .i64 (.n (nat_lit 0))), (.i .i64 (.n (nat_lit 0))), (.i .i64 (.n (nat_lit 0))), (.i .i64 (.n (nat_lit 0))), (.i .i64 (.n (nat_lit 0))), (.i .i64 (.n (nat_lit 0))), (.i .i64 (.n (nat_lit 0)))], 88, false⟩
noncomputable def ty110 : TyI := ⟨(TypeDesc.func #[42] #[22] Bool.false), [.f0], 8, false⟩
noncomputable def ty111 : TyI := ⟨(TypeDesc.func #[42, 50] #[50] Bool.false), [.f0], 8, false⟩
noncomputable def ty112 : TyI := ⟨undOf (Try.prog.underlying 112), [(.i .i64 (.n (nat_lit 0))), (.i .i64 (.n (nat_lit 0))), (.i .i64 (.n (nat_lit 0)))], 24, false⟩
noncomputable def ty113 : TyI := ⟨undOf (Try.prog.underlying 113), [(.i .i64 (.n (nat_lit 0))), (.i .i64 (.n (nat_lit 0))), (.i .i64 (.n (nat_lit 0)))], 24, true⟩
noncomputable def ty114 : TyI := ⟨(TypeDesc.pointer 117), [.p0], 8, false⟩
noncomputable def ty115 : TyI := ⟨(TypeDesc.slice 167), [.s0], 24, false⟩
noncomputable def ty116 : TyI := ⟨undOf (Try.prog.underlying 116), [.s0, .s0, .s0, .s0, .s0, (.i .i64 (.n (nat_lit 0))), (.i .i64 (.n (nat_lit 0))), (.i .i64 (.n (nat_lit 0))), (.i .i64 (.n (nat_lit 0))), (.i .i64 (.n (nat_lit 0))), .s0, .s0, (.i .i64 (.n (nat_lit 0))), (.b false), (.i .i64 (.n (nat_lit 0))), .s0], 256, false⟩
noncomputable def ty117 : TyI := ⟨undOf (Try.prog.underlying 117), [.s0, .s0, .s0, .s0, .s0, (.i .i64 (.n (nat_lit 0))), (.i .i64 (.n (nat_lit 0))), (.i .i64 (.n (nat_lit 0))), (.i .i64 (.n (nat_lit 0))), (.i .i64 (.n (nat_lit 0))), .s0, .s0, (.i .i64 (.n (nat_lit 0))), (.b false), (.i .i64 (.n (nat_lit 0))), .s0], 256, false⟩
noncomputable def ty118 : TyI := ⟨(TypeDesc.func #[3, 52] #[] Bool.false), [.f0], 8, false⟩
noncomputable def ty120 : TyI := ⟨(TypeDesc.func #[9, 3, 3] #[3, 3] Bool.false), [.f0], 8, false⟩
noncomputable def ty121 : TyI := ⟨undOf (Try.prog.underlying 121), [(.i .i64 (.n (nat_lit 0))), (.i .i64 (.n (nat_lit 0))), (.t 1), (.i .i64 (.n (nat_lit 0)))], 40, false⟩
noncomputable def ty122 : TyI := ⟨undOf (Try.prog.underlying 122), [(.i .i64 (.n (nat_lit 0))), (.i .i64 (.n (nat_lit 0))), (.t 1), (.i .i64 (.n (nat_lit 0)))], 40, false⟩
noncomputable def ty124 : TyI := ⟨(TypeDesc.func #[9, 3, 3] #[122, 3, 22] Bool.false), [.f0], 8, false⟩
noncomputable def ty125 : TyI := ⟨(TypeDesc.func #[3, 9] #[4] Bool.false), [.f0], 8, false⟩
noncomputable def ty126 : TyI := ⟨(TypeDesc.func #[] #[9] Bool.false), [.f0], 8, false⟩
noncomputable def ty127 : TyI := ⟨(TypeDesc.slice 9), [.s0], 24, false⟩
noncomputable def ty128 : TyI := ⟨undOf (Try.prog.underlying 128), [(.t 1), .s0], 40, false⟩
noncomputable def ty129 : TyI := ⟨undOf (Try.prog.underlying 129), [(.t 1), .s0], 40, false⟩
noncomputable def ty130 : TyI := ⟨(TypeDesc.func #[9] #[] Bool.false), [.f0], 8, false⟩
noncomputable def ty131 : TyI := ⟨(TypeDesc.func #[] #[127] Bool.false), [.f0], 8, false⟩
noncomputable def ty132 : TyI := ⟨(TypeDesc.slice 139), [.s0], 24, false⟩
noncomputable def ty133 : TyI := ⟨undOf (Try.prog.underlying 133), [(.t 1), (.i .i64 (.n (nat_lit 0))), .s0, .s0], 72, false⟩
noncomputable def ty134 : TyI := ⟨undOf (Try.prog.underlying 134), [(.t 1), (.i .i64 (.n (nat_lit 0))), .s0, .s0], 72, false⟩
noncomputable def ty136 : TyI := ⟨(TypeDesc.func #[3] #[132, 3] Bool.false), [.f0], 8, false⟩
noncomputable def ty137 : TyI := ⟨(TypeDesc.slice 214), [.s0], 24, false⟩
noncomputable def ty138 : TyI := ⟨undOf (Try.prog.underlying 138), [(.i .i64 (.n (nat_lit 0))), (.i .i64 (.n (nat_lit 0))), (.i .i64 (.n (nat_lit 0))), (.t 1), (.t 1), (.i .i64 (.n (nat_lit 0))), (.i .i64 (.n (nat_lit 0))), .s0, (.t 1), (.i .i64 (.n (nat_lit 0))), .s0, .s0, .s0], 192, false⟩
noncomputable def ty139 : TyI := ⟨undOf (Try.prog.underlying 139), [(.i .i64 (.n (nat_lit 0))), (.i .i64 (.n (nat_lit 0))), (.i .i64 (.n (nat_lit 0))), (.t 1), (.t 1), (.i .i64 (.n (nat_lit 0))), (.i .i64 (.n (nat_lit 0))), .s0, (.t 1), (.i .i64 (.n (nat_lit 0))), .s0, .s0, .s0], 192, false⟩
noncomputable def ty140 : TyI := ⟨(TypeDesc.func #[22] #[] Bool.false), [.f0], 8, false⟩
noncomputable def ty141 : TyI := ⟨(TypeDesc.func #[127] #[4] Bool.false), [.f0], 8, false⟩
noncomputable def ty142 : TyI := ⟨(TypeDesc.func #[127] #[127] Bool.false), [.f0], 8, false⟩
noncomputable def ty143 : TyI := ⟨(TypeDesc.func #[3, 134] #[22] Bool.false), [.f0], 8, false⟩
noncomputable def ty144 : TyI := ⟨undOf (Try.prog.underlying 144), [(.i .i64 (.n (nat_lit 0))), (.i .i64 (.n (nat_lit 0))), (.i .i64 (.n (nat_lit 0)))], 24, false⟩
noncomputable def ty145 : TyI := ⟨undOf (Try.prog.underlying 145), [(.i .i64 (.n (nat_lit 0))), (.i .i64 (.n (nat_lit 0))), (.i .i64 (.n (nat_lit 0)))], 24, false⟩
noncomputable def ty146 : TyI := ⟨(TypeDesc.pointer 186), [.p0], 8, false⟩
noncomputable def ty147 : TyI := ⟨(TypeDesc.func #[3] #[146] Bool.false), [.f0], 8, false⟩
noncomputable def ty148 : TyI := ⟨(TypeDesc.func #[146] #[] Bool.false), [.f0], 8, false⟩
noncomputable def ty149 : TyI := ⟨(TypeDesc.func #[146, 3] #[] Bool.false), [.f0], 8, false⟩
noncomputable def ty150 : TyI := ⟨(TypeDesc.func #[132] #[] Bool.false), [.f0], 8, false⟩
noncomputable def ty151 : TyI := ⟨(TypeDesc.pointer 153), [.p0], 8, false⟩
noncomputable def ty152 : TyI := ⟨undOf (Try.prog.underlying 152), [.s0, .s0, .s0, .s0, (.i .i64 (.n (nat_lit 0))), .s0, (.i .i64 (.n (nat_lit 0))), (.i .i64 (.n (nat_lit 0)))], 144, false⟩
noncomputable def ty153 : TyI := ⟨undOf (Try.prog.underlying 153), [.s0, .s0, .s0, .s0, (.i .i64 (.n (nat_lit 0))), .s0, (.i .i64 (.n (nat_lit 0))), (.i .i64 (.n (nat_lit 0)))], 144, false⟩
noncomputable def ty154 : TyI := ⟨(TypeDesc.func #[134] #[134] Bool.false), [.f0], 8, false⟩
noncomputable def ty155 : TyI := ⟨(TypeDesc.func #[50] #[22] Bool.false), [.f0], 8, false⟩
noncomputable def ty156 : TyI := ⟨(TypeDesc.func #[42, 50] #[4] Bool.false), [.f0], 8, false⟩
noncomputable def ty157 : TyI := ⟨(TypeDesc.func #[50] #[50] Bool.false), [.f0], 8, false⟩
noncomputable def ty158 : TyI := ⟨(TypeDesc.func #[50] #[4] Bool.false), [.f0], 8, false⟩
noncomputable def ty159 : TyI := ⟨undOf (Try.prog.underlying 159), [(.i .i64 (.n (nat_lit 0))), (.i .i64 (.n (nat_lit 0))), (.i .i64 (.n (nat_lit 0))), .s0, (.i .i64 (.n (nat_lit 0))), .s0, (.i .i64 (.n (nat_lit 0))), .s0, (.i .i64 (.n (nat_lit 0))), (.i .i64 (.n (nat_lit 0))), .s0, .s0, .m0], 184, false⟩
noncomputable def ty160 : TyI := ⟨undOf (Try.prog.underlying 160), [(.i .i64 (.n (nat_lit 0))), (.i .i64 (.n (nat_lit 0))), (.i .i64 (.n (nat_lit 0))), .s0, (.i .i64 (.n (nat_lit 0))), .s0, (.i .i64 (.n (nat_lit 0))), .s0, (.i .i64 (.n (nat_lit 0))), (.i .i64 (.n (nat_lit 0))), .s0, .s0, .m0], 184, false⟩
noncomputable def ty162 : TyI := ⟨(TypeDesc.func #[59] #[160, 4] Bool.false), [.f0], 8, false⟩
noncomputable def ty163 : TyI := ⟨(TypeDesc.func #[50, 50, 160] #[4] Bool.false), [.f0], 8, false⟩
noncomputable def ty164 : TyI := ⟨(TypeDesc.func #[165, 3, 50, 160] #[] Bool.false), [.f0], 8, false⟩
noncomputable def ty165 : TyI := ⟨(TypeDesc.pointer 50), [.p0], 8, false⟩
noncomputable def ty166 : TyI := ⟨(TypeDesc.func #[3, 52] #[4] Bool.false), [.f0], 8, false⟩
noncomputable def ty167 : TyI := ⟨(TypeDesc.pointer 170), [.p0], 8, false⟩
noncomputable def ty168 : TyI := ⟨(TypeDesc.slice 52), [.s0], 24, false⟩
noncomputable def ty169 : TyI := ⟨undOf (Try.prog.underlying 169), [(.i .i64 (.n (nat_lit 0))), .s0, .m0, .s0, (.i .i64 (.n (nat_lit 0))), (.i .i64 (.n (nat_lit 0))), .s0, (.i .i64 (.n (nat_lit 0))), .s0, (.i .i64 (.n (nat_lit 0))), .s0], 168, false⟩
noncomputable def ty170 : TyI := ⟨undOf (Try.prog.underlying 170), [(.i .i64 (.n (nat_lit 0))), .s0, .m0, .s0, (.i .i64 (.n (nat_lit 0))), (.i .i64 (.n (nat_lit 0))), .s0, (.i .i64 (.n (nat_lit 0))), .s0, (.i .i64 (.n (nat_lit 0))), .s0], 168, false⟩
noncomputable def ty171 : TyI := ⟨(TypeDesc.func #[167, 59, 3] #[4] Bool.false), [.f0], 8, false⟩
noncomputable def ty172 : TyI := ⟨(TypeDesc.func #[52] #[52] Bool.false), [.f0], 8, false⟩
noncomputable def ty174 : TyI := ⟨(TypeDesc.func #[3, 4] #[3, 52] Bool.false), [.f0], 8, false⟩
noncomputable def ty175 : TyI := ⟨(TypeDesc.func #[5] #[4] Bool.false), [.f0], 8, false⟩
noncomputable def ty176 : TyI := ⟨(TypeDesc.func #[9] #[4] Bool.false), [.f0], 8, false⟩
noncomputable def ty177 : TyI := ⟨(TypeDesc.func #[9, 3] #[9] Bool.false), [.f0], 8, false⟩
noncomputable def ty178 : TyI := ⟨(TypeDesc.func #[3] #[139] Bool.false), [.f0], 8, false⟩
noncomputable def ty179 : TyI := ⟨(TypeDesc.map 9 4), [.m0], 8, false⟩
noncomputable def ty180 : TyI := ⟨(TypeDesc.func #[62] #[3] Bool.false), [.f0], 8, false⟩
noncomputable def ty182 : TyI := ⟨(TypeDesc.func #[132] #[132, 22] Bool.false), [.f0], 8, false⟩
noncomputable def ty183 : TyI := ⟨(TypeDesc.func #[3] #[] Bool.false), [.f0], 8, false⟩
noncomputable def ty184 : TyI := ⟨(TypeDesc.slice 188), [.s0], 24, false⟩
noncomputable def ty185 : TyI := ⟨undOf (Try.prog.underlying 185), [(.i .i64 (.n (nat_lit 0))), .s0], 32, false⟩
noncomputable def ty186 : TyI := ⟨undOf (Try.prog.underlying 186), [(.i .i64 (.n (nat_lit 0))), .s0], 32, false⟩
noncomputable def ty187 : TyI := ⟨undOf (Try.prog.underlying 187), [(.i .i64 (.n (nat_lit 0))), (.i .i64 (.n (nat_lit 0)))], 16, false⟩
noncomputable def ty188 : TyI := ⟨undOf (Try.prog.underlying 188), [(.i .i64 (.n (nat_lit 0))), (.i .i64 (.n (nat_lit 0)))], 16, false⟩
noncomputable def ty189 : TyI := ⟨(TypeDesc.func #[188, 3] #[] Bool.false), [.f0], 8, false⟩
noncomputable def ty190 : TyI := ⟨(TypeDesc.func #[139] #[] Bool.false), [.f0], 8, false⟩
noncomputable def ty191 : TyI := ⟨(TypeDesc.func #[3, 22] #[] Bool.false), [.f0], 8, false⟩
noncomputable def ty192 : TyI := ⟨(TypeDesc.func #[3, 62] #[3] Bool.false), [.f0], 8, false⟩
noncomputable def ty193 : TyI := ⟨(TypeDesc.func #[132] #[132] Bool.false), [.f0], 8, false⟩
noncomputable def ty194 : TyI := ⟨(TypeDesc.func #[47] #[4] Bool.false), [.f0], 8, false⟩
noncomputable def ty195 : TyI := ⟨(TypeDesc.func #[50, 59] #[4] Bool.false), [.f0], 8, false⟩
noncomputable def ty196 : TyI := ⟨(TypeDesc.func #[47] #[47] Bool.false), [.f0], 8, false⟩
noncomputable def ty197 : TyI := ⟨(TypeDesc.func #[48] #[48] Bool.false), [.f0], 8, false⟩
noncomputable def ty198 : TyI := ⟨(TypeDesc.func #[51] #[51] Bool.false), [.f0], 8, false⟩
noncomputable def ty199 : TyI := ⟨(TypeDesc.func #[50] #[3] Bool.false), [.f0], 8, false⟩
noncomputable def ty200 : TyI := ⟨(TypeDesc.func #[52] #[] Bool.true), [.f0], 8, false⟩
noncomputable def ty201 : TyI := ⟨(TypeDesc.map 3 4), [.m0], 8, false⟩
noncomputable def ty202 : TyI := ⟨(TypeDesc.func #[80] #[] Bool.false), [.f0], 8, false⟩
noncomputable def ty203 : TyI := ⟨(TypeDesc.func #[80] #[] Bool.false), [.f0], 8, false⟩
noncomputable def ty204 : TyI := ⟨(TypeDesc.func #[51] #[203] Bool.false), [.f0], 8, false⟩
noncomputable def ty205 : TyI := ⟨undOf (Try.prog.underlying 205), [(.i .i64 (.n (nat_lit 0))), (.i .i64 (.n (nat_lit 0))), (.i .i64 (.n (nat_lit 0))), .s0, (.i .i64 (.n (nat_lit 0))), .s0, (.i .i64 (.n (nat_lit 0))), .s0, (.i .i64 (.n (nat_lit 0))), (.i .i64 (.n (nat_lit 0))), .s0, .s0, .m0, (.i .i64 (.n (nat_lit 0))), (.i .i64 (.n (nat_lit 0))), (.i .i64 (.n (nat_lit 0)))], 208, false⟩
noncomputable def ty206 : TyI := ⟨undOf (Try.prog.underlying 206), [(.i .i64 (.n (nat_lit 0))), (.i .i64 (.n (nat_lit 0))), (.i .i64 (.n (nat_lit 0))), .s0, (.i .i64 (.n (nat_lit 0))), .s0, (.i .i64 (.n (nat_lit 0))), .s0, (.i .i64 (.n (nat_lit 0))), (.i .i64 (.n (nat_lit 0))), .s0, .s0, .m0, (.i .i64 (.n (nat_lit 0))), (.i .i64 (.n (nat_lit 0))), (.i .i64 (.n (nat_lit 0)))], 208, false⟩
noncomputable def ty207 : TyI := ⟨(TypeDesc.func #[59] #[59] Bool.false), [.f0], 8, false⟩
noncomputable def ty208 : TyI := ⟨(TypeDesc.func #[54] #[57] Bool.false), [.f0], 8, false⟩
noncomputable def ty209 : TyI := ⟨(TypeDesc.func #[3, 3, 3] #[3] Bool.false), [.f0], 8, false⟩
noncomputable def ty210 : TyI := ⟨(TypeDesc.slice 5), [.s0], 24, false⟩
noncomputable def ty211 : TyI := ⟨(TypeDesc.func #[212] #[] Bool.false), [.f0], 8, false⟩
noncomputable def ty212 : TyI := ⟨(TypeDesc.pointer 139), [.p0], 8, false⟩
noncomputable def ty213 : TyI := ⟨undOf (Try.prog.underlying 213), [(.i .i64 (.n (nat_lit 0))), (.i .i64 (.n (nat_lit 0))), (.i .i64 (.n (nat_lit 0))), (.t 1), (.t 1), .s0], 80, false⟩
noncomputable def ty214 : TyI := ⟨undOf (Try.prog.underlying 214), [(.i .i64 (.n (nat_lit 0))), (.i .i64 (.n (nat_lit 0))), (.i .i64 (.n (nat_lit 0))), (.t 1), (.t 1), .s0], 80, false⟩
noncomputable def ty215 : TyI := ⟨(TypeDesc.func #[3, 3] #[214] Bool.false), [.f0], 8, false⟩
noncomputable def ty216 : TyI := ⟨(TypeDesc.func #[212, 4] #[] Bool.false), [.f0], 8, false⟩
noncomputable def ty218 : TyI := ⟨(TypeDesc.func #[139] #[139, 22] Bool.false), [.f0], 8, false⟩
noncomputable def ty219 : TyI := ⟨(TypeDesc.func #[51] #[] Bool.true), [.f0], 8, false⟩
noncomputable def ty220 : TyI := ⟨(TypeDesc.func #[214, 214] #[] Bool.false), [.f0], 8, false⟩
noncomputable def ty221 : TyI := ⟨(TypeDesc.func #[214] #[188] Bool.false), [.f0], 8, false⟩
noncomputable def ty222 : TyI := ⟨(TypeDesc.func #[214] #[3] Bool.false), [.f0], 8, false⟩
noncomputable def ty223 : TyI := ⟨(TypeDesc.func #[3] #[3] Bool.false), [.f0], 8, false⟩
noncomputable def ty224 : TyI := ⟨(TypeDesc.func #[9] #[3, 4] Bool.false), [.f0], 8, false⟩
noncomputable def ty225 : TyI := ⟨(TypeDesc.func #[139] #[139] Bool.false), [.f0], 8, false⟩
noncomputable def ty226 : TyI := ⟨(TypeDesc.map 228 4), [.m0], 8, false⟩
noncomputable def ty227 : TyI := ⟨undOf (Try.prog.underlying 227), [(.i .i64 (.n (nat_lit 0))), (.i .i64 (.n (nat_lit 0))), (.i .i64 (.n (nat_lit 0)))], 24, false⟩
noncomputable def ty228 : TyI := ⟨undOf (Try.prog.underlying 228), [(.i .i64 (.n (nat_lit 0))), (.i .i64 (.n (nat_lit 0))), (.i .i64 (.n (nat_lit 0)))], 24, true⟩
noncomputable def ty229 : TyI := ⟨undOf (Try.prog.underlying 229), [(.i .i64 (.n (nat_lit 0))), .m0], 16, false⟩
noncomputable def ty230 : TyI := ⟨undOf (Try.prog.underlying 230), [(.i .i64 (.n (nat_lit 0))), .m0], 16, false⟩
noncomputable def ty231 : TyI := ⟨(TypeDesc.func #[109] #[4] Bool.false), [.f0], 8, false⟩
noncomputable def ty232 : TyI := ⟨(TypeDesc.func #[50, 230, 109, 3] #[4] Bool.false), [.f0], 8, false⟩
noncomputable def ty233 : TyI := ⟨(TypeDesc.func #[50, 230, 57, 3] #[4] Bool.false), [.f0], 8, false⟩
noncomputable def ty234 : TyI := ⟨(TypeDesc.func #[51, 236] #[] Bool.false), [.f0], 8, false⟩
noncomputable def ty235 : TyI := ⟨(TypeDesc.func #[52] #[3] Bool.true), [.f0], 8, false⟩
noncomputable def ty236 : TyI := ⟨(TypeDesc.func #[109, 109] #[3] Bool.false), [.f0], 8, false⟩
noncomputable def ty237 : TyI := ⟨(TypeDesc.array 3 3), [(.i .i64 (.n (nat_lit 0))), (.i .i64 (.n (nat_lit 0))), (.i .i64 (.n (nat_lit 0)))], 24, true⟩
noncomputable def ty238 : TyI := ⟨(TypeDesc.func #[109] #[237] Bool.false), [.f0], 8, false⟩
noncomputable def ty239 : TyI := ⟨(TypeDesc.pointer 160), [.p0], 8, false⟩
noncomputable def ty240 : TyI := ⟨(TypeDesc.func #[59, 109] #[109] Bool.false), [.f0], 8, false⟩
noncomputable def ty241 : TyI := ⟨(TypeDesc.func #[59] #[57] Bool.false), [.f0], 8, false⟩
noncomputable def ty242 : TyI := ⟨(TypeDesc.func #[59] #[52] Bool.false), [.f0], 8, false⟩
noncomputable def ty243 : TyI := ⟨(TypeDesc.func #[52, 3] #[4] Bool.false), [.f0], 8, false⟩
noncomputable def ty244 : TyI := ⟨(TypeDesc.func #[50, 107, 52] #[4] Bool.false), [.f0], 8, false⟩
noncomputable def ty245 : TyI := ⟨(TypeDesc.func #[50, 54, 52, 3] #[4] Bool.false), [.f0], 8, false⟩
noncomputable def ty246 : TyI := ⟨(TypeDesc.func #[54] #[4] Bool.false), [.f0], 8, false⟩
noncomputable def ty247 : TyI := ⟨(TypeDesc.func #[167] #[71] Bool.false), [.f0], 8, false⟩
noncomputable def ty248 : TyI := ⟨(TypeDesc.func #[109, 109] #[4] Bool.false), [.f0], 8, false⟩
noncomputable def ty249 : TyI := ⟨(TypeDesc.func #[3] #[214] Bool.false), [.f0], 8, false⟩
noncomputable def ty250 : TyI := ⟨(TypeDesc.func #[] #[3, 3] Bool.false), [.f0], 8, false⟩
noncomputable def ty251 : TyI := ⟨(TypeDesc.func #[] #[137] Bool.false), [.f0], 8, false⟩
noncomputable def ty252 : TyI := ⟨undOf (Try.prog.underlying 252), [(.i .i64 (.n (nat_lit 0))), (.i .i64 (.n (nat_lit 0))), (.i .i64 (.n (nat_lit 0)))], 24, false⟩
noncomputable def ty253 : TyI := ⟨undOf (Try.prog.underlying 253), [(.i .i64 (.n (nat_lit 0))), (.i .i64 (.n (nat_lit 0))), (.i .i64 (.n (nat_lit 0)))], 24, false⟩
noncomputable def ty255 : TyI := ⟨(TypeDesc.func #[139] #[3, 22] Bool.false), [.f0], 8, false⟩
noncomputable def ty256 : TyI := ⟨(TypeDesc.func #[212] #[22] Bool.false), [.f0], 8, false⟩
noncomputable def ty257 : TyI := ⟨(TypeDesc.pointer 59), [.p0], 8, false⟩
noncomputable def ty258 : TyI := ⟨(TypeDesc.func #[146, 52] #[54] Bool.true), [.f0], 8, false⟩
noncomputable def ty259 : TyI := ⟨(TypeDesc.func #[3, 54, 54] #[] Bool.false), [.f0], 8, false⟩
noncomputable def ty260 : TyI := ⟨(TypeDesc.func #[214] #[] Bool.false), [.f0], 8, false⟩
noncomputable def ty261 : TyI := ⟨(TypeDesc.func #[] #[3] Bool.false), [.f0], 8, false⟩
noncomputable def ty262 : TyI := ⟨(TypeDesc.func #[109] #[3] Bool.false), [.f0], 8, false⟩
noncomputable def ty263 : TyI := ⟨(TypeDesc.func #[] #[54] Bool.false), [.f0], 8, false⟩
noncomputable def ty264 : TyI := ⟨(TypeDesc.func #[57] #[] Bool.false), [.f0], 8, false⟩
noncomputable def ty265 : TyI := ⟨(TypeDesc.func #[137, 3] #[137] Bool.false), [.f0], 8, false⟩
noncomputable def ty266 : TyI := ⟨(TypeDesc.func #[3, 52] #[4] Bool.true), [.f0], 8, false⟩
noncomputable def ty267 : TyI := ⟨(TypeDesc.func #[50, 54, 3] #[4] Bool.false), [.f0], 8, false⟩
noncomputable def ty268 : TyI := ⟨(TypeDesc.func #[51, 3, 236] #[] Bool.false), [.f0], 8, false⟩
noncomputable def ty269 : TyI := ⟨(TypeDesc.func #[59, 3] #[3] Bool.false), [.f0], 8, false⟩
noncomputable def ty270 : TyI := ⟨(TypeDesc.func #[59, 3, 54] #[54] Bool.false), [.f0], 8, false⟩
noncomputable def ty271 : TyI := ⟨(TypeDesc.func #[59, 54] #[54] Bool.false), [.f0], 8, false⟩
noncomputable def ty272 : TyI := ⟨(TypeDesc.func #[167, 3, 3, 3] #[79] Bool.false), [.f0], 8, false⟩
noncomputable def ty273 : TyI := ⟨(TypeDesc.func #[62] #[3, 22] Bool.false), [.f0], 8, false⟩
noncomputable def ty275 : TyI := ⟨(TypeDesc.func #[137] #[137, 22] Bool.false), [.f0], 8, false⟩
noncomputable def ty276 : TyI := ⟨(TypeDesc.func #[146] #[54] Bool.false), [.f0], 8, false⟩
noncomputable def ty277 : TyI := ⟨(TypeDesc.func #[214, 3] #[214] Bool.false), [.f0], 8, false⟩
noncomputable def ty278 : TyI := ⟨(TypeDesc.func #[51, 3, 3, 236] #[] Bool.false), [.f0], 8, false⟩
noncomputable def ty279 : TyI := ⟨(TypeDesc.func #[51, 3, 3, 3, 236] #[] Bool.false), [.f0], 8, false⟩
noncomputable def ty280 : TyI := ⟨(TypeDesc.func #[3, 3, 3] #[3, 4] Bool.false), [.f0], 8, false⟩
noncomputable def ty282 : TyI := ⟨(TypeDesc.func #[214] #[214, 22] Bool.false), [.f0], 8, false⟩
noncomputable def ty283 : TyI := ⟨(TypeDesc.int IntKind.u64), [(.i .u64 (.n (nat_lit 0)))], 8, false⟩
noncomputable def ty284 : TyI := ⟨(TypeDesc.func #[127, 9] #[3] Bool.false), [.f0], 8, false⟩
noncomputable def ty285 : TyI := ⟨undOf (Try.prog.underlying 285), [.p0, .p0, .p0, (.t 1)], 40, false⟩
noncomputable def ty286 : TyI := ⟨undOf (Try.prog.underlying 286), [.p0, .p0, .p0, (.t 1)], 40, false⟩
noncomputable def ty287 : TyI := ⟨(TypeDesc.array 0 16), [], 0, false⟩
noncomputable def ty288 : TyI := ⟨undOf (Try.prog.underlying 288), [], 0, false⟩
noncomputable def ty289 : TyI := ⟨undOf (Try.prog.underlying 289), [], 0, false⟩
noncomputable def ty290 : TyI := ⟨(TypeDesc.int IntKind.u32), [(.i .u32 (.n (nat_lit 0)))], 4, false⟩
noncomputable def ty291 : TyI := ⟨(TypeDesc.int IntKind.u8), [(.i .u8 (.n (nat_lit 0)))], 1, false⟩
noncomputable def ty292 : TyI := ⟨(TypeDesc.int IntKind.u8), [(.i .u8 (.n (nat_lit 0)))], 1, false⟩
noncomputable def ty293 : TyI := ⟨(TypeDesc.func #[299, 299] #[4] Bool.false), [.f0], 8, false⟩
noncomputable def ty294 : TyI := ⟨(TypeDesc.pointer 5), [.p0], 8, false⟩
noncomputable def ty295 : TyI := ⟨(TypeDesc.int IntKind.i32), [(.i .i32 (.n (nat_lit 0)))], 4, false⟩
noncomputable def ty296 : TyI := ⟨(TypeDesc.int IntKind.i32), [(.i .i32 (.n (nat_lit 0)))], 4, false⟩
noncomputable def ty297 : TyI := ⟨undOf (Try.prog.underlying 297), [(.i .u64 (.n (nat_lit 0))), (.i .u64 (.n (nat_lit 0))), (.i .u32 (.n (nat_lit 0))), (.i .u8 (.n (nat_lit 0))), (.i .u8 (.n (nat_lit 0))), (.i .u8 (.n (nat_lit 0))), (.i .u8 (.n (nat_lit 0))), .f0, .p0, (.i .i32 (.n (nat_lit 0))), (.i .i32 (.n (nat_lit 0)))], 48, false⟩
noncomputable def ty298 : TyI := ⟨undOf (Try.prog.underlying 298), [(.i .u64 (.n (nat_lit 0))), (.i .u64 (.n (nat_lit 0))), (.i .u32 (.n (nat_lit 0))), (.i .u8 (.n (nat_lit 0))), (.i .u8 (.n (nat_lit 0))), (.i .u8 (.n (nat_lit 0))), (.i .u8 (.n (nat_lit 0))), .f0, .p0, (.i .i32 (.n (nat_lit 0))), (.i .i32 (.n (nat_lit 0)))], 48, false⟩
theorem tyq1 : TyQ Try.prog 1 (some ty1) := ty_mk (zv := .nilFunc) Try.underlying1 (by kernel_rfl) (by kernel_rfl) (by kernel_rfl)
theorem tyq2 : TyQ Try.prog 2 (some ty2) := ty_mk (zv := .int .i64 0) Try.underlying2 (by kernel_rfl) (by kernel_rfl) (by kernel_rfl)
theorem tyq3 : TyQ Try.prog 3 (some ty3) := ty_mkE (zv := .int .i64 0) Try.underlying3 (by kernel_rfl) (by kernel_rfl) (by kernel_rfl) (by kernel_rfl) (by kernel_rfl) (by kernel_rfl)
theorem tyq4 : TyQ Try.prog 4 (some ty4) := ty_mk (zv := .bool false) Try.underlying4 (by kernel_rfl) (by kernel_rfl) (by kernel_rfl)
theorem tyq5 : TyQ Try.prog 5 (some ty5) := ty_mk (zv := .int .u8 0) Try.underlying5 (by kernel_rfl) (by kernel_rfl) (by kernel_rfl)
theorem tyq6 : TyQ Try.prog 6 (some ty6) := ty_mk (zv := .int .u8 0) Try.underlying6 (by kernel_rfl) (by kernel_rfl) (by kernel_rfl)
theorem tyq7 : TyQ Try.prog 7 (some ty7) := ty_mk (zv := .agg #[.int .i64 0, .int .i64 0, .bool false, .int .u8 0]) (und_ok Try.underlying7) (by kernel_rfl) (by kernel_rfl) (by kernel_rfl)
theorem tyq8 : TyQ Try.prog 8 (some ty8) := ty_mk (zv := .agg #[.int .i64 0, .int .i64 0, .bool false, .int .u8 0]) (und_ok Try.underlying8) (by kernel_rfl) (by kernel_rfl) (by kernel_rfl)
theorem tyq9 : TyQ Try.prog 9 (some ty9) := ty_mk (zv := .string ByteArray.empty) Try.underlying9 (by kernel_rfl) (by kernel_rfl) (by kernel_rfl)
theorem tyq10 : TyQ Try.prog 10 (some ty10) := ty_mk (zv := .string ByteArray.empty) Try.underlying10 (by kernel_rfl) (by kernel_rfl) (by kernel_rfl)
theorem tyq11 : TyQ Try.prog 11 (some ty11) := ty_mk (zv := .string ByteArray.empty) Try.underlying11 (by kernel_rfl) (by kernel_rfl) (by kernel_rfl)
theorem tyq12 : TyQ Try.prog 12 (some ty12) := ty_mk (zv := .int .u64 0) Try.underlying12 (by kernel_rfl) (by kernel_rfl) (by kernel_rfl)
theorem tyq13 : TyQ Try.prog 13 (some ty13) := ty_mk (zv := .agg #[.string ByteArray.empty, .int .u64 0]) (und_ok Try.underlying13) (by kernel_rfl) (by kernel_rfl) (by kernel_rfl)
theorem tyq14 : TyQ Try.prog 14 (some ty14) := ty_mk (zv := .agg #[.string ByteArray.empty, .int .u64 0]) (und_ok Try.underlying14) (by kernel_rfl) (by kernel_rfl) (by kernel_rfl)
theorem tyq15 : TyQ Try.prog 15 (some ty15) := ty_mk (zv := .pointer none) Try.underlying15 (by kernel_rfl) (by kernel_rfl) (by kernel_rfl)
theorem tyq16 : TyQ Try.prog 16 (some ty16) := ty_mk (zv := .pointer none) Try.underlying16 (by kernel_rfl) (by kernel_rfl) (by kernel_rfl)
theorem tyq17 : TyQ Try.prog 17 (some ty17) := ty_mk (zv := .pointer none) Try.underlying17 (by kernel_rfl) (by kernel_rfl) (by kernel_rfl)
theorem tyq18 : TyQ Try.prog 18 (some ty18) := ty_mk (zv := .agg #[.pointer none]) (und_ok Try.underlying18) (by kernel_rfl) (by kernel_rfl) (by kernel_rfl)
theorem tyq19 : TyQ Try.prog 19 (some ty19) := ty_mk (zv := .agg #[.pointer none]) (und_ok Try.underlying19) (by kernel_rfl) (by kernel_rfl) (by kernel_rfl)
theorem tyq20 : TyQ Try.prog 20 (some ty20) := ty_mk (zv := .nilIface) Try.underlying20 (by kernel_rfl) (by kernel_rfl) (by kernel_rfl)
theorem tyq21 : TyQ Try.prog 21 (some ty21) := ty_mk (zv := .int .i32 0) Try.underlying21 (by kernel_rfl) (by kernel_rfl) (by kernel_rfl)
theorem tyq22 : TyQ Try.prog 22 (some ty22) := ty_mk (zv := .int .i64 0) Try.underlying22 (by kernel_rfl) (by kernel_rfl) (by kernel_rfl)
theorem tyq23 : TyQ Try.prog 23 (some ty23) := ty_mk (zv := .agg #[.string ByteArray.empty, .int .i64 0]) (und_ok Try.underlying23) (by kernel_rfl) (by kernel_rfl) (by kernel_rfl)
theorem tyq24 : TyQ Try.prog 24 (some ty24) := ty_mk (zv := .slice none 0 0) Try.underlying24 (by kernel_rfl) (by kernel_rfl) (by kernel_rfl)
theorem tyq25 : TyQ Try.prog 25 (some ty25) := ty_mk (zv := .nilFunc) Try.underlying25 (by kernel_rfl) (by kernel_rfl) (by kernel_rfl)
theorem tyq26 : TyQ Try.prog 26 (some ty26) := ty_mk (zv := .slice none 0 0) Try.underlying26 (by kernel_rfl) (by kernel_rfl) (by kernel_rfl)
theorem tyq27 : TyQ Try.prog 27 (some ty27) := ty_mk (zv := .slice none 0 0) Try.underlying27 (by kernel_rfl) (by kernel_rfl) (by kernel_rfl)
theorem tyq28 : TyQ Try.prog 28 (some ty28) := ty_mk (zv := .agg #[.slice none 0 0, .slice none 0 0]) (und_ok Try.underlying28) (by kernel_rfl) (by kernel_rfl) (by kernel_rfl)
theorem tyq29 : TyQ Try.prog 29 (some ty29) := ty_mk (zv := .agg #[.slice none 0 0, .slice none 0 0]) (und_ok Try.underlying29) (by kernel_rfl) (by kernel_rfl) (by kernel_rfl)
theorem tyq31 : TyQ Try.prog 31 (some ty31) := ty_mk (zv := .nilFunc) Try.underlying31 (by kernel_rfl) (by kernel_rfl) (by kernel_rfl)
theorem tyq32 : TyQ Try.prog 32 (some ty32) := ty_mk (zv := .slice none 0 0) Try.underlying32 (by kernel_rfl) (by kernel_rfl) (by kernel_rfl)
theorem tyq33 : TyQ Try.prog 33 (some ty33) := ty_mk (zv := .slice none 0 0) Try.underlying33 (by kernel_rfl) (by kernel_rfl) (by kernel_rfl)
theorem tyq34 : TyQ Try.prog 34 (some ty34) := ty_mk (zv := .agg #[.slice none 0 0, .slice none 0 0, .slice none 0 0, .slice none 0 0]) (und_ok Try.underlying34) (by kernel_rfl) (by kernel_rfl) (by kernel_rfl)
theorem tyq35 : TyQ Try.prog 35 (some ty35) := ty_mk (zv := .agg #[.slice none 0 0, .slice none 0 0, .slice none 0 0, .slice none 0 0]) (und_ok Try.underlying35) (by kernel_rfl) (by kernel_rfl) (by kernel_rfl)
theorem tyq37 : TyQ Try.prog 37 (some ty37) := ty_mk (zv := .nilFunc) Try.underlying37 (by kernel_rfl) (by kernel_rfl) (by kernel_rfl)
theorem tyq38 : TyQ Try.prog 38 (some ty38) := ty_mk (zv := .nilFunc) Try.underlying38 (by kernel_rfl) (by kernel_rfl) (by kernel_rfl)
theorem tyq39 : TyQ Try.prog 39 (some ty39) := ty_mk (zv := .nilFunc) Try.underlying39 (by kernel_rfl) (by kernel_rfl) (by kernel_rfl)
theorem tyq40 : TyQ Try.prog 40 (some ty40) := ty_mk (zv := .slice none 0 0) Try.underlying40 (by kernel_rfl) (by kernel_rfl) (by kernel_rfl)
theorem tyq41 : TyQ Try.prog 41 (some ty41) := ty_mk (zv := .agg #[.slice none 0 0]) (und_ok Try.underlying41) (by kernel_rfl) (by kernel_rfl) (by kernel_rfl)
theorem tyq42 : TyQ Try.prog 42 (some ty42) := ty_mk (zv := .agg #[.slice none 0 0]) (und_ok Try.underlying42) (by kernel_rfl) (by kernel_rfl) (by kernel_rfl)
theorem tyq44 : TyQ Try.prog 44 (some ty44) := ty_mk (zv := .nilFunc) Try.underlying44 (by kernel_rfl) (by kernel_rfl) (by kernel_rfl)
theorem tyq45 : TyQ Try.prog 45 (some ty45) := ty_mk (zv := .nilFunc) Try.underlying45 (by kernel_rfl) (by kernel_rfl) (by kernel_rfl)
theorem tyq46 : TyQ Try.prog 46 (some ty46) := ty_mk (zv := .slice none 0 0) Try.underlying46 (by kernel_rfl) (by kernel_rfl) (by kernel_rfl)
theorem tyq47 : TyQ Try.prog 47 (some ty47) := ty_mk (zv := .slice none 0 0) Try.underlying47 (by kernel_rfl) (by kernel_rfl) (by kernel_rfl)
theorem tyq48 : TyQ Try.prog 48 (some ty48) := ty_mk (zv := .slice none 0 0) Try.underlying48 (by kernel_rfl) (by kernel_rfl) (by kernel_rfl)
theorem tyq49 : TyQ Try.prog 49 (some ty49) := ty_mk (zv := .agg #[.int .i64 0, .slice none 0 0, .slice none 0 0, .slice none 0 0]) (und_ok Try.underlying49) (by kernel_rfl) (by kernel_rfl) (by kernel_rfl)
theorem tyq50 : TyQ Try.prog 50 (some ty50) := ty_mk (zv := .agg #[.int .i64 0, .slice none 0 0, .slice none 0 0, .slice none 0 0]) (und_ok Try.underlying50) (by kernel_rfl) (by kernel_rfl) (by kernel_rfl)
theorem tyq51 : TyQ Try.prog 51 (some ty51) := ty_mk (zv := .slice none 0 0) Try.underlying51 (by kernel_rfl) (by kernel_rfl) (by kernel_rfl)
theorem tyq52 : TyQ Try.prog 52 (some ty52) := ty_mk (zv := .slice none 0 0) Try.underlying52 (by kernel_rfl) (by kernel_rfl) (by kernel_rfl)
theorem tyq53 : TyQ Try.prog 53 (some ty53) := ty_mk (zv := .agg #[.int .i64 0, .slice none 0 0]) (und_ok Try.underlying53) (by kernel_rfl) (by kernel_rfl) (by kernel_rfl)
theorem tyq54 : TyQ Try.prog 54 (some ty54) := ty_mk (zv := .agg #[.int .i64 0, .slice none 0 0]) (und_ok Try.underlying54) (by kernel_rfl) (by kernel_rfl) (by kernel_rfl)
theorem tyq55 : TyQ Try.prog 55 (some ty55) := ty_mk (zv := .agg #[.int .i64 0, .slice none 0 0, .int .i64 0, .slice none 0 0]) Try.underlying55 (by kernel_rfl) (by kernel_rfl) (by kernel_rfl)
theorem tyq56 : TyQ Try.prog 56 (some ty56) := ty_mk (zv := .agg #[.int .i64 0, .int .i64 0, .int .i64 0, .slice none 0 0, .int .i64 0, .slice none 0 0, .int .i64 0, .slice none 0 0]) (und_ok Try.underlying56) (by kernel_rfl) (by kernel_rfl) (by kernel_rfl)
theorem tyq57 : TyQ Try.prog 57 (some ty57) := ty_mk (zv := .agg #[.int .i64 0, .int .i64 0, .int .i64 0, .slice none 0 0, .int .i64 0, .slice none 0 0, .int .i64 0, .slice none 0 0]) (und_ok Try.underlying57) (by kernel_rfl) (by kernel_rfl) (by kernel_rfl)
theorem tyq58 : TyQ Try.prog 58 (some ty58) := ty_mk (zv := .agg #[.int .i64 0, .slice none 0 0, .int .i64 0, .int .i64 0, .int .i64 0, .slice none 0 0, .int .i64 0, .slice none 0 0, .int .i64 0, .slice none 0 0]) (und_ok Try.underlying58) (by kernel_rfl) (by kernel_rfl) (by kernel_rfl)
theorem tyq59 : TyQ Try.prog 59 (some ty59) := ty_mk (zv := .agg #[.int .i64 0, .slice none 0 0, .int .i64 0, .int .i64 0, .int .i64 0, .slice none 0 0, .int .i64 0, .slice none 0 0, .int .i64 0, .slice none 0 0]) (und_ok Try.underlying59) (by kernel_rfl) (by kernel_rfl) (by kernel_rfl)
theorem tyq60 : TyQ Try.prog 60 (some ty60) := ty_mk (zv := .nilFunc) Try.underlying60 (by kernel_rfl) (by kernel_rfl) (by kernel_rfl)
theorem tyq61 : TyQ Try.prog 61 (some ty61) := ty_mk (zv := .agg #[.string ByteArray.empty, .int .i64 0, .int .i64 0, .int .i64 0, .bool false, .int .i64 0, .int .i64 0]) (und_ok Try.underlying61) (by kernel_rfl) (by kernel_rfl) (by kernel_rfl)
theorem tyq62 : TyQ Try.prog 62 (some ty62) := ty_mk (zv := .agg #[.string ByteArray.empty, .int .i64 0, .int .i64 0, .int .i64 0, .bool false, .int .i64 0, .int .i64 0]) (und_ok Try.underlying62) (by kernel_rfl) (by kernel_rfl) (by kernel_rfl)
theorem tyq63 : TyQ Try.prog 63 (some ty63) := ty_mk (zv := .slice none 0 0) Try.underlying63 (by kernel_rfl) (by kernel_rfl) (by kernel_rfl)
theorem tyq64 : TyQ Try.prog 64 (some ty64) := ty_mk (zv := .nilFunc) Try.underlying64 (by kernel_rfl) (by kernel_rfl) (by kernel_rfl)
theorem tyq65 : TyQ Try.prog 65 (some ty65) := ty_mk (zv := .nilFunc) Try.underlying65 (by kernel_rfl) (by kernel_rfl) (by kernel_rfl)
theorem tyq66 : TyQ Try.prog 66 (some ty66) := ty_mk (zv := .slice none 0 0) Try.underlying66 (by kernel_rfl) (by kernel_rfl) (by kernel_rfl)
theorem tyq67 : TyQ Try.prog 67 (some ty67) := ty_mk (zv := .agg #[.int .i64 0, .bool false, .int .i64 0, .slice none 0 0]) (und_ok Try.underlying67) (by kernel_rfl) (by kernel_rfl) (by kernel_rfl)
theorem tyq68 : TyQ Try.prog 68 (some ty68) := ty_mk (zv := .agg #[.int .i64 0, .bool false, .int .i64 0, .slice none 0 0]) (und_ok Try.underlying68) (by kernel_rfl) (by kernel_rfl) (by kernel_rfl)
theorem tyq70 : TyQ Try.prog 70 (some ty70) := ty_mk (zv := .nilFunc) Try.underlying70 (by kernel_rfl) (by kernel_rfl) (by kernel_rfl)
theorem tyq71 : TyQ Try.prog 71 (some ty71) := ty_mk (zv := .slice none 0 0) Try.underlying71 (by kernel_rfl) (by kernel_rfl) (by kernel_rfl)
theorem tyq72 : TyQ Try.prog 72 (some ty72) := ty_mk (zv := .agg #[.slice none 0 0]) (und_ok Try.underlying72) (by kernel_rfl) (by kernel_rfl) (by kernel_rfl)
theorem tyq73 : TyQ Try.prog 73 (some ty73) := ty_mk (zv := .agg #[.slice none 0 0]) (und_ok Try.underlying73) (by kernel_rfl) (by kernel_rfl) (by kernel_rfl)
theorem tyq74 : TyQ Try.prog 74 (some ty74) := ty_mk (zv := .slice none 0 0) Try.underlying74 (by kernel_rfl) (by kernel_rfl) (by kernel_rfl)
theorem tyq75 : TyQ Try.prog 75 (some ty75) := ty_mk (zv := .agg #[.int .i64 0, .int .i64 0, .slice none 0 0]) (und_ok Try.underlying75) (by kernel_rfl) (by kernel_rfl) (by kernel_rfl)
theorem tyq76 : TyQ Try.prog 76 (some ty76) := ty_mk (zv := .agg #[.int .i64 0, .int .i64 0, .slice none 0 0]) (und_ok Try.underlying76) (by kernel_rfl) (by kernel_rfl) (by kernel_rfl)
theorem tyq77 : TyQ Try.prog 77 (some ty77) := ty_mk (zv := .slice none 0 0) Try.underlying77 (by kernel_rfl) (by kernel_rfl) (by kernel_rfl)
theorem tyq78 : TyQ Try.prog 78 (some ty78) := ty_mk (zv := .agg #[.int .i64 0, .slice none 0 0, .slice none 0 0]) (und_ok Try.underlying78) (by kernel_rfl) (by kernel_rfl) (by kernel_rfl)
theorem tyq79 : TyQ Try.prog 79 (some ty79) := ty_mk (zv := .agg #[.int .i64 0, .slice none 0 0, .slice none 0 0]) (und_ok Try.underlying79) (by kernel_rfl) (by kernel_rfl) (by kernel_rfl)
theorem tyq80 : TyQ Try.prog 80 (some ty80) := ty_mk (zv := .nilFunc) Try.underlying80 (by kernel_rfl) (by kernel_rfl) (by kernel_rfl)
theorem tyq81 : TyQ Try.prog 81 (some ty81) := ty_mk (zv := .slice none 0 0) Try.underlying81 (by kernel_rfl) (by kernel_rfl) (by kernel_rfl)
theorem tyq83 : TyQ Try.prog 83 (some ty83) := ty_mk (zv := .nilFunc) Try.underlying83 (by kernel_rfl) (by kernel_rfl) (by kernel_rfl)
theorem tyq84 : TyQ Try.prog 84 (some ty84) := ty_mk (zv := .pointer none) Try.underlying84 (by kernel_rfl) (by kernel_rfl) (by kernel_rfl)
theorem tyq85 : TyQ Try.prog 85 (some ty85) := ty_mk (zv := .agg #[.slice none 0 0, .int .i64 0, .int .i64 0, .int .i64 0]) (und_ok Try.underlying85) (by kernel_rfl) (by kernel_rfl) (by kernel_rfl)
theorem tyq86 : TyQ Try.prog 86 (some ty86) := ty_mk (zv := .agg #[.slice none 0 0, .int .i64 0, .int .i64 0, .int .i64 0]) (und_ok Try.underlying86) (by kernel_rfl) (by kernel_rfl) (by kernel_rfl)
theorem tyq87 : TyQ Try.prog 87 (some ty87) := ty_mk (zv := .nilFunc) Try.underlying87 (by kernel_rfl) (by kernel_rfl) (by kernel_rfl)
theorem tyq88 : TyQ Try.prog 88 (some ty88) := ty_mk (zv := .pointer none) Try.underlying88 (by kernel_rfl) (by kernel_rfl) (by kernel_rfl)
theorem tyq89 : TyQ Try.prog 89 (some ty89) := ty_mk (zv := .map none) Try.underlying89 (by kernel_rfl) (by kernel_rfl) (by kernel_rfl)
theorem tyq90 : TyQ Try.prog 90 (some ty90) := ty_mk (zv := .agg #[.map none, .map none, .slice none 0 0, .slice none 0 0, .slice none 0 0, .slice none 0 0, .slice none 0 0, .slice none 0 0, .slice none 0 0, .int .i64 0, .int .i64 0]) (und_ok Try.underlying90) (by kernel_rfl) (by kernel_rfl) (by kernel_rfl)
theorem tyq91 : TyQ Try.prog 91 (some ty91) := ty_mk (zv := .agg #[.map none, .map none, .slice none 0 0, .slice none 0 0, .slice none 0 0, .slice none 0 0, .slice none 0 0, .slice none 0 0, .slice none 0 0, .int .i64 0, .int .i64 0]) (und_ok Try.underlying91) (by kernel_rfl) (by kernel_rfl) (by kernel_rfl)
theorem tyq92 : TyQ Try.prog 92 (some ty92) := ty_mk (zv := .nilFunc) Try.underlying92 (by kernel_rfl) (by kernel_rfl) (by kernel_rfl)
theorem tyq94 : TyQ Try.prog 94 (some ty94) := ty_mk (zv := .nilFunc) Try.underlying94 (by kernel_rfl) (by kernel_rfl) (by kernel_rfl)
theorem tyq95 : TyQ Try.prog 95 (some ty95) := ty_mk (zv := .nilFunc) Try.underlying95 (by kernel_rfl) (by kernel_rfl) (by kernel_rfl)
theorem tyq96 : TyQ Try.prog 96 (some ty96) := ty_mk (zv := .nilFunc) Try.underlying96 (by kernel_rfl) (by kernel_rfl) (by kernel_rfl)
theorem tyq97 : TyQ Try.prog 97 (some ty97) := ty_mk (zv := .agg #[]) Try.underlying97 (by kernel_rfl) (by kernel_rfl) (by kernel_rfl)
theorem tyq98 : TyQ Try.prog 98 (some ty98) := ty_mk (zv := .agg #[]) Try.underlying98 (by kernel_rfl) (by kernel_rfl) (by kernel_rfl)
theorem tyq100 : TyQ Try.prog 100 (some ty100) := ty_mk (zv := .pointer none) Try.underlying100 (by kernel_rfl) (by kernel_rfl) (by kernel_rfl)
theorem tyq101 : TyQ Try.prog 101 (some ty101) := ty_mk (zv := .map none) Try.underlying101 (by kernel_rfl) (by kernel_rfl) (by kernel_rfl)
theorem tyq102 : TyQ Try.prog 102 (some ty102) := ty_mk (zv := .map none) Try.underlying102 (by kernel_rfl) (by kernel_rfl) (by kernel_rfl)
theorem tyq103 : TyQ Try.prog 103 (some ty103) := ty_mk (zv := .slice none 0 0) Try.underlying103 (by kernel_rfl) (by kernel_rfl) (by kernel_rfl)
theorem tyq104 : TyQ Try.prog 104 (some ty104) := ty_mk (zv := .agg #[.slice none 0 0, .slice none 0 0, .slice none 0 0, .slice none 0 0, .int .i64 0, .int .i64 0, .slice none 0 0, .slice none 0 0, .slice none 0 0, .map none, .int .i64 0, .int .i64 0, .bool false, .int .i64 0, .map none, .slice none 0 0, .slice none 0 0, .int .i64 0]) (und_ok Try.underlying104) (by kernel_rfl) (by kernel_rfl) (by kernel_rfl)
theorem tyq105 : TyQ Try.prog 105 (some ty105) := ty_mk (zv := .agg #[.slice none 0 0, .slice none 0 0, .slice none 0 0, .slice none 0 0, .int .i64 0, .int .i64 0, .slice none 0 0, .slice none 0 0, .slice none 0 0, .map none, .int .i64 0, .int .i64 0, .bool false, .int .i64 0, .map none, .slice none 0 0, .slice none 0 0, .int .i64 0]) (und_ok Try.underlying105) (by kernel_rfl) (by kernel_rfl) (by kernel_rfl)
theorem tyq106 : TyQ Try.prog 106 (some ty106) := ty_mk (zv := .agg #[.int .i64 0, .int .i64 0, .int .i64 0]) (und_ok Try.underlying106) (by kernel_rfl) (by kernel_rfl) (by kernel_rfl)
theorem tyq107 : TyQ Try.prog 107 (some ty107) := ty_mkE (zv := .agg #[.int .i64 0, .int .i64 0, .int .i64 0]) (und_ok Try.underlying107) (by kernel_rfl) (by kernel_rfl) (by kernel_rfl) (by kernel_rfl) (by kernel_rfl) (by kernel_rfl)
theorem tyq108 : TyQ Try.prog 108 (some ty108) := ty_mk (zv := .agg #[.int .i64 0, .int .i64 0, .int .i64 0, .int .i64 0, .int .i64 0, .int .i64 0, .int .i64 0, .int .i64 0, .int .i64 0, .int .i64 0, .int .i64 0]) (und_ok Try.underlying108) (by kernel_rfl) (by kernel_rfl) (by kernel_rfl)
theorem tyq109 : TyQ Try.prog 109 (some ty109) := ty_mk (zv := .agg #[.int .i64 0, .int .i64 0, .int .i64 0, .int .i64 0, .int .i64 0, .int .i64 0, .int .i64 0, .int .i64 0, .int .i64 0, .int .i64 0, .int .i64 0]) (und_ok Try.underlying109) (by kernel_rfl) (by kernel_rfl) (by kernel_rfl)
theorem tyq110 : TyQ Try.prog 110 (some ty110) := ty_mk (zv := .nilFunc) Try.underlying110 (by kernel_rfl) (by kernel_rfl) (by kernel_rfl)
theorem tyq111 : TyQ Try.prog 111 (some ty111) := ty_mk (zv := .nilFunc) Try.underlying111 (by kernel_rfl) (by kernel_rfl) (by kernel_rfl)
theorem tyq112 : TyQ Try.prog 112 (some ty112) := ty_mk (zv := .agg #[.int .i64 0, .int .i64 0, .int .i64 0]) (und_ok Try.underlying112) (by kernel_rfl) (by kernel_rfl) (by kernel_rfl)
theorem tyq113 : TyQ Try.prog 113 (some ty113) := ty_mkE (zv := .agg #[.int .i64 0, .int .i64 0, .int .i64 0]) (und_ok Try.underlying113) (by kernel_rfl) (by kernel_rfl) (by kernel_rfl) (by kernel_rfl) (by kernel_rfl) (by kernel_rfl)
theorem tyq114 : TyQ Try.prog 114 (some ty114) := ty_mk (zv := .pointer none) Try.underlying114 (by kernel_rfl) (by kernel_rfl) (by kernel_rfl)
theorem tyq115 : TyQ Try.prog 115 (some ty115) := ty_mk (zv := .slice none 0 0) Try.underlying115 (by kernel_rfl) (by kernel_rfl) (by kernel_rfl)
theorem tyq116 : TyQ Try.prog 116 (some ty116) := ty_mk (zv := .agg #[.slice none 0 0, .slice none 0 0, .slice none 0 0, .slice none 0 0, .slice none 0 0, .int .i64 0, .int .i64 0, .int .i64 0, .int .i64 0, .int .i64 0, .slice none 0 0, .slice none 0 0, .int .i64 0, .bool false, .int .i64 0, .slice none 0 0]) (und_ok Try.underlying116) (by kernel_rfl) (by kernel_rfl) (by kernel_rfl)
theorem tyq117 : TyQ Try.prog 117 (some ty117) := ty_mk (zv := .agg #[.slice none 0 0, .slice none 0 0, .slice none 0 0, .slice none 0 0, .slice none 0 0, .int .i64 0, .int .i64 0, .int .i64 0, .int .i64 0, .int .i64 0, .slice none 0 0, .slice none 0 0, .int .i64 0, .bool false, .int .i64 0, .slice none 0 0]) (und_ok Try.underlying117) (by kernel_rfl) (by kernel_rfl) (by kernel_rfl)
theorem tyq118 : TyQ Try.prog 118 (some ty118) := ty_mk (zv := .nilFunc) Try.underlying118 (by kernel_rfl) (by kernel_rfl) (by kernel_rfl)
theorem tyq120 : TyQ Try.prog 120 (some ty120) := ty_mk (zv := .nilFunc) Try.underlying120 (by kernel_rfl) (by kernel_rfl) (by kernel_rfl)
theorem tyq121 : TyQ Try.prog 121 (some ty121) := ty_mk (zv := .agg #[.int .i64 0, .int .i64 0, .string ByteArray.empty, .int .i64 0]) (und_ok Try.underlying121) (by kernel_rfl) (by kernel_rfl) (by kernel_rfl)
theorem tyq122 : TyQ Try.prog 122 (some ty122) := ty_mk (zv := .agg #[.int .i64 0, .int .i64 0, .string ByteArray.empty, .int .i64 0]) (und_ok Try.underlying122) (by kernel_rfl) (by kernel_rfl) (by kernel_rfl)
theorem tyq124 : TyQ Try.prog 124 (some ty124) := ty_mk (zv := .nilFunc) Try.underlying124 (by kernel_rfl) (by kernel_rfl) (by kernel_rfl)
theorem tyq125 : TyQ Try.prog 125 (some ty125) := ty_mk (zv := .nilFunc) Try.underlying125 (by kernel_rfl) (by kernel_rfl) (by kernel_rfl)
theorem tyq126 : TyQ Try.prog 126 (some ty126) := ty_mk (zv := .nilFunc) Try.underlying126 (by kernel_rfl) (by kernel_rfl) (by kernel_rfl)
theorem tyq127 : TyQ Try.prog 127 (some ty127) := ty_mk (zv := .slice none 0 0) Try.underlying127 (by kernel_rfl) (by kernel_rfl) (by kernel_rfl)
theorem tyq128 : TyQ Try.prog 128 (some ty128) := ty_mk (zv := .agg #[.string ByteArray.empty, .slice none 0 0]) (und_ok Try.underlying128) (by kernel_rfl) (by kernel_rfl) (by kernel_rfl)
theorem tyq129 : TyQ Try.prog 129 (some ty129) := ty_mk (zv := .agg #[.string ByteArray.empty, .slice none 0 0]) (und_ok Try.underlying129) (by kernel_rfl) (by kernel_rfl) (by kernel_rfl)
theorem tyq130 : TyQ Try.prog 130 (some ty130) := ty_mk (zv := .nilFunc) Try.underlying130 (by kernel_rfl) (by kernel_rfl) (by kernel_rfl)
theorem tyq131 : TyQ Try.prog 131 (some ty131) := ty_mk (zv := .nilFunc) Try.underlying131 (by kernel_rfl) (by kernel_rfl) (by kernel_rfl)
theorem tyq132 : TyQ Try.prog 132 (some ty132) := ty_mk (zv := .slice none 0 0) Try.underlying132 (by kernel_rfl) (by kernel_rfl) (by kernel_rfl)
theorem tyq133 : TyQ Try.prog 133 (some ty133) := ty_mk (zv := .agg #[.string ByteArray.empty, .int .i64 0, .slice none 0 0, .slice none 0 0]) (und_ok Try.underlying133) (by kernel_rfl) (by kernel_rfl) (by kernel_rfl)
theorem tyq134 : TyQ Try.prog 134 (some ty134) := ty_mk (zv := .agg #[.string ByteArray.empty, .int .i64 0, .slice none 0 0, .slice none 0 0]) (und_ok Try.underlying134) (by kernel_rfl) (by kernel_rfl) (by kernel_rfl)
theorem tyq136 : TyQ Try.prog 136 (some ty136) := ty_mk (zv := .nilFunc) Try.underlying136 (by kernel_rfl) (by kernel_rfl) (by kernel_rfl)
theorem tyq137 : TyQ Try.prog 137 (some ty137) := ty_mk (zv := .slice none 0 0) Try.underlying137 (by kernel_rfl) (by kernel_rfl) (by kernel_rfl)
theorem tyq138 : TyQ Try.prog 138 (some ty138) := ty_mk (zv := .agg #[.int .i64 0, .int .i64 0, .int .i64 0, .string ByteArray.empty, .string ByteArray.empty, .int .i64 0, .int .i64 0, .slice none 0 0, .string ByteArray.empty, .int .i64 0, .slice none 0 0, .slice none 0 0, .slice none 0 0]) (und_ok Try.underlying138) (by kernel_rfl) (by kernel_rfl) (by kernel_rfl)
theorem tyq139 : TyQ Try.prog 139 (some ty139) := ty_mk (zv := .agg #[.int .i64 0, .int .i64 0, .int .i64 0, .string ByteArray.empty, .string ByteArray.empty, .int .i64 0, .int .i64 0, .slice none 0 0, .string ByteArray.empty, .int .i64 0, .slice none 0 0, .slice none 0 0, .slice none 0 0]) (und_ok Try.underlying139) (by kernel_rfl) (by kernel_rfl) (by kernel_rfl)
theorem tyq140 : TyQ Try.prog 140 (some ty140) := ty_mk (zv := .nilFunc) Try.underlying140 (by kernel_rfl) (by kernel_rfl) (by kernel_rfl)
theorem tyq141 : TyQ Try.prog 141 (some ty141) := ty_mk (zv := .nilFunc) Try.underlying141 (by kernel_rfl) (by kernel_rfl) (by kernel_rfl)
theorem tyq142 : TyQ Try.prog 142 (some ty142) := ty_mk (zv := .nilFunc) Try.underlying142 (by kernel_rfl) (by kernel_rfl) (by kernel_rfl)
theorem tyq143 : TyQ Try.prog 143 (some ty143) := ty_mk (zv := .nilFunc) Try.underlying143 (by kernel_rfl) (by kernel_rfl) (by kernel_rfl)
theorem tyq144 : TyQ Try.prog 144 (some ty144) := ty_mk (zv := .agg #[.int .i64 0, .int .i64 0, .int .i64 0]) (und_ok Try.underlying144) (by kernel_rfl) (by kernel_rfl) (by kernel_rfl)
theorem tyq145 : TyQ Try.prog 145 (some ty145) := ty_mk (zv := .agg #[.int .i64 0, .int .i64 0, .int .i64 0]) (und_ok Try.underlying145) (by kernel_rfl) (by kernel_rfl) (by kernel_rfl)
theorem tyq146 : TyQ Try.prog 146 (some ty146) := ty_mk (zv := .pointer none) Try.underlying146 (by kernel_rfl) (by kernel_rfl) (by kernel_rfl)
theorem tyq147 : TyQ Try.prog 147 (some ty147) := ty_mk (zv := .nilFunc) Try.underlying147 (by kernel_rfl) (by kernel_rfl) (by kernel_rfl)
theorem tyq148 : TyQ Try.prog 148 (some ty148) := ty_mk (zv := .nilFunc) Try.underlying148 (by kernel_rfl) (by kernel_rfl) (by kernel_rfl)
theorem tyq149 : TyQ Try.prog 149 (some ty149) := ty_mk (zv := .nilFunc) Try.underlying149 (by kernel_rfl) (by kernel_rfl) (by kernel_rfl)
theorem tyq150 : TyQ Try.prog 150 (some ty150) := ty_mk (zv := .nilFunc) Try.underlying150 (by kernel_rfl) (by kernel_rfl) (by kernel_rfl)
theorem tyq151 : TyQ Try.prog 151 (some ty151) := ty_mk (zv := .pointer none) Try.underlying151 (by kernel_rfl) (by kernel_rfl) (by kernel_rfl)
theorem tyq152 : TyQ Try.prog 152 (some ty152) := ty_mk (zv := .agg #[.slice none 0 0, .slice none 0 0, .slice none 0 0, .slice none 0 0, .int .i64 0, .slice none 0 0, .int .i64 0, .int .i64 0]) (und_ok Try.underlying152) (by kernel_rfl) (by kernel_rfl) (by kernel_rfl)
theorem tyq153 : TyQ Try.prog 153 (some ty153) := ty_mk (zv := .agg #[.slice none 0 0, .slice none 0 0, .slice none 0 0, .slice none 0 0, .int .i64 0, .slice none 0 0, .int .i64 0, .int .i64 0]) (und_ok Try.underlying153) (by kernel_rfl) (by kernel_rfl) (by kernel_rfl)
theorem tyq154 : TyQ Try.prog 154 (some ty154) := ty_mk (zv := .nilFunc) Try.underlying154 (by kernel_rfl) (by kernel_rfl) (by kernel_rfl)
theorem tyq155 : TyQ Try.prog 155 (some ty155) := ty_mk (zv := .nilFunc) Try.underlying155 (by kernel_rfl) (by kernel_rfl) (by kernel_rfl)
theorem tyq156 : TyQ Try.prog 156 (some ty156) := ty_mk (zv := .nilFunc) Try.underlying156 (by kernel_rfl) (by kernel_rfl) (by kernel_rfl)
theorem tyq157 : TyQ Try.prog 157 (some ty157) := ty_mk (zv := .nilFunc) Try.underlying157 (by kernel_rfl) (by kernel_rfl) (by kernel_rfl)
theorem tyq158 : TyQ Try.prog 158 (some ty158) := ty_mk (zv := .nilFunc) Try.underlying158 (by kernel_rfl) (by kernel_rfl) (by kernel_rfl)
theorem tyq159 : TyQ Try.prog 159 (some ty159) := ty_mk (zv := .agg #[.int .i64 0, .int .i64 0, .int .i64 0, .slice none 0 0, .int .i64 0, .slice none 0 0, .int .i64 0, .slice none 0 0, .int .i64 0, .int .i64 0, .slice none 0 0, .slice none 0 0, .map none]) (und_ok Try.underlying159) (by kernel_rfl) (by kernel_rfl) (by kernel_rfl)
theorem tyq160 : TyQ Try.prog 160 (some ty160) := ty_mk (zv := .agg #[.int .i64 0, .int .i64 0, .int .i64 0, .slice none 0 0, .int .i64 0, .slice none 0 0, .int .i64 0, .slice none 0 0, .int .i64 0, .int .i64 0, .slice none 0 0, .slice none 0 0, .map none]) (und_ok Try.underlying160) (by kernel_rfl) (by kernel_rfl) (by kernel_rfl)
theorem tyq162 : TyQ Try.prog 162 (some ty162) := ty_mk (zv := .nilFunc) Try.underlying162 (by kernel_rfl) (by kernel_rfl) (by kernel_rfl)
theorem tyq163 : TyQ Try.prog 163 (some ty163) := ty_mk (zv := .nilFunc) Try.underlying163 (by kernel_rfl) (by kernel_rfl) (by kernel_rfl)
theorem tyq164 : TyQ Try.prog 164 (some ty164) := ty_mk (zv := .nilFunc) Try.underlying164 (by kernel_rfl) (by kernel_rfl) (by kernel_rfl)
theorem tyq165 : TyQ Try.prog 165 (some ty165) := ty_mk (zv := .pointer none) Try.underlying165 (by kernel_rfl) (by kernel_rfl) (by kernel_rfl)
theorem tyq166 : TyQ Try.prog 166 (some ty166) := ty_mk (zv := .nilFunc) Try.underlying166 (by kernel_rfl) (by kernel_rfl) (by kernel_rfl)
theorem tyq167 : TyQ Try.prog 167 (some ty167) := ty_mk (zv := .pointer none) Try.underlying167 (by kernel_rfl) (by kernel_rfl) (by kernel_rfl)
theorem tyq168 : TyQ Try.prog 168 (some ty168) := ty_mk (zv := .slice none 0 0) Try.underlying168 (by kernel_rfl) (by kernel_rfl) (by kernel_rfl)
theorem tyq169 : TyQ Try.prog 169 (some ty169) := ty_mk (zv := .agg #[.int .i64 0, .slice none 0 0, .map none, .slice none 0 0, .int .i64 0, .int .i64 0, .slice none 0 0, .int .i64 0, .slice none 0 0, .int .i64 0, .slice none 0 0]) (und_ok Try.underlying169) (by kernel_rfl) (by kernel_rfl) (by kernel_rfl)
theorem tyq170 : TyQ Try.prog 170 (some ty170) := ty_mk (zv := .agg #[.int .i64 0, .slice none 0 0, .map none, .slice none 0 0, .int .i64 0, .int .i64 0, .slice none 0 0, .int .i64 0, .slice none 0 0, .int .i64 0, .slice none 0 0]) (und_ok Try.underlying170) (by kernel_rfl) (by kernel_rfl) (by kernel_rfl)
theorem tyq171 : TyQ Try.prog 171 (some ty171) := ty_mk (zv := .nilFunc) Try.underlying171 (by kernel_rfl) (by kernel_rfl) (by kernel_rfl)
theorem tyq172 : TyQ Try.prog 172 (some ty172) := ty_mk (zv := .nilFunc) Try.underlying172 (by kernel_rfl) (by kernel_rfl) (by kernel_rfl)
theorem tyq174 : TyQ Try.prog 174 (some ty174) := ty_mk (zv := .nilFunc) Try.underlying174 (by kernel_rfl) (by kernel_rfl) (by kernel_rfl)
theorem tyq175 : TyQ Try.prog 175 (some ty175) := ty_mk (zv := .nilFunc) Try.underlying175 (by kernel_rfl) (by kernel_rfl) (by kernel_rfl)
theorem tyq176 : TyQ Try.prog 176 (some ty176) := ty_mk (zv := .nilFunc) Try.underlying176 (by kernel_rfl) (by kernel_rfl) (by kernel_rfl)
theorem tyq177 : TyQ Try.prog 177 (some ty177) := ty_mk (zv := .nilFunc) Try.underlying177 (by kernel_rfl) (by kernel_rfl) (by kernel_rfl)
theorem tyq178 : TyQ Try.prog 178 (some ty178) := ty_mk (zv := .nilFunc) Try.underlying178 (by kernel_rfl) (by kernel_rfl) (by kernel_rfl)
theorem tyq179 : TyQ Try.prog 179 (some ty179) := ty_mk (zv := .map none) Try.underlying179 (by kernel_rfl) (by kernel_rfl) (by kernel_rfl)
theorem tyq180 : TyQ Try.prog 180 (some ty180) := ty_mk (zv := .nilFunc) Try.underlying180 (by kernel_rfl) (by kernel_rfl) (by kernel_rfl)
theorem tyq182 : TyQ Try.prog 182 (some ty182) := ty_mk (zv := .nilFunc) Try.underlying182 (by kernel_rfl) (by kernel_rfl) (by kernel_rfl)
theorem tyq183 : TyQ Try.prog 183 (some ty183) := ty_mk (zv := .nilFunc) Try.underlying183 (by kernel_rfl) (by kernel_rfl) (by kernel_rfl)
theorem tyq184 : TyQ Try.prog 184 (some ty184) := ty_mk (zv := .slice none 0 0) Try.underlying184 (by kernel_rfl) (by kernel_rfl) (by kernel_rfl)
theorem tyq185 : TyQ Try.prog 185 (some ty185) := ty_mk (zv := .agg #[.int .i64 0, .slice none 0 0]) (und_ok Try.underlying185) (by kernel_rfl) (by kernel_rfl) (by kernel_rfl)
theorem tyq186 : TyQ Try.prog 186 (some ty186) := ty_mk (zv := .agg #[.int .i64 0, .slice none 0 0]) (und_ok Try.underlying186) (by kernel_rfl) (by kernel_rfl) (by kernel_rfl)
theorem tyq187 : TyQ Try.prog 187 (some ty187) := ty_mk (zv := .agg #[.int .i64 0, .int .i64 0]) (und_ok Try.underlying187) (by kernel_rfl) (by kernel_rfl) (by kernel_rfl)
theorem tyq188 : TyQ Try.prog 188 (some ty188) := ty_mk (zv := .agg #[.int .i64 0, .int .i64 0]) (und_ok Try.underlying188) (by kernel_rfl) (by kernel_rfl) (by kernel_rfl)
theorem tyq189 : TyQ Try.prog 189 (some ty189) := ty_mk (zv := .nilFunc) Try.underlying189 (by kernel_rfl) (by kernel_rfl) (by kernel_rfl)
theorem tyq190 : TyQ Try.prog 190 (some ty190) := ty_mk (zv := .nilFunc) Try.underlying190 (by kernel_rfl) (by kernel_rfl) (by kernel_rfl)
theorem tyq191 : TyQ Try.prog 191 (some ty191) := ty_mk (zv := .nilFunc) Try.underlying191 (by kernel_rfl) (by kernel_rfl) (by kernel_rfl)
theorem tyq192 : TyQ Try.prog 192 (some ty192) := ty_mk (zv := .nilFunc) Try.underlying192 (by kernel_rfl) (by kernel_rfl) (by kernel_rfl)
theorem tyq193 : TyQ Try.prog 193 (some ty193) := ty_mk (zv := .nilFunc) Try.underlying193 (by kernel_rfl) (by kernel_rfl) (by kernel_rfl)
theorem tyq194 : TyQ Try.prog 194 (some ty194) := ty_mk (zv := .nilFunc) Try.underlying194 (by kernel_rfl) (by kernel_rfl) (by kernel_rfl)
theorem tyq195 : TyQ Try.prog 195 (some ty195) := ty_mk (zv := .nilFunc) Try.underlying195 (by kernel_rfl) (by kernel_rfl) (by kernel_rfl)
theorem tyq196 : TyQ Try.prog 196 (some ty196) := ty_mk (zv := .nilFunc) Try.underlying196 (by kernel_rfl) (by kernel_rfl) (by kernel_rfl)
theorem tyq197 : TyQ Try.prog 197 (some ty197) := ty_mk (zv := .nilFunc) Try.underlying197 (by kernel_rfl) (by kernel_rfl) (by kernel_rfl)
theorem tyq198 : TyQ Try.prog 198 (some ty198) := ty_mk (zv := .nilFunc) Try.underlying198 (by kernel_rfl) (by kernel_rfl) (by kernel_rfl)
theorem tyq199 : TyQ Try.prog 199 (some ty199) := ty_mk (zv := .nilFunc) Try.underlying199 (by kernel_rfl) (by kernel_rfl) (by kernel_rfl)
theorem tyq200 : TyQ Try.prog 200 (some ty200) := ty_mk (zv := .nilFunc) Try.underlying200 (by kernel_rfl) (by kernel_rfl) (by kernel_rfl)
theorem tyq201 : TyQ Try.prog 201 (some ty201) := ty_mk (zv := .map none) Try.underlying201 (by kernel_rfl) (by kernel_rfl) (by kernel_rfl)
theorem tyq202 : TyQ Try.prog 202 (some ty202) := ty_mk (zv := .nilFunc) Try.underlying202 (by kernel_rfl) (by kernel_rfl) (by kernel_rfl)
theorem tyq203 : TyQ Try.prog 203 (some ty203) := ty_mk (zv := .nilFunc) Try.underlying203 (by kernel_rfl) (by kernel_rfl) (by kernel_rfl)
theorem tyq204 : TyQ Try.prog 204 (some ty204) := ty_mk (zv := .nilFunc) Try.underlying204 (by kernel_rfl) (by kernel_rfl) (by kernel_rfl)
theorem tyq205 : TyQ Try.prog 205 (some ty205) := ty_mk (zv := .agg #[.int .i64 0, .int .i64 0, .int .i64 0, .slice none 0 0, .int .i64 0, .slice none 0 0, .int .i64 0, .slice none 0 0, .int .i64 0, .int .i64 0, .slice none 0 0, .slice none 0 0, .map none, .int .i64 0, .int .i64 0, .int .i64 0]) (und_ok Try.underlying205) (by kernel_rfl) (by kernel_rfl) (by kernel_rfl)
theorem tyq206 : TyQ Try.prog 206 (some ty206) := ty_mk (zv := .agg #[.int .i64 0, .int .i64 0, .int .i64 0, .slice none 0 0, .int .i64 0, .slice none 0 0, .int .i64 0, .slice none 0 0, .int .i64 0, .int .i64 0, .slice none 0 0, .slice none 0 0, .map none, .int .i64 0, .int .i64 0, .int .i64 0]) (und_ok Try.underlying206) (by kernel_rfl) (by kernel_rfl) (by kernel_rfl)
theorem tyq207 : TyQ Try.prog 207 (some ty207) := ty_mk (zv := .nilFunc) Try.underlying207 (by kernel_rfl) (by kernel_rfl) (by kernel_rfl)
theorem tyq208 : TyQ Try.prog 208 (some ty208) := ty_mk (zv := .nilFunc) Try.underlying208 (by kernel_rfl) (by kernel_rfl) (by kernel_rfl)
theorem tyq209 : TyQ Try.prog 209 (some ty209) := ty_mk (zv := .nilFunc) Try.underlying209 (by kernel_rfl) (by kernel_rfl) (by kernel_rfl)
theorem tyq210 : TyQ Try.prog 210 (some ty210) := ty_mk (zv := .slice none 0 0) Try.underlying210 (by kernel_rfl) (by kernel_rfl) (by kernel_rfl)
theorem tyq211 : TyQ Try.prog 211 (some ty211) := ty_mk (zv := .nilFunc) Try.underlying211 (by kernel_rfl) (by kernel_rfl) (by kernel_rfl)
theorem tyq212 : TyQ Try.prog 212 (some ty212) := ty_mk (zv := .pointer none) Try.underlying212 (by kernel_rfl) (by kernel_rfl) (by kernel_rfl)
theorem tyq213 : TyQ Try.prog 213 (some ty213) := ty_mk (zv := .agg #[.int .i64 0, .int .i64 0, .int .i64 0, .string ByteArray.empty, .string ByteArray.empty, .slice none 0 0]) (und_ok Try.underlying213) (by kernel_rfl) (by kernel_rfl) (by kernel_rfl)
theorem tyq214 : TyQ Try.prog 214 (some ty214) := ty_mk (zv := .agg #[.int .i64 0, .int .i64 0, .int .i64 0, .string ByteArray.empty, .string ByteArray.empty, .slice none 0 0]) (und_ok Try.underlying214) (by kernel_rfl) (by kernel_rfl) (by kernel_rfl)
theorem tyq215 : TyQ Try.prog 215 (some ty215) := ty_mk (zv := .nilFunc) Try.underlying215 (by kernel_rfl) (by kernel_rfl) (by kernel_rfl)
theorem tyq216 : TyQ Try.prog 216 (some ty216) := ty_mk (zv := .nilFunc) Try.underlying216 (by kernel_rfl) (by kernel_rfl) (by kernel_rfl)
theorem tyq218 : TyQ Try.prog 218 (some ty218) := ty_mk (zv := .nilFunc) Try.underlying218 (by kernel_rfl) (by kernel_rfl) (by kernel_rfl)
theorem tyq219 : TyQ Try.prog 219 (some ty219) := ty_mk (zv := .nilFunc) Try.underlying219 (by kernel_rfl) (by kernel_rfl) (by kernel_rfl)
theorem tyq220 : TyQ Try.prog 220 (some ty220) := ty_mk (zv := .nilFunc) Try.underlying220 (by kernel_rfl) (by kernel_rfl) (by kernel_rfl)
theorem tyq221 : TyQ Try.prog 221 (some ty221) := ty_mk (zv := .nilFunc) Try.underlying221 (by kernel_rfl) (by kernel_rfl) (by kernel_rfl)
theorem tyq222 : TyQ Try.prog 222 (some ty222) := ty_mk (zv := .nilFunc) Try.underlying222 (by kernel_rfl) (by kernel_rfl) (by kernel_rfl)
theorem tyq223 : TyQ Try.prog 223 (some ty223) := ty_mk (zv := .nilFunc) Try.underlying223 (by kernel_rfl) (by kernel_rfl) (by kernel_rfl)
theorem tyq224 : TyQ Try.prog 224 (some ty224) := ty_mk (zv := .nilFunc) Try.underlying224 (by kernel_rfl) (by kernel_rfl) (by kernel_rfl)
theorem tyq225 : TyQ Try.prog 225 (some ty225) := ty_mk (zv := .nilFunc) Try.underlying225 (by kernel_rfl) (by kernel_rfl) (by kernel_rfl)
theorem tyq226 : TyQ Try.prog 226 (some ty226) := ty_mk (zv := .map none) Try.underlying226 (by kernel_rfl) (by kernel_rfl) (by kernel_rfl)
theorem tyq227 : TyQ Try.prog 227 (some ty227) := ty_mk (zv := .agg #[.int .i64 0, .int .i64 0, .int .i64 0]) (und_ok Try.underlying227) (by kernel_rfl) (by kernel_rfl) (by kernel_rfl)
theorem tyq228 : TyQ Try.prog 228 (some ty228) := ty_mkE (zv := .agg #[.int .i64 0, .int .i64 0, .int .i64 0]) (und_ok Try.underlying228) (by kernel_rfl) (by kernel_rfl) (by kernel_rfl) (by kernel_rfl) (by kernel_rfl) (by kernel_rfl)
theorem tyq229 : TyQ Try.prog 229 (some ty229) := ty_mk (zv := .agg #[.int .i64 0, .map none]) (und_ok Try.underlying229) (by kernel_rfl) (by kernel_rfl) (by kernel_rfl)
theorem tyq230 : TyQ Try.prog 230 (some ty230) := ty_mk (zv := .agg #[.int .i64 0, .map none]) (und_ok Try.underlying230) (by kernel_rfl) (by kernel_rfl) (by kernel_rfl)
theorem tyq231 : TyQ Try.prog 231 (some ty231) := ty_mk (zv := .nilFunc) Try.underlying231 (by kernel_rfl) (by kernel_rfl) (by kernel_rfl)
theorem tyq232 : TyQ Try.prog 232 (some ty232) := ty_mk (zv := .nilFunc) Try.underlying232 (by kernel_rfl) (by kernel_rfl) (by kernel_rfl)
theorem tyq233 : TyQ Try.prog 233 (some ty233) := ty_mk (zv := .nilFunc) Try.underlying233 (by kernel_rfl) (by kernel_rfl) (by kernel_rfl)
theorem tyq234 : TyQ Try.prog 234 (some ty234) := ty_mk (zv := .nilFunc) Try.underlying234 (by kernel_rfl) (by kernel_rfl) (by kernel_rfl)
theorem tyq235 : TyQ Try.prog 235 (some ty235) := ty_mk (zv := .nilFunc) Try.underlying235 (by kernel_rfl) (by kernel_rfl) (by kernel_rfl)
theorem tyq236 : TyQ Try.prog 236 (some ty236) := ty_mk (zv := .nilFunc) Try.underlying236 (by kernel_rfl) (by kernel_rfl) (by kernel_rfl)
theorem tyq237 : TyQ Try.prog 237 (some ty237) := ty_mkE (zv := .agg #[.int .i64 0, .int .i64 0, .int .i64 0]) Try.underlying237 (by kernel_rfl) (by kernel_rfl) (by kernel_rfl) (by kernel_rfl) (by kernel_rfl) (by kernel_rfl)
theorem tyq238 : TyQ Try.prog 238 (some ty238) := ty_mk (zv := .nilFunc) Try.underlying238 (by kernel_rfl) (by kernel_rfl) (by kernel_rfl)
theorem tyq239 : TyQ Try.prog 239 (some ty239) := ty_mk (zv := .pointer none) Try.underlying239 (by kernel_rfl) (by kernel_rfl) (by kernel_rfl)
theorem tyq240 : TyQ Try.prog 240 (some ty240) := ty_mk (zv := .nilFunc) Try.underlying240 (by kernel_rfl) (by kernel_rfl) (by kernel_rfl)
theorem tyq241 : TyQ Try.prog 241 (some ty241) := ty_mk (zv := .nilFunc) Try.underlying241 (by kernel_rfl) (by kernel_rfl) (by kernel_rfl)
theorem tyq242 : TyQ Try.prog 242 (some ty242) := ty_mk (zv := .nilFunc) Try.underlying242 (by kernel_rfl) (by kernel_rfl) (by kernel_rfl)
theorem tyq243 : TyQ Try.prog 243 (some ty243) := ty_mk (zv := .nilFunc) Try.underlying243 (by kernel_rfl) (by kernel_rfl) (by kernel_rfl)
theorem tyq244 : TyQ Try.prog 244 (some ty244) := ty_mk (zv := .nilFunc) Try.underlying244 (by kernel_rfl) (by kernel_rfl) (by kernel_rfl)
theorem tyq245 : TyQ Try.prog 245 (some ty245) := ty_mk (zv := .nilFunc) Try.underlying245 (by kernel_rfl) (by kernel_rfl) (by kernel_rfl)
theorem tyq246 : TyQ Try.prog 246 (some ty246) := ty_mk (zv := .nilFunc) Try.underlying246 (by kernel_rfl) (by kernel_rfl) (by kernel_rfl)
theorem tyq247 : TyQ Try.prog 247 (some ty247) := ty_mk (zv := .nilFunc) Try.underlying247 (by kernel_rfl) (by kernel_rfl) (by kernel_rfl)
theorem tyq248 : TyQ Try.prog 248 (some ty248) := ty_mk (zv := .nilFunc) Try.underlying248 (by kernel_rfl) (by kernel_rfl) (by kernel_rfl)
theorem tyq249 : TyQ Try.prog 249 (some ty249) := ty_mk (zv := .nilFunc) Try.underlying249 (by kernel_rfl) (by kernel_rfl) (by kernel_rfl)
theorem tyq250 : TyQ Try.prog 250 (some ty250) := ty_mk (zv := .nilFunc) Try.underlying250 (by kernel_rfl) (by kernel_rfl) (by kernel_rfl)
theorem tyq251 : TyQ Try.prog 251 (some ty251) := ty_mk (zv := .nilFunc) Try.underlying251 (by kernel_rfl) (by kernel_rfl) (by kernel_rfl)
theorem tyq252 : TyQ Try.prog 252 (some ty252) := ty_mk (zv := .agg #[.int .i64 0, .int .i64 0, .int .i64 0]) (und_ok Try.underlying252) (by kernel_rfl) (by kernel_rfl) (by kernel_rfl)
theorem tyq253 : TyQ Try.prog 253 (some ty253) := ty_mk (zv := .agg #[.int .i64 0, .int .i64 0, .int .i64 0]) (und_ok Try.underlying253) (by kernel_rfl) (by kernel_rfl) (by kernel_rfl)
theorem tyq255 : TyQ Try.prog 255 (some ty255) := ty_mk (zv := .nilFunc) Try.underlying255 (by kernel_rfl) (by kernel_rfl) (by kernel_rfl)
theorem tyq256 : TyQ Try.prog 256 (some ty256) := ty_mk (zv := .nilFunc) Try.underlying256 (by kernel_rfl) (by kernel_rfl) (by kernel_rfl)
theorem tyq257 : TyQ Try.prog 257 (some ty257) := ty_mk (zv := .pointer none) Try.underlying257 (by kernel_rfl) (by kernel_rfl) (by kernel_rfl)
theorem tyq258 : TyQ Try.prog 258 (some ty258) := ty_mk (zv := .nilFunc) Try.underlying258 (by kernel_rfl) (by kernel_rfl) (by kernel_rfl)
theorem tyq259 : TyQ Try.prog 259 (some ty259) := ty_mk (zv := .nilFunc) Try.underlying259 (by kernel_rfl) (by kernel_rfl) (by kernel_rfl)
theorem tyq260 : TyQ Try.prog 260 (some ty260) := ty_mk (zv := .nilFunc) Try.underlying260 (by kernel_rfl) (by kernel_rfl) (by kernel_rfl)
theorem tyq261 : TyQ Try.prog 261 (some ty261) := ty_mk (zv := .nilFunc) Try.underlying261 (by kernel_rfl) (by kernel_rfl) (by kernel_rfl)
theorem tyq262 : TyQ Try.prog 262 (some ty262) := ty_mk (zv := .nilFunc) Try.underlying262 (by kernel_rfl) (by kernel_rfl) (by kernel_rfl)
theorem tyq263 : TyQ Try.prog 263 (some ty263) := ty_mk (zv := .nilFunc) Try.underlying263 (by kernel_rfl) (by kernel_rfl) (by kernel_rfl)
theorem tyq264 : TyQ Try.prog 264 (some ty264) := ty_mk (zv := .nilFunc) Try.underlying264 (by kernel_rfl) (by kernel_rfl) (by kernel_rfl)
theorem tyq265 : TyQ Try.prog 265 (some ty265) := ty_mk (zv := .nilFunc) Try.underlying265 (by kernel_rfl) (by kernel_rfl) (by kernel_rfl)
theorem tyq266 : TyQ Try.prog 266 (some ty266) := ty_mk (zv := .nilFunc) Try.underlying266 (by kernel_rfl) (by kernel_rfl) (by kernel_rfl)
theorem tyq267 : TyQ Try.prog 267 (some ty267) := ty_mk (zv := .nilFunc) Try.underlying267 (by kernel_rfl) (by kernel_rfl) (by kernel_rfl)
theorem tyq268 : TyQ Try.prog 268 (some ty268) := ty_mk (zv := .nilFunc) Try.underlying268 (by kernel_rfl) (by kernel_rfl) (by kernel_rfl)
theorem tyq269 : TyQ Try.prog 269 (some ty269) := ty_mk (zv := .nilFunc) Try.underlying269 (by kernel_rfl) (by kernel_rfl) (by kernel_rfl)
theorem tyq270 : TyQ Try.prog 270 (some ty270) := ty_mk (zv := .nilFunc) Try.underlying270 (by kernel_rfl) (by kernel_rfl) (by kernel_rfl)
theorem tyq271 : TyQ Try.prog 271 (some ty271) := ty_mk (zv := .nilFunc) Try.underlying271 (by kernel_rfl) (by kernel_rfl) (by kernel_rfl)
theorem tyq272 : TyQ Try.prog 272 (some ty272) := ty_mk (zv := .nilFunc) Try.underlying272 (by kernel_rfl) (by kernel_rfl) (by kernel_rfl)
theorem tyq273 : TyQ Try.prog 273 (some ty273) := ty_mk (zv := .nilFunc) Try.underlying273 (by kernel_rfl) (by kernel_rfl) (by kernel_rfl)
theorem tyq275 : TyQ Try.prog 275 (some ty275) := ty_mk (zv := .nilFunc) Try.underlying275 (by kernel_rfl) (by kernel_rfl) (by kernel_rfl)
theorem tyq276 : TyQ Try.prog 276 (some ty276) := ty_mk (zv := .nilFunc) Try.underlying276 (by kernel_rfl) (by kernel_rfl) (by kernel_rfl)
theorem tyq277 : TyQ Try.prog 277 (some ty277) := ty_mk (zv := .nilFunc) Try.underlying277 (by kernel_rfl) (by kernel_rfl) (by kernel_rfl)
theorem tyq278 : TyQ Try.prog 278 (some ty278) := ty_mk (zv := .nilFunc) Try.underlying278 (by kernel_rfl) (by kernel_rfl) (by kernel_rfl)
theorem tyq279 : TyQ Try.prog 279 (some ty279) := ty_mk (zv := .nilFunc) Try.underlying279 (by kernel_rfl) (by kernel_rfl) (by kernel_rfl)
theorem tyq280 : TyQ Try.prog 280 (some ty280) := ty_mk (zv := .nilFunc) Try.underlying280 (by kernel_rfl) (by kernel_rfl) (by kernel_rfl)
theorem tyq282 : TyQ Try.prog 282 (some ty282) := ty_mk (zv := .nilFunc) Try.underlying282 (by kernel_rfl) (by kernel_rfl) (by kernel_rfl)
theorem tyq283 : TyQ Try.prog 283 (some ty283) := ty_mk (zv := .int .u64 0) Try.underlying283 (by kernel_rfl) (by kernel_rfl) (by kernel_rfl)
theorem tyq284 : TyQ Try.prog 284 (some ty284) := ty_mk (zv := .nilFunc) Try.underlying284 (by kernel_rfl) (by kernel_rfl) (by kernel_rfl)
theorem tyq285 : TyQ Try.prog 285 (some ty285) := ty_mk (zv := .agg #[.pointer none, .pointer none, .pointer none, .string ByteArray.empty]) (und_ok Try.underlying285) (by kernel_rfl) (by kernel_rfl) (by kernel_rfl)
theorem tyq286 : TyQ Try.prog 286 (some ty286) := ty_mk (zv := .agg #[.pointer none, .pointer none, .pointer none, .string ByteArray.empty]) (und_ok Try.underlying286) (by kernel_rfl) (by kernel_rfl) (by kernel_rfl)
theorem tyq287 : TyQ Try.prog 287 (some ty287) := ty_mk (zv := .agg #[]) Try.underlying287 (by kernel_rfl) (by kernel_rfl) (by kernel_rfl)
theorem tyq288 : TyQ Try.prog 288 (some ty288) := ty_mk (zv := .agg #[]) (und_ok Try.underlying288) (by kernel_rfl) (by kernel_rfl) (by kernel_rfl)
theorem tyq289 : TyQ Try.prog 289 (some ty289) := ty_mk (zv := .agg #[]) (und_ok Try.underlying289) (by kernel_rfl) (by kernel_rfl) (by kernel_rfl)
theorem tyq290 : TyQ Try.prog 290 (some ty290) := ty_mk (zv := .int .u32 0) Try.underlying290 (by kernel_rfl) (by kernel_rfl) (by kernel_rfl)
theorem tyq291 : TyQ Try.prog 291 (some ty291) := ty_mk (zv := .int .u8 0) Try.underlying291 (by kernel_rfl) (by kernel_rfl) (by kernel_rfl)
theorem tyq292 : TyQ Try.prog 292 (some ty292) := ty_mk (zv := .int .u8 0) Try.underlying292 (by kernel_rfl) (by kernel_rfl) (by kernel_rfl)
theorem tyq293 : TyQ Try.prog 293 (some ty293) := ty_mk (zv := .nilFunc) Try.underlying293 (by kernel_rfl) (by kernel_rfl) (by kernel_rfl)
theorem tyq294 : TyQ Try.prog 294 (some ty294) := ty_mk (zv := .pointer none) Try.underlying294 (by kernel_rfl) (by kernel_rfl) (by kernel_rfl)
theorem tyq295 : TyQ Try.prog 295 (some ty295) := ty_mk (zv := .int .i32 0) Try.underlying295 (by kernel_rfl) (by kernel_rfl) (by kernel_rfl)
theorem tyq296 : TyQ Try.prog 296 (some ty296) := ty_mk (zv := .int .i32 0) Try.underlying296 (by kernel_rfl) (by kernel_rfl) (by kernel_rfl)
theorem tyq297 : TyQ Try.prog 297 (some ty297) := ty_mk (zv := .agg #[.int .u64 0, .int .u64 0, .int .u32 0, .int .u8 0, .int .u8 0, .int .u8 0, .int .u8 0, .nilFunc, .pointer none, .int .i32 0, .int .i32 0]) (und_ok Try.underlying297) (by kernel_rfl) (by kernel_rfl) (by kernel_rfl)
theorem tyq298 : TyQ Try.prog 298 (some ty298) := ty_mk (zv := .agg #[.int .u64 0, .int .u64 0, .int .u32 0, .int .u8 0, .int .u8 0, .int .u8 0, .int .u8 0, .nilFunc, .pointer none, .int .i32 0, .int .i32 0]) (und_ok Try.underlying298) (by kernel_rfl) (by kernel_rfl) (by kernel_rfl)
noncomputable def tys : T (Option TyI) := (.n (.n (.n (.n (.n (.n (.n (.n (.n .e (some ty255) .e) (some ty127) .e) (some ty63) (.n .e (some ty191) .e)) (some ty31) (.n (.n (.n .e (some ty287) .e) (some ty159) .e) (some ty95) (.n .e (some ty223) .e))) (some ty15) (.n (.n (.n (.n .e (some ty271) .e) (some ty143) .e) (some ty79) (.n .e (some ty207) .e)) (some ty47) (.n (.n .e (some ty175) .e) (some ty111) (.n .e (some ty239) .e)))) (some ty7) (.n (.n (.n (.n (.n .e (some ty263) .e) none .e) (some ty71) (.n .e (some ty199) .e)) (some ty39) (.n (.n (.n .e (some ty295) .e) (some ty167) .e) (some ty103) (.n .e (some ty231) .e))) (some ty23) (.n (.n (.n (.n .e (some ty279) .e) (some ty151) .e) (some ty87) (.n .e (some ty215) .e)) (some ty55) (.n (.n .e (some ty183) .e) none (.n .e (some ty247) .e))))) (some ty3) (.n (.n (.n (.n (.n (.n .e (some ty259) .e) (some ty131) .e) (some ty67) (.n .e (some ty195) .e)) (some ty35) (.n (.n (.n .e (some ty291) .e) (some ty163) .e) none (.n .e (some ty227) .e))) (some ty19) (.n (.n (.n (.n .e (some ty275) .e) (some ty147) .e) (some ty83) (.n .e (some ty211) .e)) (some ty51) (.n (.n .e (some ty179) .e) (some ty115) (.n .e (some ty243) .e)))) (some ty11) (.n (.n (.n (.n (.n .e (some ty267) .e) (some ty139) .e) (some ty75) (.n .e (some ty203) .e)) none (.n (.n .e (some ty171) .e) (some ty107) (.n .e (some ty235) .e))) (some ty27) (.n (.n (.n (.n .e (some ty283) .e) (some ty155) .e) (some ty91) (.n .e (some ty219) .e)) (some ty59) (.n (.n .e (some ty187) .e) none (.n .e (some ty251) .e)))))) (some ty1) (.n (.n (.n (.n (.n (.n (.n .e (some ty257) .e) (some ty129) .e) (some ty65) (.n .e (some ty193) .e)) (some ty33) (.n (.n (.n .e (some ty289) .e) none .e) (some ty97) (.n .e (some ty225) .e))) (some ty17) (.n (.n (.n (.n .e (some ty273) .e) (some ty145) .e) (some ty81) (.n .e (some ty209) .e)) (some ty49) (.n (.n .e (some ty177) .e) (some ty113) (.n .e (some ty241) .e)))) (some ty9) (.n (.n (.n (.n (.n .e (some ty265) .e) (some ty137) .e) (some ty73) (.n .e (some ty201) .e)) (some ty41) (.n (.n (.n .e (some ty297) .e) (some ty169) .e) (some ty105) (.n .e (some ty233) .e))) (some ty25) (.n (.n (.n .e (some ty153) .e) (some ty89) .e) (some ty57) (.n (.n .e (some ty185) .e) (some ty121) (.n .e (some ty249) .e))))) (some ty5) (.n (.n (.n (.n (.n (.n .e (some ty261) .e) (some ty133) .e) none (.n .e (some ty197) .e)) (some ty37) (.n (.n (.n .e (some ty293) .e) (some ty165) .e) (some ty101) (.n .e (some ty229) .e))) (some ty21) (.n (.n (.n (.n .e (some ty277) .e) (some ty149) .e) (some ty85) (.n .e (some ty213) .e)) (some ty53) (.n .e (some ty117) (.n .e (some ty245) .e)))) (some ty13) (.n (.n (.n (.n (.n .e (some ty269) .e) (some ty141) .e) (some ty77) (.n .e (some ty205) .e)) (some ty45) (.n .e (some ty109) (.n .e (some ty237) .e))) (some ty29) (.n (.n (.n (.n .e (some ty285) .e) (some ty157) .e) none (.n .e (some ty221) .e)) (some ty61) (.n (.n .e (some ty189) .e) (some ty125) (.n .e (some ty253) .e))))))) none (.n (.n (.n (.n (.n (.n (.n (.n .e (some ty256) .e) (some ty128) .e) (some ty64) (.n .e (some ty192) .e)) (some ty32) (.n (.n (.n .e (some ty288) .e) (some ty160) .e) (some ty96) (.n .e (some ty224) .e))) (some ty16) (.n (.n (.n (.n .e (some ty272) .e) (some ty144) .e) (some ty80) (.n .e (some ty208) .e)) (some ty48) (.n (.n .e (some ty176) .e) (some ty112) (.n .e (some ty240) .e)))) (some ty8) (.n (.n (.n (.n (.n .e (some ty264) .e) (some ty136) .e) (some ty72) (.n .e (some ty200) .e)) (some ty40) (.n (.n (.n .e (some ty296) .e) (some ty168) .e) (some ty104) (.n .e (some ty232) .e))) (some ty24) (.n (.n (.n (.n .e (some ty280) .e) (some ty152) .e) (some ty88) (.n .e (some ty216) .e)) (some ty56) (.n (.n .e (some ty184) .e) (some ty120) (.n .e (some ty248) .e))))) (some ty4) (.n (.n (.n (.n (.n (.n .e (some ty260) .e) (some ty132) .e) (some ty68) (.n .e (some ty196) .e)) none (.n (.n (.n .e (some ty292) .e) (some ty164) .e) (some ty100) (.n .e (some ty228) .e))) (some ty20) (.n (.n (.n (.n .e (some ty276) .e) (some ty148) .e) (some ty84) (.n .e (some ty212) .e)) (some ty52) (.n (.n .e (some ty180) .e) (some ty116) (.n .e (some ty244) .e)))) (some ty12) (.n (.n (.n (.n (.n .e (some ty268) .e) (some ty140) .e) (some ty76) (.n .e (some ty204) .e)) (some ty44) (.n (.n .e (some ty172) .e) (some ty108) (.n .e (some ty236) .e))) (some ty28) (.n (.n (.n (.n .e (some ty284) .e) (some ty156) .e) (some ty92) (.n .e (some ty220) .e)) (some ty60) (.n (.n .e (some ty188) .e) (some ty124) (.n .e (some ty252) .e)))))) (some ty2) (.n (.n (.n (.n (.n (.n (.n .e (some ty258) .e) (some ty130) .e) (some ty66) (.n .e (some ty194) .e)) (some ty34) (.n (.n (.n .e (some ty290) .e) (some ty162) .e) (some ty98) (.n .e (some ty226) .e))) (some ty18) (.n (.n (.n .e (some ty146) .e) none (.n .e (some ty210) .e)) (some ty50) (.n (.n .e (some ty178) .e) (some ty114) (.n .e (some ty242) .e)))) (some ty10) (.n (.n (.n (.n (.n .e (some ty266) .e) (some ty138) .e) (some ty74) (.n .e (some ty202) .e)) (some ty42) (.n (.n (.n .e (some ty298) .e) (some ty170) .e) (some ty106) (.n .e (some ty234) .e))) (some ty26) (.n (.n (.n (.n .e (some ty282) .e) (some ty154) .e) (some ty90) (.n .e (some ty218) .e)) (some ty58) (.n (.n .e (some ty186) .e) (some ty122) (.n .e (some ty250) .e))))) (some ty6) (.n (.n (.n (.n (.n (.n .e (some ty262) .e) (some ty134) .e) (some ty70) (.n .e (some ty198) .e)) (some ty38) (.n (.n (.n .e (some ty294) .e) (some ty166) .e) (some ty102) (.n .e (some ty230) .e))) (some ty22) (.n (.n (.n (.n .e (some ty278) .e) (some ty150) .e) (some ty86) (.n .e (some ty214) .e)) (some ty54) (.n (.n .e (some ty182) .e) (some ty118) (.n .e (some ty246) .e)))) (some ty14) (.n (.n (.n (.n (.n .e (some ty270) .e) (some ty142) .e) (some ty78) (.n .e (some ty206) .e)) (some ty46) (.n (.n .e (some ty174) .e) (some ty110) (.n .e (some ty238) .e))) none (.n (.n (.n (.n .e (some ty286) .e) (some ty158) .e) (some ty94) (.n .e (some ty222) .e)) (some ty62) (.n (.n .e (some ty190) .e) (some ty126) .e)))))))
theorem tys_ok : tys.All (TyQ Try.prog) := (all_n trivial (all_n tyq1 (all_n tyq3 (all_n tyq7 (all_n tyq15 (all_n tyq31 (all_n tyq63 (all_n tyq127 (all_n tyq255 all_e all_e) all_e) (all_n tyq191 all_e all_e)) (all_n tyq95 (all_n tyq159 (all_n tyq287 all_e all_e) all_e) (all_n tyq223 all_e all_e))) (all_n tyq47 (all_n tyq79 (all_n tyq143 (all_n tyq271 all_e all_e) all_e) (all_n tyq207 all_e all_e)) (all_n tyq111 (all_n tyq175 all_e all_e) (all_n tyq239 all_e all_e)))) (all_n tyq23 (all_n tyq39 (all_n tyq71 (all_n trivial (all_n tyq263 all_e all_e) all_e) (all_n tyq199 all_e all_e)) (all_n tyq103 (all_n tyq167 (all_n tyq295 all_e all_e) all_e) (all_n tyq231 all_e all_e))) (all_n tyq55 (all_n tyq87 (all_n tyq151 (all_n tyq279 all_e all_e) all_e) (all_n tyq215 all_e all_e)) (all_n trivial (all_n tyq183 all_e all_e) (all_n tyq247 all_e all_e))))) (all_n tyq11 (all_n tyq19 (all_n tyq35 (all_n tyq67 (all_n tyq131 (all_n tyq259 all_e all_e) all_e) (all_n tyq195 all_e all_e)) (all_n trivial (all_n tyq163 (all_n tyq291 all_e all_e) all_e) (all_n tyq227 all_e all_e))) (all_n tyq51 (all_n tyq83 (all_n tyq147 (all_n tyq275 all_e all_e) all_e) (all_n tyq211 all_e all_e)) (all_n tyq115 (all_n tyq179 all_e all_e) (all_n tyq243 all_e all_e)))) (all_n tyq27 (all_n trivial (all_n tyq75 (all_n tyq139 (all_n tyq267 all_e all_e) all_e) (all_n tyq203 all_e all_e)) (all_n tyq107 (all_n tyq171 all_e all_e) (all_n tyq235 all_e all_e))) (all_n tyq59 (all_n tyq91 (all_n tyq155 (all_n tyq283 all_e all_e) all_e) (all_n tyq219 all_e all_e)) (all_n trivial (all_n tyq187 all_e all_e) (all_n tyq251 all_e all_e)))))) (all_n tyq5 (all_n tyq9 (all_n tyq17 (all_n tyq33 (all_n tyq65 (all_n tyq129 (all_n tyq257 all_e all_e) all_e) (all_n tyq193 all_e all_e)) (all_n tyq97 (all_n trivial (all_n tyq289 all_e all_e) all_e) (all_n tyq225 all_e all_e))) (all_n tyq49 (all_n tyq81 (all_n tyq145 (all_n tyq273 all_e all_e) all_e) (all_n tyq209 all_e all_e)) (all_n tyq113 (all_n tyq177 all_e all_e) (all_n tyq241 all_e all_e)))) (all_n tyq25 (all_n tyq41 (all_n tyq73 (all_n tyq137 (all_n tyq265 all_e all_e) all_e) (all_n tyq201 all_e all_e)) (all_n tyq105 (all_n tyq169 (all_n tyq297 all_e all_e) all_e) (all_n tyq233 all_e all_e))) (all_n tyq57 (all_n tyq89 (all_n tyq153 all_e all_e) all_e) (all_n tyq121 (all_n tyq185 all_e all_e) (all_n tyq249 all_e all_e))))) (all_n tyq13 (all_n tyq21 (all_n tyq37 (all_n trivial (all_n tyq133 (all_n tyq261 all_e all_e) all_e) (all_n tyq197 all_e all_e)) (all_n tyq101 (all_n tyq165 (all_n tyq293 all_e all_e) all_e) (all_n tyq229 all_e all_e))) (all_n tyq53 (all_n tyq85 (all_n tyq149 (all_n tyq277 all_e all_e) all_e) (all_n tyq213 all_e all_e)) (all_n tyq117 all_e (all_n tyq245 all_e all_e)))) (all_n tyq29 (all_n tyq45 (all_n tyq77 (all_n tyq141 (all_n tyq269 all_e all_e) all_e) (all_n tyq205 all_e all_e)) (all_n tyq109 all_e (all_n tyq237 all_e all_e))) (all_n tyq61 (all_n trivial (all_n tyq157 (all_n tyq285 all_e all_e) all_e) (all_n tyq221 all_e all_e)) (all_n tyq125 (all_n tyq189 all_e all_e) (all_n tyq253 all_e all_e))))))) (all_n tyq2 (all_n tyq4 (all_n tyq8 (all_n tyq16 (all_n tyq32 (all_n tyq64 (all_n tyq128 (all_n tyq256 all_e all_e) all_e) (all_n tyq192 all_e all_e)) (all_n tyq96 (all_n tyq160 (all_n tyq288 all_e all_e) all_e) (all_n tyq224 all_e all_e))) (all_n tyq48 (all_n tyq80 (all_n tyq144 (all_n tyq272 all_e all_e) all_e) (all_n tyq208 all_e all_e)) (all_n tyq112 (all_n tyq176 all_e all_e) (all_n tyq240 all_e all_e)))) (all_n tyq24 (all_n tyq40 (all_n tyq72 (all_n tyq136 (all_n tyq264 all_e all_e) all_e) (all_n tyq200 all_e all_e)) (all_n tyq104 (all_n tyq168 (all_n tyq296 all_e all_e) all_e) (all_n tyq232 all_e all_e))) (all_n tyq56 (all_n tyq88 (all_n tyq152 (all_n tyq280 all_e all_e) all_e) (all_n tyq216 all_e all_e)) (all_n tyq120 (all_n tyq184 all_e all_e) (all_n tyq248 all_e all_e))))) (all_n tyq12 (all_n tyq20 (all_n trivial (all_n tyq68 (all_n tyq132 (all_n tyq260 all_e all_e) all_e) (all_n tyq196 all_e all_e)) (all_n tyq100 (all_n tyq164 (all_n tyq292 all_e all_e) all_e) (all_n tyq228 all_e all_e))) (all_n tyq52 (all_n tyq84 (all_n tyq148 (all_n tyq276 all_e all_e) all_e) (all_n tyq212 all_e all_e)) (all_n tyq116 (all_n tyq180 all_e all_e) (all_n tyq244 all_e all_e)))) (all_n tyq28 (all_n tyq44 (all_n tyq76 (all_n tyq140 (all_n tyq268 all_e all_e) all_e) (all_n tyq204 all_e all_e)) (all_n tyq108 (all_n tyq172 all_e all_e) (all_n tyq236 all_e all_e))) (all_n tyq60 (all_n tyq92 (all_n tyq156 (all_n tyq284 all_e all_e) all_e) (all_n tyq220 all_e all_e)) (all_n tyq124 (all_n tyq188 all_e all_e) (all_n tyq252 all_e all_e)))))) (all_n tyq6 (all_n tyq10 (all_n tyq18 (all_n tyq34 (all_n tyq66 (all_n tyq130 (all_n tyq258 all_e all_e) all_e) (all_n tyq194 all_e all_e)) (all_n tyq98 (all_n tyq162 (all_n tyq290 all_e all_e) all_e) (all_n tyq226 all_e all_e))) (all_n tyq50 (all_n trivial (all_n tyq146 all_e all_e) (all_n tyq210 all_e all_e)) (all_n tyq114 (all_n tyq178 all_e all_e) (all_n tyq242 all_e all_e)))) (all_n tyq26 (all_n tyq42 (all_n tyq74 (all_n tyq138 (all_n tyq266 all_e all_e) all_e) (all_n tyq202 all_e all_e)) (all_n tyq106 (all_n tyq170 (all_n tyq298 all_e all_e) all_e) (all_n tyq234 all_e all_e))) (all_n tyq58 (all_n tyq90 (all_n tyq154 (all_n tyq282 all_e all_e) all_e) (all_n tyq218 all_e all_e)) (all_n tyq122 (all_n tyq186 all_e all_e) (all_n tyq250 all_e all_e))))) (all_n tyq14 (all_n tyq22 (all_n tyq38 (all_n tyq70 (all_n tyq134 (all_n tyq262 all_e all_e) all_e) (all_n tyq198 all_e all_e)) (all_n tyq102 (all_n tyq166 (all_n tyq294 all_e all_e) all_e) (all_n tyq230 all_e all_e))) (all_n tyq54 (all_n tyq86 (all_n tyq150 (all_n tyq278 all_e all_e) all_e) (all_n tyq214 all_e all_e)) (all_n tyq118 (all_n tyq182 all_e all_e) (all_n tyq246 all_e all_e)))) (all_n trivial (all_n tyq46 (all_n tyq78 (all_n tyq142 (all_n tyq270 all_e all_e) all_e) (all_n tyq206 all_e all_e)) (all_n tyq110 (all_n tyq174 all_e all_e) (all_n tyq238 all_e all_e))) (all_n tyq62 (all_n tyq94 (all_n tyq158 (all_n tyq286 all_e all_e) all_e) (all_n tyq222 all_e all_e)) (all_n tyq126 (all_n tyq190 all_e all_e) all_e)))))))
end
end Go.Proofs.Ytkljfafphnohoaa
