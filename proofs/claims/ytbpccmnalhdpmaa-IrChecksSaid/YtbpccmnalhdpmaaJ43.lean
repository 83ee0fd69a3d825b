/- IrChecks: Ty. -/
import Derived.Test.YtbpccmnalhdpmaaRows
import Derived.Test.YtbpccmnalhdpmaaJ42
set_option linter.unusedVariables false
set_option maxRecDepth 100000
namespace Go.Proofs.Ytbpccmnalhdpmaa
open Go.Ev
noncomputable section
noncomputable def ty1 : TyI := ⟨(TypeDesc.func #[] #[] Bool.false), [.f0], 8, false⟩
noncomputable def ty2 : TyI := ⟨(TypeDesc.int IntKind.i64), [(.i .i64 (.n k0))], 8, false⟩
noncomputable def ty3 : TyI := ⟨(TypeDesc.int IntKind.i64), [(.i .i64 (.n k0))], 8, true⟩
noncomputable def ty4 : TyI := ⟨TypeDesc.bool, [(.b false)], 1, false⟩
noncomputable def ty5 : TyI := ⟨(TypeDesc.int IntKind.u8), [(.i .u8 (.n k0))], 1, false⟩
noncomputable def ty6 : TyI := ⟨(TypeDesc.int IntKind.u8), [(.i .u8 (.n k0))], 1, false⟩
noncomputable def ty7 : TyI := ⟨undOf (Try.prog.underlying 7), [(.i .i64 (.n k0)), (.i .i64 (.n k0)), (.b false), (.i .u8 (.n k0))], 24, false⟩
noncomputable def ty8 : TyI := ⟨undOf (Try.prog.underlying 8), [(.i .i64 (.n k0)), (.i .i64 (.n k0)), (.b false), (.i .u8 (.n k0))], 24, false⟩
noncomputable def ty9 : TyI := ⟨TypeDesc.string, [(.t [])], 16, false⟩
noncomputable def ty10 : TyI := ⟨TypeDesc.string, [(.t [])], 16, false⟩
noncomputable def ty11 : TyI := ⟨TypeDesc.string, [(.t [])], 16, false⟩
noncomputable def ty12 : TyI := ⟨(TypeDesc.int IntKind.u64), [(.i .u64 (.n k0))], 8, false⟩
noncomputable def ty13 : TyI := ⟨undOf (Try.prog.underlying 13), [(.t []), (.i .u64 (.n k0))], 24, false⟩
noncomputable def ty14 : TyI := ⟨undOf (Try.prog.underlying 14), [(.t []), (.i .u64 (.n k0))], 24, false⟩
noncomputable def ty15 : TyI := ⟨(TypeDesc.pointer 274), [.p0], 8, false⟩
noncomputable def ty16 : TyI := ⟨(TypeDesc.pointer 277), [.p0], 8, false⟩
noncomputable def ty17 : TyI := ⟨(TypeDesc.pointer 287), [.p0], 8, false⟩
noncomputable def ty18 : TyI := ⟨undOf (Try.prog.underlying 18), [.p0], 8, false⟩
noncomputable def ty19 : TyI := ⟨undOf (Try.prog.underlying 19), [.p0], 8, false⟩
noncomputable def ty20 : TyI := ⟨(TypeDesc.interface #[]), [.q0], 16, false⟩
noncomputable def ty21 : TyI := ⟨(TypeDesc.int IntKind.i32), [(.i .i32 (.n k0))], 4, false⟩
noncomputable def ty22 : TyI := ⟨(TypeDesc.slice 60), [.s0], 24, false⟩
noncomputable def ty23 : TyI := ⟨(TypeDesc.slice 69), [.s0], 24, false⟩
noncomputable def ty24 : TyI := ⟨(TypeDesc.slice 72), [.s0], 24, false⟩
noncomputable def ty25 : TyI := ⟨undOf (Try.prog.underlying 25), [(.i .i64 (.n k0)), .s0, .s0, .s0], 80, false⟩
noncomputable def ty26 : TyI := ⟨undOf (Try.prog.underlying 26), [(.i .i64 (.n k0)), .s0, .s0, .s0], 80, false⟩
noncomputable def ty27 : TyI := ⟨(TypeDesc.func #[26] #[4] Bool.false), [.f0], 8, false⟩
noncomputable def ty28 : TyI := ⟨(TypeDesc.func #[] #[4] Bool.false), [.f0], 8, false⟩
noncomputable def ty29 : TyI := ⟨(TypeDesc.func #[26] #[26] Bool.false), [.f0], 8, false⟩
noncomputable def ty30 : TyI := ⟨(TypeDesc.func #[26, 26] #[4] Bool.false), [.f0], 8, false⟩
noncomputable def ty31 : TyI := ⟨(TypeDesc.int IntKind.i64), [(.i .i64 (.n k0))], 8, false⟩
noncomputable def ty32 : TyI := ⟨(TypeDesc.func #[26] #[31] Bool.false), [.f0], 8, false⟩
noncomputable def ty33 : TyI := ⟨(TypeDesc.slice 26), [.s0], 24, false⟩
noncomputable def ty34 : TyI := ⟨undOf (Try.prog.underlying 34), [.s0], 24, false⟩
noncomputable def ty35 : TyI := ⟨undOf (Try.prog.underlying 35), [.s0], 24, false⟩
noncomputable def ty36 : TyI := ⟨(TypeDesc.func #[35] #[4] Bool.false), [.f0], 8, false⟩
noncomputable def ty37 : TyI := ⟨(TypeDesc.slice 3), [.s0], 24, false⟩
noncomputable def ty38 : TyI := ⟨(TypeDesc.func #[46, 35, 3, 37, 3, 3, 3] #[4] Bool.false), [.f0], 8, false⟩
noncomputable def ty39 : TyI := ⟨(TypeDesc.slice 289), [.s0], 24, false⟩
noncomputable def ty40 : TyI := ⟨(TypeDesc.slice 122), [.s0], 24, false⟩
noncomputable def ty41 : TyI := ⟨undOf (Try.prog.underlying 41), [.s0, .s0], 48, false⟩
noncomputable def ty42 : TyI := ⟨undOf (Try.prog.underlying 42), [.s0, .s0], 48, false⟩
noncomputable def ty43 : TyI := ⟨(TypeDesc.slice 125), [.s0], 24, false⟩
noncomputable def ty44 : TyI := ⟨(TypeDesc.slice 127), [.s0], 24, false⟩
noncomputable def ty45 : TyI := ⟨undOf (Try.prog.underlying 45), [.s0, .s0, .s0, .s0], 96, false⟩
noncomputable def ty46 : TyI := ⟨undOf (Try.prog.underlying 46), [.s0, .s0, .s0, .s0], 96, false⟩
noncomputable def ty47 : TyI := ⟨(TypeDesc.func #[] #[46] Bool.false), [.f0], 8, false⟩
noncomputable def ty48 : TyI := ⟨(TypeDesc.func #[35, 37, 3, 3, 3, 3] #[4] Bool.false), [.f0], 8, false⟩
noncomputable def ty49 : TyI := ⟨(TypeDesc.func #[35] #[35] Bool.false), [.f0], 8, false⟩
noncomputable def ty50 : TyI := ⟨(TypeDesc.func #[35, 35] #[4] Bool.false), [.f0], 8, false⟩
noncomputable def ty51 : TyI := ⟨(TypeDesc.func #[35] #[31] Bool.false), [.f0], 8, false⟩
noncomputable def ty52 : TyI := ⟨(TypeDesc.func #[26] #[3] Bool.false), [.f0], 8, false⟩
noncomputable def ty53 : TyI := ⟨(TypeDesc.slice 66), [.s0], 24, false⟩
noncomputable def ty54 : TyI := ⟨undOf (Try.prog.underlying 54), [(.i .i64 (.n k0)), .s0], 32, false⟩
noncomputable def ty55 : TyI := ⟨undOf (Try.prog.underlying 55), [(.i .i64 (.n k0)), .s0], 32, false⟩
noncomputable def ty56 : TyI := ⟨(TypeDesc.array 2 55), [(.i .i64 (.n k0)), .s0, (.i .i64 (.n k0)), .s0], 64, false⟩
noncomputable def ty57 : TyI := ⟨undOf (Try.prog.underlying 57), [(.i .i64 (.n k0)), (.i .i64 (.n k0)), (.i .i64 (.n k0)), .s0, (.i .i64 (.n k0)), .s0, (.i .i64 (.n k0)), .s0], 112, false⟩
noncomputable def ty58 : TyI := ⟨undOf (Try.prog.underlying 58), [(.i .i64 (.n k0)), (.i .i64 (.n k0)), (.i .i64 (.n k0)), .s0, (.i .i64 (.n k0)), .s0, (.i .i64 (.n k0)), .s0], 112, false⟩
noncomputable def ty59 : TyI := ⟨undOf (Try.prog.underlying 59), [(.i .i64 (.n k0)), .s0, (.i .i64 (.n k0)), (.i .i64 (.n k0)), (.i .i64 (.n k0)), .s0, (.i .i64 (.n k0)), .s0, (.i .i64 (.n k0)), .s0], 144, false⟩
noncomputable def ty60 : TyI := ⟨undOf (Try.prog.underlying 60), [(.i .i64 (.n k0)), .s0, (.i .i64 (.n k0)), (.i .i64 (.n k0)), (.i .i64 (.n k0)), .s0, (.i .i64 (.n k0)), .s0, (.i .i64 (.n k0)), .s0], 144, false⟩
noncomputable def ty61 : TyI := ⟨(TypeDesc.func #[3, 22] #[26] Bool.true), [.f0], 8, false⟩
noncomputable def ty62 : TyI := ⟨(TypeDesc.func #[3, 3, 53] #[60] Bool.true), [.f0], 8, false⟩
noncomputable def ty63 : TyI := ⟨undOf (Try.prog.underlying 63), [(.i .i64 (.n k0)), (.i .i64 (.n k0)), (.i .i64 (.n k0))], 24, false⟩
noncomputable def ty64 : TyI := ⟨undOf (Try.prog.underlying 64), [(.i .i64 (.n k0)), (.i .i64 (.n k0)), (.i .i64 (.n k0))], 24, true⟩
noncomputable def ty65 : TyI := ⟨undOf (Try.prog.underlying 65), [(.i .i64 (.n k0)), (.i .i64 (.n k0)), (.i .i64 (.n k0)), (.i .i64 (.n k0)), (.i .i64 (.n k0)), (.i .i64 (.n k0)), (.i .i64 (.n k0)), (.i .i64 (.n k0)), (.i .i64 (.n k0)), (.i .i64 (.n k0)), (.i .i64 (.n k0))], 88, false⟩
noncomputable def ty66 : TyI := ⟨undOf (Try.prog.underlying 66), [(.i .i64 (.n k0)), (.i .i64 (.n k0)), (.i .i64 (.n k0)), (.i .i64 (.n k0)), (.i .i64 (.n k0)), (.i .i64 (.n k0)), (.i .i64 (.n k0)), (.i .i64 (.n k0)), (.i .i64 (.n k0)), (.i .i64 (.n k0)), (.i .i64 (.n k0))], 88, false⟩
noncomputable def ty67 : TyI := ⟨(TypeDesc.func #[23] #[23] Bool.false), [.f0], 8, false⟩
noncomputable def ty68 : TyI := ⟨undOf (Try.prog.underlying 68), [(.i .i64 (.n k0)), (.i .i64 (.n k0)), (.i .i64 (.n k0))], 24, false⟩
noncomputable def ty69 : TyI := ⟨undOf (Try.prog.underlying 69), [(.i .i64 (.n k0)), (.i .i64 (.n k0)), (.i .i64 (.n k0))], 24, false⟩
noncomputable def ty70 : TyI := ⟨(TypeDesc.func #[24] #[24] Bool.false), [.f0], 8, false⟩
noncomputable def ty71 : TyI := ⟨undOf (Try.prog.underlying 71), [(.i .i64 (.n k0)), (.i .i64 (.n k0)), (.i .i64 (.n k0))], 24, false⟩
noncomputable def ty72 : TyI := ⟨undOf (Try.prog.underlying 72), [(.i .i64 (.n k0)), (.i .i64 (.n k0)), (.i .i64 (.n k0))], 24, false⟩
noncomputable def ty73 : TyI := ⟨(TypeDesc.func #[60] #[60] Bool.false), [.f0], 8, false⟩
noncomputable def ty74 : TyI := ⟨(TypeDesc.func #[23, 23] #[4] Bool.false), [.f0], 8, false⟩
noncomputable def ty75 : TyI := ⟨(TypeDesc.func #[24, 24] #[4] Bool.false), [.f0], 8, false⟩
noncomputable def ty76 : TyI := ⟨(TypeDesc.func #[53, 53] #[4] Bool.false), [.f0], 8, false⟩
noncomputable def ty77 : TyI := ⟨(TypeDesc.func #[37, 37] #[4] Bool.false), [.f0], 8, false⟩
noncomputable def ty78 : TyI := ⟨(TypeDesc.func #[56, 56] #[4] Bool.false), [.f0], 8, false⟩
noncomputable def ty79 : TyI := ⟨(TypeDesc.map 3 3), [.m0], 8, false⟩
noncomputable def ty80 : TyI := ⟨undOf (Try.prog.underlying 80), [.m0, .m0], 16, false⟩
noncomputable def ty81 : TyI := ⟨undOf (Try.prog.underlying 81), [.m0, .m0], 16, false⟩
noncomputable def ty82 : TyI := ⟨(TypeDesc.func #[66] #[66] Bool.false), [.f0], 8, false⟩
noncomputable def ty83 : TyI := ⟨(TypeDesc.func #[58] #[58] Bool.false), [.f0], 8, false⟩
noncomputable def ty84 : TyI := ⟨(TypeDesc.func #[26, 60] #[4] Bool.false), [.f0], 8, false⟩
noncomputable def ty85 : TyI := ⟨(TypeDesc.map 92 66), [.m0], 8, false⟩
noncomputable def ty86 : TyI := ⟨(TypeDesc.map 92 4), [.m0], 8, false⟩
noncomputable def ty87 : TyI := ⟨(TypeDesc.slice 37), [.s0], 24, false⟩
noncomputable def ty88 : TyI := ⟨undOf (Try.prog.underlying 88), [(.i .i64 (.n k0)), .s0, .s0, .s0, .m0, .s0, .m0], 120, false⟩
noncomputable def ty89 : TyI := ⟨undOf (Try.prog.underlying 89), [(.i .i64 (.n k0)), .s0, .s0, .s0, .m0, .s0, .m0], 120, false⟩
noncomputable def ty90 : TyI := ⟨(TypeDesc.func #[66] #[4] Bool.false), [.f0], 8, false⟩
noncomputable def ty91 : TyI := ⟨undOf (Try.prog.underlying 91), [(.i .i64 (.n k0)), (.i .i64 (.n k0))], 16, false⟩
noncomputable def ty92 : TyI := ⟨undOf (Try.prog.underlying 92), [(.i .i64 (.n k0)), (.i .i64 (.n k0))], 16, false⟩
noncomputable def ty93 : TyI := ⟨(TypeDesc.func #[3] #[60] Bool.false), [.f0], 8, false⟩
noncomputable def ty94 : TyI := ⟨(TypeDesc.func #[26] #[87] Bool.false), [.f0], 8, false⟩
noncomputable def ty95 : TyI := ⟨(TypeDesc.slice 37), [.s0], 24, false⟩
noncomputable def ty96 : TyI := ⟨(TypeDesc.func #[26] #[95] Bool.false), [.f0], 8, false⟩
noncomputable def ty97 : TyI := ⟨undOf (Try.prog.underlying 97), [.s0, .s0], 48, false⟩
noncomputable def ty98 : TyI := ⟨undOf (Try.prog.underlying 98), [.s0, .s0], 48, false⟩
noncomputable def ty99 : TyI := ⟨(TypeDesc.func #[37, 3] #[4] Bool.false), [.f0], 8, false⟩
noncomputable def ty100 : TyI := ⟨(TypeDesc.func #[3] #[4] Bool.false), [.f0], 8, false⟩
noncomputable def ty101 : TyI := ⟨(TypeDesc.func #[60, 37, 37, 3, 3] #[64] Bool.false), [.f0], 8, false⟩
noncomputable def ty102 : TyI := ⟨(TypeDesc.slice 110), [.s0], 24, false⟩
noncomputable def ty103 : TyI := ⟨undOf (Try.prog.underlying 103), [(.i .i64 (.n k0)), (.b false), (.i .i64 (.n k0)), .s0], 48, false⟩
noncomputable def ty104 : TyI := ⟨undOf (Try.prog.underlying 104), [(.i .i64 (.n k0)), (.b false), (.i .i64 (.n k0)), .s0], 48, false⟩
noncomputable def ty106 : TyI := ⟨(TypeDesc.func #[46, 35, 3, 37, 3, 3, 3] #[102, 104] Bool.false), [.f0], 8, false⟩
noncomputable def ty107 : TyI := ⟨(TypeDesc.func #[] #[35] Bool.false), [.f0], 8, false⟩
noncomputable def ty108 : TyI := ⟨(TypeDesc.slice 113), [.s0], 24, false⟩
noncomputable def ty109 : TyI := ⟨undOf (Try.prog.underlying 109), [.s0], 24, false⟩
noncomputable def ty110 : TyI := ⟨undOf (Try.prog.underlying 110), [.s0], 24, false⟩
noncomputable def ty111 : TyI := ⟨(TypeDesc.slice 116), [.s0], 24, false⟩
noncomputable def ty112 : TyI := ⟨undOf (Try.prog.underlying 112), [(.i .i64 (.n k0)), (.i .i64 (.n k0)), .s0], 40, false⟩
noncomputable def ty113 : TyI := ⟨undOf (Try.prog.underlying 113), [(.i .i64 (.n k0)), (.i .i64 (.n k0)), .s0], 40, false⟩
noncomputable def ty114 : TyI := ⟨(TypeDesc.slice 4), [.s0], 24, false⟩
noncomputable def ty115 : TyI := ⟨undOf (Try.prog.underlying 115), [(.i .i64 (.n k0)), .s0, .s0], 56, false⟩
noncomputable def ty116 : TyI := ⟨undOf (Try.prog.underlying 116), [(.i .i64 (.n k0)), .s0, .s0], 56, false⟩
noncomputable def ty117 : TyI := ⟨(TypeDesc.func #[102, 102] #[4] Bool.false), [.f0], 8, false⟩
noncomputable def ty118 : TyI := ⟨(TypeDesc.func #[104, 104] #[4] Bool.false), [.f0], 8, false⟩
noncomputable def ty119 : TyI := ⟨(TypeDesc.slice 9), [.s0], 24, false⟩
noncomputable def ty120 : TyI := ⟨(TypeDesc.slice 292), [.s0], 24, false⟩
noncomputable def ty121 : TyI := ⟨undOf (Try.prog.underlying 121), [(.t []), (.i .i64 (.n k0)), .s0, .s0], 72, false⟩
noncomputable def ty122 : TyI := ⟨undOf (Try.prog.underlying 122), [(.t []), (.i .i64 (.n k0)), .s0, .s0], 72, false⟩
noncomputable def ty123 : TyI := ⟨undOf (Try.prog.underlying 123), [(.t []), (.i .i64 (.n k0)), (.i .i64 (.n k0)), (.i .i64 (.n k0)), (.b false), (.i .i64 (.n k0)), (.i .i64 (.n k0))], 64, false⟩
noncomputable def ty124 : TyI := ⟨undOf (Try.prog.underlying 124), [(.t []), (.i .i64 (.n k0)), (.i .i64 (.n k0)), (.i .i64 (.n k0)), (.b false), (.i .i64 (.n k0)), (.i .i64 (.n k0))], 64, false⟩
noncomputable def ty125 : TyI := ⟨(TypeDesc.slice 124), [.s0], 24, false⟩
noncomputable def ty126 : TyI := ⟨undOf (Try.prog.underlying 126), [(.i .i64 (.n k0)), (.i .i64 (.n k0)), (.i .i64 (.n k0))], 24, false⟩
noncomputable def ty127 : TyI := ⟨undOf (Try.prog.underlying 127), [(.i .i64 (.n k0)), (.i .i64 (.n k0)), (.i .i64 (.n k0))], 24, false⟩
noncomputable def ty128 : TyI := ⟨(TypeDesc.func #[4] #[35] Bool.false), [.f0], 8, false⟩
noncomputable def ty129 : TyI := ⟨(TypeDesc.func #[35, 26] #[26] Bool.false), [.f0], 8, false⟩
noncomputable def ty131 : TyI := ⟨(TypeDesc.func #[26, 26, 3, 3] #[26, 4] Bool.false), [.f0], 8, false⟩
noncomputable def ty132 : TyI := ⟨(TypeDesc.func #[23] #[4] Bool.false), [.f0], 8, false⟩
noncomputable def ty133 : TyI := ⟨(TypeDesc.func #[3, 3] #[4] Bool.false), [.f0], 8, false⟩
noncomputable def ty134 : TyI := ⟨undOf (Try.prog.underlying 134), [.m0, .m0], 16, false⟩
noncomputable def ty135 : TyI := ⟨undOf (Try.prog.underlying 135), [.m0, .m0], 16, false⟩
noncomputable def ty136 : TyI := ⟨(TypeDesc.func #[53] #[53] Bool.false), [.f0], 8, false⟩
noncomputable def ty137 : TyI := ⟨(TypeDesc.func #[138] #[] Bool.false), [.f0], 8, false⟩
noncomputable def ty138 : TyI := ⟨(TypeDesc.pointer 66), [.p0], 8, false⟩
noncomputable def ty139 : TyI := ⟨(TypeDesc.func #[140] #[] Bool.false), [.f0], 8, false⟩
noncomputable def ty140 : TyI := ⟨(TypeDesc.pointer 58), [.p0], 8, false⟩
noncomputable def ty141 : TyI := ⟨(TypeDesc.func #[3] #[3] Bool.false), [.f0], 8, false⟩
noncomputable def ty143 : TyI := ⟨(TypeDesc.func #[3, 3, 3] #[3] Bool.false), [.f0], 8, false⟩
noncomputable def ty144 : TyI := ⟨(TypeDesc.func #[66] #[3] Bool.false), [.f0], 8, false⟩
noncomputable def ty145 : TyI := ⟨(TypeDesc.func #[37] #[37] Bool.false), [.f0], 8, false⟩
noncomputable def ty146 : TyI := ⟨(TypeDesc.func #[60] #[37] Bool.false), [.f0], 8, false⟩
noncomputable def ty147 : TyI := ⟨(TypeDesc.func #[26, 64, 37] #[4] Bool.false), [.f0], 8, false⟩
noncomputable def ty148 : TyI := ⟨(TypeDesc.func #[26, 55, 37, 3] #[4] Bool.false), [.f0], 8, false⟩
noncomputable def ty149 : TyI := ⟨(TypeDesc.func #[55] #[4] Bool.false), [.f0], 8, false⟩
noncomputable def ty150 : TyI := ⟨(TypeDesc.pointer 56), [.p0], 8, false⟩
noncomputable def ty151 : TyI := ⟨(TypeDesc.pointer 89), [.p0], 8, false⟩
noncomputable def ty152 : TyI := ⟨(TypeDesc.func #[208] #[] Bool.false), [.f0], 8, false⟩
noncomputable def ty153 : TyI := ⟨(TypeDesc.func #[208] #[] Bool.false), [.f0], 8, false⟩
noncomputable def ty154 : TyI := ⟨(TypeDesc.func #[26] #[153] Bool.false), [.f0], 8, false⟩
noncomputable def ty155 : TyI := ⟨undOf (Try.prog.underlying 155), [(.i .i64 (.n k0)), (.i .i64 (.n k0)), (.i .i64 (.n k0)), .s0], 48, false⟩
noncomputable def ty156 : TyI := ⟨undOf (Try.prog.underlying 156), [(.i .i64 (.n k0)), (.i .i64 (.n k0)), (.i .i64 (.n k0)), .s0], 48, false⟩
noncomputable def ty157 : TyI := ⟨(TypeDesc.pointer 3), [.p0], 8, false⟩
noncomputable def ty158 : TyI := ⟨(TypeDesc.func #[92] #[3] Bool.false), [.f0], 8, false⟩
noncomputable def ty159 : TyI := ⟨(TypeDesc.slice 92), [.s0], 24, false⟩
noncomputable def ty160 : TyI := ⟨(TypeDesc.func #[3, 37] #[] Bool.true), [.f0], 8, false⟩
noncomputable def ty164 : TyI := ⟨(TypeDesc.func #[58] #[4] Bool.false), [.f0], 8, false⟩
noncomputable def ty165 : TyI := ⟨(TypeDesc.func #[92, 3] #[64] Bool.false), [.f0], 8, false⟩
noncomputable def ty166 : TyI := ⟨(TypeDesc.pointer 55), [.p0], 8, false⟩
noncomputable def ty167 : TyI := ⟨(TypeDesc.func #[26, 3] #[26] Bool.false), [.f0], 8, false⟩
noncomputable def ty168 : TyI := ⟨(TypeDesc.func #[60, 37, 3] #[3] Bool.false), [.f0], 8, false⟩
noncomputable def ty169 : TyI := ⟨(TypeDesc.func #[26, 3] #[4] Bool.false), [.f0], 8, false⟩
noncomputable def ty171 : TyI := ⟨(TypeDesc.func #[60, 3] #[66, 4] Bool.false), [.f0], 8, false⟩
noncomputable def ty174 : TyI := ⟨(TypeDesc.pointer 177), [.p0], 8, false⟩
noncomputable def ty175 : TyI := ⟨(TypeDesc.slice 210), [.s0], 24, false⟩
noncomputable def ty176 : TyI := ⟨undOf (Try.prog.underlying 176), [.s0, .s0, .s0, .s0, .s0, .s0, (.i .i64 (.n k0)), (.i .i64 (.n k0)), (.i .i64 (.n k0)), (.i .i64 (.n k0)), (.i .i64 (.n k0)), (.b false), .s0, (.i .i64 (.n k0)), (.b false), (.i .i64 (.n k0)), .s0], 264, false⟩
noncomputable def ty177 : TyI := ⟨undOf (Try.prog.underlying 177), [.s0, .s0, .s0, .s0, .s0, .s0, (.i .i64 (.n k0)), (.i .i64 (.n k0)), (.i .i64 (.n k0)), (.i .i64 (.n k0)), (.i .i64 (.n k0)), (.b false), .s0, (.i .i64 (.n k0)), (.b false), (.i .i64 (.n k0)), .s0], 264, false⟩
noncomputable def ty180 : TyI := ⟨(TypeDesc.slice 222), [.s0], 24, false⟩
noncomputable def ty182 : TyI := ⟨undOf (Try.prog.underlying 182), [.s0, .s0, .s0, .s0, .s0, (.i .i64 (.n k0)), (.i .i64 (.n k0)), (.i .i64 (.n k0)), (.i .i64 (.n k0)), (.i .i64 (.n k0)), .s0, .s0, (.i .i64 (.n k0)), (.b false), (.i .i64 (.n k0)), .s0], 256, false⟩
noncomputable def ty183 : TyI := ⟨(TypeDesc.func #[113, 113] #[4] Bool.false), [.f0], 8, false⟩
noncomputable def ty184 : TyI := ⟨undOf (Try.prog.underlying 184), [(.i .i64 (.n k0)), (.i .i64 (.n k0)), (.i .i64 (.n k0)), .s0, (.i .i64 (.n k0)), .s0, (.i .i64 (.n k0)), .s0, (.i .i64 (.n k0)), (.i .i64 (.n k0)), .s0, .s0, .m0], 184, false⟩
noncomputable def ty185 : TyI := ⟨undOf (Try.prog.underlying 185), [(.i .i64 (.n k0)), (.i .i64 (.n k0)), (.i .i64 (.n k0)), .s0, (.i .i64 (.n k0)), .s0, (.i .i64 (.n k0)), .s0, (.i .i64 (.n k0)), (.i .i64 (.n k0)), .s0, .s0, .m0], 184, false⟩
noncomputable def ty188 : TyI := ⟨(TypeDesc.func #[26, 26, 185] #[4] Bool.false), [.f0], 8, false⟩
noncomputable def ty191 : TyI := ⟨(TypeDesc.func #[60] #[3] Bool.false), [.f0], 8, false⟩
noncomputable def ty193 : TyI := ⟨(TypeDesc.func #[60, 3] #[37, 53] Bool.false), [.f0], 8, false⟩
noncomputable def ty195 : TyI := ⟨(TypeDesc.map 197 4), [.m0], 8, false⟩
noncomputable def ty197 : TyI := ⟨undOf (Try.prog.underlying 197), [(.i .i64 (.n k0)), (.i .i64 (.n k0)), (.i .i64 (.n k0))], 24, true⟩
noncomputable def ty199 : TyI := ⟨undOf (Try.prog.underlying 199), [(.i .i64 (.n k0)), .m0], 16, false⟩
noncomputable def ty202 : TyI := ⟨(TypeDesc.func #[240] #[] Bool.false), [.f0], 8, false⟩
noncomputable def ty208 : TyI := ⟨(TypeDesc.func #[156] #[4] Bool.false), [.f0], 8, false⟩
noncomputable def ty210 : TyI := ⟨(TypeDesc.pointer 215), [.p0], 8, false⟩
noncomputable def ty211 : TyI := ⟨(TypeDesc.map 197 64), [.m0], 8, false⟩
noncomputable def ty213 : TyI := ⟨undOf (Try.prog.underlying 213), [(.b false), (.i .i64 (.n k0)), (.i .i64 (.n k0)), .m0], 32, false⟩
noncomputable def ty215 : TyI := ⟨undOf (Try.prog.underlying 215), [(.b false), (.i .i64 (.n k0)), (.i .i64 (.n k0)), .m0, (.i .i64 (.n k0)), .s0, .s0, .s0, .s0, (.i .i64 (.n k0)), .s0, .s0, .s0], 216, false⟩
noncomputable def ty216 : TyI := ⟨(TypeDesc.func #[] #[210] Bool.false), [.f0], 8, false⟩
noncomputable def ty220 : TyI := ⟨(TypeDesc.func #[210, 58] #[] Bool.false), [.f0], 8, false⟩
noncomputable def ty222 : TyI := ⟨(TypeDesc.pointer 224), [.p0], 8, false⟩
noncomputable def ty224 : TyI := ⟨undOf (Try.prog.underlying 224), [(.i .i64 (.n k0)), .s0, .m0, .s0, (.i .i64 (.n k0)), (.i .i64 (.n k0)), .s0, (.i .i64 (.n k0)), .s0, (.i .i64 (.n k0)), .s0], 168, false⟩
noncomputable def ty240 : TyI := ⟨(TypeDesc.func #[157] #[4] Bool.false), [.f0], 8, false⟩
noncomputable def ty243 : TyI := ⟨(TypeDesc.func #[259] #[] Bool.false), [.f0], 8, false⟩
noncomputable def ty244 : TyI := ⟨(TypeDesc.func #[259] #[] Bool.false), [.f0], 8, false⟩
noncomputable def ty259 : TyI := ⟨(TypeDesc.func #[3, 210] #[4] Bool.false), [.f0], 8, false⟩
noncomputable def ty274 : TyI := ⟨undOf (Try.prog.underlying 274), [.p0, .p0, .p0, (.t [])], 40, false⟩
noncomputable def ty275 : TyI := ⟨(TypeDesc.array 0 16), [], 0, false⟩
noncomputable def ty277 : TyI := ⟨undOf (Try.prog.underlying 277), [], 0, false⟩
noncomputable def ty279 : TyI := ⟨(TypeDesc.int IntKind.u32), [(.i .u32 (.n k0))], 4, false⟩
noncomputable def ty280 : TyI := ⟨(TypeDesc.int IntKind.u8), [(.i .u8 (.n k0))], 1, false⟩
noncomputable def ty281 : TyI := ⟨(TypeDesc.int IntKind.u8), [(.i .u8 (.n k0))], 1, false⟩
noncomputable def ty282 : TyI := ⟨(TypeDesc.func #[293, 293] #[4] Bool.false), [.f0], 8, false⟩
noncomputable def ty283 : TyI := ⟨(TypeDesc.pointer 5), [.p0], 8, false⟩
noncomputable def ty284 : TyI := ⟨(TypeDesc.int IntKind.i32), [(.i .i32 (.n k0))], 4, false⟩
noncomputable def ty285 : TyI := ⟨(TypeDesc.int IntKind.i32), [(.i .i32 (.n k0))], 4, false⟩
noncomputable def ty287 : TyI := ⟨undOf (Try.prog.underlying 287), [(.i .u64 (.n k0)), (.i .u64 (.n k0)), (.i .u32 (.n k0)), (.i .u8 (.n k0)), (.i .u8 (.n k0)), (.i .u8 (.n k0)), (.i .u8 (.n k0)), .f0, .p0, (.i .i32 (.n k0)), (.i .i32 (.n k0))], 48, false⟩
noncomputable def ty289 : TyI := ⟨undOf (Try.prog.underlying 289), [(.t []), .s0], 40, false⟩
noncomputable def ty290 : TyI := ⟨(TypeDesc.slice 295), [.s0], 24, false⟩
noncomputable def ty292 : TyI := ⟨undOf (Try.prog.underlying 292), [(.i .i64 (.n k0)), (.i .i64 (.n k0)), (.i .i64 (.n k0)), (.t []), (.t []), (.i .i64 (.n k0)), (.i .i64 (.n k0)), .s0, (.t []), (.i .i64 (.n k0)), .s0, .s0, .s0], 192, false⟩
noncomputable def ty295 : TyI := ⟨undOf (Try.prog.underlying 295), [(.i .i64 (.n k0)), (.i .i64 (.n k0)), (.i .i64 (.n k0)), (.t []), (.t []), .s0], 80, false⟩
theorem tyq1 : TyQ Try.prog 1 (some ty1) := ty_mk (zv := .nilFunc) Try.underlying1 (by kernel_rfl) (by kernel_rfl) (by kernel_rfl)
theorem tyq2 : TyQ Try.prog 2 (some ty2) := ty_mk (zv := .int .i64 0) Try.underlying2 (by kernel_rfl) (by kernel_rfl) (by kernel_rfl)
theorem tyq3 : TyQ Try.prog 3 (some ty3) := ty_mkE (zv := .int .i64 0) Try.underlying3 (by kernel_rfl) (by kernel_rfl) (by kernel_rfl) (by kernel_rfl) (by kernel_rfl) (by kernel_rfl)
theorem tyq4 : TyQ Try.prog 4 (some ty4) := ty_mk (zv := .bool false) Try.underlying4 (by kernel_rfl) (by kernel_rfl) (by kernel_rfl)
theorem tyq5 : TyQ Try.prog 5 (some ty5) := ty_mk (zv := .int .u8 0) Try.underlying5 (by kernel_rfl) (by kernel_rfl) (by kernel_rfl)
theorem tyq6 : TyQ Try.prog 6 (some ty6) := ty_mk (zv := .int .u8 0) Try.underlying6 (by kernel_rfl) (by kernel_rfl) (by kernel_rfl)
theorem tyq7 : TyQ Try.prog 7 (some ty7) := ty_mk (zv := .agg #[.int .i64 0, .int .i64 0, .bool false, .int .u8 0]) (und_ok Try.underlying7) (by kernel_rfl) (by kernel_rfl) (by kernel_rfl)
theorem tyq8 : TyQ Try.prog 8 (some ty8) := ty_mk (zv := .agg #[.int .i64 0, .int .i64 0, .bool false, .int .u8 0]) (und_ok Try.underlying8) (by kernel_rfl) (by kernel_rfl) (by kernel_rfl)
theorem tyq9 : TyQ Try.prog 9 (some ty9) := ty_mk (zv := .string ByteArray.empty) Try.underlying9 (by kernel_rfl) (by kernel_rfl) (by kernel_rfl)
theorem tyq10 : TyQ Try.prog 10 (some ty10) := ty_mk (zv := .string ByteArray.empty) Try.underlying10 (by kernel_rfl) (by kernel_rfl) (by kernel_rfl)
theorem tyq11 : TyQ Try.prog 11 (some ty11) := ty_mk (zv := .string ByteArray.empty) Try.underlying11 (by kernel_rfl) (by kernel_rfl) (by kernel_rfl)
theorem tyq12 : TyQ Try.prog 12 (some ty12) := ty_mk (zv := .int .u64 0) Try.underlying12 (by kernel_rfl) (by kernel_rfl) (by kernel_rfl)
theorem tyq13 : TyQ Try.prog 13 (some ty13) := ty_mk (zv := .agg #[.string ByteArray.empty, .int .u64 0]) (und_ok Try.underlying13) (by kernel_rfl) (by kernel_rfl) (by kernel_rfl)
theorem tyq14 : TyQ Try.prog 14 (some ty14) := ty_mk (zv := .agg #[.string ByteArray.empty, .int .u64 0]) (und_ok Try.underlying14) (by kernel_rfl) (by kernel_rfl) (by kernel_rfl)
theorem tyq15 : TyQ Try.prog 15 (some ty15) := ty_mk (zv := .pointer none) Try.underlying15 (by kernel_rfl) (by kernel_rfl) (by kernel_rfl)
theorem tyq16 : TyQ Try.prog 16 (some ty16) := ty_mk (zv := .pointer none) Try.underlying16 (by kernel_rfl) (by kernel_rfl) (by kernel_rfl)
theorem tyq17 : TyQ Try.prog 17 (some ty17) := ty_mk (zv := .pointer none) Try.underlying17 (by kernel_rfl) (by kernel_rfl) (by kernel_rfl)
theorem tyq18 : TyQ Try.prog 18 (some ty18) := ty_mk (zv := .agg #[.pointer none]) (und_ok Try.underlying18) (by kernel_rfl) (by kernel_rfl) (by kernel_rfl)
theorem tyq19 : TyQ Try.prog 19 (some ty19) := ty_mk (zv := .agg #[.pointer none]) (und_ok Try.underlying19) (by kernel_rfl) (by kernel_rfl) (by kernel_rfl)
theorem tyq20 : TyQ Try.prog 20 (some ty20) := ty_mk (zv := .nilIface) Try.underlying20 (by kernel_rfl) (by kernel_rfl) (by kernel_rfl)
theorem tyq21 : TyQ Try.prog 21 (some ty21) := ty_mk (zv := .int .i32 0) Try.underlying21 (by kernel_rfl) (by kernel_rfl) (by kernel_rfl)
theorem tyq22 : TyQ Try.prog 22 (some ty22) := ty_mk (zv := .slice none 0 0) Try.underlying22 (by kernel_rfl) (by kernel_rfl) (by kernel_rfl)
theorem tyq23 : TyQ Try.prog 23 (some ty23) := ty_mk (zv := .slice none 0 0) Try.underlying23 (by kernel_rfl) (by kernel_rfl) (by kernel_rfl)
theorem tyq24 : TyQ Try.prog 24 (some ty24) := ty_mk (zv := .slice none 0 0) Try.underlying24 (by kernel_rfl) (by kernel_rfl) (by kernel_rfl)
theorem tyq25 : TyQ Try.prog 25 (some ty25) := ty_mk (zv := .agg #[.int .i64 0, .slice none 0 0, .slice none 0 0, .slice none 0 0]) (und_ok Try.underlying25) (by kernel_rfl) (by kernel_rfl) (by kernel_rfl)
theorem tyq26 : TyQ Try.prog 26 (some ty26) := ty_mk (zv := .agg #[.int .i64 0, .slice none 0 0, .slice none 0 0, .slice none 0 0]) (und_ok Try.underlying26) (by kernel_rfl) (by kernel_rfl) (by kernel_rfl)
theorem tyq27 : TyQ Try.prog 27 (some ty27) := ty_mk (zv := .nilFunc) Try.underlying27 (by kernel_rfl) (by kernel_rfl) (by kernel_rfl)
theorem tyq28 : TyQ Try.prog 28 (some ty28) := ty_mk (zv := .nilFunc) Try.underlying28 (by kernel_rfl) (by kernel_rfl) (by kernel_rfl)
theorem tyq29 : TyQ Try.prog 29 (some ty29) := ty_mk (zv := .nilFunc) Try.underlying29 (by kernel_rfl) (by kernel_rfl) (by kernel_rfl)
theorem tyq30 : TyQ Try.prog 30 (some ty30) := ty_mk (zv := .nilFunc) Try.underlying30 (by kernel_rfl) (by kernel_rfl) (by kernel_rfl)
theorem tyq31 : TyQ Try.prog 31 (some ty31) := ty_mk (zv := .int .i64 0) Try.underlying31 (by kernel_rfl) (by kernel_rfl) (by kernel_rfl)
theorem tyq32 : TyQ Try.prog 32 (some ty32) := ty_mk (zv := .nilFunc) Try.underlying32 (by kernel_rfl) (by kernel_rfl) (by kernel_rfl)
theorem tyq33 : TyQ Try.prog 33 (some ty33) := ty_mk (zv := .slice none 0 0) Try.underlying33 (by kernel_rfl) (by kernel_rfl) (by kernel_rfl)
theorem tyq34 : TyQ Try.prog 34 (some ty34) := ty_mk (zv := .agg #[.slice none 0 0]) (und_ok Try.underlying34) (by kernel_rfl) (by kernel_rfl) (by kernel_rfl)
theorem tyq35 : TyQ Try.prog 35 (some ty35) := ty_mk (zv := .agg #[.slice none 0 0]) (und_ok Try.underlying35) (by kernel_rfl) (by kernel_rfl) (by kernel_rfl)
theorem tyq36 : TyQ Try.prog 36 (some ty36) := ty_mk (zv := .nilFunc) Try.underlying36 (by kernel_rfl) (by kernel_rfl) (by kernel_rfl)
theorem tyq37 : TyQ Try.prog 37 (some ty37) := ty_mk (zv := .slice none 0 0) Try.underlying37 (by kernel_rfl) (by kernel_rfl) (by kernel_rfl)
theorem tyq38 : TyQ Try.prog 38 (some ty38) := ty_mk (zv := .nilFunc) Try.underlying38 (by kernel_rfl) (by kernel_rfl) (by kernel_rfl)
theorem tyq39 : TyQ Try.prog 39 (some ty39) := ty_mk (zv := .slice none 0 0) Try.underlying39 (by kernel_rfl) (by kernel_rfl) (by kernel_rfl)
theorem tyq40 : TyQ Try.prog 40 (some ty40) := ty_mk (zv := .slice none 0 0) Try.underlying40 (by kernel_rfl) (by kernel_rfl) (by kernel_rfl)
theorem tyq41 : TyQ Try.prog 41 (some ty41) := ty_mk (zv := .agg #[.slice none 0 0, .slice none 0 0]) (und_ok Try.underlying41) (by kernel_rfl) (by kernel_rfl) (by kernel_rfl)
theorem tyq42 : TyQ Try.prog 42 (some ty42) := ty_mk (zv := .agg #[.slice none 0 0, .slice none 0 0]) (und_ok Try.underlying42) (by kernel_rfl) (by kernel_rfl) (by kernel_rfl)
theorem tyq43 : TyQ Try.prog 43 (some ty43) := ty_mk (zv := .slice none 0 0) Try.underlying43 (by kernel_rfl) (by kernel_rfl) (by kernel_rfl)
theorem tyq44 : TyQ Try.prog 44 (some ty44) := ty_mk (zv := .slice none 0 0) Try.underlying44 (by kernel_rfl) (by kernel_rfl) (by kernel_rfl)
theorem tyq45 : TyQ Try.prog 45 (some ty45) := ty_mk (zv := .agg #[.slice none 0 0, .slice none 0 0, .slice none 0 0, .slice none 0 0]) (und_ok Try.underlying45) (by kernel_rfl) (by kernel_rfl) (by kernel_rfl)
theorem tyq46 : TyQ Try.prog 46 (some ty46) := ty_mk (zv := .agg #[.slice none 0 0, .slice none 0 0, .slice none 0 0, .slice none 0 0]) (und_ok Try.underlying46) (by kernel_rfl) (by kernel_rfl) (by kernel_rfl)
theorem tyq47 : TyQ Try.prog 47 (some ty47) := ty_mk (zv := .nilFunc) Try.underlying47 (by kernel_rfl) (by kernel_rfl) (by kernel_rfl)
theorem tyq48 : TyQ Try.prog 48 (some ty48) := ty_mk (zv := .nilFunc) Try.underlying48 (by kernel_rfl) (by kernel_rfl) (by kernel_rfl)
theorem tyq49 : TyQ Try.prog 49 (some ty49) := ty_mk (zv := .nilFunc) Try.underlying49 (by kernel_rfl) (by kernel_rfl) (by kernel_rfl)
theorem tyq50 : TyQ Try.prog 50 (some ty50) := ty_mk (zv := .nilFunc) Try.underlying50 (by kernel_rfl) (by kernel_rfl) (by kernel_rfl)
theorem tyq51 : TyQ Try.prog 51 (some ty51) := ty_mk (zv := .nilFunc) Try.underlying51 (by kernel_rfl) (by kernel_rfl) (by kernel_rfl)
theorem tyq52 : TyQ Try.prog 52 (some ty52) := ty_mk (zv := .nilFunc) Try.underlying52 (by kernel_rfl) (by kernel_rfl) (by kernel_rfl)
theorem tyq53 : TyQ Try.prog 53 (some ty53) := ty_mk (zv := .slice none 0 0) Try.underlying53 (by kernel_rfl) (by kernel_rfl) (by kernel_rfl)
theorem tyq54 : TyQ Try.prog 54 (some ty54) := ty_mk (zv := .agg #[.int .i64 0, .slice none 0 0]) (und_ok Try.underlying54) (by kernel_rfl) (by kernel_rfl) (by kernel_rfl)
theorem tyq55 : TyQ Try.prog 55 (some ty55) := ty_mk (zv := .agg #[.int .i64 0, .slice none 0 0]) (und_ok Try.underlying55) (by kernel_rfl) (by kernel_rfl) (by kernel_rfl)
theorem tyq56 : TyQ Try.prog 56 (some ty56) := ty_mk (zv := .agg #[.int .i64 0, .slice none 0 0, .int .i64 0, .slice none 0 0]) Try.underlying56 (by kernel_rfl) (by kernel_rfl) (by kernel_rfl)
theorem tyq57 : TyQ Try.prog 57 (some ty57) := ty_mk (zv := .agg #[.int .i64 0, .int .i64 0, .int .i64 0, .slice none 0 0, .int .i64 0, .slice none 0 0, .int .i64 0, .slice none 0 0]) (und_ok Try.underlying57) (by kernel_rfl) (by kernel_rfl) (by kernel_rfl)
theorem tyq58 : TyQ Try.prog 58 (some ty58) := ty_mk (zv := .agg #[.int .i64 0, .int .i64 0, .int .i64 0, .slice none 0 0, .int .i64 0, .slice none 0 0, .int .i64 0, .slice none 0 0]) (und_ok Try.underlying58) (by kernel_rfl) (by kernel_rfl) (by kernel_rfl)
theorem tyq59 : TyQ Try.prog 59 (some ty59) := ty_mk (zv := .agg #[.int .i64 0, .slice none 0 0, .int .i64 0, .int .i64 0, .int .i64 0, .slice none 0 0, .int .i64 0, .slice none 0 0, .int .i64 0, .slice none 0 0]) (und_ok Try.underlying59) (by kernel_rfl) (by kernel_rfl) (by kernel_rfl)
theorem tyq60 : TyQ Try.prog 60 (some ty60) := ty_mk (zv := .agg #[.int .i64 0, .slice none 0 0, .int .i64 0, .int .i64 0, .int .i64 0, .slice none 0 0, .int .i64 0, .slice none 0 0, .int .i64 0, .slice none 0 0]) (und_ok Try.underlying60) (by kernel_rfl) (by kernel_rfl) (by kernel_rfl)
theorem tyq61 : TyQ Try.prog 61 (some ty61) := ty_mk (zv := .nilFunc) Try.underlying61 (by kernel_rfl) (by kernel_rfl) (by kernel_rfl)
theorem tyq62 : TyQ Try.prog 62 (some ty62) := ty_mk (zv := .nilFunc) Try.underlying62 (by kernel_rfl) (by kernel_rfl) (by kernel_rfl)
theorem tyq63 : TyQ Try.prog 63 (some ty63) := ty_mk (zv := .agg #[.int .i64 0, .int .i64 0, .int .i64 0]) (und_ok Try.underlying63) (by kernel_rfl) (by kernel_rfl) (by kernel_rfl)
theorem tyq64 : TyQ Try.prog 64 (some ty64) := ty_mkE (zv := .agg #[.int .i64 0, .int .i64 0, .int .i64 0]) (und_ok Try.underlying64) (by kernel_rfl) (by kernel_rfl) (by kernel_rfl) (by kernel_rfl) (by kernel_rfl) (by kernel_rfl)
theorem tyq65 : TyQ Try.prog 65 (some ty65) := ty_mk (zv := .agg #[.int .i64 0, .int .i64 0, .int .i64 0, .int .i64 0, .int .i64 0, .int .i64 0, .int .i64 0, .int .i64 0, .int .i64 0, .int .i64 0, .int .i64 0]) (und_ok Try.underlying65) (by kernel_rfl) (by kernel_rfl) (by kernel_rfl)
theorem tyq66 : TyQ Try.prog 66 (some ty66) := ty_mk (zv := .agg #[.int .i64 0, .int .i64 0, .int .i64 0, .int .i64 0, .int .i64 0, .int .i64 0, .int .i64 0, .int .i64 0, .int .i64 0, .int .i64 0, .int .i64 0]) (und_ok Try.underlying66) (by kernel_rfl) (by kernel_rfl) (by kernel_rfl)
theorem tyq67 : TyQ Try.prog 67 (some ty67) := ty_mk (zv := .nilFunc) Try.underlying67 (by kernel_rfl) (by kernel_rfl) (by kernel_rfl)
theorem tyq68 : TyQ Try.prog 68 (some ty68) := ty_mk (zv := .agg #[.int .i64 0, .int .i64 0, .int .i64 0]) (und_ok Try.underlying68) (by kernel_rfl) (by kernel_rfl) (by kernel_rfl)
theorem tyq69 : TyQ Try.prog 69 (some ty69) := ty_mk (zv := .agg #[.int .i64 0, .int .i64 0, .int .i64 0]) (und_ok Try.underlying69) (by kernel_rfl) (by kernel_rfl) (by kernel_rfl)
theorem tyq70 : TyQ Try.prog 70 (some ty70) := ty_mk (zv := .nilFunc) Try.underlying70 (by kernel_rfl) (by kernel_rfl) (by kernel_rfl)
theorem tyq71 : TyQ Try.prog 71 (some ty71) := ty_mk (zv := .agg #[.int .i64 0, .int .i64 0, .int .i64 0]) (und_ok Try.underlying71) (by kernel_rfl) (by kernel_rfl) (by kernel_rfl)
theorem tyq72 : TyQ Try.prog 72 (some ty72) := ty_mk (zv := .agg #[.int .i64 0, .int .i64 0, .int .i64 0]) (und_ok Try.underlying72) (by kernel_rfl) (by kernel_rfl) (by kernel_rfl)
theorem tyq73 : TyQ Try.prog 73 (some ty73) := ty_mk (zv := .nilFunc) Try.underlying73 (by kernel_rfl) (by kernel_rfl) (by kernel_rfl)
theorem tyq74 : TyQ Try.prog 74 (some ty74) := ty_mk (zv := .nilFunc) Try.underlying74 (by kernel_rfl) (by kernel_rfl) (by kernel_rfl)
theorem tyq75 : TyQ Try.prog 75 (some ty75) := ty_mk (zv := .nilFunc) Try.underlying75 (by kernel_rfl) (by kernel_rfl) (by kernel_rfl)
theorem tyq76 : TyQ Try.prog 76 (some ty76) := ty_mk (zv := .nilFunc) Try.underlying76 (by kernel_rfl) (by kernel_rfl) (by kernel_rfl)
theorem tyq77 : TyQ Try.prog 77 (some ty77) := ty_mk (zv := .nilFunc) Try.underlying77 (by kernel_rfl) (by kernel_rfl) (by kernel_rfl)
theorem tyq78 : TyQ Try.prog 78 (some ty78) := ty_mk (zv := .nilFunc) Try.underlying78 (by kernel_rfl) (by kernel_rfl) (by kernel_rfl)
theorem tyq79 : TyQ Try.prog 79 (some ty79) := ty_mk (zv := .map none) Try.underlying79 (by kernel_rfl) (by kernel_rfl) (by kernel_rfl)
theorem tyq80 : TyQ Try.prog 80 (some ty80) := ty_mk (zv := .agg #[.map none, .map none]) (und_ok Try.underlying80) (by kernel_rfl) (by kernel_rfl) (by kernel_rfl)
theorem tyq81 : TyQ Try.prog 81 (some ty81) := ty_mk (zv := .agg #[.map none, .map none]) (und_ok Try.underlying81) (by kernel_rfl) (by kernel_rfl) (by kernel_rfl)
theorem tyq82 : TyQ Try.prog 82 (some ty82) := ty_mk (zv := .nilFunc) Try.underlying82 (by kernel_rfl) (by kernel_rfl) (by kernel_rfl)
theorem tyq83 : TyQ Try.prog 83 (some ty83) := ty_mk (zv := .nilFunc) Try.underlying83 (by kernel_rfl) (by kernel_rfl) (by kernel_rfl)
theorem tyq84 : TyQ Try.prog 84 (some ty84) := ty_mk (zv := .nilFunc) Try.underlying84 (by kernel_rfl) (by kernel_rfl) (by kernel_rfl)
theorem tyq85 : TyQ Try.prog 85 (some ty85) := ty_mk (zv := .map none) Try.underlying85 (by kernel_rfl) (by kernel_rfl) (by kernel_rfl)
theorem tyq86 : TyQ Try.prog 86 (some ty86) := ty_mk (zv := .map none) Try.underlying86 (by kernel_rfl) (by kernel_rfl) (by kernel_rfl)
theorem tyq87 : TyQ Try.prog 87 (some ty87) := ty_mk (zv := .slice none 0 0) Try.underlying87 (by kernel_rfl) (by kernel_rfl) (by kernel_rfl)
theorem tyq88 : TyQ Try.prog 88 (some ty88) := ty_mk (zv := .agg #[.int .i64 0, .slice none 0 0, .slice none 0 0, .slice none 0 0, .map none, .slice none 0 0, .map none]) (und_ok Try.underlying88) (by kernel_rfl) (by kernel_rfl) (by kernel_rfl)
theorem tyq89 : TyQ Try.prog 89 (some ty89) := ty_mk (zv := .agg #[.int .i64 0, .slice none 0 0, .slice none 0 0, .slice none 0 0, .map none, .slice none 0 0, .map none]) (und_ok Try.underlying89) (by kernel_rfl) (by kernel_rfl) (by kernel_rfl)
theorem tyq90 : TyQ Try.prog 90 (some ty90) := ty_mk (zv := .nilFunc) Try.underlying90 (by kernel_rfl) (by kernel_rfl) (by kernel_rfl)
theorem tyq91 : TyQ Try.prog 91 (some ty91) := ty_mk (zv := .agg #[.int .i64 0, .int .i64 0]) (und_ok Try.underlying91) (by kernel_rfl) (by kernel_rfl) (by kernel_rfl)
theorem tyq92 : TyQ Try.prog 92 (some ty92) := ty_mk (zv := .agg #[.int .i64 0, .int .i64 0]) (und_ok Try.underlying92) (by kernel_rfl) (by kernel_rfl) (by kernel_rfl)
theorem tyq93 : TyQ Try.prog 93 (some ty93) := ty_mk (zv := .nilFunc) Try.underlying93 (by kernel_rfl) (by kernel_rfl) (by kernel_rfl)
theorem tyq94 : TyQ Try.prog 94 (some ty94) := ty_mk (zv := .nilFunc) Try.underlying94 (by kernel_rfl) (by kernel_rfl) (by kernel_rfl)
theorem tyq95 : TyQ Try.prog 95 (some ty95) := ty_mk (zv := .slice none 0 0) Try.underlying95 (by kernel_rfl) (by kernel_rfl) (by kernel_rfl)
theorem tyq96 : TyQ Try.prog 96 (some ty96) := ty_mk (zv := .nilFunc) Try.underlying96 (by kernel_rfl) (by kernel_rfl) (by kernel_rfl)
theorem tyq97 : TyQ Try.prog 97 (some ty97) := ty_mk (zv := .agg #[.slice none 0 0, .slice none 0 0]) (und_ok Try.underlying97) (by kernel_rfl) (by kernel_rfl) (by kernel_rfl)
theorem tyq98 : TyQ Try.prog 98 (some ty98) := ty_mk (zv := .agg #[.slice none 0 0, .slice none 0 0]) (und_ok Try.underlying98) (by kernel_rfl) (by kernel_rfl) (by kernel_rfl)
theorem tyq99 : TyQ Try.prog 99 (some ty99) := ty_mk (zv := .nilFunc) Try.underlying99 (by kernel_rfl) (by kernel_rfl) (by kernel_rfl)
theorem tyq100 : TyQ Try.prog 100 (some ty100) := ty_mk (zv := .nilFunc) Try.underlying100 (by kernel_rfl) (by kernel_rfl) (by kernel_rfl)
theorem tyq101 : TyQ Try.prog 101 (some ty101) := ty_mk (zv := .nilFunc) Try.underlying101 (by kernel_rfl) (by kernel_rfl) (by kernel_rfl)
theorem tyq102 : TyQ Try.prog 102 (some ty102) := ty_mk (zv := .slice none 0 0) Try.underlying102 (by kernel_rfl) (by kernel_rfl) (by kernel_rfl)
theorem tyq103 : TyQ Try.prog 103 (some ty103) := ty_mk (zv := .agg #[.int .i64 0, .bool false, .int .i64 0, .slice none 0 0]) (und_ok Try.underlying103) (by kernel_rfl) (by kernel_rfl) (by kernel_rfl)
theorem tyq104 : TyQ Try.prog 104 (some ty104) := ty_mk (zv := .agg #[.int .i64 0, .bool false, .int .i64 0, .slice none 0 0]) (und_ok Try.underlying104) (by kernel_rfl) (by kernel_rfl) (by kernel_rfl)
theorem tyq106 : TyQ Try.prog 106 (some ty106) := ty_mk (zv := .nilFunc) Try.underlying106 (by kernel_rfl) (by kernel_rfl) (by kernel_rfl)
theorem tyq107 : TyQ Try.prog 107 (some ty107) := ty_mk (zv := .nilFunc) Try.underlying107 (by kernel_rfl) (by kernel_rfl) (by kernel_rfl)
theorem tyq108 : TyQ Try.prog 108 (some ty108) := ty_mk (zv := .slice none 0 0) Try.underlying108 (by kernel_rfl) (by kernel_rfl) (by kernel_rfl)
theorem tyq109 : TyQ Try.prog 109 (some ty109) := ty_mk (zv := .agg #[.slice none 0 0]) (und_ok Try.underlying109) (by kernel_rfl) (by kernel_rfl) (by kernel_rfl)
theorem tyq110 : TyQ Try.prog 110 (some ty110) := ty_mk (zv := .agg #[.slice none 0 0]) (und_ok Try.underlying110) (by kernel_rfl) (by kernel_rfl) (by kernel_rfl)
theorem tyq111 : TyQ Try.prog 111 (some ty111) := ty_mk (zv := .slice none 0 0) Try.underlying111 (by kernel_rfl) (by kernel_rfl) (by kernel_rfl)
theorem tyq112 : TyQ Try.prog 112 (some ty112) := ty_mk (zv := .agg #[.int .i64 0, .int .i64 0, .slice none 0 0]) (und_ok Try.underlying112) (by kernel_rfl) (by kernel_rfl) (by kernel_rfl)
theorem tyq113 : TyQ Try.prog 113 (some ty113) := ty_mk (zv := .agg #[.int .i64 0, .int .i64 0, .slice none 0 0]) (und_ok Try.underlying113) (by kernel_rfl) (by kernel_rfl) (by kernel_rfl)
theorem tyq114 : TyQ Try.prog 114 (some ty114) := ty_mk (zv := .slice none 0 0) Try.underlying114 (by kernel_rfl) (by kernel_rfl) (by kernel_rfl)
theorem tyq115 : TyQ Try.prog 115 (some ty115) := ty_mk (zv := .agg #[.int .i64 0, .slice none 0 0, .slice none 0 0]) (und_ok Try.underlying115) (by kernel_rfl) (by kernel_rfl) (by kernel_rfl)
theorem tyq116 : TyQ Try.prog 116 (some ty116) := ty_mk (zv := .agg #[.int .i64 0, .slice none 0 0, .slice none 0 0]) (und_ok Try.underlying116) (by kernel_rfl) (by kernel_rfl) (by kernel_rfl)
theorem tyq117 : TyQ Try.prog 117 (some ty117) := ty_mk (zv := .nilFunc) Try.underlying117 (by kernel_rfl) (by kernel_rfl) (by kernel_rfl)
theorem tyq118 : TyQ Try.prog 118 (some ty118) := ty_mk (zv := .nilFunc) Try.underlying118 (by kernel_rfl) (by kernel_rfl) (by kernel_rfl)
theorem tyq119 : TyQ Try.prog 119 (some ty119) := ty_mk (zv := .slice none 0 0) Try.underlying119 (by kernel_rfl) (by kernel_rfl) (by kernel_rfl)
theorem tyq120 : TyQ Try.prog 120 (some ty120) := ty_mk (zv := .slice none 0 0) Try.underlying120 (by kernel_rfl) (by kernel_rfl) (by kernel_rfl)
theorem tyq121 : TyQ Try.prog 121 (some ty121) := ty_mk (zv := .agg #[.string ByteArray.empty, .int .i64 0, .slice none 0 0, .slice none 0 0]) (und_ok Try.underlying121) (by kernel_rfl) (by kernel_rfl) (by kernel_rfl)
theorem tyq122 : TyQ Try.prog 122 (some ty122) := ty_mk (zv := .agg #[.string ByteArray.empty, .int .i64 0, .slice none 0 0, .slice none 0 0]) (und_ok Try.underlying122) (by kernel_rfl) (by kernel_rfl) (by kernel_rfl)
theorem tyq123 : TyQ Try.prog 123 (some ty123) := ty_mk (zv := .agg #[.string ByteArray.empty, .int .i64 0, .int .i64 0, .int .i64 0, .bool false, .int .i64 0, .int .i64 0]) (und_ok Try.underlying123) (by kernel_rfl) (by kernel_rfl) (by kernel_rfl)
theorem tyq124 : TyQ Try.prog 124 (some ty124) := ty_mk (zv := .agg #[.string ByteArray.empty, .int .i64 0, .int .i64 0, .int .i64 0, .bool false, .int .i64 0, .int .i64 0]) (und_ok Try.underlying124) (by kernel_rfl) (by kernel_rfl) (by kernel_rfl)
theorem tyq125 : TyQ Try.prog 125 (some ty125) := ty_mk (zv := .slice none 0 0) Try.underlying125 (by kernel_rfl) (by kernel_rfl) (by kernel_rfl)
theorem tyq126 : TyQ Try.prog 126 (some ty126) := ty_mk (zv := .agg #[.int .i64 0, .int .i64 0, .int .i64 0]) (und_ok Try.underlying126) (by kernel_rfl) (by kernel_rfl) (by kernel_rfl)
theorem tyq127 : TyQ Try.prog 127 (some ty127) := ty_mk (zv := .agg #[.int .i64 0, .int .i64 0, .int .i64 0]) (und_ok Try.underlying127) (by kernel_rfl) (by kernel_rfl) (by kernel_rfl)
theorem tyq128 : TyQ Try.prog 128 (some ty128) := ty_mk (zv := .nilFunc) Try.underlying128 (by kernel_rfl) (by kernel_rfl) (by kernel_rfl)
theorem tyq129 : TyQ Try.prog 129 (some ty129) := ty_mk (zv := .nilFunc) Try.underlying129 (by kernel_rfl) (by kernel_rfl) (by kernel_rfl)
theorem tyq131 : TyQ Try.prog 131 (some ty131) := ty_mk (zv := .nilFunc) Try.underlying131 (by kernel_rfl) (by kernel_rfl) (by kernel_rfl)
theorem tyq132 : TyQ Try.prog 132 (some ty132) := ty_mk (zv := .nilFunc) Try.underlying132 (by kernel_rfl) (by kernel_rfl) (by kernel_rfl)
theorem tyq133 : TyQ Try.prog 133 (some ty133) := ty_mk (zv := .nilFunc) Try.underlying133 (by kernel_rfl) (by kernel_rfl) (by kernel_rfl)
theorem tyq134 : TyQ Try.prog 134 (some ty134) := ty_mk (zv := .agg #[.map none, .map none]) (und_ok Try.underlying134) (by kernel_rfl) (by kernel_rfl) (by kernel_rfl)
theorem tyq135 : TyQ Try.prog 135 (some ty135) := ty_mk (zv := .agg #[.map none, .map none]) (und_ok Try.underlying135) (by kernel_rfl) (by kernel_rfl) (by kernel_rfl)
theorem tyq136 : TyQ Try.prog 136 (some ty136) := ty_mk (zv := .nilFunc) Try.underlying136 (by kernel_rfl) (by kernel_rfl) (by kernel_rfl)
theorem tyq137 : TyQ Try.prog 137 (some ty137) := ty_mk (zv := .nilFunc) Try.underlying137 (by kernel_rfl) (by kernel_rfl) (by kernel_rfl)
theorem tyq138 : TyQ Try.prog 138 (some ty138) := ty_mk (zv := .pointer none) Try.underlying138 (by kernel_rfl) (by kernel_rfl) (by kernel_rfl)
theorem tyq139 : TyQ Try.prog 139 (some ty139) := ty_mk (zv := .nilFunc) Try.underlying139 (by kernel_rfl) (by kernel_rfl) (by kernel_rfl)
theorem tyq140 : TyQ Try.prog 140 (some ty140) := ty_mk (zv := .pointer none) Try.underlying140 (by kernel_rfl) (by kernel_rfl) (by kernel_rfl)
theorem tyq141 : TyQ Try.prog 141 (some ty141) := ty_mk (zv := .nilFunc) Try.underlying141 (by kernel_rfl) (by kernel_rfl) (by kernel_rfl)
theorem tyq143 : TyQ Try.prog 143 (some ty143) := ty_mk (zv := .nilFunc) Try.underlying143 (by kernel_rfl) (by kernel_rfl) (by kernel_rfl)
theorem tyq144 : TyQ Try.prog 144 (some ty144) := ty_mk (zv := .nilFunc) Try.underlying144 (by kernel_rfl) (by kernel_rfl) (by kernel_rfl)
theorem tyq145 : TyQ Try.prog 145 (some ty145) := ty_mk (zv := .nilFunc) Try.underlying145 (by kernel_rfl) (by kernel_rfl) (by kernel_rfl)
theorem tyq146 : TyQ Try.prog 146 (some ty146) := ty_mk (zv := .nilFunc) Try.underlying146 (by kernel_rfl) (by kernel_rfl) (by kernel_rfl)
theorem tyq147 : TyQ Try.prog 147 (some ty147) := ty_mk (zv := .nilFunc) Try.underlying147 (by kernel_rfl) (by kernel_rfl) (by kernel_rfl)
theorem tyq148 : TyQ Try.prog 148 (some ty148) := ty_mk (zv := .nilFunc) Try.underlying148 (by kernel_rfl) (by kernel_rfl) (by kernel_rfl)
theorem tyq149 : TyQ Try.prog 149 (some ty149) := ty_mk (zv := .nilFunc) Try.underlying149 (by kernel_rfl) (by kernel_rfl) (by kernel_rfl)
theorem tyq150 : TyQ Try.prog 150 (some ty150) := ty_mk (zv := .pointer none) Try.underlying150 (by kernel_rfl) (by kernel_rfl) (by kernel_rfl)
theorem tyq151 : TyQ Try.prog 151 (some ty151) := ty_mk (zv := .pointer none) Try.underlying151 (by kernel_rfl) (by kernel_rfl) (by kernel_rfl)
theorem tyq152 : TyQ Try.prog 152 (some ty152) := ty_mk (zv := .nilFunc) Try.underlying152 (by kernel_rfl) (by kernel_rfl) (by kernel_rfl)
theorem tyq153 : TyQ Try.prog 153 (some ty153) := ty_mk (zv := .nilFunc) Try.underlying153 (by kernel_rfl) (by kernel_rfl) (by kernel_rfl)
theorem tyq154 : TyQ Try.prog 154 (some ty154) := ty_mk (zv := .nilFunc) Try.underlying154 (by kernel_rfl) (by kernel_rfl) (by kernel_rfl)
theorem tyq155 : TyQ Try.prog 155 (some ty155) := ty_mk (zv := .agg #[.int .i64 0, .int .i64 0, .int .i64 0, .slice none 0 0]) (und_ok Try.underlying155) (by kernel_rfl) (by kernel_rfl) (by kernel_rfl)
theorem tyq156 : TyQ Try.prog 156 (some ty156) := ty_mk (zv := .agg #[.int .i64 0, .int .i64 0, .int .i64 0, .slice none 0 0]) (und_ok Try.underlying156) (by kernel_rfl) (by kernel_rfl) (by kernel_rfl)
theorem tyq157 : TyQ Try.prog 157 (some ty157) := ty_mk (zv := .pointer none) Try.underlying157 (by kernel_rfl) (by kernel_rfl) (by kernel_rfl)
theorem tyq158 : TyQ Try.prog 158 (some ty158) := ty_mk (zv := .nilFunc) Try.underlying158 (by kernel_rfl) (by kernel_rfl) (by kernel_rfl)
theorem tyq159 : TyQ Try.prog 159 (some ty159) := ty_mk (zv := .slice none 0 0) Try.underlying159 (by kernel_rfl) (by kernel_rfl) (by kernel_rfl)
theorem tyq160 : TyQ Try.prog 160 (some ty160) := ty_mk (zv := .nilFunc) Try.underlying160 (by kernel_rfl) (by kernel_rfl) (by kernel_rfl)
theorem tyq164 : TyQ Try.prog 164 (some ty164) := ty_mk (zv := .nilFunc) Try.underlying164 (by kernel_rfl) (by kernel_rfl) (by kernel_rfl)
theorem tyq165 : TyQ Try.prog 165 (some ty165) := ty_mk (zv := .nilFunc) Try.underlying165 (by kernel_rfl) (by kernel_rfl) (by kernel_rfl)
theorem tyq166 : TyQ Try.prog 166 (some ty166) := ty_mk (zv := .pointer none) Try.underlying166 (by kernel_rfl) (by kernel_rfl) (by kernel_rfl)
theorem tyq167 : TyQ Try.prog 167 (some ty167) := ty_mk (zv := .nilFunc) Try.underlying167 (by kernel_rfl) (by kernel_rfl) (by kernel_rfl)
theorem tyq168 : TyQ Try.prog 168 (some ty168) := ty_mk (zv := .nilFunc) Try.underlying168 (by kernel_rfl) (by kernel_rfl) (by kernel_rfl)
theorem tyq169 : TyQ Try.prog 169 (some ty169) := ty_mk (zv := .nilFunc) Try.underlying169 (by kernel_rfl) (by kernel_rfl) (by kernel_rfl)
theorem tyq171 : TyQ Try.prog 171 (some ty171) := ty_mk (zv := .nilFunc) Try.underlying171 (by kernel_rfl) (by kernel_rfl) (by kernel_rfl)
theorem tyq174 : TyQ Try.prog 174 (some ty174) := ty_mk (zv := .pointer none) Try.underlying174 (by kernel_rfl) (by kernel_rfl) (by kernel_rfl)
theorem tyq175 : TyQ Try.prog 175 (some ty175) := ty_mk (zv := .slice none 0 0) Try.underlying175 (by kernel_rfl) (by kernel_rfl) (by kernel_rfl)
theorem tyq176 : TyQ Try.prog 176 (some ty176) := ty_mk (zv := .agg #[.slice none 0 0, .slice none 0 0, .slice none 0 0, .slice none 0 0, .slice none 0 0, .slice none 0 0, .int .i64 0, .int .i64 0, .int .i64 0, .int .i64 0, .int .i64 0, .bool false, .slice none 0 0, .int .i64 0, .bool false, .int .i64 0, .slice none 0 0]) (und_ok Try.underlying176) (by kernel_rfl) (by kernel_rfl) (by kernel_rfl)
theorem tyq177 : TyQ Try.prog 177 (some ty177) := ty_mk (zv := .agg #[.slice none 0 0, .slice none 0 0, .slice none 0 0, .slice none 0 0, .slice none 0 0, .slice none 0 0, .int .i64 0, .int .i64 0, .int .i64 0, .int .i64 0, .int .i64 0, .bool false, .slice none 0 0, .int .i64 0, .bool false, .int .i64 0, .slice none 0 0]) (und_ok Try.underlying177) (by kernel_rfl) (by kernel_rfl) (by kernel_rfl)
theorem tyq180 : TyQ Try.prog 180 (some ty180) := ty_mk (zv := .slice none 0 0) Try.underlying180 (by kernel_rfl) (by kernel_rfl) (by kernel_rfl)
theorem tyq182 : TyQ Try.prog 182 (some ty182) := ty_mk (zv := .agg #[.slice none 0 0, .slice none 0 0, .slice none 0 0, .slice none 0 0, .slice none 0 0, .int .i64 0, .int .i64 0, .int .i64 0, .int .i64 0, .int .i64 0, .slice none 0 0, .slice none 0 0, .int .i64 0, .bool false, .int .i64 0, .slice none 0 0]) (und_ok Try.underlying182) (by kernel_rfl) (by kernel_rfl) (by kernel_rfl)
theorem tyq183 : TyQ Try.prog 183 (some ty183) := ty_mk (zv := .nilFunc) Try.underlying183 (by kernel_rfl) (by kernel_rfl) (by kernel_rfl)
theorem tyq184 : TyQ Try.prog 184 (some ty184) := ty_mk (zv := .agg #[.int .i64 0, .int .i64 0, .int .i64 0, .slice none 0 0, .int .i64 0, .slice none 0 0, .int .i64 0, .slice none 0 0, .int .i64 0, .int .i64 0, .slice none 0 0, .slice none 0 0, .map none]) (und_ok Try.underlying184) (by kernel_rfl) (by kernel_rfl) (by kernel_rfl)
theorem tyq185 : TyQ Try.prog 185 (some ty185) := ty_mk (zv := .agg #[.int .i64 0, .int .i64 0, .int .i64 0, .slice none 0 0, .int .i64 0, .slice none 0 0, .int .i64 0, .slice none 0 0, .int .i64 0, .int .i64 0, .slice none 0 0, .slice none 0 0, .map none]) (und_ok Try.underlying185) (by kernel_rfl) (by kernel_rfl) (by kernel_rfl)
theorem tyq188 : TyQ Try.prog 188 (some ty188) := ty_mk (zv := .nilFunc) Try.underlying188 (by kernel_rfl) (by kernel_rfl) (by kernel_rfl)
theorem tyq191 : TyQ Try.prog 191 (some ty191) := ty_mk (zv := .nilFunc) Try.underlying191 (by kernel_rfl) (by kernel_rfl) (by kernel_rfl)
theorem tyq193 : TyQ Try.prog 193 (some ty193) := ty_mk (zv := .nilFunc) Try.underlying193 (by kernel_rfl) (by kernel_rfl) (by kernel_rfl)
theorem tyq195 : TyQ Try.prog 195 (some ty195) := ty_mk (zv := .map none) Try.underlying195 (by kernel_rfl) (by kernel_rfl) (by kernel_rfl)
theorem tyq197 : TyQ Try.prog 197 (some ty197) := ty_mkE (zv := .agg #[.int .i64 0, .int .i64 0, .int .i64 0]) (und_ok Try.underlying197) (by kernel_rfl) (by kernel_rfl) (by kernel_rfl) (by kernel_rfl) (by kernel_rfl) (by kernel_rfl)
theorem tyq199 : TyQ Try.prog 199 (some ty199) := ty_mk (zv := .agg #[.int .i64 0, .map none]) (und_ok Try.underlying199) (by kernel_rfl) (by kernel_rfl) (by kernel_rfl)
theorem tyq202 : TyQ Try.prog 202 (some ty202) := ty_mk (zv := .nilFunc) Try.underlying202 (by kernel_rfl) (by kernel_rfl) (by kernel_rfl)
theorem tyq208 : TyQ Try.prog 208 (some ty208) := ty_mk (zv := .nilFunc) Try.underlying208 (by kernel_rfl) (by kernel_rfl) (by kernel_rfl)
theorem tyq210 : TyQ Try.prog 210 (some ty210) := ty_mk (zv := .pointer none) Try.underlying210 (by kernel_rfl) (by kernel_rfl) (by kernel_rfl)
theorem tyq211 : TyQ Try.prog 211 (some ty211) := ty_mk (zv := .map none) Try.underlying211 (by kernel_rfl) (by kernel_rfl) (by kernel_rfl)
theorem tyq213 : TyQ Try.prog 213 (some ty213) := ty_mk (zv := .agg #[.bool false, .int .i64 0, .int .i64 0, .map none]) (und_ok Try.underlying213) (by kernel_rfl) (by kernel_rfl) (by kernel_rfl)
theorem tyq215 : TyQ Try.prog 215 (some ty215) := ty_mk (zv := .agg #[.bool false, .int .i64 0, .int .i64 0, .map none, .int .i64 0, .slice none 0 0, .slice none 0 0, .slice none 0 0, .slice none 0 0, .int .i64 0, .slice none 0 0, .slice none 0 0, .slice none 0 0]) (und_ok Try.underlying215) (by kernel_rfl) (by kernel_rfl) (by kernel_rfl)
theorem tyq216 : TyQ Try.prog 216 (some ty216) := ty_mk (zv := .nilFunc) Try.underlying216 (by kernel_rfl) (by kernel_rfl) (by kernel_rfl)
theorem tyq220 : TyQ Try.prog 220 (some ty220) := ty_mk (zv := .nilFunc) Try.underlying220 (by kernel_rfl) (by kernel_rfl) (by kernel_rfl)
theorem tyq222 : TyQ Try.prog 222 (some ty222) := ty_mk (zv := .pointer none) Try.underlying222 (by kernel_rfl) (by kernel_rfl) (by kernel_rfl)
theorem tyq224 : TyQ Try.prog 224 (some ty224) := ty_mk (zv := .agg #[.int .i64 0, .slice none 0 0, .map none, .slice none 0 0, .int .i64 0, .int .i64 0, .slice none 0 0, .int .i64 0, .slice none 0 0, .int .i64 0, .slice none 0 0]) (und_ok Try.underlying224) (by kernel_rfl) (by kernel_rfl) (by kernel_rfl)
theorem tyq240 : TyQ Try.prog 240 (some ty240) := ty_mk (zv := .nilFunc) Try.underlying240 (by kernel_rfl) (by kernel_rfl) (by kernel_rfl)
theorem tyq243 : TyQ Try.prog 243 (some ty243) := ty_mk (zv := .nilFunc) Try.underlying243 (by kernel_rfl) (by kernel_rfl) (by kernel_rfl)
theorem tyq244 : TyQ Try.prog 244 (some ty244) := ty_mk (zv := .nilFunc) Try.underlying244 (by kernel_rfl) (by kernel_rfl) (by kernel_rfl)
theorem tyq259 : TyQ Try.prog 259 (some ty259) := ty_mk (zv := .nilFunc) Try.underlying259 (by kernel_rfl) (by kernel_rfl) (by kernel_rfl)
theorem tyq274 : TyQ Try.prog 274 (some ty274) := ty_mk (zv := .agg #[.pointer none, .pointer none, .pointer none, .string ByteArray.empty]) (und_ok Try.underlying274) (by kernel_rfl) (by kernel_rfl) (by kernel_rfl)
theorem tyq275 : TyQ Try.prog 275 (some ty275) := ty_mk (zv := .agg #[]) Try.underlying275 (by kernel_rfl) (by kernel_rfl) (by kernel_rfl)
theorem tyq277 : TyQ Try.prog 277 (some ty277) := ty_mk (zv := .agg #[]) (und_ok Try.underlying277) (by kernel_rfl) (by kernel_rfl) (by kernel_rfl)
theorem tyq279 : TyQ Try.prog 279 (some ty279) := ty_mk (zv := .int .u32 0) Try.underlying279 (by kernel_rfl) (by kernel_rfl) (by kernel_rfl)
theorem tyq280 : TyQ Try.prog 280 (some ty280) := ty_mk (zv := .int .u8 0) Try.underlying280 (by kernel_rfl) (by kernel_rfl) (by kernel_rfl)
theorem tyq281 : TyQ Try.prog 281 (some ty281) := ty_mk (zv := .int .u8 0) Try.underlying281 (by kernel_rfl) (by kernel_rfl) (by kernel_rfl)
theorem tyq282 : TyQ Try.prog 282 (some ty282) := ty_mk (zv := .nilFunc) Try.underlying282 (by kernel_rfl) (by kernel_rfl) (by kernel_rfl)
theorem tyq283 : TyQ Try.prog 283 (some ty283) := ty_mk (zv := .pointer none) Try.underlying283 (by kernel_rfl) (by kernel_rfl) (by kernel_rfl)
theorem tyq284 : TyQ Try.prog 284 (some ty284) := ty_mk (zv := .int .i32 0) Try.underlying284 (by kernel_rfl) (by kernel_rfl) (by kernel_rfl)
theorem tyq285 : TyQ Try.prog 285 (some ty285) := ty_mk (zv := .int .i32 0) Try.underlying285 (by kernel_rfl) (by kernel_rfl) (by kernel_rfl)
theorem tyq287 : TyQ Try.prog 287 (some ty287) := ty_mk (zv := .agg #[.int .u64 0, .int .u64 0, .int .u32 0, .int .u8 0, .int .u8 0, .int .u8 0, .int .u8 0, .nilFunc, .pointer none, .int .i32 0, .int .i32 0]) (und_ok Try.underlying287) (by kernel_rfl) (by kernel_rfl) (by kernel_rfl)
theorem tyq289 : TyQ Try.prog 289 (some ty289) := ty_mk (zv := .agg #[.string ByteArray.empty, .slice none 0 0]) (und_ok Try.underlying289) (by kernel_rfl) (by kernel_rfl) (by kernel_rfl)
theorem tyq290 : TyQ Try.prog 290 (some ty290) := ty_mk (zv := .slice none 0 0) Try.underlying290 (by kernel_rfl) (by kernel_rfl) (by kernel_rfl)
theorem tyq292 : TyQ Try.prog 292 (some ty292) := ty_mk (zv := .agg #[.int .i64 0, .int .i64 0, .int .i64 0, .string ByteArray.empty, .string ByteArray.empty, .int .i64 0, .int .i64 0, .slice none 0 0, .string ByteArray.empty, .int .i64 0, .slice none 0 0, .slice none 0 0, .slice none 0 0]) (und_ok Try.underlying292) (by kernel_rfl) (by kernel_rfl) (by kernel_rfl)
theorem tyq295 : TyQ Try.prog 295 (some ty295) := ty_mk (zv := .agg #[.int .i64 0, .int .i64 0, .int .i64 0, .string ByteArray.empty, .string ByteArray.empty, .slice none 0 0]) (und_ok Try.underlying295) (by kernel_rfl) (by kernel_rfl) (by kernel_rfl)
noncomputable def tys : T (Option TyI) := (.n (.n (.n (.n (.n (.n (.n (.n .e (some ty127) .e) (some ty63) (.n .e (some ty191) .e)) (some ty31) (.n (.n (.n .e (some ty287) .e) (some ty159) .e) (some ty95) .e)) (some ty15) (.n (.n (.n .e (some ty143) .e) (some ty79) .e) (some ty47) (.n (.n .e (some ty175) .e) (some ty111) .e))) (some ty7) (.n (.n (.n (.n .e (some ty135) .e) (some ty71) (.n .e (some ty199) .e)) (some ty39) (.n (.n (.n .e (some ty295) .e) (some ty167) .e) (some ty103) .e)) (some ty23) (.n (.n (.n (.n .e (some ty279) .e) (some ty151) .e) (some ty87) (.n .e (some ty215) .e)) (some ty55) (.n (.n .e (some ty183) .e) (some ty119) .e)))) (some ty3) (.n (.n (.n (.n (.n (.n .e (some ty259) .e) (some ty131) .e) (some ty67) (.n .e (some ty195) .e)) (some ty35) (.n .e (some ty99) .e)) (some ty19) (.n (.n (.n (.n .e (some ty275) .e) (some ty147) .e) (some ty83) (.n .e (some ty211) .e)) (some ty51) (.n .e (some ty115) (.n .e (some ty243) .e)))) (some ty11) (.n (.n (.n (.n .e (some ty139) .e) (some ty75) .e) (some ty43) (.n (.n .e (some ty171) .e) (some ty107) .e)) (some ty27) (.n (.n (.n (.n .e (some ty283) .e) (some ty155) .e) (some ty91) .e) (some ty59) (.n .e (some ty123) .e))))) (some ty1) (.n (.n (.n (.n (.n (.n .e (some ty129) .e) (some ty65) (.n .e (some ty193) .e)) (some ty33) (.n (.n (.n .e (some ty289) .e) none .e) (some ty97) .e)) (some ty17) (.n (.n (.n .e (some ty145) .e) (some ty81) .e) (some ty49) (.n (.n .e (some ty177) .e) (some ty113) .e))) (some ty9) (.n (.n (.n (.n .e (some ty137) .e) (some ty73) .e) (some ty41) (.n (.n .e (some ty169) .e) none .e)) (some ty25) (.n (.n (.n (.n .e (some ty281) .e) (some ty153) .e) (some ty89) .e) (some ty57) (.n (.n .e (some ty185) .e) (some ty121) .e)))) (some ty5) (.n (.n (.n (.n (.n .e (some ty133) .e) (some ty69) (.n .e (some ty197) .e)) (some ty37) (.n (.n .e (some ty165) .e) (some ty101) .e)) (some ty21) (.n (.n (.n (.n .e (some ty277) .e) (some ty149) .e) (some ty85) (.n .e (some ty213) .e)) (some ty53) (.n .e (some ty117) .e))) (some ty13) (.n (.n (.n (.n .e (some ty141) .e) (some ty77) .e) (some ty45) (.n .e (some ty109) .e)) (some ty29) (.n (.n (.n (.n .e (some ty285) .e) (some ty157) .e) (some ty93) .e) (some ty61) (.n .e (some ty125) .e)))))) none (.n (.n (.n (.n (.n (.n (.n .e (some ty128) .e) (some ty64) .e) (some ty32) (.n (.n .e (some ty160) .e) (some ty96) (.n .e (some ty224) .e))) (some ty16) (.n (.n (.n .e (some ty144) .e) (some ty80) (.n .e (some ty208) .e)) (some ty48) (.n (.n .e (some ty176) .e) (some ty112) (.n .e (some ty240) .e)))) (some ty8) (.n (.n (.n (.n .e (some ty136) .e) (some ty72) .e) (some ty40) (.n (.n .e (some ty168) .e) (some ty104) .e)) (some ty24) (.n (.n (.n (.n .e (some ty280) .e) (some ty152) .e) (some ty88) (.n .e (some ty216) .e)) (some ty56) (.n (.n .e (some ty184) .e) (some ty120) .e)))) (some ty4) (.n (.n (.n (.n (.n .e (some ty132) .e) (some ty68) .e) (some ty36) (.n (.n (.n .e (some ty292) .e) (some ty164) .e) (some ty100) .e)) (some ty20) (.n (.n (.n .e (some ty148) .e) (some ty84) .e) (some ty52) (.n (.n .e (some ty180) .e) (some ty116) (.n .e (some ty244) .e)))) (some ty12) (.n (.n (.n (.n .e (some ty140) .e) (some ty76) .e) (some ty44) (.n .e (some ty108) .e)) (some ty28) (.n (.n (.n (.n .e (some ty284) .e) (some ty156) .e) (some ty92) (.n .e (some ty220) .e)) (some ty60) (.n (.n .e (some ty188) .e) (some ty124) .e))))) (some ty2) (.n (.n (.n (.n (.n .e (some ty66) .e) (some ty34) (.n (.n (.n .e (some ty290) .e) none .e) (some ty98) .e)) (some ty18) (.n (.n (.n (.n .e (some ty274) .e) (some ty146) .e) (some ty82) (.n .e (some ty210) .e)) (some ty50) (.n .e (some ty114) .e))) (some ty10) (.n (.n (.n (.n .e (some ty138) .e) (some ty74) (.n .e (some ty202) .e)) (some ty42) (.n .e (some ty106) .e)) (some ty26) (.n (.n (.n (.n .e (some ty282) .e) (some ty154) .e) (some ty90) .e) (some ty58) (.n .e (some ty122) .e)))) (some ty6) (.n (.n (.n (.n (.n .e (some ty134) .e) (some ty70) .e) (some ty38) (.n (.n .e (some ty166) .e) (some ty102) .e)) (some ty22) (.n (.n (.n .e (some ty150) .e) (some ty86) .e) (some ty54) (.n (.n .e (some ty182) .e) (some ty118) .e))) (some ty14) (.n (.n (.n .e (some ty78) .e) (some ty46) (.n (.n .e (some ty174) .e) (some ty110) .e)) (some ty30) (.n (.n (.n .e (some ty158) .e) (some ty94) (.n .e (some ty222) .e)) (some ty62) (.n .e (some ty126) .e)))))))
theorem tys_ok : tys.All (TyQ Try.prog) := (all_n trivial (all_n tyq1 (all_n tyq3 (all_n tyq7 (all_n tyq15 (all_n tyq31 (all_n tyq63 (all_n tyq127 all_e all_e) (all_n tyq191 all_e all_e)) (all_n tyq95 (all_n tyq159 (all_n tyq287 all_e all_e) all_e) all_e)) (all_n tyq47 (all_n tyq79 (all_n tyq143 all_e all_e) all_e) (all_n tyq111 (all_n tyq175 all_e all_e) all_e))) (all_n tyq23 (all_n tyq39 (all_n tyq71 (all_n tyq135 all_e all_e) (all_n tyq199 all_e all_e)) (all_n tyq103 (all_n tyq167 (all_n tyq295 all_e all_e) all_e) all_e)) (all_n tyq55 (all_n tyq87 (all_n tyq151 (all_n tyq279 all_e all_e) all_e) (all_n tyq215 all_e all_e)) (all_n tyq119 (all_n tyq183 all_e all_e) all_e)))) (all_n tyq11 (all_n tyq19 (all_n tyq35 (all_n tyq67 (all_n tyq131 (all_n tyq259 all_e all_e) all_e) (all_n tyq195 all_e all_e)) (all_n tyq99 all_e all_e)) (all_n tyq51 (all_n tyq83 (all_n tyq147 (all_n tyq275 all_e all_e) all_e) (all_n tyq211 all_e all_e)) (all_n tyq115 all_e (all_n tyq243 all_e all_e)))) (all_n tyq27 (all_n tyq43 (all_n tyq75 (all_n tyq139 all_e all_e) all_e) (all_n tyq107 (all_n tyq171 all_e all_e) all_e)) (all_n tyq59 (all_n tyq91 (all_n tyq155 (all_n tyq283 all_e all_e) all_e) all_e) (all_n tyq123 all_e all_e))))) (all_n tyq5 (all_n tyq9 (all_n tyq17 (all_n tyq33 (all_n tyq65 (all_n tyq129 all_e all_e) (all_n tyq193 all_e all_e)) (all_n tyq97 (all_n trivial (all_n tyq289 all_e all_e) all_e) all_e)) (all_n tyq49 (all_n tyq81 (all_n tyq145 all_e all_e) all_e) (all_n tyq113 (all_n tyq177 all_e all_e) all_e))) (all_n tyq25 (all_n tyq41 (all_n tyq73 (all_n tyq137 all_e all_e) all_e) (all_n trivial (all_n tyq169 all_e all_e) all_e)) (all_n tyq57 (all_n tyq89 (all_n tyq153 (all_n tyq281 all_e all_e) all_e) all_e) (all_n tyq121 (all_n tyq185 all_e all_e) all_e)))) (all_n tyq13 (all_n tyq21 (all_n tyq37 (all_n tyq69 (all_n tyq133 all_e all_e) (all_n tyq197 all_e all_e)) (all_n tyq101 (all_n tyq165 all_e all_e) all_e)) (all_n tyq53 (all_n tyq85 (all_n tyq149 (all_n tyq277 all_e all_e) all_e) (all_n tyq213 all_e all_e)) (all_n tyq117 all_e all_e))) (all_n tyq29 (all_n tyq45 (all_n tyq77 (all_n tyq141 all_e all_e) all_e) (all_n tyq109 all_e all_e)) (all_n tyq61 (all_n tyq93 (all_n tyq157 (all_n tyq285 all_e all_e) all_e) all_e) (all_n tyq125 all_e all_e)))))) (all_n tyq2 (all_n tyq4 (all_n tyq8 (all_n tyq16 (all_n tyq32 (all_n tyq64 (all_n tyq128 all_e all_e) all_e) (all_n tyq96 (all_n tyq160 all_e all_e) (all_n tyq224 all_e all_e))) (all_n tyq48 (all_n tyq80 (all_n tyq144 all_e all_e) (all_n tyq208 all_e all_e)) (all_n tyq112 (all_n tyq176 all_e all_e) (all_n tyq240 all_e all_e)))) (all_n tyq24 (all_n tyq40 (all_n tyq72 (all_n tyq136 all_e all_e) all_e) (all_n tyq104 (all_n tyq168 all_e all_e) all_e)) (all_n tyq56 (all_n tyq88 (all_n tyq152 (all_n tyq280 all_e all_e) all_e) (all_n tyq216 all_e all_e)) (all_n tyq120 (all_n tyq184 all_e all_e) all_e)))) (all_n tyq12 (all_n tyq20 (all_n tyq36 (all_n tyq68 (all_n tyq132 all_e all_e) all_e) (all_n tyq100 (all_n tyq164 (all_n tyq292 all_e all_e) all_e) all_e)) (all_n tyq52 (all_n tyq84 (all_n tyq148 all_e all_e) all_e) (all_n tyq116 (all_n tyq180 all_e all_e) (all_n tyq244 all_e all_e)))) (all_n tyq28 (all_n tyq44 (all_n tyq76 (all_n tyq140 all_e all_e) all_e) (all_n tyq108 all_e all_e)) (all_n tyq60 (all_n tyq92 (all_n tyq156 (all_n tyq284 all_e all_e) all_e) (all_n tyq220 all_e all_e)) (all_n tyq124 (all_n tyq188 all_e all_e) all_e))))) (all_n tyq6 (all_n tyq10 (all_n tyq18 (all_n tyq34 (all_n tyq66 all_e all_e) (all_n tyq98 (all_n trivial (all_n tyq290 all_e all_e) all_e) all_e)) (all_n tyq50 (all_n tyq82 (all_n tyq146 (all_n tyq274 all_e all_e) all_e) (all_n tyq210 all_e all_e)) (all_n tyq114 all_e all_e))) (all_n tyq26 (all_n tyq42 (all_n tyq74 (all_n tyq138 all_e all_e) (all_n tyq202 all_e all_e)) (all_n tyq106 all_e all_e)) (all_n tyq58 (all_n tyq90 (all_n tyq154 (all_n tyq282 all_e all_e) all_e) all_e) (all_n tyq122 all_e all_e)))) (all_n tyq14 (all_n tyq22 (all_n tyq38 (all_n tyq70 (all_n tyq134 all_e all_e) all_e) (all_n tyq102 (all_n tyq166 all_e all_e) all_e)) (all_n tyq54 (all_n tyq86 (all_n tyq150 all_e all_e) all_e) (all_n tyq118 (all_n tyq182 all_e all_e) all_e))) (all_n tyq30 (all_n tyq46 (all_n tyq78 all_e all_e) (all_n tyq110 (all_n tyq174 all_e all_e) all_e)) (all_n tyq62 (all_n tyq94 (all_n tyq158 all_e all_e) (all_n tyq222 all_e all_e)) (all_n tyq126 all_e all_e)))))))
end
end Go.Proofs.Ytbpccmnalhdpmaa
