/- IrChecks: Rk+Rc0+Rc1+Rc. -/
import Derived.Test.YtbpccmnalhdpmaaJ41
import Derived.Test.YtbpccmnalhdpmaaRows
set_option maxRecDepth 100000
namespace Go.Proofs.Ytbpccmnalhdpmaa
open Go.Ev
noncomputable section
def z2 : Pp := (.l .h)
def z3 : Pp := (.r .h)
def z4 : Pp := (.l (.l .h))
def z5 : Pp := (.r (.l .h))
def z6 : Pp := (.l (.r .h))
def z7 : Pp := (.r (.r .h))
def z8 : Pp := (.l (.l (.l .h)))
def z9 : Pp := (.r (.l (.l .h)))
def z10 : Pp := (.l (.r (.l .h)))
def z11 : Pp := (.r (.r (.l .h)))
def z12 : Pp := (.l (.l (.r .h)))
def z13 : Pp := (.r (.l (.r .h)))
def z14 : Pp := (.l (.r (.r .h)))
def z15 : Pp := (.r (.r (.r .h)))
def z16 : Pp := (.l (.l (.l (.l .h))))
def z17 : Pp := (.r (.l (.l (.l .h))))
def z18 : Pp := (.l (.r (.l (.l .h))))
def z19 : Pp := (.r (.r (.l (.l .h))))
def z20 : Pp := (.l (.l (.r (.l .h))))
def z21 : Pp := (.r (.l (.r (.l .h))))
def z22 : Pp := (.l (.r (.r (.l .h))))
def z23 : Pp := (.r (.r (.r (.l .h))))
def z24 : Pp := (.l (.l (.l (.r .h))))
def z25 : Pp := (.r (.l (.l (.r .h))))
def z26 : Pp := (.l (.r (.l (.r .h))))
def z27 : Pp := (.r (.r (.l (.r .h))))
def z28 : Pp := (.l (.l (.r (.r .h))))
def z29 : Pp := (.r (.l (.r (.r .h))))
def z30 : Pp := (.l (.r (.r (.r .h))))
def z31 : Pp := (.r (.r (.r (.r .h))))
def z32 : Pp := (.l (.l (.l (.l (.l .h)))))
def z33 : Pp := (.r (.l (.l (.l (.l .h)))))
def z34 : Pp := (.l (.r (.l (.l (.l .h)))))
def z35 : Pp := (.r (.r (.l (.l (.l .h)))))
def z36 : Pp := (.l (.l (.r (.l (.l .h)))))
def z37 : Pp := (.r (.l (.r (.l (.l .h)))))
def z38 : Pp := (.l (.r (.r (.l (.l .h)))))
def z39 : Pp := (.r (.r (.r (.l (.l .h)))))
def z40 : Pp := (.l (.l (.l (.r (.l .h)))))
def z41 : Pp := (.r (.l (.l (.r (.l .h)))))
def z42 : Pp := (.l (.r (.l (.r (.l .h)))))
def z43 : Pp := (.r (.r (.l (.r (.l .h)))))
def z44 : Pp := (.l (.l (.r (.r (.l .h)))))
def z45 : Pp := (.r (.l (.r (.r (.l .h)))))
def z46 : Pp := (.l (.r (.r (.r (.l .h)))))
def z47 : Pp := (.r (.r (.r (.r (.l .h)))))
def z48 : Pp := (.l (.l (.l (.l (.r .h)))))
def z49 : Pp := (.r (.l (.l (.l (.r .h)))))
def z50 : Pp := (.l (.r (.l (.l (.r .h)))))
def z51 : Pp := (.r (.r (.l (.l (.r .h)))))
def z52 : Pp := (.l (.l (.r (.l (.r .h)))))
def z53 : Pp := (.r (.l (.r (.l (.r .h)))))
def z54 : Pp := (.l (.r (.r (.l (.r .h)))))
def z55 : Pp := (.r (.r (.r (.l (.r .h)))))
def z56 : Pp := (.l (.l (.l (.r (.r .h)))))
def z57 : Pp := (.r (.l (.l (.r (.r .h)))))
def z58 : Pp := (.l (.r (.l (.r (.r .h)))))
def z59 : Pp := (.r (.r (.l (.r (.r .h)))))
def z60 : Pp := (.l (.l (.r (.r (.r .h)))))
def z61 : Pp := (.r (.l (.r (.r (.r .h)))))
def z62 : Pp := (.l (.r (.r (.r (.r .h)))))
def z63 : Pp := (.r (.r (.r (.r (.r .h)))))
def z64 : Pp := (.l (.l (.l (.l (.l (.l .h))))))
def z65 : Pp := (.r (.l (.l (.l (.l (.l .h))))))
def z66 : Pp := (.l (.r (.l (.l (.l (.l .h))))))
def z67 : Pp := (.r (.r (.l (.l (.l (.l .h))))))
def z68 : Pp := (.l (.l (.r (.l (.l (.l .h))))))
def z69 : Pp := (.r (.l (.r (.l (.l (.l .h))))))
def z70 : Pp := (.l (.r (.r (.l (.l (.l .h))))))
def z71 : Pp := (.r (.r (.r (.l (.l (.l .h))))))
def z72 : Pp := (.l (.l (.l (.r (.l (.l .h))))))
def z73 : Pp := (.r (.l (.l (.r (.l (.l .h))))))
def z74 : Pp := (.l (.r (.l (.r (.l (.l .h))))))
def z75 : Pp := (.r (.r (.l (.r (.l (.l .h))))))
def z76 : Pp := (.l (.l (.r (.r (.l (.l .h))))))
def z77 : Pp := (.r (.l (.r (.r (.l (.l .h))))))
def z78 : Pp := (.l (.r (.r (.r (.l (.l .h))))))
def z79 : Pp := (.r (.r (.r (.r (.l (.l .h))))))
def z80 : Pp := (.l (.l (.l (.l (.r (.l .h))))))
def z81 : Pp := (.r (.l (.l (.l (.r (.l .h))))))
def z82 : Pp := (.l (.r (.l (.l (.r (.l .h))))))
def z83 : Pp := (.r (.r (.l (.l (.r (.l .h))))))
def z84 : Pp := (.l (.l (.r (.l (.r (.l .h))))))
def z85 : Pp := (.r (.l (.r (.l (.r (.l .h))))))
def z86 : Pp := (.l (.r (.r (.l (.r (.l .h))))))
def z87 : Pp := (.r (.r (.r (.l (.r (.l .h))))))
def z88 : Pp := (.l (.l (.l (.r (.r (.l .h))))))
def z89 : Pp := (.r (.l (.l (.r (.r (.l .h))))))
def z90 : Pp := (.l (.r (.l (.r (.r (.l .h))))))
def z91 : Pp := (.r (.r (.l (.r (.r (.l .h))))))
def z92 : Pp := (.l (.l (.r (.r (.r (.l .h))))))
def z93 : Pp := (.r (.l (.r (.r (.r (.l .h))))))
def z94 : Pp := (.l (.r (.r (.r (.r (.l .h))))))
def z95 : Pp := (.r (.r (.r (.r (.r (.l .h))))))
def z96 : Pp := (.l (.l (.l (.l (.l (.r .h))))))
def z97 : Pp := (.r (.l (.l (.l (.l (.r .h))))))
def z98 : Pp := (.l (.r (.l (.l (.l (.r .h))))))
def z99 : Pp := (.r (.r (.l (.l (.l (.r .h))))))
def z100 : Pp := (.l (.l (.r (.l (.l (.r .h))))))
def z101 : Pp := (.r (.l (.r (.l (.l (.r .h))))))
def z102 : Pp := (.l (.r (.r (.l (.l (.r .h))))))
def z103 : Pp := (.r (.r (.r (.l (.l (.r .h))))))
def z104 : Pp := (.l (.l (.l (.r (.l (.r .h))))))
def z105 : Pp := (.r (.l (.l (.r (.l (.r .h))))))
def z106 : Pp := (.l (.r (.l (.r (.l (.r .h))))))
def z107 : Pp := (.r (.r (.l (.r (.l (.r .h))))))
def z108 : Pp := (.l (.l (.r (.r (.l (.r .h))))))
def z109 : Pp := (.r (.l (.r (.r (.l (.r .h))))))
def z110 : Pp := (.l (.r (.r (.r (.l (.r .h))))))
def z111 : Pp := (.r (.r (.r (.r (.l (.r .h))))))
def z112 : Pp := (.l (.l (.l (.l (.r (.r .h))))))
def z113 : Pp := (.r (.l (.l (.l (.r (.r .h))))))
def z114 : Pp := (.l (.r (.l (.l (.r (.r .h))))))
def z115 : Pp := (.r (.r (.l (.l (.r (.r .h))))))
def z116 : Pp := (.l (.l (.r (.l (.r (.r .h))))))
def z117 : Pp := (.r (.l (.r (.l (.r (.r .h))))))
def z118 : Pp := (.l (.r (.r (.l (.r (.r .h))))))
def z119 : Pp := (.r (.r (.r (.l (.r (.r .h))))))
def z120 : Pp := (.l (.l (.l (.r (.r (.r .h))))))
def z121 : Pp := (.r (.l (.l (.r (.r (.r .h))))))
def z122 : Pp := (.l (.r (.l (.r (.r (.r .h))))))
def z123 : Pp := (.r (.r (.l (.r (.r (.r .h))))))
def z124 : Pp := (.l (.l (.r (.r (.r (.r .h))))))
def z125 : Pp := (.r (.l (.r (.r (.r (.r .h))))))
def z126 : Pp := (.l (.r (.r (.r (.r (.r .h))))))
def z127 : Pp := (.r (.r (.r (.r (.r (.r .h))))))
def z128 : Pp := (.l (.l (.l (.l (.l (.l (.l .h)))))))
def z129 : Pp := (.r (.l (.l (.l (.l (.l (.l .h)))))))
def z130 : Pp := (.l (.r (.l (.l (.l (.l (.l .h)))))))
def z131 : Pp := (.r (.r (.l (.l (.l (.l (.l .h)))))))
def z132 : Pp := (.l (.l (.r (.l (.l (.l (.l .h)))))))
def z133 : Pp := (.r (.l (.r (.l (.l (.l (.l .h)))))))
def z134 : Pp := (.l (.r (.r (.l (.l (.l (.l .h)))))))
def z135 : Pp := (.r (.r (.r (.l (.l (.l (.l .h)))))))
def z136 : Pp := (.l (.l (.l (.r (.l (.l (.l .h)))))))
def z137 : Pp := (.r (.l (.l (.r (.l (.l (.l .h)))))))
def z138 : Pp := (.l (.r (.l (.r (.l (.l (.l .h)))))))
def z139 : Pp := (.r (.r (.l (.r (.l (.l (.l .h)))))))
def z140 : Pp := (.l (.l (.r (.r (.l (.l (.l .h)))))))
def z141 : Pp := (.r (.l (.r (.r (.l (.l (.l .h)))))))
def z142 : Pp := (.l (.r (.r (.r (.l (.l (.l .h)))))))
def z143 : Pp := (.r (.r (.r (.r (.l (.l (.l .h)))))))
def z144 : Pp := (.l (.l (.l (.l (.r (.l (.l .h)))))))
def z145 : Pp := (.r (.l (.l (.l (.r (.l (.l .h)))))))
def z146 : Pp := (.l (.r (.l (.l (.r (.l (.l .h)))))))
def z147 : Pp := (.r (.r (.l (.l (.r (.l (.l .h)))))))
def z148 : Pp := (.l (.l (.r (.l (.r (.l (.l .h)))))))
def z149 : Pp := (.r (.l (.r (.l (.r (.l (.l .h)))))))
def z150 : Pp := (.l (.r (.r (.l (.r (.l (.l .h)))))))
def z151 : Pp := (.r (.r (.r (.l (.r (.l (.l .h)))))))
def z152 : Pp := (.l (.l (.l (.r (.r (.l (.l .h)))))))
def z153 : Pp := (.r (.l (.l (.r (.r (.l (.l .h)))))))
def z154 : Pp := (.l (.r (.l (.r (.r (.l (.l .h)))))))
def z155 : Pp := (.r (.r (.l (.r (.r (.l (.l .h)))))))
def z156 : Pp := (.l (.l (.r (.r (.r (.l (.l .h)))))))
def z157 : Pp := (.r (.l (.r (.r (.r (.l (.l .h)))))))
def z158 : Pp := (.l (.r (.r (.r (.r (.l (.l .h)))))))
def z159 : Pp := (.r (.r (.r (.r (.r (.l (.l .h)))))))
def z165 : Pp := (.r (.l (.r (.l (.l (.r (.l .h)))))))
def z166 : Pp := (.l (.r (.r (.l (.l (.r (.l .h)))))))
def z167 : Pp := (.r (.r (.r (.l (.l (.r (.l .h)))))))
def z168 : Pp := (.l (.l (.l (.r (.l (.r (.l .h)))))))
def z169 : Pp := (.r (.l (.l (.r (.l (.r (.l .h)))))))
def z170 : Pp := (.l (.r (.l (.r (.l (.r (.l .h)))))))
def z184 : Pp := (.l (.l (.l (.r (.r (.r (.l .h)))))))
def z185 : Pp := (.r (.l (.l (.r (.r (.r (.l .h)))))))
def z192 : Pp := (.l (.l (.l (.l (.l (.l (.r .h)))))))
def z193 : Pp := (.r (.l (.l (.l (.l (.l (.r .h)))))))
def z194 : Pp := (.l (.r (.l (.l (.l (.l (.r .h)))))))
def k0 : Nat := nat_lit 0
def k1 : Nat := nat_lit 1
def k2 : Nat := nat_lit 2
def k3 : Nat := nat_lit 3
def k4 : Nat := nat_lit 4
def k5 : Nat := nat_lit 5
def k6 : Nat := nat_lit 6
def k7 : Nat := nat_lit 7
def k8 : Nat := nat_lit 8
def k9 : Nat := nat_lit 9
def k10 : Nat := nat_lit 10
def k11 : Nat := nat_lit 11
def k12 : Nat := nat_lit 12
def k13 : Nat := nat_lit 13
def k14 : Nat := nat_lit 14
def k15 : Nat := nat_lit 15
def k16 : Nat := nat_lit 16
def k17 : Nat := nat_lit 17
def k18 : Nat := nat_lit 18
def k19 : Nat := nat_lit 19
def k20 : Nat := nat_lit 20
def k21 : Nat := nat_lit 21
def k22 : Nat := nat_lit 22
def k23 : Nat := nat_lit 23
def k24 : Nat := nat_lit 24
def k26 : Nat := nat_lit 26
def k30 : Nat := nat_lit 30
def k32 : Nat := nat_lit 32
def k35 : Nat := nat_lit 35
def k37 : Nat := nat_lit 37
def k40 : Nat := nat_lit 40
def k42 : Nat := nat_lit 42
def k46 : Nat := nat_lit 46
def k48 : Nat := nat_lit 48
def k55 : Nat := nat_lit 55
def k56 : Nat := nat_lit 56
def k58 : Nat := nat_lit 58
def k60 : Nat := nat_lit 60
def k61 : Nat := nat_lit 61
def k62 : Nat := nat_lit 62
def k64 : Nat := nat_lit 64
def k66 : Nat := nat_lit 66
def k69 : Nat := nat_lit 69
def k70 : Nat := nat_lit 70
def k71 : Nat := nat_lit 71
def k72 : Nat := nat_lit 72
def k73 : Nat := nat_lit 73
def k74 : Nat := nat_lit 74
def k97 : Nat := nat_lit 97
def k100 : Nat := nat_lit 100
def k102 : Nat := nat_lit 102
def k104 : Nat := nat_lit 104
def k106 : Nat := nat_lit 106
def k107 : Nat := nat_lit 107
def k108 : Nat := nat_lit 108
def k110 : Nat := nat_lit 110
def k113 : Nat := nat_lit 113
def k116 : Nat := nat_lit 116
def k120 : Nat := nat_lit 120
def k121 : Nat := nat_lit 121
def k122 : Nat := nat_lit 122
def k123 : Nat := nat_lit 123
def k124 : Nat := nat_lit 124
def k125 : Nat := nat_lit 125
def k127 : Nat := nat_lit 127
def k129 : Nat := nat_lit 129
def k133 : Nat := nat_lit 133
def k134 : Nat := nat_lit 134
def k135 : Nat := nat_lit 135
def k136 : Nat := nat_lit 136
def k137 : Nat := nat_lit 137
def k138 : Nat := nat_lit 138
def k139 : Nat := nat_lit 139
def k153 : Nat := nat_lit 153
def k154 : Nat := nat_lit 154
def k155 : Nat := nat_lit 155
def k156 : Nat := nat_lit 156
def k157 : Nat := nat_lit 157
def k164 : Nat := nat_lit 164
def k165 : Nat := nat_lit 165
def k166 : Nat := nat_lit 166
def k167 : Nat := nat_lit 167
def k168 : Nat := nat_lit 168
def k169 : Nat := nat_lit 169
def k174 : Nat := nat_lit 174
def k175 : Nat := nat_lit 175
def k177 : Nat := nat_lit 177
def k182 : Nat := nat_lit 182
def k183 : Nat := nat_lit 183
def k184 : Nat := nat_lit 184
def k191 : Nat := nat_lit 191
def k192 : Nat := nat_lit 192
def k193 : Nat := nat_lit 193
def k197 : Nat := nat_lit 197
def k199 : Nat := nat_lit 199
def k210 : Nat := nat_lit 210
def k215 : Nat := nat_lit 215
def k400 : Nat := nat_lit 400
def k999 : Nat := nat_lit 999
def k5000 : Nat := nat_lit 5000
def k6000 : Nat := nat_lit 6000
def k9999 : Nat := nat_lit 9999
end
end Go.Proofs.Ytbpccmnalhdpmaa
set_option linter.unusedVariables false
namespace Go.Proofs.Ytbpccmnalhdpmaa
open Go.Ev
noncomputable section
noncomputable def rf19 : RF := ⟨[], [.s .h], (.seq (.reg [.p .h none (.mv (.c (.a (.b false))))])
 (.seq (.reg [.k (some z5) none k21 z22 [],
  .k (some z6) none k62 z63 [],
  .a z7 none (.bs k3 k1 [(.i .i64 (.n k0))] [(k0, k1, (.c (.a (.i .i64 (.n k21)))))]),
  .k (some z8) none k61 z62 [(.s z5), (.s z6), (.c (.a (.i .i64 (.n k0)))), (.s z7), (.c (.a (.i .i64 (.n k5)))), (.c (.a (.i .i64 (.n k0)))), (.c (.a (.i .i64 (.n k5))))],
  .p z4 none (.mv (.s z8)),
  .p z9 none (.ex k0 (.s z4)),
  .p z10 none (.ex k1 (.s z4)),
  .a z3 none (.al k104 k4 (.n (.n (.n .e .s0 .e) (.b false) .e) (.i .i64 (.n k0)) (.n .e (.i .i64 (.n k0)) .e))),
  .p z2 none (.mv (.s z9)),
  .c none none (.st k4 (.s z3) (.s z10))])
 (.seq (.reg [.k (some z11) none k62 z63 [],
  .k (some z12) none k60 z61 [(.s z11)],
  .p z13 none (.cp .eql (.s z12) (.c (.a (.i .i64 (.n k0))))),
  .p z14 none (.mv (.s z13)),
  .p z15 (some (z14, true)) (.fa k2 (.s z3)),
  .r z16 (some (z14, true)) (.ld (.s z15)),
  .p z17 (some (z14, true)) (.cp .eql (.s z16) (.c (.a (.i .i64 (.n k42))))),
  .p z18 none (.pk (.s z14) (.s z17) (.c (.a (.b false)))),
  .p z19 none (.mv (.s z18)),
  .p z20 (some (z19, true)) (.mv (.s z2)),
  .p z21 (some (z19, true)) (.ln (.s z20)),
  .p z22 (some (z19, true)) (.cp .eql (.s z21) (.c (.a (.i .i64 (.n k1))))),
  .p z23 none (.pk (.s z19) (.s z22) (.c (.a (.b false)))),
  .p z24 none (.mv (.s z23)),
  .p z25 (some (z24, true)) (.mv (.s z2)),
  .p z26 (some (z24, true)) (.ix k1 (.s z25) (.c (.a (.i .i64 (.n k0))))),
  .p z27 (some (z24, true)) (.fa k0 (.s z26)),
  .r z28 (some (z24, true)) (.ld (.s z27)),
  .p z29 (some (z24, true)) (.ln (.s z28)),
  .p z30 (some (z24, true)) (.cp .eql (.s z29) (.c (.a (.i .i64 (.n k1))))),
  .p z31 none (.pk (.s z24) (.s z30) (.c (.a (.b false)))),
  .p z32 none (.mv (.s z31)),
  .p z33 (some (z32, true)) (.mv (.s z2)),
  .p z34 (some (z32, true)) (.ix k1 (.s z33) (.c (.a (.i .i64 (.n k0))))),
  .p z35 (some (z32, true)) (.fa k0 (.s z34)),
  .r z36 (some (z32, true)) (.ld (.s z35)),
  .p z37 (some (z32, true)) (.ix k3 (.s z36) (.c (.a (.i .i64 (.n k0))))),
  .p z38 (some (z32, true)) (.fa k2 (.s z37)),
  .r z39 (some (z32, true)) (.ld (.s z38)),
  .p z40 (some (z32, true)) (.ln (.s z39)),
  .p z41 (some (z32, true)) (.cp .eql (.s z40) (.c (.a (.i .i64 (.n k1))))),
  .p z42 none (.pk (.s z32) (.s z41) (.c (.a (.b false)))),
  .p z43 none (.mv (.s z42)),
  .p z44 (some (z43, true)) (.mv (.s z2)),
  .p z45 (some (z43, true)) (.ix k1 (.s z44) (.c (.a (.i .i64 (.n k0))))),
  .p z46 (some (z43, true)) (.fa k0 (.s z45)),
  .r z47 (some (z43, true)) (.ld (.s z46)),
  .p z48 (some (z43, true)) (.ix k3 (.s z47) (.c (.a (.i .i64 (.n k0))))),
  .p z49 (some (z43, true)) (.fa k2 (.s z48)),
  .r z50 (some (z43, true)) (.ld (.s z49)),
  .p z51 (some (z43, true)) (.ix k3 (.s z50) (.c (.a (.i .i64 (.n k0))))),
  .p z52 (some (z43, true)) (.fa k2 (.s z51)),
  .r z53 (some (z43, true)) (.ld (.s z52)),
  .p z54 (some (z43, true)) (.ix k1 (.s z53) (.c (.a (.i .i64 (.n k0))))),
  .r z55 (some (z43, true)) (.ld (.s z54)),
  .p z56 (some (z43, true)) (.cp .eql (.s z55) (.c (.a (.i .i64 (.n k21))))),
  .p z57 none (.pk (.s z43) (.s z56) (.c (.a (.b false)))),
  .p .h none (.mv (.s z57))])
 .rt)))⟩
noncomputable def rf21 : RF := ⟨[], [.g .h k4], (.seq (.reg [.a .h none (.al k46 k4 (.n (.n (.n .e .s0 .e) .s0 .e) .s0 (.n .e .s0 .e)))])
 (.seq (.reg [.a z2 none (.bs k9 k1 [(.t [])] [(k0, k1, (.c (.a (.t [k97]))))]),
  .p z3 none (.bd [(.t []), (.i .i64 (.n k0)), .s0, .s0] [(k0, k1, (.c (.a (.t [k102])))), (k2, k1, (.s z2))]),
  .a z4 none (.bs k122 k1 [(.t []), (.i .i64 (.n k0)), .s0, .s0] [(k0, k4, (.s z3))]),
  .p z5 none (.bd [.s0, .s0] [(k1, k1, (.s z4))]),
  .p z6 none (.bd [(.t []), (.i .i64 (.n k0)), (.i .i64 (.n k0)), (.i .i64 (.n k0)), (.b false), (.i .i64 (.n k0)), (.i .i64 (.n k0))] [(k0, k1, (.c (.a (.t [k97])))), (k1, k1, (.c (.a (.i .i64 (.n k1))))), (k2, k1, (.c (.a (.i .i64 (.g k0))))), (k3, k1, (.c (.a (.i .i64 (.n k1))))), (k4, k1, (.c (.a (.b true))))]),
  .a z7 none (.bs k124 k1 [(.t []), (.i .i64 (.n k0)), (.i .i64 (.n k0)), (.i .i64 (.n k0)), (.b false), (.i .i64 (.n k0)), (.i .i64 (.n k0))] [(k0, k7, (.s z6))]),
  .a z8 none (.bs k125 k1 [.s0] [(k0, k1, (.s z7))]),
  .p z9 none (.bd [(.i .i64 (.n k0)), (.i .i64 (.n k0)), (.i .i64 (.n k0))] []),
  .a z10 none (.bs k127 k1 [(.i .i64 (.n k0)), (.i .i64 (.n k0)), (.i .i64 (.n k0))] [(k0, k3, (.s z9))]),
  .p z11 none (.bd [.s0, .s0, .s0, .s0] [(k0, k2, (.s z5)), (k2, k1, (.s z8)), (k3, k1, (.s z10))]),
  .c none none (.st k4 (.s .h) (.s z11))])
 .rt))⟩
noncomputable def rf30 : RF := ⟨[.h], [.s z3], (.seq (.reg [.a z2 none (.bx k26 k4 (.s .h)),
  .p z3 none (.mv (.c (.a (.i .i64 (.n k0)))))])
 (.seq (.reg [.p z4 none (.mv (.c (.a (.i .i64 (.n k0)))))])
 (.seq (.seq (.reg [.p z11 none (.fa k1 (.s z2)),
  .r z12 none (.ld (.s z11)),
  .p z13 none (.ln (.s z12)),
  .p z14 none (.mv (.c (.a (.i .i64 (.n k0)))))])
 (.blk k0 (.loop (.seq (.reg [.p z15 none (.cp .lss (.s z14) (.s z13))])
 (.seq (.cond (.s z15) .skip (.ex k0))
 (.seq (.blk k1 (.seq (.reg [.p z16 none (.ix k10 (.s z12) (.s z14)),
  .r z17 none (.lg k10 (.s z16)),
  .a z6 none (.al k60 k10 (.n (.n (.n (.n .e .s0 .e) (.i .i64 (.n k0)) .e) .s0 (.n (.n .e .s0 .e) .s0 .e)) (.i .i64 (.n k0)) (.n (.n (.n .e (.i .i64 (.n k0)) .e) (.i .i64 (.n k0)) .e) (.i .i64 (.n k0)) (.n .e (.i .i64 (.n k0)) .e)))),
  .c none none (.st k10 (.s z6) (.s z17))])
 (.reg [.p z18 none (.mv (.s z4)),
  .p z19 none (.fa k1 (.s z6)),
  .r z20 none (.ld (.s z19)),
  .p z21 none (.ln (.s z20)),
  .p z22 none (.ar .add (.s z18) (.s z21)),
  .p z4 none (.mv (.s z22))])))
 (.reg [.p z23 none (.ar .add (.s z14) (.c (.a (.i .i64 (.n k1))))),
  .p z14 none (.mv (.s z23))])))))))
 (.seq (.seq (.reg [.p z24 none (.fa k1 (.s z2)),
  .r z25 none (.ld (.s z24)),
  .p z26 none (.ln (.s z25)),
  .p z27 none (.cp .gtr (.s z26) (.c (.a (.i .i64 (.n k400))))),
  .p z28 none (.mv (.s z27)),
  .p z29 (some (z28, false)) (.mv (.s z4)),
  .p z30 (some (z28, false)) (.cp .gtr (.s z29) (.c (.a (.i .i64 (.n k6000))))),
  .p z31 none (.pk (.s z28) (.c (.a (.b true))) (.s z30)),
  .p z32 none (.mv (.s z31)),
  .p z33 (some (z32, false)) (.fa k2 (.s z2)),
  .r z34 (some (z32, false)) (.ld (.s z33)),
  .p z35 (some (z32, false)) (.ln (.s z34)),
  .p z36 (some (z32, false)) (.cp .gtr (.s z35) (.c (.a (.i .i64 (.n k64))))),
  .p z37 none (.pk (.s z32) (.c (.a (.b true))) (.s z36)),
  .p z38 none (.mv (.s z37)),
  .p z39 (some (z38, false)) (.fa k3 (.s z2)),
  .r z40 (some (z38, false)) (.ld (.s z39)),
  .p z41 (some (z38, false)) (.ln (.s z40)),
  .p z42 (some (z38, false)) (.cp .gtr (.s z41) (.c (.a (.i .i64 (.n k64))))),
  .p z43 none (.pk (.s z38) (.c (.a (.b true))) (.s z42))])
 (.cond (.s z43) (.seq (.reg [.p z3 none (.mv (.c (.a (.i .i64 (.n k5)))))])
 .rt) .skip))
 (.seq (.seq (.reg [.r z44 none (.lg k4 (.s z2)),
  .k (some z45) none k70 z71 [(.s z44)],
  .p z46 none (.nt (.s z45)),
  .p z47 none (.mv (.s z46)),
  .p z48 (some (z47, false)) (.fa k2 (.s z2)),
  .r z49 (some (z47, false)) (.ld (.s z48)),
  .k (some z50) (some (z47, false)) k71 z72 [(.s z49)],
  .p z51 (some (z47, false)) (.nt (.s z50)),
  .p z52 none (.pk (.s z47) (.c (.a (.b true))) (.s z51)),
  .p z53 none (.mv (.s z52)),
  .r z54 (some (z53, false)) (.lg k4 (.s z2)),
  .k (some z55) (some (z53, false)) k72 z73 [(.s z54)],
  .p z56 (some (z53, false)) (.nt (.s z55)),
  .p z57 none (.pk (.s z53) (.c (.a (.b true))) (.s z56))])
 (.cond (.s z57) (.seq (.reg [.p z3 none (.mv (.c (.a (.i .i64 (.n k4)))))])
 .rt) .skip))
 (.seq (.seq (.reg [.p z58 none (.fa k1 (.s z2)),
  .r z59 none (.ld (.s z58)),
  .p z60 none (.ln (.s z59)),
  .p z61 none (.mv (.c (.a (.i .i64 (.n k0)))))])
 (.blk k2 (.loop (.seq (.reg [.p z62 none (.cp .lss (.s z61) (.s z60))])
 (.seq (.cond (.s z62) .skip (.ex k2))
 (.seq (.blk k3 (.seq (.reg [.p z63 none (.ix k10 (.s z59) (.s z61)),
  .r z64 none (.lg k10 (.s z63)),
  .a z8 none (.al k60 k10 (.n (.n (.n (.n .e .s0 .e) (.i .i64 (.n k0)) .e) .s0 (.n (.n .e .s0 .e) .s0 .e)) (.i .i64 (.n k0)) (.n (.n (.n .e (.i .i64 (.n k0)) .e) (.i .i64 (.n k0)) .e) (.i .i64 (.n k0)) (.n .e (.i .i64 (.n k0)) .e)))),
  .c none none (.st k10 (.s z8) (.s z64))])
 (.seq (.reg [.p z65 none (.fa k0 (.s z8)),
  .r z66 none (.ld (.s z65)),
  .k (some z67) none k73 z74 [(.s z66), (.c (.a (.i .i64 (.n k999))))],
  .p z68 none (.nt (.s z67))])
 (.cond (.s z68) (.seq (.reg [.p z3 none (.mv (.c (.a (.i .i64 (.n k4)))))])
 .rt) .skip))))
 (.reg [.p z69 none (.ar .add (.s z61) (.c (.a (.i .i64 (.n k1))))),
  .p z61 none (.mv (.s z69))])))))))
 (.seq (.seq (.reg [.p z70 none (.fa k1 (.s z2)),
  .r z71 none (.ld (.s z70)),
  .p z72 none (.ln (.s z71)),
  .p z73 none (.mv (.c (.a (.i .i64 (.n k0)))))])
 (.blk k4 (.loop (.seq (.reg [.p z74 none (.cp .lss (.s z73) (.s z72))])
 (.seq (.cond (.s z74) .skip (.ex k4))
 (.seq (.blk k5 (.seq (.reg [.p z75 none (.ix k10 (.s z71) (.s z73)),
  .r z76 none (.lg k10 (.s z75)),
  .a z10 none (.al k60 k10 (.n (.n (.n (.n .e .s0 .e) (.i .i64 (.n k0)) .e) .s0 (.n (.n .e .s0 .e) .s0 .e)) (.i .i64 (.n k0)) (.n (.n (.n .e (.i .i64 (.n k0)) .e) (.i .i64 (.n k0)) .e) (.i .i64 (.n k0)) (.n .e (.i .i64 (.n k0)) .e)))),
  .c none none (.st k10 (.s z10) (.s z76))])
 (.seq (.reg [.r z77 none (.lg k4 (.s z2)),
  .r z78 none (.lg k10 (.s z10)),
  .k (some z79) none k74 z75 [(.s z77), (.s z78)],
  .p z80 none (.nt (.s z79))])
 (.cond (.s z80) (.seq (.reg [.p z3 none (.mv (.c (.a (.i .i64 (.n k4)))))])
 .rt) .skip))))
 (.reg [.p z81 none (.ar .add (.s z73) (.c (.a (.i .i64 (.n k1))))),
  .p z73 none (.mv (.s z81))])))))))
 (.seq (.reg [.p z3 none (.mv (.c (.a (.i .i64 (.n k0)))))])
 .rt))))))))⟩
noncomputable def rf60 : RF := ⟨[.h], [.s z3], (.seq (.reg [.a z2 none (.bx k35 k1 (.s .h)),
  .p z3 none (.mv (.c (.a (.i .i64 (.n k0)))))])
 (.seq (.seq (.reg [.p z11 none (.fa k0 (.s z2)),
  .r z12 none (.ld (.s z11)),
  .p z13 none (.ln (.s z12)),
  .p z14 none (.cp .gtr (.s z13) (.c (.a (.i .i64 (.n k8)))))])
 (.cond (.s z14) (.seq (.reg [.p z3 none (.mv (.c (.a (.i .i64 (.n k5)))))])
 .rt) .skip))
 (.seq (.seq (.reg [.p z15 none (.fa k0 (.s z2)),
  .r z16 none (.ld (.s z15)),
  .p z17 none (.ln (.s z16)),
  .p z18 none (.mv (.c (.a (.i .i64 (.n k0)))))])
 (.blk k0 (.loop (.seq (.reg [.p z19 none (.cp .lss (.s z18) (.s z17))])
 (.seq (.cond (.s z19) .skip (.ex k0))
 (.seq (.blk k1 (.seq (.reg [.p z20 none (.ix k4 (.s z16) (.s z18)),
  .r z21 none (.lg k4 (.s z20)),
  .a z5 none (.al k26 k4 (.n (.n (.n .e .s0 .e) .s0 .e) (.i .i64 (.n k0)) (.n .e .s0 .e))),
  .c none none (.st k4 (.s z5) (.s z21))])
 (.seq (.reg [.r z22 none (.lg k4 (.s z5)),
  .k (some z23) none k30 z31 [(.s z22)],
  .p z6 none (.mv (.s z23))])
 (.seq (.reg [.p z24 none (.mv (.s z6)),
  .p z25 none (.cp .neq (.s z24) (.c (.a (.i .i64 (.n k0)))))])
 (.cond (.s z25) (.seq (.reg [.p z26 none (.mv (.s z6)),
  .p z3 none (.mv (.s z26))])
 .rt) .skip)))))
 (.reg [.p z27 none (.ar .add (.s z18) (.c (.a (.i .i64 (.n k1))))),
  .p z18 none (.mv (.s z27))])))))))
 (.seq (.seq (.reg [.p z28 none (.fa k0 (.s z2)),
  .r z29 none (.ld (.s z28)),
  .p z30 none (.ln (.s z29)),
  .p z31 none (.mv (.c (.a (.i .i64 (.n k0)))))])
 (.blk k2 (.loop (.seq (.reg [.p z32 none (.cp .lss (.s z31) (.s z30))])
 (.seq (.cond (.s z32) .skip (.ex k2))
 (.seq (.blk k3 (.seq (.reg [.p z33 none (.mv (.s z31)),
  .p z34 none (.ix k4 (.s z29) (.s z31)),
  .r z35 none (.lg k4 (.s z34)),
  .a z8 none (.al k26 k4 (.n (.n (.n .e .s0 .e) .s0 .e) (.i .i64 (.n k0)) (.n .e .s0 .e))),
  .p z7 none (.mv (.s z33)),
  .c none none (.st k4 (.s z8) (.s z35))])
 (.seq (.seq (.reg [.p z36 none (.fa k2 (.s z8)),
  .r z37 none (.ld (.s z36)),
  .p z38 none (.ix k3 (.s z37) (.c (.a (.i .i64 (.n k0))))),
  .p z39 none (.fa k2 (.s z38)),
  .r z40 none (.ld (.s z39)),
  .p z41 none (.mv (.s z7)),
  .p z42 none (.cp .neq (.s z40) (.s z41)),
  .p z43 none (.mv (.s z42)),
  .r z44 (some (z43, false)) (.lg k1 (.s z2)),
  .r z45 (some (z43, false)) (.lg k4 (.s z8)),
  .k (some z46) (some (z43, false)) k106 z107 [(.s z44), (.s z45)],
  .p z47 (some (z43, false)) (.nt (.s z46)),
  .p z48 none (.pk (.s z43) (.c (.a (.b true))) (.s z47))])
 (.cond (.s z48) (.seq (.reg [.p z3 none (.mv (.c (.a (.i .i64 (.n k4)))))])
 .rt) .skip))
 (.seq (.reg [.p z49 none (.fa k2 (.s z8)),
  .r z50 none (.ld (.s z49)),
  .p z51 none (.ln (.s z50)),
  .p z52 none (.mv (.c (.a (.i .i64 (.n k0)))))])
 (.blk k4 (.loop (.seq (.reg [.p z53 none (.cp .lss (.s z52) (.s z51))])
 (.seq (.cond (.s z53) .skip (.ex k4))
 (.seq (.blk k5 (.seq (.reg [.p z54 none (.ix k3 (.s z50) (.s z52)),
  .r z55 none (.lg k3 (.s z54)),
  .a z10 none (.al k69 k3 (.n (.n .e (.i .i64 (.n k0)) .e) (.i .i64 (.n k0)) (.n .e (.i .i64 (.n k0)) .e))),
  .c none none (.st k3 (.s z10) (.s z55))])
 (.seq (.reg [.p z56 none (.fa k2 (.s z10)),
  .r z57 none (.ld (.s z56)),
  .p z58 none (.fa k0 (.s z2)),
  .r z59 none (.ld (.s z58)),
  .p z60 none (.ln (.s z59)),
  .p z61 none (.cp .geq (.s z57) (.s z60))])
 (.cond (.s z61) (.seq (.reg [.p z3 none (.mv (.c (.a (.i .i64 (.n k4)))))])
 .rt) .skip))))
 (.reg [.p z62 none (.ar .add (.s z52) (.c (.a (.i .i64 (.n k1))))),
  .p z52 none (.mv (.s z62))]))))))))))
 (.reg [.p z63 none (.ar .add (.s z31) (.c (.a (.i .i64 (.n k1))))),
  .p z31 none (.mv (.s z63))])))))))
 (.seq (.reg [.p z3 none (.mv (.c (.a (.i .i64 (.n k0)))))])
 .rt)))))⟩
noncomputable def rf61 : RF := ⟨[.h, z2, z3, z4, z5, z6, z7], [.s z15, .g z16 k4], (.seq (.reg [.a z8 none (.bx k46 k4 (.s .h)),
  .a z9 none (.bx k35 k1 (.s z2)),
  .p z15 none (.mv (.c (.a .s0))),
  .a z16 none (.al k104 k4 (.n (.n (.n .e .s0 .e) (.b false) .e) (.i .i64 (.n k0)) (.n .e (.i .i64 (.n k0)) .e)))])
 (.seq (.seq (.reg [.r z19 none (.lg k1 (.s z9)),
  .k (some z20) none k60 z61 [(.s z19)],
  .p z17 none (.mv (.s z20))])
 (.seq (.reg [.p z21 none (.mv (.s z17)),
  .p z22 none (.cp .neq (.s z21) (.c (.a (.i .i64 (.n k0)))))])
 (.cond (.s z22) (.seq (.reg [.p z23 none (.mv (.s z17)),
  .p z24 none (.bd [(.i .i64 (.n k0)), (.b false), (.i .i64 (.n k0)), .s0] [(k0, k1, (.s z23))]),
  .p z15 none (.mv (.c (.a .s0))),
  .c none none (.st k4 (.s z16) (.s z24))])
 .rt) .skip)))
 (.seq (.seq (.reg [.p z25 none (.mv (.s z3)),
  .p z26 none (.cp .lss (.s z25) (.c (.a (.i .i64 (.n k0))))),
  .p z27 none (.mv (.s z26)),
  .p z28 (some (z27, false)) (.mv (.s z3)),
  .p z29 (some (z27, false)) (.fa k0 (.s z9)),
  .r z30 (some (z27, false)) (.ld (.s z29)),
  .p z31 (some (z27, false)) (.ln (.s z30)),
  .p z32 (some (z27, false)) (.cp .geq (.s z28) (.s z31)),
  .p z33 none (.pk (.s z27) (.c (.a (.b true))) (.s z32)),
  .p z34 none (.mv (.s z33)),
  .p z35 (some (z34, false)) (.mv (.s z4)),
  .p z36 (some (z34, false)) (.ln (.s z35)),
  .p z37 (some (z34, false)) (.fa k0 (.s z9)),
  .r z38 (some (z34, false)) (.ld (.s z37)),
  .p z39 (some (z34, false)) (.mv (.s z3)),
  .p z40 (some (z34, false)) (.ix k4 (.s z38) (.s z39)),
  .p z41 (some (z34, false)) (.fa k0 (.s z40)),
  .r z42 (some (z34, false)) (.ld (.s z41)),
  .p z43 (some (z34, false)) (.cp .neq (.s z36) (.s z42)),
  .p z44 none (.pk (.s z34) (.c (.a (.b true))) (.s z43)),
  .p z45 none (.mv (.s z44)),
  .p z46 (some (z45, false)) (.mv (.s z5)),
  .p z47 (some (z45, false)) (.cp .lss (.s z46) (.c (.a (.i .i64 (.n k0))))),
  .p z48 none (.pk (.s z45) (.c (.a (.b true))) (.s z47)),
  .p z49 none (.mv (.s z48)),
  .p z50 (some (z49, false)) (.mv (.s z5)),
  .p z51 (some (z49, false)) (.cp .gtr (.s z50) (.c (.a (.i .i64 (.n k5000))))),
  .p z52 none (.pk (.s z49) (.c (.a (.b true))) (.s z51)),
  .p z53 none (.mv (.s z52)),
  .p z54 (some (z53, false)) (.mv (.s z6)),
  .p z55 (some (z53, false)) (.cp .lss (.s z54) (.c (.a (.i .i64 (.n k0))))),
  .p z56 none (.pk (.s z53) (.c (.a (.b true))) (.s z55)),
  .p z57 none (.mv (.s z56)),
  .p z58 (some (z57, false)) (.mv (.s z7)),
  .p z59 (some (z57, false)) (.cp .lss (.s z58) (.c (.a (.i .i64 (.n k0))))),
  .p z60 none (.pk (.s z57) (.c (.a (.b true))) (.s z59)),
  .p z61 none (.mv (.s z60)),
  .p z62 (some (z61, false)) (.mv (.s z7)),
  .p z63 (some (z61, false)) (.cp .gtr (.s z62) (.c (.a (.i .i64 (.n k100))))),
  .p z64 none (.pk (.s z61) (.c (.a (.b true))) (.s z63))])
 (.cond (.s z64) (.seq (.reg [.p z65 none (.bd [(.i .i64 (.n k0)), (.b false), (.i .i64 (.n k0)), .s0] [(k0, k1, (.c (.a (.i .i64 (.n k1)))))]),
  .p z15 none (.mv (.c (.a .s0))),
  .c none none (.st k4 (.s z16) (.s z65))])
 .rt) .skip))
 (.seq (.reg [.r z66 none (.lg k4 (.s z8)),
  .r z67 none (.lg k1 (.s z9)),
  .p z68 none (.mv (.s z5)),
  .p z69 none (.mv (.s z6)),
  .p z70 none (.mv (.s z7)),
  .p z71 none (.bd [.s0, .s0, .s0, .s0, .s0, .s0, (.i .i64 (.n k0)), (.i .i64 (.n k0)), (.i .i64 (.n k0)), (.i .i64 (.n k0)), (.i .i64 (.n k0)), (.b false), .s0, (.i .i64 (.n k0)), (.b false), (.i .i64 (.n k0)), .s0] [(k0, k4, (.s z66)), (k4, k1, (.s z67)), (k6, k1, (.s z68)), (k7, k1, (.s z69)), (k8, k1, (.s z70))]),
  .a z72 none (.bx k177 k17 (.s z71)),
  .p z18 none (.mv (.s z72))])
 (.seq (.reg [.p z73 none (.mv (.s z18)),
  .p z74 none (.mv (.s z3)),
  .p z75 none (.mv (.s z4)),
  .k (some z76) none k107 z108 [(.s z73), (.s z74), (.s z75)]])
 (.seq (.blk k0 (.loop (.seq (.seq (.reg [.p z77 none (.mv (.s z18)),
  .p z78 none (.nc (.s z77)),
  .p z79 none (.fa k11 (.s z78)),
  .r z80 none (.ld (.s z79)),
  .p z81 none (.nt (.s z80))])
 (.cond (.s z81) .skip (.ex k0)))
 (.blk k1 (.reg [.p z82 none (.mv (.s z18)),
  .k (some z83) none k108 z109 [(.s z82)]])))))
 (.seq (.drw [⟨.p z84 none (.mv (.s z18)), k0, [], []⟩,
  ⟨.p z85 none (.nc (.s z84)), k1, [k0], []⟩,
  ⟨.p z86 none (.fa k12 (.s z85)), k2, [k0, k1], []⟩,
  ⟨.r z87 none (.ld (.s z86)), k3, [k0, k1, k2], []⟩,
  ⟨.p z88 none (.mv (.s z18)), k4, [], []⟩,
  ⟨.p z89 none (.nc (.s z88)), k5, [k4], []⟩,
  ⟨.p z90 none (.fa k13 (.s z89)), k6, [k4, k5], []⟩,
  ⟨.r z91 none (.lg k4 (.s z90)), k7, [k4, k5, k6], []⟩,
  ⟨.p z15 none (.mv (.s z87)), k8, [k0, k1, k2, k3], []⟩,
  ⟨.c none none (.st k4 (.s z16) (.s z91)), k9, [k0, k1, k2, k3, k4, k5, k6, k7, k8], []⟩])
 .rt)))))))⟩
noncomputable def rf62 : RF := ⟨[], [.g .h k1], (.seq (.reg [.a .h none (.al k35 k1 (.n .e .s0 .e))])
 (.seq (.reg [.p z3 none (.bd [(.i .i64 (.n k0)), (.i .i64 (.n k0)), (.i .i64 (.n k0))] [(k0, k1, (.c (.a (.i .i64 (.n k2)))))]),
  .p z4 none (.bd [(.i .i64 (.n k0)), (.i .i64 (.n k0)), (.i .i64 (.n k0)), (.i .i64 (.n k0)), (.i .i64 (.n k0)), (.i .i64 (.n k0)), (.i .i64 (.n k0)), (.i .i64 (.n k0)), (.i .i64 (.n k0)), (.i .i64 (.n k0)), (.i .i64 (.n k0))] [(k0, k1, (.c (.a (.i .i64 (.n k21))))), (k8, k3, (.s z3))]),
  .p z5 none (.bd [(.i .i64 (.n k0)), (.i .i64 (.n k0)), (.i .i64 (.n k0)), (.i .i64 (.n k0)), (.i .i64 (.n k0)), (.i .i64 (.n k0)), (.i .i64 (.n k0)), (.i .i64 (.n k0)), (.i .i64 (.n k0)), (.i .i64 (.n k0)), (.i .i64 (.n k0))] [(k0, k1, (.c (.a (.i .i64 (.n k19)))))]),
  .p z6 none (.bd [(.i .i64 (.n k0)), (.i .i64 (.n k0)), (.i .i64 (.n k0)), (.i .i64 (.n k0)), (.i .i64 (.n k0)), (.i .i64 (.n k0)), (.i .i64 (.n k0)), (.i .i64 (.n k0)), (.i .i64 (.n k0)), (.i .i64 (.n k0)), (.i .i64 (.n k0))] [(k0, k1, (.c (.a (.i .i64 (.n k3))))), (k1, k1, (.c (.a (.i .i64 (.n k1)))))]),
  .a z7 none (.bs k66 k3 [(.i .i64 (.n k0)), (.i .i64 (.n k0)), (.i .i64 (.n k0)), (.i .i64 (.n k0)), (.i .i64 (.n k0)), (.i .i64 (.n k0)), (.i .i64 (.n k0)), (.i .i64 (.n k0)), (.i .i64 (.n k0)), (.i .i64 (.n k0)), (.i .i64 (.n k0)), (.i .i64 (.n k0)), (.i .i64 (.n k0)), (.i .i64 (.n k0)), (.i .i64 (.n k0)), (.i .i64 (.n k0)), (.i .i64 (.n k0)), (.i .i64 (.n k0)), (.i .i64 (.n k0)), (.i .i64 (.n k0)), (.i .i64 (.n k0)), (.i .i64 (.n k0)), (.i .i64 (.n k0)), (.i .i64 (.n k0)), (.i .i64 (.n k0)), (.i .i64 (.n k0)), (.i .i64 (.n k0)), (.i .i64 (.n k0)), (.i .i64 (.n k0)), (.i .i64 (.n k0)), (.i .i64 (.n k0)), (.i .i64 (.n k0)), (.i .i64 (.n k0))] [(k0, k11, (.s z4)), (k11, k11, (.s z5)), (k22, k11, (.s z6))]),
  .p z8 none (.bd [(.i .i64 (.n k0)), .s0, (.i .i64 (.n k0)), (.i .i64 (.n k0)), (.i .i64 (.n k0)), .s0, (.i .i64 (.n k0)), .s0, (.i .i64 (.n k0)), .s0] [(k0, k1, (.c (.a (.i .i64 (.n k1))))), (k1, k1, (.s z7))]),
  .a z2 none (.al k60 k10 (.n (.n (.n (.n .e .s0 .e) (.i .i64 (.n k0)) .e) .s0 (.n (.n .e .s0 .e) .s0 .e)) (.i .i64 (.n k0)) (.n (.n (.n .e (.i .i64 (.n k0)) .e) (.i .i64 (.n k0)) .e) (.i .i64 (.n k0)) (.n .e (.i .i64 (.n k0)) .e)))),
  .c none none (.st k10 (.s z2) (.s z8))])
 (.seq (.reg [.p z9 none (.bd [(.i .i64 (.n k0)), .s0] [(k0, k1, (.c (.a (.i .i64 (.g k0)))))]),
  .p z10 none (.bd [(.i .i64 (.n k0)), .s0] [(k0, k1, (.c (.a (.i .i64 (.g k0)))))]),
  .p z11 none (.bd [(.i .i64 (.n k0)), .s0, (.i .i64 (.n k0)), .s0] [(k0, k2, (.s z9)), (k2, k2, (.s z10))]),
  .p z12 none (.bd [(.i .i64 (.n k0)), (.i .i64 (.n k0)), (.i .i64 (.n k0)), .s0, (.i .i64 (.n k0)), .s0, (.i .i64 (.n k0)), .s0] [(k0, k1, (.c (.a (.i .i64 (.n k4))))), (k1, k1, (.c (.a (.i .i64 (.n k1))))), (k4, k4, (.s z11))]),
  .p z13 none (.fa k2 (.s z2)),
  .c none none (.st k8 (.s z13) (.s z12))])
 (.seq (.reg [.r z14 none (.lg k10 (.s z2)),
  .a z15 none (.bs k60 k1 [(.i .i64 (.n k0)), .s0, (.i .i64 (.n k0)), (.i .i64 (.n k0)), (.i .i64 (.n k0)), .s0, (.i .i64 (.n k0)), .s0, (.i .i64 (.n k0)), .s0] [(k0, k10, (.s z14))]),
  .p z16 none (.bd [(.i .i64 (.n k0)), (.i .i64 (.n k0)), (.i .i64 (.n k0))] [(k0, k1, (.c (.a (.i .i64 (.g k0))))), (k1, k1, (.c (.a (.i .i64 (.g k0)))))]),
  .a z17 none (.bs k69 k1 [(.i .i64 (.n k0)), (.i .i64 (.n k0)), (.i .i64 (.n k0))] [(k0, k3, (.s z16))]),
  .p z18 none (.bd [(.i .i64 (.n k0)), .s0, .s0, .s0] [(k0, k1, (.c (.a (.i .i64 (.n k1))))), (k1, k1, (.s z15)), (k2, k1, (.s z17))]),
  .a z19 none (.bs k26 k1 [(.i .i64 (.n k0)), .s0, .s0, .s0] [(k0, k4, (.s z18))]),
  .p z20 none (.bd [.s0] [(k0, k1, (.s z19))]),
  .c none none (.st k1 (.s .h) (.s z20))])
 .rt))))⟩
noncomputable def rf70 : RF := ⟨[.h], [.s z3], (.seq (.reg [.a z2 none (.bx k26 k4 (.s .h)),
  .p z3 none (.mv (.c (.a (.b false))))])
 (.seq (.drw [⟨.p z4 none (.fa k0 (.s z2)), k0, [], []⟩,
  ⟨.r z5 none (.ld (.s z4)), k1, [k0], []⟩,
  ⟨.k (some z6) none k73 z74 [(.s z5), (.c (.a (.i .i64 (.n k4))))], k2, [k0, k1], []⟩,
  ⟨.p z7 none (.mv (.s z6)), k3, [k0, k1, k2], []⟩,
  ⟨.p z8 (some (z7, true)) (.fa k1 (.s z2)), k4, [k0, k1, k2, k3], []⟩,
  ⟨.r z9 (some (z7, true)) (.ld (.s z8)), k5, [k0, k1, k2, k3, k4], []⟩,
  ⟨.p z10 (some (z7, true)) (.ln (.s z9)), k6, [k0, k1, k2, k3, k4, k5], []⟩,
  ⟨.p z11 (some (z7, true)) (.cp .gtr (.s z10) (.c (.a (.i .i64 (.n k0))))), k7, [k0, k1, k2, k3, k4, k5, k6], []⟩,
  ⟨.p z12 none (.pk (.s z7) (.s z11) (.c (.a (.b false)))), k8, [k0, k1, k2, k3, k4, k5, k6, k7], []⟩,
  ⟨.p z13 none (.mv (.s z12)), k9, [k0, k1, k2, k3, k4, k5, k6, k7, k8], []⟩,
  ⟨.p z14 (some (z13, true)) (.fa k1 (.s z2)), k10, [k0, k1, k2, k3, k4, k5, k6, k7, k8, k9], []⟩,
  ⟨.r z15 (some (z13, true)) (.ld (.s z14)), k11, [k0, k1, k2, k3, k4, k5, k6, k7, k8, k9, k10], []⟩,
  ⟨.p z16 (some (z13, true)) (.ix k10 (.s z15) (.c (.a (.i .i64 (.n k0))))), k12, [k0, k1, k2, k3, k4, k5, k6, k7, k8, k9, k10, k11], []⟩,
  ⟨.p z17 (some (z13, true)) (.fa k0 (.s z16)), k13, [k0, k1, k2, k3, k4, k5, k6, k7, k8, k9, k10, k11, k12], []⟩,
  ⟨.r z18 (some (z13, true)) (.ld (.s z17)), k14, [k0, k1, k2, k3, k4, k5, k6, k7, k8, k9, k10, k11, k12, k13], []⟩,
  ⟨.p z19 (some (z13, true)) (.fa k0 (.s z2)), k15, [k0, k1, k2, k3, k4, k5, k6, k7, k8, k9], []⟩,
  ⟨.r z20 (some (z13, true)) (.ld (.s z19)), k16, [k0, k1, k2, k3, k4, k5, k6, k7, k8, k9, k15], []⟩,
  ⟨.p z21 (some (z13, true)) (.cp .eql (.s z18) (.s z20)), k17, [k0, k1, k2, k3, k4, k5, k6, k7, k8, k9, k10, k11, k12, k13, k14, k15, k16], []⟩,
  ⟨.p z22 none (.pk (.s z13) (.s z21) (.c (.a (.b false)))), k18, [k0, k1, k2, k3, k4, k5, k6, k7, k8, k9, k10, k11, k12, k13, k14, k15, k16, k17], []⟩,
  ⟨.p z3 none (.mv (.s z22)), k19, [k0, k1, k2, k3, k4, k5, k6, k7, k8, k9, k10, k11, k12, k13, k14, k15, k16, k17, k18], []⟩])
 .rt))⟩
noncomputable def rf71 : RF := ⟨[.h], [.s z3], (.seq (.reg [.p z3 none (.mv (.c (.a (.b false))))])
 (.seq (.seq (.reg [.p z6 none (.mv (.s .h)),
  .p z7 none (.ln (.s z6)),
  .p z8 none (.cp .eql (.s z7) (.c (.a (.i .i64 (.n k0))))),
  .p z9 none (.mv (.s z8)),
  .p z10 (some (z9, false)) (.mv (.s .h)),
  .p z11 (some (z9, false)) (.ix k3 (.s z10) (.c (.a (.i .i64 (.n k0))))),
  .p z12 (some (z9, false)) (.fa k0 (.s z11)),
  .r z13 (some (z9, false)) (.ld (.s z12)),
  .p z14 (some (z9, false)) (.cp .neq (.s z13) (.c (.a (.i .i64 (.g k0))))),
  .p z15 none (.pk (.s z9) (.c (.a (.b true))) (.s z14)),
  .p z16 none (.mv (.s z15)),
  .p z17 (some (z16, false)) (.mv (.s .h)),
  .p z18 (some (z16, false)) (.ix k3 (.s z17) (.c (.a (.i .i64 (.n k0))))),
  .p z19 (some (z16, false)) (.fa k1 (.s z18)),
  .r z20 (some (z16, false)) (.ld (.s z19)),
  .p z21 (some (z16, false)) (.cp .neq (.s z20) (.c (.a (.i .i64 (.g k0))))),
  .p z22 none (.pk (.s z16) (.c (.a (.b true))) (.s z21))])
 (.cond (.s z22) (.seq (.reg [.p z3 none (.mv (.c (.a (.b false))))])
 .rt) .skip))
 (.seq (.seq (.reg [.p z23 none (.mv (.s .h)),
  .p z24 none (.ln (.s z23)),
  .p z25 none (.mv (.c (.a (.i .i64 (.n k0)))))])
 (.blk k0 (.loop (.seq (.reg [.p z26 none (.cp .lss (.s z25) (.s z24))])
 (.seq (.cond (.s z26) .skip (.ex k0))
 (.seq (.blk k1 (.seq (.reg [.p z27 none (.mv (.s z25)),
  .p z28 none (.ix k3 (.s z23) (.s z25)),
  .r z29 none (.lg k3 (.s z28)),
  .a z5 none (.al k69 k3 (.n (.n .e (.i .i64 (.n k0)) .e) (.i .i64 (.n k0)) (.n .e (.i .i64 (.n k0)) .e))),
  .p z4 none (.mv (.s z27)),
  .c none none (.st k3 (.s z5) (.s z29))])
 (.seq (.seq (.reg [.p z30 none (.fa k2 (.s z5)),
  .r z31 none (.ld (.s z30)),
  .k (some z32) none k73 z74 [(.s z31), (.c (.a (.i .i64 (.n k7))))],
  .p z33 none (.nt (.s z32))])
 (.cond (.s z33) (.seq (.reg [.p z3 none (.mv (.c (.a (.b false))))])
 .rt) .skip))
 (.seq (.reg [.p z34 none (.mv (.s z4)),
  .p z35 none (.cp .gtr (.s z34) (.c (.a (.i .i64 (.n k0))))),
  .p z36 none (.mv (.s z35)),
  .p z37 (some (z36, true)) (.fa k0 (.s z5)),
  .r z38 (some (z36, true)) (.ld (.s z37)),
  .p z39 (some (z36, true)) (.mv (.s z4)),
  .p z40 (some (z36, true)) (.ar .sub (.s z39) (.c (.a (.i .i64 (.n k1))))),
  .k (some z41) (some (z36, true)) k73 z74 [(.s z38), (.s z40)],
  .p z42 (some (z36, true)) (.nt (.s z41)),
  .p z43 (some (z36, true)) (.mv (.s z42)),
  .p z44 (some (z43, false)) (.fa k1 (.s z5)),
  .r z45 (some (z43, false)) (.ld (.s z44)),
  .k (some z46) (some (z43, false)) k73 z74 [(.s z45), (.c (.a (.i .i64 (.n k9999))))],
  .p z47 (some (z43, false)) (.nt (.s z46)),
  .p z48 (some (z36, true)) (.pk (.s z43) (.c (.a (.b true))) (.s z47)),
  .p z49 none (.pk (.s z36) (.s z48) (.c (.a (.b false))))])
 (.cond (.s z49) (.seq (.reg [.p z3 none (.mv (.c (.a (.b false))))])
 .rt) .skip)))))
 (.reg [.p z50 none (.ar .add (.s z25) (.c (.a (.i .i64 (.n k1))))),
  .p z25 none (.mv (.s z50))])))))))
 (.seq (.reg [.p z3 none (.mv (.c (.a (.b true))))])
 .rt))))⟩
noncomputable def rf72 : RF := ⟨[.h], [.s z3], (.seq (.reg [.a z2 none (.bx k26 k4 (.s .h)),
  .p z3 none (.mv (.c (.a (.b false))))])
 (.seq (.reg [.a z8 none (.mm),
  .p z4 none (.mv (.s z8))])
 (.seq (.seq (.reg [.p z9 none (.fa k3 (.s z2)),
  .r z10 none (.ld (.s z9)),
  .p z11 none (.ln (.s z10)),
  .p z12 none (.mv (.c (.a (.i .i64 (.n k0)))))])
 (.blk k0 (.loop (.seq (.reg [.p z13 none (.cp .lss (.s z12) (.s z11))])
 (.seq (.cond (.s z13) .skip (.ex k0))
 (.seq (.blk k1 (.seq (.reg [.p z14 none (.ix k3 (.s z10) (.s z12)),
  .r z15 none (.lg k3 (.s z14)),
  .a z6 none (.al k72 k3 (.n (.n .e (.i .i64 (.n k0)) .e) (.i .i64 (.n k0)) (.n .e (.i .i64 (.n k0)) .e))),
  .c none none (.st k3 (.s z6) (.s z15))])
 (.seq (.reg [.p z16 none (.fa k0 (.s z6)),
  .r z17 none (.ld (.s z16)),
  .p z18 none (.fa k1 (.s z6)),
  .r z19 none (.ld (.s z18)),
  .p z20 none (.bd [(.i .i64 (.n k0)), (.i .i64 (.n k0)), (.i .i64 (.n k0))] [(k0, k1, (.s z17)), (k1, k1, (.s z19))]),
  .a z7 none (.al k197 k3 (.n (.n .e (.i .i64 (.n k0)) .e) (.i .i64 (.n k0)) (.n .e (.i .i64 (.n k0)) .e))),
  .c none none (.st k3 (.s z7) (.s z20))])
 (.seq (.seq (.reg [.p z21 none (.fa k0 (.s z6)),
  .r z22 none (.ld (.s z21)),
  .p z23 none (.fa k2 (.s z2)),
  .r z24 none (.ld (.s z23)),
  .p z25 none (.ln (.s z24)),
  .p z26 none (.ar .sub (.s z25) (.c (.a (.i .i64 (.n k1))))),
  .k (some z27) none k73 z74 [(.s z22), (.s z26)],
  .p z28 none (.nt (.s z27)),
  .p z29 none (.mv (.s z28)),
  .p z30 (some (z29, false)) (.fa k1 (.s z6)),
  .r z31 (some (z29, false)) (.ld (.s z30)),
  .k (some z32) (some (z29, false)) k73 z74 [(.s z31), (.c (.a (.i .i64 (.n k23))))],
  .p z33 (some (z29, false)) (.nt (.s z32)),
  .p z34 none (.pk (.s z29) (.c (.a (.b true))) (.s z33)),
  .p z35 none (.mv (.s z34)),
  .p z36 (some (z35, false)) (.fa k2 (.s z6)),
  .r z37 (some (z35, false)) (.ld (.s z36)),
  .p z38 (some (z35, false)) (.cp .lss (.s z37) (.c (.a (.i .i64 (.n k1))))),
  .p z39 none (.pk (.s z35) (.c (.a (.b true))) (.s z38)),
  .p z40 none (.mv (.s z39)),
  .p z41 (some (z40, false)) (.fa k2 (.s z6)),
  .r z42 (some (z40, false)) (.ld (.s z41)),
  .p z43 (some (z40, false)) (.cp .gtr (.s z42) (.c (.a (.i .i64 (.n k8))))),
  .p z44 none (.pk (.s z40) (.c (.a (.b true))) (.s z43)),
  .p z45 none (.mv (.s z44)),
  .p z46 (some (z45, false)) (.mv (.s z4)),
  .r z47 (some (z45, false)) (.lg k3 (.s z7)),
  .r z48 (some (z45, false)) (.lk false true [k0, k0, k0] (.a (.b false)) (.s z46) (.s z47)),
  .p z49 none (.pk (.s z45) (.c (.a (.b true))) (.s z48))])
 (.cond (.s z49) (.seq (.reg [.p z3 none (.mv (.c (.a (.b false))))])
 .rt) .skip))
 (.reg [.p z50 none (.mv (.s z4)),
  .r z51 none (.lg k3 (.s z7)),
  .c none none (.mu true [k0, k0, k0] (.s z50) (.s z51) (.c (.a (.b true))))])))))
 (.reg [.p z52 none (.ar .add (.s z12) (.c (.a (.i .i64 (.n k1))))),
  .p z12 none (.mv (.s z52))])))))))
 (.seq (.reg [.p z3 none (.mv (.c (.a (.b true))))])
 .rt))))⟩
noncomputable def rf73 : RF := ⟨[.h, z2], [.s z5], (.seq (.reg [.p z5 none (.mv (.c (.a (.b false))))])
 (.seq (.reg [.p z6 none (.mv (.s .h)),
  .p z7 none (.cp .geq (.s z6) (.c (.a (.i .i64 (.n k0))))),
  .p z8 none (.mv (.s z7)),
  .p z9 (some (z8, true)) (.mv (.s .h)),
  .p z10 (some (z8, true)) (.mv (.s z2)),
  .p z11 (some (z8, true)) (.cp .leq (.s z9) (.s z10)),
  .p z12 none (.pk (.s z8) (.s z11) (.c (.a (.b false)))),
  .p z5 none (.mv (.s z12))])
 .rt))⟩
noncomputable def rf74 : RF := ⟨[.h, z2], [.s z5], (.seq (.reg [.a z3 none (.bx k26 k4 (.s .h)),
  .a z4 none (.bx k60 k10 (.s z2)),
  .p z5 none (.mv (.c (.a (.b false))))])
 (.seq (.reg [.p z13 none (.fa k0 (.s z4)),
  .r z14 none (.ld (.s z13)),
  .a z15 none (.mm),
  .p z16 none (.bd [(.i .i64 (.n k0)), .m0] [(k0, k1, (.s z14)), (k1, k1, (.s z15))]),
  .a z6 none (.al k199 k2 (.n (.n .e .m0 .e) (.i .i64 (.n k0)) .e)),
  .c none none (.st k2 (.s z6) (.s z16))])
 (.seq (.seq (.reg [.p z17 none (.fa k1 (.s z4)),
  .r z18 none (.ld (.s z17)),
  .p z19 none (.ln (.s z18)),
  .p z20 none (.mv (.c (.a (.i .i64 (.n k0)))))])
 (.blk k0 (.loop (.seq (.reg [.p z21 none (.cp .lss (.s z20) (.s z19))])
 (.seq (.cond (.s z21) .skip (.ex k0))
 (.seq (.blk k1 (.seq (.reg [.p z22 none (.mv (.s z20)),
  .p z23 none (.ix k11 (.s z18) (.s z20)),
  .r z24 none (.lg k11 (.s z23)),
  .a z8 none (.al k66 k11 (.n (.n (.n (.n .e (.i .i64 (.n k0)) .e) (.i .i64 (.n k0)) .e) (.i .i64 (.n k0)) (.n (.n .e (.i .i64 (.n k0)) .e) (.i .i64 (.n k0)) .e)) (.i .i64 (.n k0)) (.n (.n (.n .e (.i .i64 (.n k0)) .e) (.i .i64 (.n k0)) .e) (.i .i64 (.n k0)) (.n (.n .e (.i .i64 (.n k0)) .e) (.i .i64 (.n k0)) .e)))),
  .p z7 none (.mv (.s z22)),
  .c none none (.st k11 (.s z8) (.s z24))])
 (.seq (.seq (.reg [.p z25 none (.fa k0 (.s z8)),
  .r z26 none (.ld (.s z25)),
  .k (some z27) none k120 z121 [(.s z26)],
  .p z28 none (.ar .and (.s z27) (.c (.a (.i .i64 (.n k1))))),
  .p z29 none (.cp .eql (.s z28) (.c (.a (.i .i64 (.n k0)))))])
 (.cond (.s z29) (.ex k1) .skip))
 (.seq (.seq (.reg [.p z31 none (.fa k1 (.s z6)),
  .r z32 none (.ld (.s z31)),
  .p z33 none (.fa k1 (.s z8)),
  .r z34 none (.ld (.s z33)),
  .r z35 none (.lk true false [k0] (.a (.i .i64 (.n k0))) (.s z32) (.s z34)),
  .p z30 none (.mv (.s z35)),
  .p z36 none (.ex k0 (.s z30)),
  .p z37 none (.ex k1 (.s z30)),
  .p z9 none (.mv (.s z36)),
  .p z10 none (.mv (.s z37))])
 (.seq (.reg [.p z38 none (.mv (.s z10)),
  .p z39 none (.mv (.s z38)),
  .p z40 (some (z39, false)) (.fa k1 (.s z8)),
  .r z41 (some (z39, false)) (.ld (.s z40)),
  .p z42 (some (z39, false)) (.fa k0 (.s z4)),
  .r z43 (some (z39, false)) (.ld (.s z42)),
  .p z44 (some (z39, false)) (.cp .lss (.s z41) (.s z43)),
  .p z45 none (.pk (.s z39) (.c (.a (.b true))) (.s z44)),
  .p z46 none (.mv (.s z45)),
  .p z47 (some (z46, false)) (.fa k1 (.s z8)),
  .r z48 (some (z46, false)) (.ld (.s z47)),
  .p z49 (some (z46, false)) (.cp .gtr (.s z48) (.c (.a (.i .i64 (.n k9999))))),
  .p z50 none (.pk (.s z46) (.c (.a (.b true))) (.s z49))])
 (.cond (.s z50) (.seq (.reg [.p z5 none (.mv (.c (.a (.b false))))])
 .rt) .skip)))
 (.reg [.p z51 none (.fa k1 (.s z6)),
  .r z52 none (.ld (.s z51)),
  .p z53 none (.fa k1 (.s z8)),
  .r z54 none (.ld (.s z53)),
  .p z55 none (.mv (.s z7)),
  .c none none (.mu false [k0] (.s z52) (.s z54) (.s z55))])))))
 (.reg [.p z56 none (.ar .add (.s z20) (.c (.a (.i .i64 (.n k1))))),
  .p z20 none (.mv (.s z56))])))))))
 (.seq (.seq (.reg [.p z57 none (.fa k1 (.s z4)),
  .r z58 none (.ld (.s z57)),
  .p z59 none (.ln (.s z58)),
  .p z60 none (.mv (.c (.a (.i .i64 (.n k0)))))])
 (.blk k2 (.loop (.seq (.reg [.p z61 none (.cp .lss (.s z60) (.s z59))])
 (.seq (.cond (.s z61) .skip (.ex k2))
 (.seq (.blk k3 (.seq (.reg [.p z62 none (.mv (.s z60)),
  .p z63 none (.ix k11 (.s z58) (.s z60)),
  .r z64 none (.lg k11 (.s z63)),
  .a z12 none (.al k66 k11 (.n (.n (.n (.n .e (.i .i64 (.n k0)) .e) (.i .i64 (.n k0)) .e) (.i .i64 (.n k0)) (.n (.n .e (.i .i64 (.n k0)) .e) (.i .i64 (.n k0)) .e)) (.i .i64 (.n k0)) (.n (.n (.n .e (.i .i64 (.n k0)) .e) (.i .i64 (.n k0)) .e) (.i .i64 (.n k0)) (.n (.n .e (.i .i64 (.n k0)) .e) (.i .i64 (.n k0)) .e)))),
  .p z11 none (.mv (.s z62)),
  .c none none (.st k11 (.s z12) (.s z64))])
 (.seq (.reg [.r z65 none (.lg k11 (.s z12)),
  .k (some z66) none k121 z122 [(.s z65)],
  .p z67 none (.nt (.s z66)),
  .p z68 none (.mv (.s z67)),
  .r z69 (some (z68, false)) (.lg k4 (.s z3)),
  .r z70 (some (z68, false)) (.lg k2 (.s z6)),
  .r z71 (some (z68, false)) (.lg k11 (.s z12)),
  .p z72 (some (z68, false)) (.mv (.s z11)),
  .k (some z73) (some (z68, false)) k122 z123 [(.s z69), (.s z70), (.s z71), (.s z72)],
  .p z74 (some (z68, false)) (.nt (.s z73)),
  .p z75 none (.pk (.s z68) (.c (.a (.b true))) (.s z74)),
  .p z76 none (.mv (.s z75)),
  .p z77 (some (z76, false)) (.fa k0 (.s z12)),
  .r z78 (some (z76, false)) (.ld (.s z77)),
  .p z79 (some (z76, false)) (.cp .eql (.s z78) (.c (.a (.i .i64 (.n k21))))),
  .p z80 (some (z76, false)) (.mv (.s z79)),
  .r z81 (some (z80, true)) (.lg k4 (.s z3)),
  .r z82 (some (z80, true)) (.lg k2 (.s z6)),
  .r z83 (some (z80, true)) (.lg k11 (.s z12)),
  .p z84 (some (z80, true)) (.fa k1 (.s z4)),
  .r z85 (some (z80, true)) (.ld (.s z84)),
  .p z86 (some (z80, true)) (.ln (.s z85)),
  .k (some z87) (some (z80, true)) k123 z124 [(.s z81), (.s z82), (.s z83), (.s z86)],
  .p z88 (some (z80, true)) (.nt (.s z87)),
  .p z89 (some (z76, false)) (.pk (.s z80) (.s z88) (.c (.a (.b false)))),
  .p z90 none (.pk (.s z76) (.c (.a (.b true))) (.s z89))])
 (.cond (.s z90) (.seq (.reg [.p z5 none (.mv (.c (.a (.b false))))])
 .rt) .skip))))
 (.reg [.p z91 none (.ar .add (.s z60) (.c (.a (.i .i64 (.n k1))))),
  .p z60 none (.mv (.s z91))])))))))
 (.seq (.reg [.r z92 none (.lg k4 (.s z3)),
  .r z93 none (.lg k2 (.s z6)),
  .p z94 none (.fa k2 (.s z4)),
  .r z95 none (.lg k8 (.s z94)),
  .p z96 none (.fa k1 (.s z4)),
  .r z97 none (.ld (.s z96)),
  .p z98 none (.ln (.s z97)),
  .k (some z99) none k124 z125 [(.s z92), (.s z93), (.s z95), (.s z98)],
  .p z5 none (.mv (.s z99))])
 .rt)))))⟩
noncomputable def rf106 : RF := ⟨[.h, z2], [.s z5], (.seq (.reg [.a z3 none (.bx k35 k1 (.s .h)),
  .a z4 none (.bx k26 k4 (.s z2)),
  .p z5 none (.mv (.c (.a (.b false))))])
 (.seq (.seq (.reg [.p z9 none (.fa k1 (.s z4)),
  .r z10 none (.ld (.s z9)),
  .p z11 none (.ln (.s z10)),
  .p z12 none (.mv (.c (.a (.i .i64 (.n k0)))))])
 (.blk k0 (.loop (.seq (.reg [.p z13 none (.cp .lss (.s z12) (.s z11))])
 (.seq (.cond (.s z13) .skip (.ex k0))
 (.seq (.blk k1 (.seq (.reg [.p z14 none (.ix k10 (.s z10) (.s z12)),
  .r z15 none (.lg k10 (.s z14)),
  .a z7 none (.al k60 k10 (.n (.n (.n (.n .e .s0 .e) (.i .i64 (.n k0)) .e) .s0 (.n (.n .e .s0 .e) .s0 .e)) (.i .i64 (.n k0)) (.n (.n (.n .e (.i .i64 (.n k0)) .e) (.i .i64 (.n k0)) .e) (.i .i64 (.n k0)) (.n .e (.i .i64 (.n k0)) .e)))),
  .c none none (.st k10 (.s z7) (.s z15))])
 (.seq (.reg [.p z16 none (.fa k2 (.s z7)),
  .r z17 none (.lg k8 (.s z16)),
  .a z8 none (.al k58 k8 (.n (.n (.n (.n .e .s0 .e) .s0 .e) (.i .i64 (.n k0)) (.n .e .s0 .e)) (.i .i64 (.n k0)) (.n (.n .e (.i .i64 (.n k0)) .e) (.i .i64 (.n k0)) (.n .e (.i .i64 (.n k0)) .e)))),
  .c none none (.st k8 (.s z8) (.s z17))])
 (.seq (.seq (.reg [.p z18 none (.fa k0 (.s z8)),
  .r z19 none (.ld (.s z18)),
  .p z20 none (.cp .neq (.s z19) (.c (.a (.i .i64 (.n k3))))),
  .p z21 none (.mv (.s z20)),
  .p z22 (some (z21, true)) (.fa k0 (.s z8)),
  .r z23 (some (z21, true)) (.ld (.s z22)),
  .p z24 (some (z21, true)) (.cp .neq (.s z23) (.c (.a (.i .i64 (.n k6))))),
  .p z25 none (.pk (.s z21) (.s z24) (.c (.a (.b false))))])
 (.cond (.s z25) (.ex k1) .skip))
 (.seq (.drw [⟨.p z26 none (.fa k2 (.s z8)), k0, [], []⟩,
  ⟨.r z27 none (.ld (.s z26)), k1, [k0], []⟩,
  ⟨.p z28 none (.fa k0 (.s z3)), k2, [], []⟩,
  ⟨.r z29 none (.ld (.s z28)), k3, [k2], []⟩,
  ⟨.p z30 none (.ln (.s z29)), k4, [k2, k3], []⟩,
  ⟨.p z31 none (.cp .geq (.s z27) (.s z30)), k5, [k0, k1, k2, k3, k4], []⟩,
  ⟨.p z32 none (.mv (.s z31)), k6, [k0, k1, k2, k3, k4, k5], []⟩,
  ⟨.p z33 (some (z32, false)) (.fa k3 (.s z8)), k7, [k0, k1, k2, k3, k4, k5, k6], []⟩,
  ⟨.r z34 (some (z32, false)) (.ld (.s z33)), k8, [k0, k1, k2, k3, k4, k5, k6, k7], []⟩,
  ⟨.p z35 (some (z32, false)) (.ln (.s z34)), k9, [k0, k1, k2, k3, k4, k5, k6, k7, k8], []⟩,
  ⟨.p z36 (some (z32, false)) (.fa k0 (.s z3)), k10, [k0, k1, k2, k3, k4, k5, k6], []⟩,
  ⟨.r z37 (some (z32, false)) (.ld (.s z36)), k11, [k0, k1, k2, k3, k4, k5, k6, k10], []⟩,
  ⟨.p z38 (some (z32, false)) (.fa k2 (.s z8)), k12, [k0, k1, k2, k3, k4, k5, k6], []⟩,
  ⟨.r z39 (some (z32, false)) (.ld (.s z38)), k13, [k0, k1, k2, k3, k4, k5, k6, k12], []⟩,
  ⟨.p z40 (some (z32, false)) (.ix k4 (.s z37) (.s z39)), k14, [k0, k1, k2, k3, k4, k5, k6, k10, k11, k12, k13], []⟩,
  ⟨.p z41 (some (z32, false)) (.fa k0 (.s z40)), k15, [k0, k1, k2, k3, k4, k5, k6, k10, k11, k12, k13, k14], []⟩,
  ⟨.r z42 (some (z32, false)) (.ld (.s z41)), k16, [k0, k1, k2, k3, k4, k5, k6, k10, k11, k12, k13, k14, k15], []⟩,
  ⟨.p z43 (some (z32, false)) (.cp .neq (.s z35) (.s z42)), k17, [k0, k1, k2, k3, k4, k5, k6, k7, k8, k9, k10, k11, k12, k13, k14, k15, k16], []⟩,
  ⟨.p z44 none (.pk (.s z32) (.c (.a (.b true))) (.s z43)), k18, [k0, k1, k2, k3, k4, k5, k6, k7, k8, k9, k10, k11, k12, k13, k14, k15, k16, k17], []⟩])
 (.cond (.s z44) (.seq (.reg [.p z5 none (.mv (.c (.a (.b false))))])
 .rt) .skip))))))
 (.reg [.p z45 none (.ar .add (.s z12) (.c (.a (.i .i64 (.n k1))))),
  .p z12 none (.mv (.s z45))])))))))
 (.seq (.reg [.p z5 none (.mv (.c (.a (.b true))))])
 .rt)))⟩
noncomputable def rf107 : RF := ⟨[.h, z2, z3], [], (.seq (.drw [⟨.p z10 none (.mv (.s .h)), k0, [], []⟩,
  ⟨.p z11 none (.nc (.s z10)), k1, [k0], []⟩,
  ⟨.p z12 none (.fa k4 (.s z11)), k2, [k0, k1], []⟩,
  ⟨.p z13 none (.fa k0 (.s z12)), k3, [k0, k1, k2], []⟩,
  ⟨.r z14 none (.ld (.s z13)), k4, [k0, k1, k2, k3], []⟩,
  ⟨.p z15 none (.mv (.s z2)), k5, [], []⟩,
  ⟨.p z16 none (.ix k4 (.s z14) (.s z15)), k6, [k0, k1, k2, k3, k4, k5], []⟩,
  ⟨.r z17 none (.lg k4 (.s z16)), k7, [k0, k1, k2, k3, k4, k5, k6], []⟩,
  ⟨.p z18 none (.mv (.s z3)), k8, [], []⟩,
  ⟨.k (some z19) none k129 z130 [(.s z18)], k9, [k8], [true, true]⟩,
  ⟨.p z20 none (.bd [(.b false), (.i .i64 (.n k0)), (.i .i64 (.n k0)), .m0, (.i .i64 (.n k0)), .s0, .s0, .s0, .s0, (.i .i64 (.n k0)), .s0, .s0, .s0] [(k4, k4, (.s z17)), (k8, k1, (.s z19))]), k10, [k0, k1, k2, k3, k4, k5, k6, k7, k8, k9], []⟩,
  ⟨.a z21 none (.bx k215 k13 (.s z20)), k11, [k0, k1, k2, k3, k4, k5, k6, k7, k8, k9, k10], []⟩,
  ⟨.p z7 none (.mv (.s z21)), k12, [k0, k1, k2, k3, k4, k5, k6, k7, k8, k9, k10, k11], []⟩])
 (.seq (.seq (.reg [.p z22 none (.mv (.s z7)),
  .p z23 none (.nc (.s z22)),
  .p z24 none (.fa k4 (.s z23)),
  .p z25 none (.fa k3 (.s z24)),
  .r z26 none (.ld (.s z25)),
  .p z27 none (.ln (.s z26)),
  .p z28 none (.mv (.c (.a (.i .i64 (.n k0)))))])
 (.blk k0 (.loop (.seq (.reg [.p z29 none (.cp .lss (.s z28) (.s z27))])
 (.seq (.cond (.s z29) .skip (.ex k0))
 (.seq (.blk k1 (.seq (.reg [.p z30 none (.ix k3 (.s z26) (.s z28)),
  .r z31 none (.lg k3 (.s z30)),
  .a z9 none (.al k72 k3 (.n (.n .e (.i .i64 (.n k0)) .e) (.i .i64 (.n k0)) (.n .e (.i .i64 (.n k0)) .e))),
  .c none none (.st k3 (.s z9) (.s z31))])
 (.drw [⟨.p z32 none (.mv (.s z7)), k0, [], []⟩,
  ⟨.p z33 none (.mv (.s z7)), k1, [], []⟩,
  ⟨.p z34 none (.nc (.s z33)), k2, [k1], []⟩,
  ⟨.p z35 none (.fa k12 (.s z34)), k3, [k1, k2], []⟩,
  ⟨.r z36 none (.ld (.s z35)), k4, [k1, k2, k3], []⟩,
  ⟨.p z37 none (.fa k2 (.s z9)), k5, [], []⟩,
  ⟨.r z38 none (.ld (.s z37)), k6, [k5], []⟩,
  ⟨.a z39 none (.ms k3 k8 [(.i .i64 (.n k0))] (.s z38)), k7, [k5, k6], []⟩,
  ⟨.a z40 none (.bs k37 k1 [.s0] [(k0, k1, (.s z39))]), k8, [k5, k6, k7], []⟩,
  ⟨.c (some z41) none (.ap k37 k1 k24 (.s z36) (.s z40)), k9, [k1, k2, k3, k4, k5, k6, k7, k8], []⟩,
  ⟨.p z42 none (.nc (.s z32)), k10, [k0, k1, k2, k3, k4, k5, k6, k7, k8, k9], []⟩,
  ⟨.p z43 none (.fa k12 (.s z42)), k11, [k0, k1, k2, k3, k4, k5, k6, k7, k8, k9, k10], []⟩,
  ⟨.c none none (.st k1 (.s z43) (.s z41)), k12, [k0, k1, k2, k3, k4, k5, k6, k7, k8, k9, k10, k11], []⟩])))
 (.reg [.p z44 none (.ar .add (.s z28) (.c (.a (.i .i64 (.n k1))))),
  .p z28 none (.mv (.s z44))])))))))
 (.seq (.reg [.p z45 none (.mv (.s .h)),
  .p z46 none (.mv (.s .h)),
  .p z47 none (.nc (.s z46)),
  .p z48 none (.fa k5 (.s z47)),
  .r z49 none (.ld (.s z48)),
  .p z50 none (.mv (.s z7)),
  .a z51 none (.bs k210 k1 [.p0] [(k0, k1, (.s z50))]),
  .c (some z52) none (.ap k210 k1 k8 (.s z49) (.s z51)),
  .p z53 none (.nc (.s z45)),
  .p z54 none (.fa k5 (.s z53)),
  .c none none (.st k1 (.s z54) (.s z52))])
 (.reg [.p z55 none (.mv (.s .h)),
  .p z56 none (.mv (.s z3)),
  .k (some z57) none k133 z134 [(.s z55), (.c (.a (.i .i64 (.n k0)))), (.s z56)]]))))⟩
noncomputable def rf108 : RF := ⟨[.h], [], (.seq (.reg [.p z7 none (.mv (.s .h)),
  .k (some z8) none k134 z135 [(.s z7)],
  .p z3 none (.mv (.s z8))])
 (.seq (.drw [⟨.p z9 none (.mv (.s z3)), k0, [], []⟩,
  ⟨.p z10 none (.nc (.s z9)), k1, [k0], []⟩,
  ⟨.p z11 none (.fa k4 (.s z10)), k2, [k0, k1], []⟩,
  ⟨.p z12 none (.fa k1 (.s z11)), k3, [k0, k1, k2], []⟩,
  ⟨.r z13 none (.ld (.s z12)), k4, [k0, k1, k2, k3], []⟩,
  ⟨.p z14 none (.mv (.s z3)), k5, [], []⟩,
  ⟨.p z15 none (.nc (.s z14)), k6, [k5], []⟩,
  ⟨.p z16 none (.fa k9 (.s z15)), k7, [k5, k6], []⟩,
  ⟨.r z17 none (.ld (.s z16)), k8, [k5, k6, k7], []⟩,
  ⟨.p z18 none (.ix k10 (.s z13) (.s z17)), k9, [k0, k1, k2, k3, k4, k5, k6, k7, k8], []⟩,
  ⟨.r z19 none (.lg k10 (.s z18)), k10, [k0, k1, k2, k3, k4, k5, k6, k7, k8, k9], []⟩,
  ⟨.a z4 none (.al k60 k10 (.n (.n (.n (.n .e .s0 .e) (.i .i64 (.n k0)) .e) .s0 (.n (.n .e .s0 .e) .s0 .e)) (.i .i64 (.n k0)) (.n (.n (.n .e (.i .i64 (.n k0)) .e) (.i .i64 (.n k0)) .e) (.i .i64 (.n k0)) (.n .e (.i .i64 (.n k0)) .e)))), k11, [], []⟩,
  ⟨.c none none (.st k10 (.s z4) (.s z19)), k12, [k0, k1, k2, k3, k4, k5, k6, k7, k8, k9, k10, k11], []⟩])
 (.seq (.seq (.reg [.p z20 none (.fa k1 (.s z4)),
  .r z21 none (.ld (.s z20)),
  .p z22 none (.ln (.s z21)),
  .p z23 none (.mv (.c (.a (.i .i64 (.n k0)))))])
 (.blk k0 (.loop (.seq (.reg [.p z24 none (.cp .lss (.s z23) (.s z22))])
 (.seq (.cond (.s z24) .skip (.ex k0))
 (.seq (.blk k1 (.seq (.reg [.p z25 none (.mv (.s z23)),
  .p z26 none (.ix k11 (.s z21) (.s z23)),
  .r z27 none (.lg k11 (.s z26)),
  .a z6 none (.al k66 k11 (.n (.n (.n (.n .e (.i .i64 (.n k0)) .e) (.i .i64 (.n k0)) .e) (.i .i64 (.n k0)) (.n (.n .e (.i .i64 (.n k0)) .e) (.i .i64 (.n k0)) .e)) (.i .i64 (.n k0)) (.n (.n (.n .e (.i .i64 (.n k0)) .e) (.i .i64 (.n k0)) .e) (.i .i64 (.n k0)) (.n (.n .e (.i .i64 (.n k0)) .e) (.i .i64 (.n k0)) .e)))),
  .p z5 none (.mv (.s z25)),
  .c none none (.st k11 (.s z6) (.s z27))])
 (.seq (.reg [.p z28 none (.fa k0 (.s z6)),
  .r z29 none (.ld (.s z28))])
 (.blk k2 (.seq (.reg [.p z34 none (.cp .eql (.s z29) (.c (.a (.i .i64 (.n k19))))),
  .p z33 none (.mv (.s z34))])
 (.cond (.s z33) (.seq (.seq (.drw [⟨.p z35 none (.mv (.s .h)), k0, [], []⟩,
  ⟨.p z36 none (.nc (.s z35)), k1, [k0], []⟩,
  ⟨.p z37 none (.fa k9 (.s z36)), k2, [k0, k1], []⟩,
  ⟨.r z38 none (.ld (.s z37)), k3, [k0, k1, k2], []⟩,
  ⟨.p z39 none (.mv (.s .h)), k4, [], []⟩,
  ⟨.p z40 none (.nc (.s z39)), k5, [k4], []⟩,
  ⟨.p z41 none (.fa k6 (.s z40)), k6, [k4, k5], []⟩,
  ⟨.r z42 none (.ld (.s z41)), k7, [k4, k5, k6], []⟩,
  ⟨.p z43 none (.cp .geq (.s z38) (.s z42)), k8, [k0, k1, k2, k3, k4, k5, k6, k7], []⟩])
 (.cond (.s z43) (.seq (.reg [.p z44 none (.mv (.s .h)),
  .k (some z45) none k135 z136 [(.s z44), (.c (.a (.i .i64 (.n k13))))]])
 .rt) .skip))
 (.seq (.drw [⟨.p z46 none (.mv (.s z3)), k0, [], []⟩,
  ⟨.r z47 none (.lg k11 (.s z6)), k1, [], []⟩,
  ⟨.p z48 none (.fa k1 (.s z4)), k2, [], []⟩,
  ⟨.r z49 none (.ld (.s z48)), k3, [k2], []⟩,
  ⟨.p z50 none (.mv (.s z5)), k4, [], []⟩,
  ⟨.p z51 none (.sl (.s z49) (.s z50)), k5, [k2, k3, k4], []⟩,
  ⟨.k (some z52) none k136 z137 [(.s z46), (.s z47), (.s z51)], k6, [k0, k1, k2, k3, k4, k5], []⟩])
 (.reg [.p z53 none (.mv (.s .h)),
  .k (some z54) none k137 z138 [(.s z53)]]))) (.seq (.reg [.p z56 none (.cp .eql (.s z29) (.c (.a (.i .i64 (.n k20))))),
  .p z55 none (.mv (.s z56))])
 (.cond (.s z55) (.drw [⟨.p z57 none (.mv (.s z3)), k0, [], []⟩,
  ⟨.r z58 none (.lg k11 (.s z6)), k1, [], []⟩,
  ⟨.p z59 none (.fa k1 (.s z4)), k2, [], []⟩,
  ⟨.r z60 none (.ld (.s z59)), k3, [k2], []⟩,
  ⟨.p z61 none (.mv (.s z5)), k4, [], []⟩,
  ⟨.p z62 none (.sl (.s z60) (.s z61)), k5, [k2, k3, k4], []⟩,
  ⟨.k (some z63) none k136 z137 [(.s z57), (.s z58), (.s z62)], k6, [k0, k1, k2, k3, k4, k5], []⟩]) (.seq (.reg [.p z65 none (.cp .eql (.s z29) (.c (.a (.i .i64 (.n k18))))),
  .p z64 none (.mv (.s z65))])
 (.cond (.s z64) (.drw [⟨.p z66 none (.mv (.s .h)), k0, [], []⟩,
  ⟨.p z67 none (.mv (.s .h)), k1, [], []⟩,
  ⟨.p z68 none (.nc (.s z67)), k2, [k1], []⟩,
  ⟨.p z69 none (.fa k13 (.s z68)), k3, [k1, k2], []⟩,
  ⟨.p z70 none (.fa k3 (.s z69)), k4, [k1, k2, k3], []⟩,
  ⟨.r z71 none (.ld (.s z70)), k5, [k1, k2, k3, k4], []⟩,
  ⟨.p z72 none (.mv (.s z3)), k6, [], []⟩,
  ⟨.p z73 none (.nc (.s z72)), k7, [k6], []⟩,
  ⟨.p z74 none (.fa k10 (.s z73)), k8, [k6, k7], []⟩,
  ⟨.r z75 none (.ld (.s z74)), k9, [k6, k7, k8], []⟩,
  ⟨.p z76 none (.fa k2 (.s z6)), k10, [], []⟩,
  ⟨.r z77 none (.ld (.s z76)), k11, [k10], []⟩,
  ⟨.p z78 none (.ix k1 (.s z75) (.s z77)), k12, [k6, k7, k8, k9, k10, k11], []⟩,
  ⟨.r z79 none (.ld (.s z78)), k13, [k6, k7, k8, k9, k10, k11, k12], []⟩,
  ⟨.a z80 none (.bs k3 k1 [(.i .i64 (.n k0))] [(k0, k1, (.s z79))]), k14, [k6, k7, k8, k9, k10, k11, k12, k13], []⟩,
  ⟨.c (some z81) none (.ap k3 k1 k8 (.s z71) (.s z80)), k15, [k1, k2, k3, k4, k5, k6, k7, k8, k9, k10, k11, k12, k13, k14], []⟩,
  ⟨.p z82 none (.nc (.s z66)), k16, [k0, k1, k2, k3, k4, k5, k6, k7, k8, k9, k10, k11, k12, k13, k14, k15], []⟩,
  ⟨.p z83 none (.fa k13 (.s z82)), k17, [k0, k1, k2, k3, k4, k5, k6, k7, k8, k9, k10, k11, k12, k13, k14, k15, k16], []⟩,
  ⟨.p z84 none (.fa k3 (.s z83)), k18, [k0, k1, k2, k3, k4, k5, k6, k7, k8, k9, k10, k11, k12, k13, k14, k15, k16, k17], []⟩,
  ⟨.c none none (.st k1 (.s z84) (.s z81)), k19, [k0, k1, k2, k3, k4, k5, k6, k7, k8, k9, k10, k11, k12, k13, k14, k15, k16, k17, k18], []⟩]) (.reg [.p z30 none (.mv (.s z3)),
  .r z31 none (.lg k11 (.s z6)),
  .k (some z32) none k138 z139 [(.s z30), (.s z31)]])))))))))))
 (.reg [.p z85 none (.ar .add (.s z23) (.c (.a (.i .i64 (.n k1))))),
  .p z23 none (.mv (.s z85))])))))))
 (.reg [.p z86 none (.mv (.s .h)),
  .p z87 none (.mv (.s z3)),
  .p z88 none (.fa k2 (.s z4)),
  .r z89 none (.lg k8 (.s z88)),
  .k (some z90) none k139 z140 [(.s z86), (.s z87), (.s z89)]]))))⟩
noncomputable def rf120 : RF := ⟨[.h], [.s z3], (.seq (.reg [.p z3 none (.mv (.c (.a (.i .i64 (.n k0)))))])
 (.seq (.blk k0 (.seq (.reg [.p z5 none (.mv (.s .h)),
  .p z6 none (.cp .eql (.s z5) (.c (.a (.i .i64 (.n k1))))),
  .p z4 none (.mv (.s z6))])
 (.cond (.s z4) (.seq (.reg [.p z3 none (.mv (.c (.a (.i .i64 (.n k9)))))])
 .rt) (.seq (.reg [.p z8 none (.mv (.s .h)),
  .p z9 none (.cp .eql (.s z8) (.c (.a (.i .i64 (.n k2))))),
  .p z7 none (.mv (.s z9))])
 (.cond (.s z7) (.seq (.reg [.p z3 none (.mv (.c (.a (.i .i64 (.n k3)))))])
 .rt) (.seq (.reg [.p z11 none (.mv (.s .h)),
  .p z12 none (.cp .geq (.s z11) (.c (.a (.i .i64 (.n k3))))),
  .p z13 none (.mv (.s z12)),
  .p z14 (some (z13, true)) (.mv (.s .h)),
  .p z15 (some (z13, true)) (.cp .leq (.s z14) (.c (.a (.i .i64 (.n k14))))),
  .p z16 none (.pk (.s z13) (.s z15) (.c (.a (.b false)))),
  .p z10 none (.mv (.s z16))])
 (.cond (.s z10) (.seq (.reg [.p z3 none (.mv (.c (.a (.i .i64 (.n k7)))))])
 .rt) (.seq (.reg [.p z18 none (.mv (.s .h)),
  .p z19 none (.cp .eql (.s z18) (.c (.a (.i .i64 (.n k15))))),
  .p z17 none (.mv (.s z19))])
 (.cond (.s z17) (.seq (.reg [.p z3 none (.mv (.c (.a (.i .i64 (.n k11)))))])
 .rt) (.seq (.reg [.p z21 none (.mv (.s .h)),
  .p z22 none (.cp .eql (.s z21) (.c (.a (.i .i64 (.n k16))))),
  .p z20 none (.mv (.s z22))])
 (.cond (.s z20) (.seq (.reg [.p z3 none (.mv (.c (.a (.i .i64 (.n k14)))))])
 .rt) (.seq (.reg [.p z24 none (.mv (.s .h)),
  .p z25 none (.cp .eql (.s z24) (.c (.a (.i .i64 (.n k17))))),
  .p z23 none (.mv (.s z25))])
 (.cond (.s z23) (.seq (.reg [.p z3 none (.mv (.c (.a (.i .i64 (.n k8)))))])
 .rt) (.seq (.reg [.p z27 none (.mv (.s .h)),
  .p z28 none (.cp .eql (.s z27) (.c (.a (.i .i64 (.n k18))))),
  .p z26 none (.mv (.s z28))])
 (.cond (.s z26) (.seq (.reg [.p z3 none (.mv (.c (.a (.i .i64 (.n k2)))))])
 .rt) (.seq (.reg [.p z30 none (.mv (.s .h)),
  .p z31 none (.cp .eql (.s z30) (.c (.a (.i .i64 (.n k19))))),
  .p z32 none (.mv (.s z31)),
  .p z33 (some (z32, false)) (.mv (.s .h)),
  .p z34 (some (z32, false)) (.cp .eql (.s z33) (.c (.a (.i .i64 (.n k20))))),
  .p z35 none (.pk (.s z32) (.c (.a (.b true))) (.s z34)),
  .p z29 none (.mv (.s z35))])
 (.cond (.s z29) (.seq (.reg [.p z3 none (.mv (.c (.a (.i .i64 (.n k24)))))])
 .rt) (.seq (.reg [.p z37 none (.mv (.s .h)),
  .p z38 none (.cp .eql (.s z37) (.c (.a (.i .i64 (.n k21))))),
  .p z36 none (.mv (.s z38))])
 (.cond (.s z36) (.seq (.reg [.p z3 none (.mv (.c (.a (.i .i64 (.n k48)))))])
 .rt) .skip)))))))))))))))))))
 (.seq (.reg [.p z3 none (.mv (.c (.a (.i .i64 (.n k0)))))])
 .rt)))⟩
noncomputable def rf121 : RF := ⟨[.h], [.s z3], (.seq (.reg [.a z2 none (.bx k66 k11 (.s .h)),
  .p z3 none (.mv (.c (.a (.b false))))])
 (.seq (.reg [.p z6 none (.fa k0 (.s z2)),
  .r z7 none (.ld (.s z6)),
  .k (some z8) none k120 z121 [(.s z7)],
  .a z4 none (.al k3 k1 (.n .e (.i .i64 (.n k0)) .e)),
  .c none none (.st k1 (.s z4) (.s z8))])
 (.seq (.seq (.reg [.r z9 none (.ld (.s z4)),
  .p z10 none (.cp .eql (.s z9) (.c (.a (.i .i64 (.n k0)))))])
 (.cond (.s z10) (.seq (.reg [.p z3 none (.mv (.c (.a (.b false))))])
 .rt) .skip))
 (.seq (.reg [.p z11 none (.mf k153 [(.s z4)]),
  .p z5 none (.mv (.s z11))])
 (.seq (.reg [.p z12 none (.mv (.s z5)),
  .p z13 none (.fa k1 (.s z2)),
  .r z14 none (.ld (.s z13)),
  .v (some z15) none (.s z12) [(.c (.a (.i .i64 (.n k1)))), (.s z14)],
  .p z16 none (.mv (.s z15)),
  .p z17 (some (z16, false)) (.mv (.s z5)),
  .p z18 (some (z16, false)) (.fa k2 (.s z2)),
  .r z19 (some (z16, false)) (.ld (.s z18)),
  .v (some z20) (some (z16, false)) (.s z17) [(.c (.a (.i .i64 (.n k2)))), (.s z19)],
  .p z21 none (.pk (.s z16) (.c (.a (.b true))) (.s z20)),
  .p z22 none (.mv (.s z21)),
  .p z23 (some (z22, false)) (.mv (.s z5)),
  .p z24 (some (z22, false)) (.fa k3 (.s z2)),
  .r z25 (some (z22, false)) (.ld (.s z24)),
  .v (some z26) (some (z22, false)) (.s z23) [(.c (.a (.i .i64 (.n k4)))), (.s z25)],
  .p z27 none (.pk (.s z22) (.c (.a (.b true))) (.s z26)),
  .p z28 none (.mv (.s z27)),
  .p z29 (some (z28, false)) (.mv (.s z5)),
  .p z30 (some (z28, false)) (.fa k4 (.s z2)),
  .r z31 (some (z28, false)) (.ld (.s z30)),
  .v (some z32) (some (z28, false)) (.s z29) [(.c (.a (.i .i64 (.n k8)))), (.s z31)],
  .p z33 none (.pk (.s z28) (.c (.a (.b true))) (.s z32)),
  .p z34 none (.mv (.s z33)),
  .p z35 (some (z34, false)) (.mv (.s z5)),
  .p z36 (some (z34, false)) (.fa k5 (.s z2)),
  .r z37 (some (z34, false)) (.ld (.s z36)),
  .v (some z38) (some (z34, false)) (.s z35) [(.c (.a (.i .i64 (.n k16)))), (.s z37)],
  .p z39 none (.pk (.s z34) (.c (.a (.b true))) (.s z38)),
  .p z40 none (.mv (.s z39)),
  .p z41 (some (z40, false)) (.mv (.s z5)),
  .p z42 (some (z40, false)) (.fa k6 (.s z2)),
  .r z43 (some (z40, false)) (.ld (.s z42)),
  .v (some z44) (some (z40, false)) (.s z41) [(.c (.a (.i .i64 (.n k32)))), (.s z43)],
  .p z45 none (.pk (.s z40) (.c (.a (.b true))) (.s z44)),
  .p z46 none (.mv (.s z45)),
  .p z47 (some (z46, false)) (.mv (.s z5)),
  .p z48 (some (z46, false)) (.fa k7 (.s z2)),
  .r z49 (some (z46, false)) (.ld (.s z48)),
  .v (some z50) (some (z46, false)) (.s z47) [(.c (.a (.i .i64 (.n k32)))), (.s z49)],
  .p z51 none (.pk (.s z46) (.c (.a (.b true))) (.s z50)),
  .p z52 none (.mv (.s z51)),
  .r z53 (some (z52, false)) (.ld (.s z4)),
  .p z54 (some (z52, false)) (.ar .and (.s z53) (.c (.a (.i .i64 (.n k32))))),
  .p z55 (some (z52, false)) (.cp .eql (.s z54) (.c (.a (.i .i64 (.n k0))))),
  .p z56 (some (z52, false)) (.mv (.s z55)),
  .p z57 (some (z56, true)) (.fa k8 (.s z2)),
  .r z58 (some (z56, true)) (.lg k3 (.s z57)),
  .p z59 (some (z56, true)) (.bd [(.i .i64 (.n k0)), (.i .i64 (.n k0)), (.i .i64 (.n k0))] []),
  .p z60 (some (z56, true)) (.eq true true [k0, k0, k0] (.s z58) (.s z59)),
  .p z61 (some (z52, false)) (.pk (.s z56) (.s z60) (.c (.a (.b false)))),
  .p z62 none (.pk (.s z52) (.c (.a (.b true))) (.s z61)),
  .p z63 none (.nt (.s z62)),
  .p z3 none (.mv (.s z63))])
 .rt)))))⟩
noncomputable def rf122 : RF := ⟨[.h, z2, z3, z4], [.s z9], (.seq (.reg [.a z5 none (.bx k26 k4 (.s .h)),
  .a z6 none (.bx k199 k2 (.s z2)),
  .a z7 none (.bx k66 k11 (.s z3)),
  .p z9 none (.mv (.c (.a (.b false))))])
 (.seq (.reg [.p z11 none (.fa k0 (.s z7)),
  .r z12 none (.ld (.s z11)),
  .k (some z13) none k120 z121 [(.s z12)],
  .p z10 none (.mv (.s z13))])
 (.seq (.seq (.reg [.p z14 none (.mv (.s z10)),
  .p z15 none (.ar .and (.s z14) (.c (.a (.i .i64 (.n k2))))),
  .p z16 none (.cp .neq (.s z15) (.c (.a (.i .i64 (.n k0))))),
  .p z17 none (.mv (.s z16)),
  .r z18 (some (z17, true)) (.lg k2 (.s z6)),
  .p z19 (some (z17, true)) (.fa k2 (.s z7)),
  .r z20 (some (z17, true)) (.ld (.s z19)),
  .p z21 (some (z17, true)) (.mv (.s z4)),
  .k (some z22) (some (z17, true)) k154 z155 [(.s z18), (.s z20), (.s z21)],
  .p z23 (some (z17, true)) (.nt (.s z22)),
  .p z24 none (.pk (.s z17) (.s z23) (.c (.a (.b false)))),
  .p z25 none (.mv (.s z24)),
  .p z26 (some (z25, false)) (.mv (.s z10)),
  .p z27 (some (z25, false)) (.ar .and (.s z26) (.c (.a (.i .i64 (.n k4))))),
  .p z28 (some (z25, false)) (.cp .neq (.s z27) (.c (.a (.i .i64 (.n k0))))),
  .p z29 (some (z25, false)) (.mv (.s z28)),
  .r z30 (some (z29, true)) (.lg k2 (.s z6)),
  .p z31 (some (z29, true)) (.fa k3 (.s z7)),
  .r z32 (some (z29, true)) (.ld (.s z31)),
  .p z33 (some (z29, true)) (.mv (.s z4)),
  .k (some z34) (some (z29, true)) k154 z155 [(.s z30), (.s z32), (.s z33)],
  .p z35 (some (z29, true)) (.nt (.s z34)),
  .p z36 (some (z25, false)) (.pk (.s z29) (.s z35) (.c (.a (.b false)))),
  .p z37 none (.pk (.s z25) (.c (.a (.b true))) (.s z36)),
  .p z38 none (.mv (.s z37)),
  .p z39 (some (z38, false)) (.mv (.s z10)),
  .p z40 (some (z38, false)) (.ar .and (.s z39) (.c (.a (.i .i64 (.n k16))))),
  .p z41 (some (z38, false)) (.cp .neq (.s z40) (.c (.a (.i .i64 (.n k0))))),
  .p z42 (some (z38, false)) (.mv (.s z41)),
  .p z43 (some (z42, true)) (.fa k5 (.s z7)),
  .r z44 (some (z42, true)) (.ld (.s z43)),
  .p z45 (some (z42, true)) (.fa k2 (.s z5)),
  .r z46 (some (z42, true)) (.ld (.s z45)),
  .p z47 (some (z42, true)) (.ln (.s z46)),
  .p z48 (some (z42, true)) (.ar .sub (.s z47) (.c (.a (.i .i64 (.n k1))))),
  .k (some z49) (some (z42, true)) k73 z74 [(.s z44), (.s z48)],
  .p z50 (some (z42, true)) (.nt (.s z49)),
  .p z51 (some (z38, false)) (.pk (.s z42) (.s z50) (.c (.a (.b false)))),
  .p z52 none (.pk (.s z38) (.c (.a (.b true))) (.s z51))])
 (.cond (.s z52) (.seq (.reg [.p z9 none (.mv (.c (.a (.b false))))])
 .rt) .skip))
 (.seq (.seq (.reg [.p z53 none (.fa k0 (.s z7)),
  .r z54 none (.ld (.s z53))])
 (.blk k0 (.seq (.seq (.reg [.p z56 none (.cp .eql (.s z54) (.c (.a (.i .i64 (.n k15))))),
  .p z55 none (.mv (.s z56))])
 (.cond (.s z55) .skip (.seq (.reg [.p z57 none (.cp .eql (.s z54) (.c (.a (.i .i64 (.n k16))))),
  .p z55 none (.mv (.s z57))])
 (.cond (.s z55) .skip (.reg [.p z58 none (.cp .eql (.s z54) (.c (.a (.i .i64 (.n k17))))),
  .p z55 none (.mv (.s z58))])))))
 (.cond (.s z55) (.seq (.reg [.p z59 none (.fa k4 (.s z7)),
  .r z60 none (.ld (.s z59)),
  .p z61 none (.fa k3 (.s z5)),
  .r z62 none (.ld (.s z61)),
  .p z63 none (.ln (.s z62)),
  .p z64 none (.ar .sub (.s z63) (.c (.a (.i .i64 (.n k1))))),
  .k (some z65) none k73 z74 [(.s z60), (.s z64)],
  .p z9 none (.mv (.s z65))])
 .rt) (.seq (.seq (.reg [.p z67 none (.cp .eql (.s z54) (.c (.a (.i .i64 (.n k19))))),
  .p z66 none (.mv (.s z67))])
 (.cond (.s z66) .skip (.reg [.p z68 none (.cp .eql (.s z54) (.c (.a (.i .i64 (.n k20))))),
  .p z66 none (.mv (.s z68))])))
 (.cond (.s z66) (.seq (.reg [.p z69 none (.fa k4 (.s z7)),
  .r z70 none (.ld (.s z69)),
  .k (some z71) none k73 z74 [(.s z70), (.c (.a (.i .i64 (.n k9999))))],
  .p z9 none (.mv (.s z71))])
 .rt) .skip))))))
 (.seq (.reg [.p z9 none (.mv (.c (.a (.b true))))])
 .rt)))))⟩
noncomputable def rf123 : RF := ⟨[.h, z2, z3, z4], [.s z9], (.seq (.reg [.a z5 none (.bx k26 k4 (.s .h)),
  .a z6 none (.bx k199 k2 (.s z2)),
  .a z7 none (.bx k66 k11 (.s z3)),
  .p z9 none (.mv (.c (.a (.b false))))])
 (.seq (.seq (.reg [.p z10 none (.fa k6 (.s z7)),
  .r z11 none (.ld (.s z10)),
  .k (some z12) none k73 z74 [(.s z11), (.c (.a (.i .i64 (.n k23))))],
  .p z13 none (.nt (.s z12)),
  .p z14 none (.mv (.s z13)),
  .p z15 (some (z14, false)) (.fa k7 (.s z7)),
  .r z16 (some (z14, false)) (.ld (.s z15)),
  .k (some z17) (some (z14, false)) k73 z74 [(.s z16), (.c (.a (.i .i64 (.n k3))))],
  .p z18 (some (z14, false)) (.nt (.s z17)),
  .p z19 none (.pk (.s z14) (.c (.a (.b true))) (.s z18))])
 (.cond (.s z19) (.seq (.reg [.p z9 none (.mv (.c (.a (.b false))))])
 .rt) .skip))
 (.seq (.seq (.reg [.p z20 none (.fa k8 (.s z7)),
  .p z21 none (.fa k0 (.s z20)),
  .r z22 none (.ld (.s z21))])
 (.blk k0 (.seq (.reg [.p z24 none (.cp .eql (.s z22) (.c (.a (.i .i64 (.n k0))))),
  .p z23 none (.mv (.s z24))])
 (.cond (.s z23) (.seq (.reg [.p z25 none (.fa k8 (.s z7)),
  .p z26 none (.fa k1 (.s z25)),
  .r z27 none (.ld (.s z26)),
  .p z28 none (.cp .eql (.s z27) (.c (.a (.i .i64 (.n k0))))),
  .p z29 none (.mv (.s z28)),
  .p z30 (some (z29, true)) (.fa k8 (.s z7)),
  .p z31 (some (z29, true)) (.fa k2 (.s z30)),
  .r z32 (some (z29, true)) (.ld (.s z31)),
  .p z33 (some (z29, true)) (.cp .eql (.s z32) (.c (.a (.i .i64 (.n k0))))),
  .p z34 none (.pk (.s z29) (.s z33) (.c (.a (.b false)))),
  .p z9 none (.mv (.s z34))])
 .rt) (.seq (.reg [.p z36 none (.cp .eql (.s z22) (.c (.a (.i .i64 (.n k1))))),
  .p z35 none (.mv (.s z36))])
 (.cond (.s z35) (.seq (.reg [.p z37 none (.fa k8 (.s z7)),
  .p z38 none (.fa k1 (.s z37)),
  .r z39 none (.ld (.s z38)),
  .p z40 none (.cp .eql (.s z39) (.c (.a (.i .i64 (.n k0))))),
  .p z9 none (.mv (.s z40))])
 .rt) (.seq (.reg [.p z42 none (.cp .eql (.s z22) (.c (.a (.i .i64 (.n k2))))),
  .p z41 none (.mv (.s z42))])
 (.cond (.s z41) (.seq (.reg [.r z43 none (.lg k2 (.s z6)),
  .p z44 none (.fa k8 (.s z7)),
  .p z45 none (.fa k1 (.s z44)),
  .r z46 none (.ld (.s z45)),
  .p z47 none (.mv (.s z4)),
  .k (some z48) none k154 z155 [(.s z43), (.s z46), (.s z47)],
  .p z9 none (.mv (.s z48))])
 .rt) (.seq (.reg [.p z50 none (.cp .eql (.s z22) (.c (.a (.i .i64 (.n k3))))),
  .p z49 none (.mv (.s z50))])
 (.cond (.s z49) (.seq (.reg [.p z51 none (.fa k8 (.s z7)),
  .p z52 none (.fa k1 (.s z51)),
  .r z53 none (.ld (.s z52)),
  .p z54 none (.fa k0 (.s z5)),
  .r z55 none (.ld (.s z54)),
  .p z56 none (.ar .sub (.s z55) (.c (.a (.i .i64 (.n k1))))),
  .k (some z57) none k73 z74 [(.s z53), (.s z56)],
  .p z9 none (.mv (.s z57))])
 .rt) .skip))))))))))
 (.seq (.reg [.p z9 none (.mv (.c (.a (.b false))))])
 .rt))))⟩
noncomputable def rf124 : RF := ⟨[.h, z2, z3, z4], [.s z9], (.seq (.reg [.a z5 none (.bx k26 k4 (.s .h)),
  .a z6 none (.bx k199 k2 (.s z2)),
  .a z7 none (.bx k58 k8 (.s z3)),
  .p z9 none (.mv (.c (.a (.b false))))])
 (.seq (.seq (.reg [.r z14 none (.lg k2 (.s z6)),
  .p z15 none (.mv (.s z4)),
  .p z16 none (.fa k3 (.s z7)),
  .r z17 none (.ld (.s z16)),
  .k (some z18) none k155 z156 [(.s z14), (.s z15), (.s z17)],
  .p z19 none (.nt (.s z18)),
  .p z20 none (.mv (.s z19)),
  .r z21 (some (z20, false)) (.lg k2 (.s z6)),
  .p z22 (some (z20, false)) (.mv (.s z4)),
  .p z23 (some (z20, false)) (.fa k4 (.s z7)),
  .p z24 (some (z20, false)) (.ia k2 k2 (.s z23) (.c (.a (.i .i64 (.n k0))))),
  .p z25 (some (z20, false)) (.fa k1 (.s z24)),
  .r z26 (some (z20, false)) (.ld (.s z25)),
  .k (some z27) (some (z20, false)) k155 z156 [(.s z21), (.s z22), (.s z26)],
  .p z28 (some (z20, false)) (.nt (.s z27)),
  .p z29 none (.pk (.s z20) (.c (.a (.b true))) (.s z28)),
  .p z30 none (.mv (.s z29)),
  .r z31 (some (z30, false)) (.lg k2 (.s z6)),
  .p z32 (some (z30, false)) (.mv (.s z4)),
  .p z33 (some (z30, false)) (.fa k4 (.s z7)),
  .p z34 (some (z30, false)) (.ia k2 k2 (.s z33) (.c (.a (.i .i64 (.n k1))))),
  .p z35 (some (z30, false)) (.fa k1 (.s z34)),
  .r z36 (some (z30, false)) (.ld (.s z35)),
  .k (some z37) (some (z30, false)) k155 z156 [(.s z31), (.s z32), (.s z36)],
  .p z38 (some (z30, false)) (.nt (.s z37)),
  .p z39 none (.pk (.s z30) (.c (.a (.b true))) (.s z38))])
 (.cond (.s z39) (.seq (.reg [.p z9 none (.mv (.c (.a (.b false))))])
 .rt) .skip))
 (.seq (.reg [.p z10 none (.mv (.c (.a (.i .i64 (.n k0)))))])
 (.seq (.seq (.reg [.p z40 none (.fa k0 (.s z7)),
  .r z41 none (.ld (.s z40))])
 (.blk k0 (.seq (.reg [.p z43 none (.cp .eql (.s z41) (.c (.a (.i .i64 (.n k1))))),
  .p z42 none (.mv (.s z43))])
 (.cond (.s z42) (.reg [.p z10 none (.mv (.c (.a (.i .i64 (.n k1)))))]) (.seq (.reg [.p z45 none (.cp .eql (.s z41) (.c (.a (.i .i64 (.n k2))))),
  .p z44 none (.mv (.s z45))])
 (.cond (.s z44) (.reg [.p z10 none (.mv (.c (.a (.i .i64 (.n k2)))))]) (.seq (.reg [.p z47 none (.cp .eql (.s z41) (.c (.a (.i .i64 (.n k3))))),
  .p z46 none (.mv (.s z47))])
 (.cond (.s z46) (.seq (.reg [.p z10 none (.mv (.c (.a (.i .i64 (.n k1)))))])
 (.seq (.reg [.p z48 none (.fa k4 (.s z7)),
  .p z49 none (.ia k2 k2 (.s z48) (.c (.a (.i .i64 (.n k1))))),
  .r z50 none (.lg k2 (.s z49)),
  .k (some z51) none k156 z157 [(.s z50)],
  .p z52 none (.nt (.s z51))])
 (.cond (.s z52) (.reg [.p z10 none (.mv (.c (.a (.i .i64 (.n k2)))))]) .skip))) (.seq (.seq (.reg [.p z54 none (.cp .eql (.s z41) (.c (.a (.i .i64 (.n k4))))),
  .p z53 none (.mv (.s z54))])
 (.cond (.s z53) .skip (.seq (.reg [.p z55 none (.cp .eql (.s z41) (.c (.a (.i .i64 (.n k5))))),
  .p z53 none (.mv (.s z55))])
 (.cond (.s z53) .skip (.reg [.p z56 none (.cp .eql (.s z41) (.c (.a (.i .i64 (.n k6))))),
  .p z53 none (.mv (.s z56))])))))
 (.cond (.s z53) .skip (.seq (.reg [.p z9 none (.mv (.c (.a (.b false))))])
 .rt)))))))))))
 (.seq (.seq (.reg [.p z57 none (.fa k0 (.s z7)),
  .r z58 none (.ld (.s z57)),
  .p z59 none (.cp .eql (.s z58) (.c (.a (.i .i64 (.n k2))))),
  .p z60 none (.mv (.s z59)),
  .p z61 (some (z60, false)) (.fa k0 (.s z7)),
  .r z62 (some (z60, false)) (.ld (.s z61)),
  .p z63 (some (z60, false)) (.cp .eql (.s z62) (.c (.a (.i .i64 (.n k4))))),
  .p z64 none (.pk (.s z60) (.c (.a (.b true))) (.s z63)),
  .p z65 none (.mv (.s z64)),
  .p z66 (some (z65, false)) (.fa k0 (.s z7)),
  .r z67 (some (z65, false)) (.ld (.s z66)),
  .p z68 (some (z65, false)) (.cp .eql (.s z67) (.c (.a (.i .i64 (.n k5))))),
  .p z69 none (.pk (.s z65) (.c (.a (.b true))) (.s z68)),
  .p z11 none (.mv (.s z69))])
 (.seq (.reg [.p z70 none (.mv (.s z11))])
 (.cond (.s z70) (.seq (.reg [.r z71 none (.lg k2 (.s z6)),
  .p z72 none (.fa k1 (.s z7)),
  .r z73 none (.ld (.s z72)),
  .p z74 none (.mv (.s z4)),
  .k (some z75) none k154 z155 [(.s z71), (.s z73), (.s z74)],
  .p z76 none (.nt (.s z75))])
 (.cond (.s z76) (.seq (.reg [.p z9 none (.mv (.c (.a (.b false))))])
 .rt) .skip)) (.seq (.reg [.p z77 none (.fa k1 (.s z7)),
  .r z78 none (.ld (.s z77)),
  .p z79 none (.cp .neq (.s z78) (.c (.a (.i .i64 (.n k0)))))])
 (.cond (.s z79) (.seq (.reg [.p z9 none (.mv (.c (.a (.b false))))])
 .rt) .skip)))))
 (.seq (.seq (.reg [.p z80 none (.fa k0 (.s z7)),
  .r z81 none (.ld (.s z80)),
  .p z82 none (.cp .eql (.s z81) (.c (.a (.i .i64 (.n k3))))),
  .p z83 none (.mv (.s z82)),
  .p z84 (some (z83, false)) (.fa k0 (.s z7)),
  .r z85 (some (z83, false)) (.ld (.s z84)),
  .p z86 (some (z83, false)) (.cp .eql (.s z85) (.c (.a (.i .i64 (.n k6))))),
  .p z87 none (.pk (.s z83) (.c (.a (.b true))) (.s z86))])
 (.cond (.s z87) (.seq (.reg [.p z88 none (.fa k2 (.s z7)),
  .r z89 none (.ld (.s z88)),
  .k (some z90) none k73 z74 [(.s z89), (.c (.a (.i .i64 (.n k7))))],
  .p z91 none (.nt (.s z90)),
  .p z92 none (.mv (.s z91)),
  .p z93 (some (z92, false)) (.fa k3 (.s z7)),
  .r z94 (some (z92, false)) (.ld (.s z93)),
  .p z95 (some (z92, false)) (.ln (.s z94)),
  .p z96 (some (z92, false)) (.cp .gtr (.s z95) (.c (.a (.i .i64 (.n k4))))),
  .p z97 none (.pk (.s z92) (.c (.a (.b true))) (.s z96))])
 (.cond (.s z97) (.seq (.reg [.p z9 none (.mv (.c (.a (.b false))))])
 .rt) .skip)) (.seq (.reg [.p z98 none (.fa k2 (.s z7)),
  .r z99 none (.ld (.s z98)),
  .p z100 none (.cp .neq (.s z99) (.c (.a (.i .i64 (.n k0))))),
  .p z101 none (.mv (.s z100)),
  .p z102 (some (z101, false)) (.fa k3 (.s z7)),
  .r z103 (some (z101, false)) (.ld (.s z102)),
  .p z104 (some (z101, false)) (.ln (.s z103)),
  .p z105 (some (z101, false)) (.cp .neq (.s z104) (.c (.a (.i .i64 (.n k0))))),
  .p z106 none (.pk (.s z101) (.c (.a (.b true))) (.s z105))])
 (.cond (.s z106) (.seq (.reg [.p z9 none (.mv (.c (.a (.b false))))])
 .rt) .skip))))
 (.seq (.seq (.reg [.p z107 none (.fa k4 (.s z7)),
  .r z108 none (.lg k4 (.s z107)),
  .p z109 none (.mv (.c (.a (.i .i64 (.n k0)))))])
 (.blk k1 (.loop (.seq (.reg [.p z110 none (.cp .lss (.s z109) (.c (.a (.i .i64 (.n k2)))))])
 (.seq (.cond (.s z110) .skip (.ex k1))
 (.seq (.blk k2 (.seq (.reg [.p z111 none (.mv (.s z109)),
  .p z112 none (.ig k2 k2 (.s z108) (.s z109)),
  .a z13 none (.al k55 k2 (.n (.n .e .s0 .e) (.i .i64 (.n k0)) .e)),
  .p z12 none (.mv (.s z111)),
  .c none none (.st k2 (.s z13) (.s z112))])
 (.seq (.reg [.p z113 none (.mv (.s z12)),
  .p z114 none (.mv (.s z10)),
  .p z115 none (.cp .lss (.s z113) (.s z114)),
  .p z116 none (.mv (.s z115)),
  .r z117 (some (z116, true)) (.lg k4 (.s z5)),
  .r z118 (some (z116, true)) (.lg k2 (.s z13)),
  .p z119 (some (z116, true)) (.fa k0 (.s z7)),
  .r z120 (some (z116, true)) (.ld (.s z119)),
  .k (some z121) (some (z116, true)) k157 z158 [(.s z117), (.s z118), (.s z120)],
  .p z122 (some (z116, true)) (.nt (.s z121)),
  .p z123 none (.pk (.s z116) (.s z122) (.c (.a (.b false)))),
  .p z124 none (.mv (.s z123)),
  .p z125 (some (z124, false)) (.mv (.s z12)),
  .p z126 (some (z124, false)) (.mv (.s z10)),
  .p z127 (some (z124, false)) (.cp .geq (.s z125) (.s z126)),
  .p z128 (some (z124, false)) (.mv (.s z127)),
  .r z129 (some (z128, true)) (.lg k2 (.s z13)),
  .k (some z130) (some (z128, true)) k156 z157 [(.s z129)],
  .p z131 (some (z128, true)) (.nt (.s z130)),
  .p z132 (some (z124, false)) (.pk (.s z128) (.s z131) (.c (.a (.b false)))),
  .p z133 none (.pk (.s z124) (.c (.a (.b true))) (.s z132))])
 (.cond (.s z133) (.seq (.reg [.p z9 none (.mv (.c (.a (.b false))))])
 .rt) .skip))))
 (.reg [.p z134 none (.ar .add (.s z109) (.c (.a (.i .i64 (.n k1))))),
  .p z109 none (.mv (.s z134))])))))))
 (.seq (.reg [.p z9 none (.mv (.c (.a (.b true))))])
 .rt))))))))⟩
noncomputable def rf129 : RF := ⟨[.h], [.s z3], (.seq (.reg [.p z3 none (.mv (.c (.a .s0)))])
 (.seq (.seq (.reg [.p z4 none (.mv (.s .h)),
  .p z5 none (.ne false (.s z4))])
 (.cond (.s z5) (.seq (.reg [.p z3 none (.mv (.c (.a .s0)))])
 .rt) .skip))
 (.seq (.reg [.a z6 none (.bs k3 k0 [] []),
  .p z7 none (.mv (.s .h)),
  .c (some z8) none (.ap k3 k1 k8 (.s z6) (.s z7)),
  .p z3 none (.mv (.s z8))])
 .rt)))⟩
noncomputable def rf133 : RF := ⟨[.h, z2, z3], [], (.seq (.seq (.reg [.p z13 none (.mv (.s .h)),
  .p z14 none (.nc (.s z13)),
  .p z15 none (.fa k10 (.s z14)),
  .r z16 none (.ld (.s z15)),
  .p z17 none (.cp .geq (.s z16) (.c (.a (.i .i64 (.n k5000)))))])
 (.cond (.s z17) (.seq (.reg [.p z18 none (.mv (.s .h)),
  .k (some z19) none k135 z136 [(.s z18), (.c (.a (.i .i64 (.n k13))))]])
 .rt) .skip))
 (.seq (.reg [.p z20 none (.mv (.s .h)),
  .p z21 none (.nc (.s z20)),
  .p z22 none (.fa k10 (.s z21)),
  .r z23 none (.ld (.s z22)),
  .p z24 none (.ar .add (.s z23) (.c (.a (.i .i64 (.n k1))))),
  .p z25 none (.nc (.s z20)),
  .p z26 none (.fa k10 (.s z25)),
  .c none none (.st k1 (.s z26) (.s z24))])
 (.seq (.reg [.p z27 none (.mv (.s .h)),
  .k (some z28) none k134 z135 [(.s z27)],
  .p z7 none (.mv (.s z28))])
 (.seq (.reg [.p z29 none (.mv (.s z3)),
  .p z30 none (.ln (.s z29)),
  .p z8 none (.mv (.s z30))])
 (.seq (.seq (.reg [.p z31 none (.mv (.s z7)),
  .p z32 none (.nc (.s z31)),
  .p z33 none (.fa k4 (.s z32)),
  .p z34 none (.fa k1 (.s z33)),
  .r z35 none (.ld (.s z34)),
  .p z36 none (.mv (.s z2)),
  .p z37 none (.ix k10 (.s z35) (.s z36)),
  .p z38 none (.fa k1 (.s z37)),
  .r z39 none (.ld (.s z38)),
  .p z40 none (.ln (.s z39)),
  .p z41 none (.mv (.c (.a (.i .i64 (.n k0)))))])
 (.blk k0 (.loop (.seq (.reg [.p z42 none (.cp .lss (.s z41) (.s z40))])
 (.seq (.cond (.s z42) .skip (.ex k0))
 (.seq (.blk k1 (.seq (.reg [.p z43 none (.ix k11 (.s z39) (.s z41)),
  .r z44 none (.lg k11 (.s z43)),
  .a z10 none (.al k66 k11 (.n (.n (.n (.n .e (.i .i64 (.n k0)) .e) (.i .i64 (.n k0)) .e) (.i .i64 (.n k0)) (.n (.n .e (.i .i64 (.n k0)) .e) (.i .i64 (.n k0)) .e)) (.i .i64 (.n k0)) (.n (.n (.n .e (.i .i64 (.n k0)) .e) (.i .i64 (.n k0)) .e) (.i .i64 (.n k0)) (.n (.n .e (.i .i64 (.n k0)) .e) (.i .i64 (.n k0)) .e)))),
  .c none none (.st k11 (.s z10) (.s z44))])
 (.reg [.p z45 none (.mv (.s z8)),
  .p z46 none (.fa k1 (.s z10)),
  .r z47 none (.ld (.s z46)),
  .p z48 none (.ar .add (.s z47) (.c (.a (.i .i64 (.n k1))))),
  .p z49 none (.mn true (.s z45) (.s z48)),
  .p z8 none (.mv (.s z49))])))
 (.reg [.p z50 none (.ar .add (.s z41) (.c (.a (.i .i64 (.n k1))))),
  .p z41 none (.mv (.s z50))])))))))
 (.seq (.reg [.p z51 none (.mv (.s z7)),
  .p z52 none (.mv (.s z7)),
  .p z53 none (.mv (.s z2)),
  .p z54 none (.bd [(.b false), (.i .i64 (.n k0)), (.i .i64 (.n k0)), .m0] []),
  .p z55 none (.nc (.s z51)),
  .p z56 none (.fa k9 (.s z55)),
  .c none none (.st k1 (.s z56) (.s z53)),
  .p z57 none (.nc (.s z52)),
  .p z58 none (.fa k0 (.s z57)),
  .c none none (.st k4 (.s z58) (.s z54))])
 (.seq (.drw [⟨.p z59 none (.mv (.s z7)), k0, [], []⟩,
  ⟨.p z60 none (.mv (.s z7)), k1, [], []⟩,
  ⟨.p z61 none (.mv (.s z8)), k2, [], []⟩,
  ⟨.p z63 none (.mv (.s z8)), k4, [], []⟩,
  ⟨.a z62 none (.ms k3 k8 [(.i .i64 (.n k0))] (.s z61)), k3, [k2], []⟩,
  ⟨.p z65 none (.nc (.s z59)), k6, [k0, k2, k3], []⟩,
  ⟨.p z66 none (.fa k10 (.s z65)), k7, [k0, k2, k3, k6], []⟩,
  ⟨.c none none (.st k1 (.s z66) (.s z62)), k8, [k0, k2, k3, k6, k7], []⟩,
  ⟨.a z64 none (.ms k4 k1 [(.b false)] (.s z63)), k5, [k4], []⟩,
  ⟨.p z67 none (.nc (.s z60)), k9, [k0, k1, k2, k3, k4, k5, k6, k7, k8], []⟩,
  ⟨.p z68 none (.fa k11 (.s z67)), k10, [k0, k1, k2, k3, k4, k5, k6, k7, k8, k9], []⟩,
  ⟨.c none none (.st k1 (.s z68) (.s z64)), k11, [k0, k1, k2, k3, k4, k5, k6, k7, k8, k9, k10], []⟩])
 (.seq (.reg [.p z69 none (.mv (.s z3)),
  .p z70 none (.ln (.s z69)),
  .p z71 none (.mv (.c (.a (.i .i64 (.n k0)))))])
 (.blk k2 (.loop (.seq (.reg [.p z72 none (.cp .lss (.s z71) (.s z70))])
 (.seq (.cond (.s z72) .skip (.ex k2))
 (.seq (.blk k3 (.seq (.reg [.p z73 none (.mv (.s z71)),
  .p z74 none (.ix k1 (.s z69) (.s z71)),
  .r z75 none (.ld (.s z74)),
  .p z11 none (.mv (.s z73)),
  .p z12 none (.mv (.s z75))])
 (.reg [.p z76 none (.mv (.s z7)),
  .p z77 none (.mv (.s z11)),
  .p z78 none (.mv (.s z12)),
  .k (some z79) none k164 z165 [(.s z76), (.s z77), (.s z78)]])))
 (.reg [.p z80 none (.ar .add (.s z71) (.c (.a (.i .i64 (.n k1))))),
  .p z71 none (.mv (.s z80))]))))))))))))))⟩
noncomputable def rf134 : RF := ⟨[.h], [.s z3], (.seq (.reg [.p z3 none (.mv (.c (.a .p0)))])
 (.seq (.drw [⟨.p z4 none (.mv (.s .h)), k0, [], []⟩,
  ⟨.p z5 none (.nc (.s z4)), k1, [k0], []⟩,
  ⟨.p z6 none (.fa k5 (.s z5)), k2, [k0, k1], []⟩,
  ⟨.r z7 none (.ld (.s z6)), k3, [k0, k1, k2], []⟩,
  ⟨.p z8 none (.mv (.s .h)), k4, [], []⟩,
  ⟨.p z9 none (.nc (.s z8)), k5, [k4], []⟩,
  ⟨.p z10 none (.fa k5 (.s z9)), k6, [k4, k5], []⟩,
  ⟨.r z11 none (.ld (.s z10)), k7, [k4, k5, k6], []⟩,
  ⟨.p z12 none (.ln (.s z11)), k8, [k4, k5, k6, k7], []⟩,
  ⟨.p z13 none (.ar .sub (.s z12) (.c (.a (.i .i64 (.n k1))))), k9, [k4, k5, k6, k7, k8], []⟩,
  ⟨.p z14 none (.ix k1 (.s z7) (.s z13)), k10, [k0, k1, k2, k3, k4, k5, k6, k7, k8, k9], []⟩,
  ⟨.r z15 none (.ld (.s z14)), k11, [k0, k1, k2, k3, k4, k5, k6, k7, k8, k9, k10], []⟩,
  ⟨.p z3 none (.mv (.s z15)), k12, [k0, k1, k2, k3, k4, k5, k6, k7, k8, k9, k10, k11], []⟩])
 .rt))⟩
noncomputable def rf135 : RF := ⟨[.h, z2], [], (.seq (.reg [.p z5 none (.mv (.s .h)),
  .p z6 none (.nc (.s z5)),
  .p z7 none (.fa k11 (.s z6)),
  .c none none (.st k1 (.s z7) (.c (.a (.b true))))])
 (.reg [.p z8 none (.mv (.s .h)),
  .p z9 none (.mv (.s z2)),
  .p z10 none (.nc (.s z8)),
  .p z11 none (.fa k13 (.s z10)),
  .p z12 none (.fa k0 (.s z11)),
  .c none none (.st k1 (.s z12) (.s z9))]))⟩
noncomputable def rf136 : RF := ⟨[.h, z2, z3], [], (.seq (.reg [.a z5 none (.bx k66 k11 (.s z2))])
 (.seq (.reg [.p z9 none (.mv (.s .h)),
  .p z10 none (.fa k5 (.s z5)),
  .r z11 none (.ld (.s z10)),
  .p z12 none (.fa k4 (.s z5)),
  .r z13 none (.ld (.s z12)),
  .a z14 none (.mm),
  .p z15 none (.bd [(.b false), (.i .i64 (.n k0)), (.i .i64 (.n k0)), .m0] [(k0, k1, (.c (.a (.b true)))), (k1, k1, (.s z11)), (k2, k1, (.s z13)), (k3, k1, (.s z14))]),
  .p z16 none (.nc (.s z9)),
  .p z17 none (.fa k0 (.s z16)),
  .c none none (.st k4 (.s z17) (.s z15))])
 (.seq (.reg [.p z18 none (.mv (.s z3)),
  .p z19 none (.ln (.s z18)),
  .p z20 none (.mv (.c (.a (.i .i64 (.n k0)))))])
 (.blk k0 (.loop (.seq (.reg [.p z21 none (.cp .lss (.s z20) (.s z19))])
 (.seq (.cond (.s z21) .skip (.ex k0))
 (.seq (.blk k1 (.seq (.reg [.p z22 none (.ix k11 (.s z18) (.s z20)),
  .r z23 none (.lg k11 (.s z22)),
  .a z8 none (.al k66 k11 (.n (.n (.n (.n .e (.i .i64 (.n k0)) .e) (.i .i64 (.n k0)) .e) (.i .i64 (.n k0)) (.n (.n .e (.i .i64 (.n k0)) .e) (.i .i64 (.n k0)) .e)) (.i .i64 (.n k0)) (.n (.n (.n .e (.i .i64 (.n k0)) .e) (.i .i64 (.n k0)) .e) (.i .i64 (.n k0)) (.n (.n .e (.i .i64 (.n k0)) .e) (.i .i64 (.n k0)) .e)))),
  .c none none (.st k11 (.s z8) (.s z23))])
 (.seq (.reg [.p z24 none (.fa k0 (.s z8)),
  .r z25 none (.ld (.s z24)),
  .p z26 none (.cp .eql (.s z25) (.c (.a (.i .i64 (.n k21)))))])
 (.cond (.s z26) (.drw [⟨.p z27 none (.mv (.s .h)), k0, [], []⟩,
  ⟨.p z28 none (.nc (.s z27)), k1, [k0], []⟩,
  ⟨.p z29 none (.fa k0 (.s z28)), k2, [k0, k1], []⟩,
  ⟨.p z30 none (.fa k3 (.s z29)), k3, [k0, k1, k2], []⟩,
  ⟨.r z31 none (.ld (.s z30)), k4, [k0, k1, k2, k3], []⟩,
  ⟨.p z32 none (.fa k5 (.s z8)), k5, [], []⟩,
  ⟨.r z33 none (.ld (.s z32)), k6, [k5], []⟩,
  ⟨.p z34 none (.fa k6 (.s z8)), k7, [], []⟩,
  ⟨.r z35 none (.ld (.s z34)), k8, [k7], []⟩,
  ⟨.p z36 none (.fa k7 (.s z8)), k9, [], []⟩,
  ⟨.r z37 none (.ld (.s z36)), k10, [k9], []⟩,
  ⟨.p z38 none (.bd [(.i .i64 (.n k0)), (.i .i64 (.n k0)), (.i .i64 (.n k0))] [(k0, k1, (.s z33)), (k1, k1, (.s z35)), (k2, k1, (.s z37))]), k11, [k5, k6, k7, k8, k9, k10], []⟩,
  ⟨.p z39 none (.fa k8 (.s z8)), k12, [], []⟩,
  ⟨.r z40 none (.lg k3 (.s z39)), k13, [k12], []⟩,
  ⟨.c none none (.mu true [k0, k0, k0] (.s z31) (.s z38) (.s z40)), k14, [k0, k1, k2, k3, k4, k5, k6, k7, k8, k9, k10, k11, k12, k13], []⟩]) .skip))))
 (.reg [.p z41 none (.ar .add (.s z20) (.c (.a (.i .i64 (.n k1))))),
  .p z20 none (.mv (.s z41))])))))))))⟩
noncomputable def rf137 : RF := ⟨[.h], [], (.seq (.reg [.a z2 none (.bx k174 k1 (.s .h))])
 (.seq (.reg [.r z7 none (.ld (.s z2)),
  .p z8 none (.nc (.s z7)),
  .p z9 none (.fa k9 (.s z8)),
  .r z10 none (.ld (.s z9)),
  .p z3 none (.mv (.s z10))])
 (.seq (.reg [.r z11 none (.ld (.s z2)),
  .p z12 none (.nc (.s z11)),
  .p z13 none (.fa k9 (.s z12)),
  .r z14 none (.ld (.s z13)),
  .p z15 none (.ar .add (.s z14) (.c (.a (.i .i64 (.n k1))))),
  .p z16 none (.nc (.s z11)),
  .p z17 none (.fa k9 (.s z16)),
  .c none none (.st k1 (.s z17) (.s z15))])
 (.seq (.reg [.r z18 none (.ld (.s z2)),
  .p z19 none (.nc (.s z18)),
  .p z20 none (.fa k10 (.s z19)),
  .c none none (.st k1 (.s z20) (.c (.a (.i .i64 (.n k0)))))])
 (.seq (.seq (.drw [⟨.p z21 none (.mv (.s z3)), k0, [], []⟩,
  ⟨.r z22 none (.ld (.s z2)), k1, [], []⟩,
  ⟨.p z23 none (.nc (.s z22)), k2, [k1], []⟩,
  ⟨.p z24 none (.fa k7 (.s z23)), k3, [k1, k2], []⟩,
  ⟨.r z25 none (.ld (.s z24)), k4, [k1, k2, k3], []⟩,
  ⟨.p z26 none (.cp .lss (.s z21) (.s z25)), k5, [k0, k1, k2, k3, k4], []⟩,
  ⟨.p z27 none (.mv (.s z26)), k6, [k0, k1, k2, k3, k4, k5], []⟩,
  ⟨.r z28 (some (z27, false)) (.ld (.s z2)), k7, [k0, k1, k2, k3, k4, k5, k6], []⟩,
  ⟨.p z29 (some (z27, false)) (.nc (.s z28)), k8, [k0, k1, k2, k3, k4, k5, k6, k7], []⟩,
  ⟨.p z30 (some (z27, false)) (.fa k12 (.s z29)), k9, [k0, k1, k2, k3, k4, k5, k6, k7, k8], []⟩,
  ⟨.r z31 (some (z27, false)) (.ld (.s z30)), k10, [k0, k1, k2, k3, k4, k5, k6, k7, k8, k9], []⟩,
  ⟨.p z32 (some (z27, false)) (.ln (.s z31)), k11, [k0, k1, k2, k3, k4, k5, k6, k7, k8, k9, k10], []⟩,
  ⟨.r z33 (some (z27, false)) (.ld (.s z2)), k12, [k0, k1, k2, k3, k4, k5, k6], []⟩,
  ⟨.p z34 (some (z27, false)) (.nc (.s z33)), k13, [k0, k1, k2, k3, k4, k5, k6, k12], []⟩,
  ⟨.p z35 (some (z27, false)) (.fa k8 (.s z34)), k14, [k0, k1, k2, k3, k4, k5, k6, k12, k13], []⟩,
  ⟨.r z36 (some (z27, false)) (.ld (.s z35)), k15, [k0, k1, k2, k3, k4, k5, k6, k12, k13, k14], []⟩,
  ⟨.p z37 (some (z27, false)) (.cp .geq (.s z32) (.s z36)), k16, [k0, k1, k2, k3, k4, k5, k6, k7, k8, k9, k10, k11, k12, k13, k14, k15], []⟩,
  ⟨.p z38 none (.pk (.s z27) (.c (.a (.b true))) (.s z37)), k17, [k0, k1, k2, k3, k4, k5, k6, k7, k8, k9, k10, k11, k12, k13, k14, k15, k16], []⟩])
 (.cond (.s z38) .rt .skip))
 (.seq (.reg [.a z4 none (.al k110 k1 (.n .e .s0 .e))])
 (.seq (.seq (.reg [.r z39 none (.ld (.s z2)),
  .p z40 none (.nc (.s z39)),
  .p z41 none (.fa k5 (.s z40)),
  .r z42 none (.ld (.s z41)),
  .k (some z43) none k165 z166 [(.s z42)]])
 (.blk k0 (.rf (.s z43) [z44, z45] .h)))
 (.drw [⟨.r z53 none (.ld (.s z2)), k0, [], []⟩,
  ⟨.r z54 none (.ld (.s z2)), k1, [], []⟩,
  ⟨.p z55 none (.nc (.s z54)), k2, [k1], []⟩,
  ⟨.p z56 none (.fa k12 (.s z55)), k3, [k1, k2], []⟩,
  ⟨.r z57 none (.ld (.s z56)), k4, [k1, k2, k3], []⟩,
  ⟨.r z58 none (.lg k1 (.s z4)), k5, [], []⟩,
  ⟨.a z59 none (.bs k110 k1 [.s0] [(k0, k1, (.s z58))]), k6, [k5], []⟩,
  ⟨.c (some z60) none (.ap k110 k1 k24 (.s z57) (.s z59)), k7, [k1, k2, k3, k4, k5, k6], [false, false, false, true]⟩,
  ⟨.p z61 none (.nc (.s z53)), k8, [k0, k1, k2, k3, k4, k5, k6, k7], []⟩,
  ⟨.p z62 none (.fa k12 (.s z61)), k9, [k0, k1, k2, k3, k4, k5, k6, k7, k8], []⟩,
  ⟨.c none none (.st k1 (.s z62) (.s z60)), k10, [k0, k1, k2, k3, k4, k5, k6, k7, k8, k9], []⟩]))))))))⟩
noncomputable def rf138 : RF := ⟨[.h, z2], [], (.seq (.reg [.a z4 none (.bx k66 k11 (.s z2))])
 (.blk k0 (.seq (.reg [.p z9 none (.fa k0 (.s z4)),
  .r z10 none (.ld (.s z9)),
  .p z11 none (.cp .eql (.s z10) (.c (.a (.i .i64 (.n k1))))),
  .p z8 none (.mv (.s z11))])
 (.cond (.s z8) (.reg [.p z12 none (.mv (.s .h)),
  .p z13 none (.fa k1 (.s z4)),
  .r z14 none (.ld (.s z13)),
  .p z15 none (.fa k4 (.s z4)),
  .r z16 none (.ld (.s z15)),
  .k (some z17) none k164 z165 [(.s z12), (.s z14), (.s z16)]]) (.seq (.reg [.p z19 none (.fa k0 (.s z4)),
  .r z20 none (.ld (.s z19)),
  .p z21 none (.cp .eql (.s z20) (.c (.a (.i .i64 (.n k2))))),
  .p z18 none (.mv (.s z21))])
 (.cond (.s z18) (.drw [⟨.p z22 none (.mv (.s .h)), k0, [], []⟩,
  ⟨.p z23 none (.fa k1 (.s z4)), k1, [], []⟩,
  ⟨.r z24 none (.ld (.s z23)), k2, [k1], []⟩,
  ⟨.p z25 none (.mv (.s .h)), k3, [], []⟩,
  ⟨.p z26 none (.nc (.s z25)), k4, [k3], []⟩,
  ⟨.p z27 none (.fa k10 (.s z26)), k5, [k3, k4], []⟩,
  ⟨.r z28 none (.ld (.s z27)), k6, [k3, k4, k5], []⟩,
  ⟨.p z29 none (.fa k2 (.s z4)), k7, [], []⟩,
  ⟨.r z30 none (.ld (.s z29)), k8, [k7], []⟩,
  ⟨.p z31 none (.ix k1 (.s z28) (.s z30)), k9, [k3, k4, k5, k6, k7, k8], []⟩,
  ⟨.r z32 none (.ld (.s z31)), k10, [k3, k4, k5, k6, k7, k8, k9], []⟩,
  ⟨.k (some z33) none k164 z165 [(.s z22), (.s z24), (.s z32)], k11, [k0, k1, k2, k3, k4, k5, k6, k7, k8, k9, k10], []⟩]) (.seq (.reg [.p z35 none (.fa k0 (.s z4)),
  .r z36 none (.ld (.s z35)),
  .p z37 none (.cp .eql (.s z36) (.c (.a (.i .i64 (.n k15))))),
  .p z34 none (.mv (.s z37))])
 (.cond (.s z34) (.seq (.reg [.p z5 none (.mv (.c (.a (.i .i64 (.n k0)))))])
 (.seq (.seq (.drw [⟨.p z38 none (.mv (.s .h)), k0, [], []⟩,
  ⟨.p z39 none (.nc (.s z38)), k1, [k0], []⟩,
  ⟨.p z40 none (.fa k10 (.s z39)), k2, [k0, k1], []⟩,
  ⟨.r z41 none (.ld (.s z40)), k3, [k0, k1, k2], []⟩,
  ⟨.p z42 none (.fa k2 (.s z4)), k4, [], []⟩,
  ⟨.r z43 none (.ld (.s z42)), k5, [k4], []⟩,
  ⟨.p z44 none (.ix k1 (.s z41) (.s z43)), k6, [k0, k1, k2, k3, k4, k5], []⟩,
  ⟨.r z45 none (.ld (.s z44)), k7, [k0, k1, k2, k3, k4, k5, k6], []⟩,
  ⟨.p z6 none (.mv (.s z45)), k8, [k0, k1, k2, k3, k4, k5, k6, k7], []⟩])
 (.seq (.drw [⟨.p z46 none (.mv (.s z6)), k0, [], []⟩,
  ⟨.p z47 none (.mv (.s .h)), k1, [], []⟩,
  ⟨.p z48 none (.nc (.s z47)), k2, [k1], []⟩,
  ⟨.p z49 none (.fa k12 (.s z48)), k3, [k1, k2], []⟩,
  ⟨.r z50 none (.ld (.s z49)), k4, [k1, k2, k3], []⟩,
  ⟨.p z51 none (.fa k4 (.s z4)), k5, [], []⟩,
  ⟨.r z52 none (.ld (.s z51)), k6, [k5], []⟩,
  ⟨.p z53 none (.ix k1 (.s z50) (.s z52)), k7, [k1, k2, k3, k4, k5, k6], []⟩,
  ⟨.r z54 none (.ld (.s z53)), k8, [k1, k2, k3, k4, k5, k6, k7], []⟩,
  ⟨.p z55 none (.ln (.s z54)), k9, [k1, k2, k3, k4, k5, k6, k7, k8], []⟩,
  ⟨.p z56 none (.ar .sub (.s z55) (.c (.a (.i .i64 (.n k1))))), k10, [k1, k2, k3, k4, k5, k6, k7, k8, k9], []⟩,
  ⟨.k (some z57) none k73 z74 [(.s z46), (.s z56)], k11, [k0, k1, k2, k3, k4, k5, k6, k7, k8, k9, k10], []⟩])
 (.cond (.s z57) (.drw [⟨.p z58 none (.mv (.s .h)), k0, [], []⟩,
  ⟨.p z59 none (.nc (.s z58)), k1, [k0], []⟩,
  ⟨.p z60 none (.fa k12 (.s z59)), k2, [k0, k1], []⟩,
  ⟨.r z61 none (.ld (.s z60)), k3, [k0, k1, k2], []⟩,
  ⟨.p z62 none (.fa k4 (.s z4)), k4, [], []⟩,
  ⟨.r z63 none (.ld (.s z62)), k5, [k4], []⟩,
  ⟨.p z64 none (.ix k1 (.s z61) (.s z63)), k6, [k0, k1, k2, k3, k4, k5], []⟩,
  ⟨.r z65 none (.ld (.s z64)), k7, [k0, k1, k2, k3, k4, k5, k6], []⟩,
  ⟨.p z66 none (.mv (.s z6)), k8, [], []⟩,
  ⟨.p z67 none (.ix k1 (.s z65) (.s z66)), k9, [k0, k1, k2, k3, k4, k5, k6, k7, k8], []⟩,
  ⟨.r z68 none (.ld (.s z67)), k10, [k0, k1, k2, k3, k4, k5, k6, k7, k8, k9], []⟩,
  ⟨.p z5 none (.mv (.s z68)), k11, [k0, k1, k2, k3, k4, k5, k6, k7, k8, k9, k10], []⟩]) .skip)))
 (.reg [.p z69 none (.mv (.s .h)),
  .p z70 none (.fa k1 (.s z4)),
  .r z71 none (.ld (.s z70)),
  .p z72 none (.mv (.s z5)),
  .k (some z73) none k164 z165 [(.s z69), (.s z71), (.s z72)]]))) (.seq (.reg [.p z75 none (.fa k0 (.s z4)),
  .r z76 none (.ld (.s z75)),
  .p z77 none (.cp .eql (.s z76) (.c (.a (.i .i64 (.n k16))))),
  .p z74 none (.mv (.s z77))])
 (.cond (.s z74) (.seq (.drw [⟨.p z78 none (.mv (.s .h)), k0, [], []⟩,
  ⟨.p z79 none (.nc (.s z78)), k1, [k0], []⟩,
  ⟨.p z80 none (.fa k10 (.s z79)), k2, [k0, k1], []⟩,
  ⟨.r z81 none (.ld (.s z80)), k3, [k0, k1, k2], []⟩,
  ⟨.p z82 none (.fa k2 (.s z4)), k4, [], []⟩,
  ⟨.r z83 none (.ld (.s z82)), k5, [k4], []⟩,
  ⟨.p z84 none (.ix k1 (.s z81) (.s z83)), k6, [k0, k1, k2, k3, k4, k5], []⟩,
  ⟨.r z85 none (.ld (.s z84)), k7, [k0, k1, k2, k3, k4, k5, k6], []⟩,
  ⟨.p z7 none (.mv (.s z85)), k8, [k0, k1, k2, k3, k4, k5, k6, k7], []⟩])
 (.seq (.drw [⟨.p z86 none (.mv (.s z7)), k0, [], []⟩,
  ⟨.p z87 none (.mv (.s .h)), k1, [], []⟩,
  ⟨.p z88 none (.nc (.s z87)), k2, [k1], []⟩,
  ⟨.p z89 none (.fa k12 (.s z88)), k3, [k1, k2], []⟩,
  ⟨.r z90 none (.ld (.s z89)), k4, [k1, k2, k3], []⟩,
  ⟨.p z91 none (.fa k4 (.s z4)), k5, [], []⟩,
  ⟨.r z92 none (.ld (.s z91)), k6, [k5], []⟩,
  ⟨.p z93 none (.ix k1 (.s z90) (.s z92)), k7, [k1, k2, k3, k4, k5, k6], []⟩,
  ⟨.r z94 none (.ld (.s z93)), k8, [k1, k2, k3, k4, k5, k6, k7], []⟩,
  ⟨.p z95 none (.ln (.s z94)), k9, [k1, k2, k3, k4, k5, k6, k7, k8], []⟩,
  ⟨.p z96 none (.ar .sub (.s z95) (.c (.a (.i .i64 (.n k1))))), k10, [k1, k2, k3, k4, k5, k6, k7, k8, k9], []⟩,
  ⟨.k (some z97) none k73 z74 [(.s z86), (.s z96)], k11, [k0, k1, k2, k3, k4, k5, k6, k7, k8, k9, k10], []⟩])
 (.cond (.s z97) (.drw [⟨.p z98 none (.mv (.s .h)), k0, [], []⟩,
  ⟨.p z99 none (.nc (.s z98)), k1, [k0], []⟩,
  ⟨.p z100 none (.fa k12 (.s z99)), k2, [k0, k1], []⟩,
  ⟨.r z101 none (.ld (.s z100)), k3, [k0, k1, k2], []⟩,
  ⟨.p z102 none (.fa k4 (.s z4)), k4, [], []⟩,
  ⟨.r z103 none (.ld (.s z102)), k5, [k4], []⟩,
  ⟨.p z104 none (.ix k1 (.s z101) (.s z103)), k6, [k0, k1, k2, k3, k4, k5], []⟩,
  ⟨.r z105 none (.ld (.s z104)), k7, [k0, k1, k2, k3, k4, k5, k6], []⟩,
  ⟨.p z106 none (.mv (.s z7)), k8, [], []⟩,
  ⟨.p z107 none (.mv (.s .h)), k9, [], []⟩,
  ⟨.p z108 none (.nc (.s z107)), k10, [k9], []⟩,
  ⟨.p z109 none (.fa k10 (.s z108)), k11, [k9, k10], []⟩,
  ⟨.r z110 none (.ld (.s z109)), k12, [k9, k10, k11], []⟩,
  ⟨.p z111 none (.fa k3 (.s z4)), k13, [], []⟩,
  ⟨.r z112 none (.ld (.s z111)), k14, [k13], []⟩,
  ⟨.p z113 none (.ix k1 (.s z110) (.s z112)), k15, [k9, k10, k11, k12, k13, k14], []⟩,
  ⟨.r z114 none (.ld (.s z113)), k16, [k9, k10, k11, k12, k13, k14, k15], []⟩,
  ⟨.p z115 none (.ix k1 (.s z105) (.s z106)), k17, [k0, k1, k2, k3, k4, k5, k6, k7, k8, k9, k10, k11, k12, k13, k14, k15, k16], []⟩,
  ⟨.c none none (.st k1 (.s z115) (.s z114)), k18, [k0, k1, k2, k3, k4, k5, k6, k7, k8, k9, k10, k11, k12, k13, k14, k15, k16, k17], []⟩]) .skip))) (.seq (.reg [.p z117 none (.fa k0 (.s z4)),
  .r z118 none (.ld (.s z117)),
  .p z119 none (.cp .eql (.s z118) (.c (.a (.i .i64 (.n k17))))),
  .p z116 none (.mv (.s z119))])
 (.cond (.s z116) (.drw [⟨.p z120 none (.mv (.s .h)), k0, [], []⟩,
  ⟨.p z121 none (.nc (.s z120)), k1, [k0], []⟩,
  ⟨.p z122 none (.fa k12 (.s z121)), k2, [k0, k1], []⟩,
  ⟨.r z123 none (.ld (.s z122)), k3, [k0, k1, k2], []⟩,
  ⟨.p z124 none (.fa k4 (.s z4)), k4, [], []⟩,
  ⟨.r z125 none (.ld (.s z124)), k5, [k4], []⟩,
  ⟨.p z126 none (.ix k1 (.s z123) (.s z125)), k6, [k0, k1, k2, k3, k4, k5], []⟩,
  ⟨.r z127 none (.ld (.s z126)), k7, [k0, k1, k2, k3, k4, k5, k6], []⟩,
  ⟨.c none none (.no), k8, [k0, k1, k2, k3, k4, k5, k6, k7], []⟩]) (.seq (.reg [.p z129 none (.fa k0 (.s z4)),
  .r z130 none (.ld (.s z129)),
  .p z131 none (.cp .geq (.s z130) (.c (.a (.i .i64 (.n k3))))),
  .p z132 none (.mv (.s z131)),
  .p z133 (some (z132, true)) (.fa k0 (.s z4)),
  .r z134 (some (z132, true)) (.ld (.s z133)),
  .p z135 (some (z132, true)) (.cp .leq (.s z134) (.c (.a (.i .i64 (.n k14))))),
  .p z136 none (.pk (.s z132) (.s z135) (.c (.a (.b false)))),
  .p z128 none (.mv (.s z136))])
 (.cond (.s z128) (.drw [⟨.p z137 none (.mv (.s .h)), k0, [], []⟩,
  ⟨.p z138 none (.fa k1 (.s z4)), k1, [], []⟩,
  ⟨.r z139 none (.ld (.s z138)), k2, [k1], []⟩,
  ⟨.p z140 none (.fa k0 (.s z4)), k3, [], []⟩,
  ⟨.r z141 none (.ld (.s z140)), k4, [k3], []⟩,
  ⟨.p z142 none (.mv (.s .h)), k5, [], []⟩,
  ⟨.p z143 none (.nc (.s z142)), k6, [k5], []⟩,
  ⟨.p z144 none (.fa k10 (.s z143)), k7, [k5, k6], []⟩,
  ⟨.r z145 none (.ld (.s z144)), k8, [k5, k6, k7], []⟩,
  ⟨.p z146 none (.fa k2 (.s z4)), k9, [], []⟩,
  ⟨.r z147 none (.ld (.s z146)), k10, [k9], []⟩,
  ⟨.p z148 none (.ix k1 (.s z145) (.s z147)), k11, [k5, k6, k7, k8, k9, k10], []⟩,
  ⟨.r z149 none (.ld (.s z148)), k12, [k5, k6, k7, k8, k9, k10, k11], []⟩,
  ⟨.p z150 none (.mv (.s .h)), k13, [], []⟩,
  ⟨.p z151 none (.nc (.s z150)), k14, [k13], []⟩,
  ⟨.p z152 none (.fa k10 (.s z151)), k15, [k13, k14], []⟩,
  ⟨.r z153 none (.ld (.s z152)), k16, [k13, k14, k15], []⟩,
  ⟨.p z154 none (.fa k3 (.s z4)), k17, [], []⟩,
  ⟨.r z155 none (.ld (.s z154)), k18, [k17], []⟩,
  ⟨.p z156 none (.ix k1 (.s z153) (.s z155)), k19, [k13, k14, k15, k16, k17, k18], []⟩,
  ⟨.r z157 none (.ld (.s z156)), k20, [k13, k14, k15, k16, k17, k18, k19], []⟩,
  ⟨.k (some z158) none k167 z168 [(.s z141), (.s z149), (.s z157)], k21, [k3, k4, k5, k6, k7, k8, k9, k10, k11, k12, k13, k14, k15, k16, k17, k18, k19, k20], [false, false, false, false, false, false, false, true]⟩,
  ⟨.k (some z159) none k164 z165 [(.s z137), (.s z139), (.s z158)], k22, [k0, k1, k2, k3, k4, k5, k6, k7, k8, k9, k10, k11, k12, k13, k14, k15, k16, k17, k18, k19, k20, k21], []⟩]) .skip))))))))))))))⟩
end
end Go.Proofs.Ytbpccmnalhdpmaa
namespace Go.Proofs.Ytbpccmnalhdpmaa
open Go.Ev
noncomputable section
noncomputable def rf139 : RF := ⟨[.h, z2, z3], [], (.seq (.reg [.a z6 none (.bx k58 k8 (.s z3))])
 (.seq (.reg [.p z9 none (.fa k0 (.s z6)),
  .r z10 none (.ld (.s z9))])
 (.blk k0 (.seq (.reg [.p z12 none (.cp .eql (.s z10) (.c (.a (.i .i64 (.n k1))))),
  .p z11 none (.mv (.s z12))])
 (.cond (.s z11) (.drw [⟨.p z13 none (.mv (.s .h)), k0, [], []⟩,
  ⟨.p z14 none (.fa k4 (.s z6)), k1, [], []⟩,
  ⟨.p z15 none (.ia k2 k2 (.s z14) (.c (.a (.i .i64 (.n k0))))), k2, [k1], []⟩,
  ⟨.p z16 none (.fa k0 (.s z15)), k3, [k1, k2], []⟩,
  ⟨.r z17 none (.ld (.s z16)), k4, [k1, k2, k3], []⟩,
  ⟨.p z18 none (.mv (.s z2)), k5, [], []⟩,
  ⟨.p z19 none (.fa k4 (.s z6)), k6, [], []⟩,
  ⟨.p z20 none (.ia k2 k2 (.s z19) (.c (.a (.i .i64 (.n k0))))), k7, [k6], []⟩,
  ⟨.p z21 none (.fa k1 (.s z20)), k8, [k6, k7], []⟩,
  ⟨.r z22 none (.ld (.s z21)), k9, [k6, k7, k8], []⟩,
  ⟨.k (some z23) none k168 z169 [(.s z18), (.s z22), (.c (.a .s0))], k10, [k5, k6, k7, k8, k9], [false, true]⟩,
  ⟨.k (some z24) none k133 z134 [(.s z13), (.s z17), (.s z23)], k11, [k0, k1, k2, k3, k4, k5, k6, k7, k8, k9, k10], []⟩]) (.seq (.reg [.p z26 none (.cp .eql (.s z10) (.c (.a (.i .i64 (.n k2))))),
  .p z25 none (.mv (.s z26))])
 (.cond (.s z25) (.seq (.reg [.p z27 none (.fa k4 (.s z6)),
  .p z28 none (.ia k2 k2 (.s z27) (.c (.a (.i .i64 (.n k0))))),
  .r z29 none (.lg k2 (.s z28)),
  .a z7 none (.al k55 k2 (.n (.n .e .s0 .e) (.i .i64 (.n k0)) .e)),
  .c none none (.st k2 (.s z7) (.s z29))])
 (.seq (.seq (.drw [⟨.p z30 none (.mv (.s z2)), k0, [], []⟩,
  ⟨.p z31 none (.nc (.s z30)), k1, [k0], []⟩,
  ⟨.p z32 none (.fa k10 (.s z31)), k2, [k0, k1], []⟩,
  ⟨.r z33 none (.ld (.s z32)), k3, [k0, k1, k2], []⟩,
  ⟨.p z34 none (.fa k1 (.s z6)), k4, [], []⟩,
  ⟨.r z35 none (.ld (.s z34)), k5, [k4], []⟩,
  ⟨.p z36 none (.ix k1 (.s z33) (.s z35)), k6, [k0, k1, k2, k3, k4, k5], []⟩,
  ⟨.r z37 none (.ld (.s z36)), k7, [k0, k1, k2, k3, k4, k5, k6], []⟩,
  ⟨.p z38 none (.cp .eql (.s z37) (.c (.a (.i .i64 (.n k0))))), k8, [k0, k1, k2, k3, k4, k5, k6, k7], []⟩])
 (.cond (.s z38) (.reg [.p z39 none (.fa k4 (.s z6)),
  .p z40 none (.ia k2 k2 (.s z39) (.c (.a (.i .i64 (.n k1))))),
  .r z41 none (.lg k2 (.s z40)),
  .c none none (.st k2 (.s z7) (.s z41))]) .skip))
 (.drw [⟨.p z42 none (.mv (.s .h)), k0, [], []⟩,
  ⟨.p z43 none (.fa k0 (.s z7)), k1, [], []⟩,
  ⟨.r z44 none (.ld (.s z43)), k2, [k1], []⟩,
  ⟨.p z45 none (.mv (.s z2)), k3, [], []⟩,
  ⟨.p z46 none (.fa k1 (.s z7)), k4, [], []⟩,
  ⟨.r z47 none (.ld (.s z46)), k5, [k4], []⟩,
  ⟨.k (some z48) none k168 z169 [(.s z45), (.s z47), (.c (.a .s0))], k6, [k3, k4, k5], [false, true]⟩,
  ⟨.k (some z49) none k133 z134 [(.s z42), (.s z44), (.s z48)], k7, [k0, k1, k2, k3, k4, k5, k6], []⟩]))) (.seq (.reg [.p z51 none (.cp .eql (.s z10) (.c (.a (.i .i64 (.n k3))))),
  .p z50 none (.mv (.s z51))])
 (.cond (.s z50) (.seq (.seq (.reg [.p z52 none (.mv (.s .h)),
  .p z53 none (.nc (.s z52)),
  .p z54 none (.fa k5 (.s z53)),
  .r z55 none (.ld (.s z54)),
  .p z56 none (.ln (.s z55)),
  .p z57 none (.cp .geq (.s z56) (.c (.a (.i .i64 (.n k20)))))])
 (.cond (.s z57) (.seq (.reg [.p z58 none (.mv (.s .h)),
  .k (some z59) none k135 z136 [(.s z58), (.c (.a (.i .i64 (.n k5))))]])
 .rt) .skip))
 (.drw [⟨.p z60 none (.mv (.s .h)), k0, [], []⟩,
  ⟨.p z61 none (.fa k2 (.s z6)), k1, [], []⟩,
  ⟨.r z62 none (.ld (.s z61)), k2, [k1], []⟩,
  ⟨.p z63 none (.mv (.s z2)), k3, [], []⟩,
  ⟨.p z64 none (.fa k3 (.s z6)), k4, [], []⟩,
  ⟨.r z65 none (.ld (.s z64)), k5, [k4], []⟩,
  ⟨.k (some z66) none k168 z169 [(.s z63), (.s z65), (.c (.a .s0))], k6, [k3, k4, k5], [false, true]⟩,
  ⟨.k (some z67) none k107 z108 [(.s z60), (.s z62), (.s z66)], k7, [k0, k1, k2, k3, k4, k5, k6], []⟩])) (.seq (.reg [.p z69 none (.cp .eql (.s z10) (.c (.a (.i .i64 (.n k6))))),
  .p z68 none (.mv (.s z69))])
 (.cond (.s z68) (.seq (.reg [.p z70 none (.mv (.s z2)),
  .p z71 none (.fa k3 (.s z6)),
  .r z72 none (.ld (.s z71)),
  .k (some z73) none k168 z169 [(.s z70), (.s z72), (.c (.a .s0))],
  .p z8 none (.mv (.s z73))])
 (.seq (.drw [⟨.p z74 none (.mv (.s .h)), k0, [], []⟩,
  ⟨.p z75 none (.mv (.s .h)), k1, [], []⟩,
  ⟨.p z76 none (.nc (.s z75)), k2, [k1], []⟩,
  ⟨.p z77 none (.fa k5 (.s z76)), k3, [k1, k2], []⟩,
  ⟨.r z78 none (.ld (.s z77)), k4, [k1, k2, k3], []⟩,
  ⟨.p z79 none (.mv (.s .h)), k5, [], []⟩,
  ⟨.p z80 none (.nc (.s z79)), k6, [k5], []⟩,
  ⟨.p z81 none (.fa k5 (.s z80)), k7, [k5, k6], []⟩,
  ⟨.r z82 none (.ld (.s z81)), k8, [k5, k6, k7], []⟩,
  ⟨.p z83 none (.ln (.s z82)), k9, [k5, k6, k7, k8], []⟩,
  ⟨.p z84 none (.ar .sub (.s z83) (.c (.a (.i .i64 (.n k1))))), k10, [k5, k6, k7, k8, k9], []⟩,
  ⟨.p z85 none (.sl (.s z78) (.s z84)), k11, [k1, k2, k3, k4, k5, k6, k7, k8, k9, k10], []⟩,
  ⟨.p z86 none (.nc (.s z74)), k12, [k0, k1, k2, k3, k4, k5, k6, k7, k8, k9, k10, k11], []⟩,
  ⟨.p z87 none (.fa k5 (.s z86)), k13, [k0, k1, k2, k3, k4, k5, k6, k7, k8, k9, k10, k11, k12], []⟩,
  ⟨.c none none (.st k1 (.s z87) (.s z85)), k14, [k0, k1, k2, k3, k4, k5, k6, k7, k8, k9, k10, k11, k12, k13], []⟩])
 (.reg [.p z88 none (.mv (.s .h)),
  .p z89 none (.fa k2 (.s z6)),
  .r z90 none (.ld (.s z89)),
  .p z91 none (.mv (.s z8)),
  .k (some z92) none k107 z108 [(.s z88), (.s z90), (.s z91)]]))) (.seq (.reg [.p z94 none (.cp .eql (.s z10) (.c (.a (.i .i64 (.n k4))))),
  .p z93 none (.mv (.s z94))])
 (.cond (.s z93) (.drw [⟨.p z95 none (.mv (.s .h)), k0, [], []⟩,
  ⟨.p z96 none (.mv (.s z2)), k1, [], []⟩,
  ⟨.p z97 none (.nc (.s z96)), k2, [k1], []⟩,
  ⟨.p z98 none (.fa k10 (.s z97)), k3, [k1, k2], []⟩,
  ⟨.r z99 none (.ld (.s z98)), k4, [k1, k2, k3], []⟩,
  ⟨.p z100 none (.fa k1 (.s z6)), k5, [], []⟩,
  ⟨.r z101 none (.ld (.s z100)), k6, [k5], []⟩,
  ⟨.p z102 none (.ix k1 (.s z99) (.s z101)), k7, [k1, k2, k3, k4, k5, k6], []⟩,
  ⟨.r z103 none (.ld (.s z102)), k8, [k1, k2, k3, k4, k5, k6, k7], []⟩,
  ⟨.k (some z104) none k169 z170 [(.s z95), (.s z103), (.c (.a (.i .i64 (.n k0))))], k9, [k0, k1, k2, k3, k4, k5, k6, k7, k8], []⟩]) (.seq (.reg [.p z106 none (.cp .eql (.s z10) (.c (.a (.i .i64 (.n k5))))),
  .p z105 none (.mv (.s z106))])
 (.cond (.s z105) (.drw [⟨.p z107 none (.mv (.s .h)), k0, [], []⟩,
  ⟨.p z108 none (.mv (.s z2)), k1, [], []⟩,
  ⟨.p z109 none (.nc (.s z108)), k2, [k1], []⟩,
  ⟨.p z110 none (.fa k10 (.s z109)), k3, [k1, k2], []⟩,
  ⟨.r z111 none (.ld (.s z110)), k4, [k1, k2, k3], []⟩,
  ⟨.p z112 none (.fa k1 (.s z6)), k5, [], []⟩,
  ⟨.r z113 none (.ld (.s z112)), k6, [k5], []⟩,
  ⟨.p z114 none (.ix k1 (.s z111) (.s z113)), k7, [k1, k2, k3, k4, k5, k6], []⟩,
  ⟨.r z115 none (.ld (.s z114)), k8, [k1, k2, k3, k4, k5, k6, k7], []⟩,
  ⟨.k (some z116) none k169 z170 [(.s z107), (.s z115), (.c (.a (.i .i64 (.n k1))))], k9, [k0, k1, k2, k3, k4, k5, k6, k7, k8], []⟩]) .skip)))))))))))))))⟩
noncomputable def rf153 : RF := ⟨[.h, z2, z3], [.s z6], (.seq (.reg [.p z6 none (.mv (.c (.a (.b false))))])
 (.seq (.reg [.r z7 none (.ld (.s z3)),
  .p z8 none (.mv (.s .h)),
  .p z9 none (.ar .and (.s z7) (.s z8)),
  .p z10 none (.cp .eql (.s z9) (.c (.a (.i .i64 (.n k0))))),
  .p z11 none (.mv (.s z10)),
  .p z12 (some (z11, true)) (.mv (.s z2)),
  .p z13 (some (z11, true)) (.cp .neq (.s z12) (.c (.a (.i .i64 (.n k0))))),
  .p z14 none (.pk (.s z11) (.s z13) (.c (.a (.b false)))),
  .p z6 none (.mv (.s z14))])
 .rt))⟩
noncomputable def rf154 : RF := ⟨[.h, z2, z3], [.s z7], (.seq (.reg [.a z4 none (.bx k199 k2 (.s .h)),
  .p z7 none (.mv (.c (.a (.b false))))])
 (.seq (.seq (.reg [.p z10 none (.mv (.s z2)),
  .p z11 none (.fa k0 (.s z4)),
  .r z12 none (.ld (.s z11)),
  .p z13 none (.ar .sub (.s z12) (.c (.a (.i .i64 (.n k1))))),
  .k (some z14) none k73 z74 [(.s z10), (.s z13)]])
 (.cond (.s z14) (.seq (.reg [.p z7 none (.mv (.c (.a (.b true))))])
 .rt) .skip))
 (.seq (.reg [.p z16 none (.fa k1 (.s z4)),
  .r z17 none (.ld (.s z16)),
  .p z18 none (.mv (.s z2)),
  .r z19 none (.lk true false [k0] (.a (.i .i64 (.n k0))) (.s z17) (.s z18)),
  .p z15 none (.mv (.s z19)),
  .p z20 none (.ex k0 (.s z15)),
  .p z21 none (.ex k1 (.s z15)),
  .p z8 none (.mv (.s z20)),
  .p z9 none (.mv (.s z21))])
 (.seq (.reg [.p z22 none (.mv (.s z9)),
  .p z23 none (.mv (.s z22)),
  .p z24 (some (z23, true)) (.mv (.s z8)),
  .p z25 (some (z23, true)) (.mv (.s z3)),
  .p z26 (some (z23, true)) (.cp .lss (.s z24) (.s z25)),
  .p z27 none (.pk (.s z23) (.s z26) (.c (.a (.b false)))),
  .p z7 none (.mv (.s z27))])
 .rt))))⟩
noncomputable def rf155 : RF := ⟨[.h, z2, z3], [.s z7], (.seq (.reg [.a z4 none (.bx k199 k2 (.s .h)),
  .p z7 none (.mv (.c (.a (.b false))))])
 (.seq (.seq (.reg [.p z10 none (.mv (.s z3)),
  .p z11 none (.ln (.s z10)),
  .p z12 none (.mv (.c (.a (.i .i64 (.n k0)))))])
 (.blk k0 (.loop (.seq (.reg [.p z13 none (.cp .lss (.s z12) (.s z11))])
 (.seq (.cond (.s z13) .skip (.ex k0))
 (.seq (.blk k1 (.seq (.reg [.p z14 none (.ix k1 (.s z10) (.s z12)),
  .r z15 none (.ld (.s z14)),
  .p z9 none (.mv (.s z15))])
 (.seq (.reg [.r z16 none (.lg k2 (.s z4)),
  .p z17 none (.mv (.s z9)),
  .p z18 none (.mv (.s z2)),
  .k (some z19) none k154 z155 [(.s z16), (.s z17), (.s z18)],
  .p z20 none (.nt (.s z19))])
 (.cond (.s z20) (.seq (.reg [.p z7 none (.mv (.c (.a (.b false))))])
 .rt) .skip))))
 (.reg [.p z21 none (.ar .add (.s z12) (.c (.a (.i .i64 (.n k1))))),
  .p z12 none (.mv (.s z21))])))))))
 (.seq (.reg [.p z7 none (.mv (.c (.a (.b true))))])
 .rt)))⟩
noncomputable def rf156 : RF := ⟨[.h], [.s z3], (.seq (.reg [.a z2 none (.bx k55 k2 (.s .h)),
  .p z3 none (.mv (.c (.a (.b false))))])
 (.seq (.reg [.p z4 none (.fa k0 (.s z2)),
  .r z5 none (.ld (.s z4)),
  .p z6 none (.cp .eql (.s z5) (.c (.a (.i .i64 (.g k0))))),
  .p z7 none (.mv (.s z6)),
  .p z8 (some (z7, true)) (.fa k1 (.s z2)),
  .r z9 (some (z7, true)) (.ld (.s z8)),
  .p z10 (some (z7, true)) (.ln (.s z9)),
  .p z11 (some (z7, true)) (.cp .eql (.s z10) (.c (.a (.i .i64 (.n k0))))),
  .p z12 none (.pk (.s z7) (.s z11) (.c (.a (.b false)))),
  .p z3 none (.mv (.s z12))])
 .rt))⟩
noncomputable def rf157 : RF := ⟨[.h, z2, z3], [.s z7], (.seq (.reg [.a z4 none (.bx k26 k4 (.s .h)),
  .a z5 none (.bx k55 k2 (.s z2)),
  .p z7 none (.mv (.c (.a (.b false))))])
 (.seq (.seq (.reg [.p z9 none (.fa k0 (.s z5)),
  .r z10 none (.ld (.s z9)),
  .p z11 none (.cp .lss (.s z10) (.c (.a (.i .i64 (.n k1))))),
  .p z12 none (.mv (.s z11)),
  .p z13 (some (z12, false)) (.fa k0 (.s z5)),
  .r z14 (some (z12, false)) (.ld (.s z13)),
  .p z15 (some (z12, false)) (.fa k1 (.s z4)),
  .r z16 (some (z12, false)) (.ld (.s z15)),
  .p z17 (some (z12, false)) (.ln (.s z16)),
  .p z18 (some (z12, false)) (.cp .geq (.s z14) (.s z17)),
  .p z19 none (.pk (.s z12) (.c (.a (.b true))) (.s z18))])
 (.cond (.s z19) (.seq (.reg [.p z7 none (.mv (.c (.a (.b false))))])
 .rt) .skip))
 (.seq (.reg [.p z20 none (.fa k1 (.s z5)),
  .r z21 none (.ld (.s z20)),
  .p z22 none (.ln (.s z21)),
  .p z8 none (.mv (.s z22))])
 (.seq (.seq (.reg [.p z23 none (.mv (.s z3)),
  .p z24 none (.cp .eql (.s z23) (.c (.a (.i .i64 (.n k3)))))])
 (.cond (.s z24) (.reg [.p z25 none (.mv (.s z8)),
  .p z26 none (.ar .add (.s z25) (.c (.a (.i .i64 (.n k1))))),
  .p z8 none (.mv (.s z26))]) .skip))
 (.seq (.reg [.p z27 none (.mv (.s z8)),
  .p z28 none (.fa k1 (.s z4)),
  .r z29 none (.ld (.s z28)),
  .p z30 none (.fa k0 (.s z5)),
  .r z31 none (.ld (.s z30)),
  .p z32 none (.ix k10 (.s z29) (.s z31)),
  .p z33 none (.fa k0 (.s z32)),
  .r z34 none (.ld (.s z33)),
  .p z35 none (.cp .eql (.s z27) (.s z34)),
  .p z7 none (.mv (.s z35))])
 .rt)))))⟩
noncomputable def rf164 : RF := ⟨[.h, z2, z3], [], (.seq (.reg [.p z7 none (.mv (.s .h)),
  .p z8 none (.nc (.s z7)),
  .p z9 none (.fa k10 (.s z8)),
  .r z10 none (.ld (.s z9)),
  .p z11 none (.mv (.s z2)),
  .p z12 none (.mv (.s z3)),
  .p z13 none (.ix k1 (.s z10) (.s z11)),
  .c none none (.st k1 (.s z13) (.s z12))])
 (.reg [.p z14 none (.mv (.s .h)),
  .p z15 none (.nc (.s z14)),
  .p z16 none (.fa k11 (.s z15)),
  .r z17 none (.ld (.s z16)),
  .p z18 none (.mv (.s z2)),
  .p z19 none (.ix k1 (.s z17) (.s z18)),
  .c none none (.st k1 (.s z19) (.c (.a (.b true))))]))⟩
noncomputable def rf165 : RF := ⟨[.h], [.s z3], (.seq (.reg [.a z2 none (.bx k175 k1 (.s .h)),
  .p z3 none (.mv (.c (.a .f0)))])
 (.seq (.reg [.p z4 none (.mf k182 [(.s z2)]),
  .p z3 none (.mv (.s z4))])
 .rt))⟩
noncomputable def rf166 : RF := ⟨[.h, z2], [.s z5], (.seq (.reg [.p z5 none (.mv (.c (.a .s0)))])
 (.seq (.seq (.reg [.p z9 none (.mv (.s z2)),
  .p z10 none (.nc (.s z9)),
  .p z11 none (.fa k0 (.s z10)),
  .p z12 none (.fa k0 (.s z11)),
  .r z13 none (.ld (.s z12)),
  .p z14 none (.nt (.s z13))])
 (.cond (.s z14) (.seq (.reg [.p z15 none (.mv (.s z2)),
  .p z16 none (.nc (.s z15)),
  .p z17 none (.fa k4 (.s z16)),
  .p z18 none (.fa k2 (.s z17)),
  .r z19 none (.ld (.s z18)),
  .p z20 none (.ix k3 (.s z19) (.c (.a (.i .i64 (.n k0))))),
  .p z21 none (.fa k2 (.s z20)),
  .r z22 none (.ld (.s z21)),
  .p z23 none (.bd [(.i .i64 (.n k0)), (.i .i64 (.n k0)), .s0] [(k0, k1, (.s z22)), (k1, k1, (.c (.a (.i .i64 (.g k0)))))]),
  .a z24 none (.bs k113 k1 [(.i .i64 (.n k0)), (.i .i64 (.n k0)), .s0] [(k0, k3, (.s z23))]),
  .p z5 none (.mv (.s z24))])
 .rt) .skip))
 (.seq (.reg [.p z6 none (.mv (.c (.a .s0)))])
 (.seq (.reg [.p z25 none (.mv (.s z2)),
  .p z26 none (.nc (.s z25)),
  .p z27 none (.fa k0 (.s z26)),
  .p z28 none (.fa k2 (.s z27)),
  .r z29 none (.ld (.s z28)),
  .p z7 none (.mv (.s z29))])
 (.seq (.seq (.reg [.p z30 none (.mv (.s z2)),
  .p z31 none (.nc (.s z30)),
  .p z32 none (.fa k0 (.s z31)),
  .p z33 none (.fa k1 (.s z32)),
  .r z34 none (.ld (.s z33)),
  .p z8 none (.mv (.s z34))])
 (.blk k0 (.loop (.seq (.seq (.reg [.p z35 none (.mv (.s z8)),
  .p z36 none (.cp .geq (.s z35) (.c (.a (.i .i64 (.n k0)))))])
 (.cond (.s z36) .skip (.ex k0)))
 (.seq (.blk k1 (.seq (.reg [.p z46 none (.mv (.s z6)),
  .p z47 none (.mv (.s .h)),
  .p z48 none (.mv (.s z2)),
  .p z49 none (.mv (.s z8)),
  .p z50 none (.mv (.s z7)),
  .k (some z51) none k183 z184 [(.s z47), (.s z48), (.s z49), (.s z50)],
  .a z52 none (.bs k113 k1 [(.i .i64 (.n k0)), (.i .i64 (.n k0)), .s0] [(k0, k3, (.s z51))]),
  .c (some z53) none (.ap k113 k3 k40 (.s z46) (.s z52)),
  .p z6 none (.mv (.s z53))])
 (.reg [.p z54 none (.mv (.s z2)),
  .p z55 none (.nc (.s z54)),
  .p z56 none (.fa k4 (.s z55)),
  .p z57 none (.fa k2 (.s z56)),
  .r z58 none (.ld (.s z57)),
  .p z59 none (.mv (.s z8)),
  .p z60 none (.ix k3 (.s z58) (.s z59)),
  .p z61 none (.fa k1 (.s z60)),
  .r z62 none (.ld (.s z61)),
  .p z7 none (.mv (.s z62))])))
 (.reg [.p z37 none (.mv (.s z2)),
  .p z38 none (.nc (.s z37)),
  .p z39 none (.fa k4 (.s z38)),
  .p z40 none (.fa k2 (.s z39)),
  .r z41 none (.ld (.s z40)),
  .p z42 none (.mv (.s z8)),
  .p z43 none (.ix k3 (.s z41) (.s z42)),
  .p z44 none (.fa k0 (.s z43)),
  .r z45 none (.ld (.s z44)),
  .p z8 none (.mv (.s z45))]))))))
 (.seq (.reg [.p z63 none (.mv (.s z6)),
  .p z5 none (.mv (.s z63))])
 .rt))))))⟩
noncomputable def rf167 : RF := ⟨[.h, z2, z3], [.s z7], (.seq (.reg [.p z7 none (.mv (.c (.a (.i .i64 (.n k0)))))])
 (.seq (.seq (.reg [.p z8 none (.mv (.s .h))])
 (.blk k0 (.seq (.reg [.p z10 none (.cp .eql (.s z8) (.c (.a (.i .i64 (.n k3))))),
  .p z9 none (.mv (.s z10))])
 (.cond (.s z9) (.seq (.reg [.p z11 none (.mv (.s z2)),
  .p z12 none (.mv (.s z3)),
  .p z13 none (.ar .add (.s z11) (.s z12)),
  .p z7 none (.mv (.s z13))])
 .rt) (.seq (.reg [.p z15 none (.cp .eql (.s z8) (.c (.a (.i .i64 (.n k4))))),
  .p z14 none (.mv (.s z15))])
 (.cond (.s z14) (.seq (.reg [.p z16 none (.mv (.s z2)),
  .p z17 none (.mv (.s z3)),
  .p z18 none (.ar .sub (.s z16) (.s z17)),
  .p z7 none (.mv (.s z18))])
 .rt) (.seq (.reg [.p z20 none (.cp .eql (.s z8) (.c (.a (.i .i64 (.n k5))))),
  .p z19 none (.mv (.s z20))])
 (.cond (.s z19) (.seq (.reg [.p z21 none (.mv (.s z2)),
  .p z22 none (.mv (.s z3)),
  .p z23 none (.ar .mul (.s z21) (.s z22)),
  .p z7 none (.mv (.s z23))])
 .rt) (.seq (.reg [.p z25 none (.cp .eql (.s z8) (.c (.a (.i .i64 (.n k6))))),
  .p z24 none (.mv (.s z25))])
 (.cond (.s z24) (.seq (.seq (.reg [.p z26 none (.mv (.s z3)),
  .p z27 none (.cp .eql (.s z26) (.c (.a (.i .i64 (.n k0)))))])
 (.cond (.s z27) (.seq (.reg [.p z7 none (.mv (.c (.a (.i .i64 (.n k0)))))])
 .rt) .skip))
 (.seq (.reg [.p z28 none (.mv (.s z2)),
  .p z29 none (.mv (.s z3)),
  .p z30 none (.ar .quo (.s z28) (.s z29)),
  .p z7 none (.mv (.s z30))])
 .rt)) (.seq (.reg [.p z32 none (.cp .eql (.s z8) (.c (.a (.i .i64 (.n k7))))),
  .p z31 none (.mv (.s z32))])
 (.cond (.s z31) (.seq (.seq (.reg [.p z33 none (.mv (.s z3)),
  .p z34 none (.cp .eql (.s z33) (.c (.a (.i .i64 (.n k0)))))])
 (.cond (.s z34) (.seq (.reg [.p z35 none (.mv (.s z2)),
  .p z7 none (.mv (.s z35))])
 .rt) .skip))
 (.seq (.reg [.p z36 none (.mv (.s z2)),
  .p z37 none (.mv (.s z3)),
  .p z38 none (.ar .rem (.s z36) (.s z37)),
  .p z7 none (.mv (.s z38))])
 .rt)) (.seq (.reg [.p z40 none (.cp .eql (.s z8) (.c (.a (.i .i64 (.n k8))))),
  .p z39 none (.mv (.s z40))])
 (.cond (.s z39) (.seq (.reg [.p z41 none (.mv (.s z2)),
  .p z42 none (.mv (.s z3)),
  .p z43 none (.ar .and (.s z41) (.s z42)),
  .p z7 none (.mv (.s z43))])
 .rt) (.seq (.reg [.p z45 none (.cp .eql (.s z8) (.c (.a (.i .i64 (.n k9))))),
  .p z44 none (.mv (.s z45))])
 (.cond (.s z44) (.seq (.reg [.p z46 none (.mv (.s z2)),
  .p z47 none (.mv (.s z3)),
  .p z48 none (.ar .or (.s z46) (.s z47)),
  .p z7 none (.mv (.s z48))])
 .rt) (.seq (.reg [.p z50 none (.cp .eql (.s z8) (.c (.a (.i .i64 (.n k10))))),
  .p z49 none (.mv (.s z50))])
 (.cond (.s z49) (.seq (.reg [.p z51 none (.mv (.s z2)),
  .p z52 none (.mv (.s z3)),
  .p z53 none (.ar .xor (.s z51) (.s z52)),
  .p z7 none (.mv (.s z53))])
 .rt) (.seq (.reg [.p z55 none (.cp .eql (.s z8) (.c (.a (.i .i64 (.n k11))))),
  .p z54 none (.mv (.s z55))])
 (.cond (.s z54) (.seq (.reg [.p z56 none (.mv (.s z2)),
  .p z57 none (.mv (.s z3)),
  .p z58 none (.cp .lss (.s z56) (.s z57)),
  .k (some z59) none k184 z185 [(.s z58)],
  .p z7 none (.mv (.s z59))])
 .rt) (.seq (.reg [.p z61 none (.cp .eql (.s z8) (.c (.a (.i .i64 (.n k12))))),
  .p z60 none (.mv (.s z61))])
 (.cond (.s z60) (.seq (.reg [.p z62 none (.mv (.s z2)),
  .p z63 none (.mv (.s z3)),
  .p z64 none (.cp .leq (.s z62) (.s z63)),
  .k (some z65) none k184 z185 [(.s z64)],
  .p z7 none (.mv (.s z65))])
 .rt) (.seq (.reg [.p z67 none (.cp .eql (.s z8) (.c (.a (.i .i64 (.n k13))))),
  .p z66 none (.mv (.s z67))])
 (.cond (.s z66) (.seq (.reg [.p z68 none (.mv (.s z2)),
  .p z69 none (.mv (.s z3)),
  .p z70 none (.cp .eql (.s z68) (.s z69)),
  .k (some z71) none k184 z185 [(.s z70)],
  .p z7 none (.mv (.s z71))])
 .rt) .skip))))))))))))))))))))))))
 (.seq (.reg [.p z72 none (.mv (.s z2)),
  .p z73 none (.mv (.s z3)),
  .p z74 none (.cp .neq (.s z72) (.s z73)),
  .k (some z75) none k184 z185 [(.s z74)],
  .p z7 none (.mv (.s z75))])
 .rt)))⟩
noncomputable def rf168 : RF := ⟨[.h, z2, z3], [.s z7], (.seq (.reg [.p z7 none (.mv (.c (.a .s0)))])
 (.seq (.reg [.p z11 none (.mv (.s z3)),
  .k (some z12) none k129 z130 [(.s z11)],
  .p z8 none (.mv (.s z12))])
 (.seq (.seq (.reg [.p z13 none (.mv (.s z2)),
  .p z14 none (.ln (.s z13)),
  .p z15 none (.mv (.c (.a (.i .i64 (.n k0)))))])
 (.blk k0 (.loop (.seq (.reg [.p z16 none (.cp .lss (.s z15) (.s z14))])
 (.seq (.cond (.s z16) .skip (.ex k0))
 (.seq (.blk k1 (.seq (.reg [.p z17 none (.ix k1 (.s z13) (.s z15)),
  .r z18 none (.ld (.s z17)),
  .p z10 none (.mv (.s z18))])
 (.reg [.p z19 none (.mv (.s z8)),
  .p z20 none (.mv (.s .h)),
  .p z21 none (.nc (.s z20)),
  .p z22 none (.fa k10 (.s z21)),
  .r z23 none (.ld (.s z22)),
  .p z24 none (.mv (.s z10)),
  .p z25 none (.ix k1 (.s z23) (.s z24)),
  .r z26 none (.ld (.s z25)),
  .a z27 none (.bs k3 k1 [(.i .i64 (.n k0))] [(k0, k1, (.s z26))]),
  .c (some z28) none (.ap k3 k1 k8 (.s z19) (.s z27)),
  .p z8 none (.mv (.s z28))])))
 (.reg [.p z29 none (.ar .add (.s z15) (.c (.a (.i .i64 (.n k1))))),
  .p z15 none (.mv (.s z29))])))))))
 (.seq (.reg [.p z30 none (.mv (.s z8)),
  .p z7 none (.mv (.s z30))])
 .rt))))⟩
noncomputable def rf169 : RF := ⟨[.h, z2, z3], [], (.blk k0 (.loop (.blk k1 (.seq (.drw [⟨.p z9 none (.mv (.s .h)), k0, [], []⟩,
  ⟨.p z10 none (.mv (.s .h)), k1, [], []⟩,
  ⟨.p z11 none (.nc (.s z10)), k2, [k1], []⟩,
  ⟨.p z12 none (.fa k5 (.s z11)), k3, [k1, k2], []⟩,
  ⟨.r z13 none (.ld (.s z12)), k4, [k1, k2, k3], []⟩,
  ⟨.p z14 none (.mv (.s .h)), k5, [], []⟩,
  ⟨.p z15 none (.nc (.s z14)), k6, [k5], []⟩,
  ⟨.p z16 none (.fa k5 (.s z15)), k7, [k5, k6], []⟩,
  ⟨.r z17 none (.ld (.s z16)), k8, [k5, k6, k7], []⟩,
  ⟨.p z18 none (.ln (.s z17)), k9, [k5, k6, k7, k8], []⟩,
  ⟨.p z19 none (.ar .sub (.s z18) (.c (.a (.i .i64 (.n k1))))), k10, [k5, k6, k7, k8, k9], []⟩,
  ⟨.p z20 none (.sl (.s z13) (.s z19)), k11, [k1, k2, k3, k4, k5, k6, k7, k8, k9, k10], []⟩,
  ⟨.p z21 none (.nc (.s z9)), k12, [k0, k1, k2, k3, k4, k5, k6, k7, k8, k9, k10, k11], []⟩,
  ⟨.p z22 none (.fa k5 (.s z21)), k13, [k0, k1, k2, k3, k4, k5, k6, k7, k8, k9, k10, k11, k12], []⟩,
  ⟨.c none none (.st k1 (.s z22) (.s z20)), k14, [k0, k1, k2, k3, k4, k5, k6, k7, k8, k9, k10, k11, k12, k13], []⟩])
 (.seq (.seq (.reg [.p z23 none (.mv (.s .h)),
  .p z24 none (.nc (.s z23)),
  .p z25 none (.fa k5 (.s z24)),
  .r z26 none (.ld (.s z25)),
  .p z27 none (.ln (.s z26)),
  .p z28 none (.cp .eql (.s z27) (.c (.a (.i .i64 (.n k0)))))])
 (.cond (.s z28) (.seq (.reg [.p z29 none (.mv (.s .h)),
  .p z30 none (.nc (.s z29)),
  .p z31 none (.fa k11 (.s z30)),
  .c none none (.st k1 (.s z31) (.c (.a (.b true))))])
 (.seq (.reg [.p z32 none (.mv (.s .h)),
  .p z33 none (.mv (.s .h)),
  .p z34 none (.mv (.s z2)),
  .p z35 none (.mv (.s z3)),
  .p z36 none (.cp .eql (.s z35) (.c (.a (.i .i64 (.n k1))))),
  .p z37 none (.nc (.s z32)),
  .p z38 none (.fa k13 (.s z37)),
  .p z39 none (.fa k2 (.s z38)),
  .c none none (.st k1 (.s z39) (.s z34)),
  .p z40 none (.nc (.s z33)),
  .p z41 none (.fa k13 (.s z40)),
  .p z42 none (.fa k1 (.s z41)),
  .c none none (.st k1 (.s z42) (.s z36))])
 .rt)) .skip))
 (.seq (.reg [.p z43 none (.mv (.s .h)),
  .k (some z44) none k134 z135 [(.s z43)],
  .p z7 none (.mv (.s z44))])
 (.seq (.drw [⟨.p z45 none (.mv (.s z7)), k0, [], []⟩,
  ⟨.p z46 none (.nc (.s z45)), k1, [k0], []⟩,
  ⟨.p z47 none (.fa k4 (.s z46)), k2, [k0, k1], []⟩,
  ⟨.p z48 none (.fa k1 (.s z47)), k3, [k0, k1, k2], []⟩,
  ⟨.r z49 none (.ld (.s z48)), k4, [k0, k1, k2, k3], []⟩,
  ⟨.p z50 none (.mv (.s z7)), k5, [], []⟩,
  ⟨.p z51 none (.nc (.s z50)), k6, [k5], []⟩,
  ⟨.p z52 none (.fa k9 (.s z51)), k7, [k5, k6], []⟩,
  ⟨.r z53 none (.ld (.s z52)), k8, [k5, k6, k7], []⟩,
  ⟨.p z54 none (.mv (.s z3)), k9, [], []⟩,
  ⟨.p z55 none (.ix k10 (.s z49) (.s z53)), k10, [k0, k1, k2, k3, k4, k5, k6, k7, k8], []⟩,
  ⟨.p z56 none (.fa k2 (.s z55)), k11, [k0, k1, k2, k3, k4, k5, k6, k7, k8, k10], []⟩,
  ⟨.p z57 none (.fa k4 (.s z56)), k12, [k0, k1, k2, k3, k4, k5, k6, k7, k8, k10, k11], []⟩,
  ⟨.p z58 none (.ia k2 k2 (.s z57) (.s z54)), k13, [k0, k1, k2, k3, k4, k5, k6, k7, k8, k9, k10, k11, k12], []⟩,
  ⟨.r z59 none (.lg k2 (.s z58)), k14, [k0, k1, k2, k3, k4, k5, k6, k7, k8, k9, k10, k11, k12, k13], []⟩,
  ⟨.a z8 none (.al k55 k2 (.n (.n .e .s0 .e) (.i .i64 (.n k0)) .e)), k15, [], []⟩,
  ⟨.c none none (.st k2 (.s z8) (.s z59)), k16, [k0, k1, k2, k3, k4, k5, k6, k7, k8, k9, k10, k11, k12, k13, k14, k15], []⟩])
 (.seq (.reg [.p z60 none (.fa k0 (.s z8)),
  .r z61 none (.ld (.s z60)),
  .p z62 none (.cp .geq (.s z61) (.c (.a (.i .i64 (.n k0)))))])
 (.cond (.s z62) (.seq (.drw [⟨.p z63 none (.mv (.s .h)), k0, [], []⟩,
  ⟨.p z64 none (.fa k0 (.s z8)), k1, [], []⟩,
  ⟨.r z65 none (.ld (.s z64)), k2, [k1], []⟩,
  ⟨.p z66 none (.mv (.s z7)), k3, [], []⟩,
  ⟨.p z67 none (.fa k1 (.s z8)), k4, [], []⟩,
  ⟨.r z68 none (.ld (.s z67)), k5, [k4], []⟩,
  ⟨.p z69 none (.mv (.s z2)), k6, [], []⟩,
  ⟨.a z70 none (.bs k3 k1 [(.i .i64 (.n k0))] [(k0, k1, (.s z69))]), k7, [k6], []⟩,
  ⟨.k (some z71) none k168 z169 [(.s z66), (.s z68), (.s z70)], k8, [k3, k4, k5, k6, k7], [false, true]⟩,
  ⟨.k (some z72) none k133 z134 [(.s z63), (.s z65), (.s z71)], k9, [k0, k1, k2, k3, k4, k5, k6, k7, k8], []⟩])
 .rt) .skip)))))))))⟩
noncomputable def rf182 : RF := ⟨[.h, z2], [], (.seq (.reg [.r z5 none (.ld (.s z2)),
  .p z6 none (.ln (.s z5)),
  .p z7 none (.ar .sub (.s z6) (.c (.a (.i .i64 (.n k1))))),
  .p z4 none (.mv (.s z7))])
 (.blk k0 (.loop (.seq (.seq (.reg [.p z8 none (.mv (.s z4)),
  .p z9 none (.cp .geq (.s z8) (.c (.a (.i .i64 (.n k0)))))])
 (.cond (.s z9) .skip (.ex k0)))
 (.seq (.blk k1 (.seq (.reg [.p z12 none (.mv (.s .h)),
  .p z13 none (.mv (.s z4)),
  .r z14 none (.ld (.s z2)),
  .p z15 none (.mv (.s z4)),
  .p z16 none (.ix k1 (.s z14) (.s z15)),
  .r z17 none (.ld (.s z16)),
  .v (some z18) none (.s z12) [(.s z13), (.s z17)],
  .p z19 none (.nt (.s z18))])
 (.cond (.s z19) .rt .skip)))
 (.reg [.p z10 none (.mv (.s z4)),
  .p z11 none (.ar .sub (.s z10) (.c (.a (.i .i64 (.n k1))))),
  .p z4 none (.mv (.s z11))]))))))⟩
noncomputable def rf183 : RF := ⟨[.h, z2, z3, z4], [.g z9 k3], (.seq (.reg [.a z9 none (.al k113 k3 (.n (.n .e (.i .i64 (.n k0)) .e) (.i .i64 (.n k0)) (.n .e .s0 .e)))])
 (.seq (.reg [.p z19 none (.mv (.s z2)),
  .p z20 none (.nc (.s z19)),
  .p z21 none (.fa k4 (.s z20)),
  .p z22 none (.fa k2 (.s z21)),
  .r z23 none (.ld (.s z22)),
  .p z24 none (.mv (.s z3)),
  .p z25 none (.ix k3 (.s z23) (.s z24)),
  .p z26 none (.fa k2 (.s z25)),
  .r z27 none (.ld (.s z26)),
  .p z28 none (.mv (.s z4)),
  .p z29 none (.bd [(.i .i64 (.n k0)), (.i .i64 (.n k0)), .s0] [(k0, k1, (.s z27)), (k1, k1, (.s z28))]),
  .a z10 none (.al k113 k3 (.n (.n .e (.i .i64 (.n k0)) .e) (.i .i64 (.n k0)) (.n .e .s0 .e))),
  .c none none (.st k3 (.s z10) (.s z29))])
 (.seq (.seq (.drw [⟨.p z30 none (.mv (.s .h)), k0, [], []⟩,
  ⟨.p z31 none (.nc (.s z30)), k1, [k0], []⟩,
  ⟨.p z32 none (.fa k0 (.s z31)), k2, [k0, k1], []⟩,
  ⟨.r z33 none (.lg k4 (.s z32)), k3, [k0, k1, k2], []⟩,
  ⟨.p z34 none (.fa k0 (.s z10)), k4, [], []⟩,
  ⟨.r z35 none (.ld (.s z34)), k5, [k4], []⟩,
  ⟨.p z36 none (.mv (.s z4)), k6, [], []⟩,
  ⟨.p z39 none (.mv (.c (.a (.i .i64 (.n k0))))), k9, [], []⟩,
  ⟨.k (some z37) none k191 z192 [(.s z33), (.s z35), (.s z36)], k7, [k0, k1, k2, k3, k4, k5, k6], []⟩,
  ⟨.p z38 none (.ln (.s z37)), k8, [k0, k1, k2, k3, k4, k5, k6, k7], []⟩])
 (.blk k0 (.loop (.seq (.reg [.p z40 none (.cp .lss (.s z39) (.s z38))])
 (.seq (.cond (.s z40) .skip (.ex k0))
 (.seq (.blk k1 (.seq (.reg [.p z41 none (.ix k1 (.s z37) (.s z39)),
  .r z42 none (.ld (.s z41)),
  .p z12 none (.mv (.s z42))])
 (.seq (.drw [⟨.p z43 none (.mv (.s .h)), k0, [], []⟩,
  ⟨.p z44 none (.nc (.s z43)), k1, [k0], []⟩,
  ⟨.p z45 none (.fa k0 (.s z44)), k2, [k0, k1], []⟩,
  ⟨.p z46 none (.fa k2 (.s z45)), k3, [k0, k1, k2], []⟩,
  ⟨.r z47 none (.ld (.s z46)), k4, [k0, k1, k2, k3], []⟩,
  ⟨.p z48 none (.fa k0 (.s z10)), k5, [], []⟩,
  ⟨.r z49 none (.ld (.s z48)), k6, [k5], []⟩,
  ⟨.p z50 none (.ix k1 (.s z47) (.s z49)), k7, [k0, k1, k2, k3, k4, k5, k6], []⟩,
  ⟨.r z51 none (.ld (.s z50)), k8, [k0, k1, k2, k3, k4, k5, k6, k7], []⟩,
  ⟨.p z52 none (.mv (.s z12)), k9, [], []⟩,
  ⟨.p z53 none (.ix k7 (.s z51) (.s z52)), k10, [k0, k1, k2, k3, k4, k5, k6, k7, k8, k9], []⟩,
  ⟨.r z54 none (.lg k7 (.s z53)), k11, [k0, k1, k2, k3, k4, k5, k6, k7, k8, k9, k10], []⟩,
  ⟨.a z13 none (.al k124 k7 (.n (.n (.n .e (.i .i64 (.n k0)) .e) (.i .i64 (.n k0)) (.n .e (.i .i64 (.n k0)) .e)) (.t []) (.n (.n .e (.b false) .e) (.i .i64 (.n k0)) (.n .e (.i .i64 (.n k0)) .e)))), k12, [], []⟩,
  ⟨.c none none (.st k7 (.s z13) (.s z54)), k13, [k0, k1, k2, k3, k4, k5, k6, k7, k8, k9, k10, k11, k12], []⟩])
 (.seq (.reg [.p z55 none (.fa k3 (.s z13)),
  .r z56 none (.ld (.s z55)),
  .p z57 none (.mn true (.s z56) (.c (.a (.i .i64 (.n k0))))),
  .p z58 none (.mn false (.s z57) (.c (.a (.i .i64 (.n k8))))),
  .p z14 none (.mv (.s z58))])
 (.seq (.drw [⟨.p z59 none (.mv (.s z12)), k0, [], []⟩,
  ⟨.p z60 none (.mv (.s z14)), k1, [], []⟩,
  ⟨.p z62 none (.mv (.s z14)), k3, [], []⟩,
  ⟨.a z61 none (.ms k4 k1 [(.b false)] (.s z60)), k2, [k1], []⟩,
  ⟨.a z63 none (.ms k3 k8 [(.i .i64 (.n k0))] (.s z62)), k4, [k3], []⟩,
  ⟨.p z64 none (.bd [(.i .i64 (.n k0)), .s0, .s0] [(k0, k1, (.s z59)), (k1, k1, (.s z61)), (k2, k1, (.s z63))]), k5, [k0, k1, k2, k3, k4], []⟩,
  ⟨.a z15 none (.al k116 k3 (.n (.n .e .s0 .e) (.i .i64 (.n k0)) (.n .e .s0 .e))), k6, [], []⟩,
  ⟨.c none none (.st k3 (.s z15) (.s z64)), k7, [k0, k1, k2, k3, k4, k5, k6], []⟩])
 (.seq (.seq (.reg [.p z65 none (.mv (.s z14)),
  .p z66 none (.mv (.c (.a (.i .i64 (.n k0)))))])
 (.blk k2 (.loop (.seq (.reg [.p z67 none (.cp .lss (.s z66) (.s z65))])
 (.seq (.cond (.s z67) .skip (.ex k2))
 (.seq (.blk k3 (.seq (.reg [.p z68 none (.mv (.s z66)),
  .p z16 none (.mv (.s z68))])
 (.seq (.reg [.p z17 none (.mv (.c (.a (.i .i64 (.n k0))))),
  .p z18 none (.mv (.c (.a (.b false))))])
 (.seq (.seq (.reg [.p z69 none (.fa k1 (.s z13)),
  .r z70 none (.ld (.s z69)),
  .p z71 none (.cp .eql (.s z70) (.c (.a (.i .i64 (.n k3)))))])
 (.cond (.s z71) (.reg [.p z73 none (.mv (.s z2)),
  .p z74 none (.mv (.s z3)),
  .p z75 none (.mv (.s z12)),
  .p z76 none (.mv (.s z16)),
  .k (some z77) none k192 z193 [(.s z73), (.s z74), (.s z75), (.s z76)],
  .p z72 none (.mv (.s z77)),
  .p z78 none (.ex k0 (.s z72)),
  .p z79 none (.ex k1 (.s z72)),
  .p z17 none (.mv (.s z78)),
  .p z18 none (.mv (.s z79))]) (.reg [.p z81 none (.mv (.s z2)),
  .p z82 none (.mv (.s z3)),
  .p z83 none (.mv (.s z12)),
  .p z84 none (.mv (.s z16)),
  .p z85 none (.bd [(.i .i64 (.n k0)), (.i .i64 (.n k0)), (.i .i64 (.n k0))] [(k0, k1, (.s z82)), (k1, k1, (.s z83)), (k2, k1, (.s z84))]),
  .k (some z86) none k193 z194 [(.s z81), (.s z85)],
  .p z80 none (.mv (.s z86)),
  .p z87 none (.ex k0 (.s z80)),
  .p z88 none (.ex k1 (.s z80)),
  .p z17 none (.mv (.s z87)),
  .p z18 none (.mv (.s z88))])))
 (.drw [⟨.p z89 none (.fa k2 (.s z15)), k0, [], []⟩,
  ⟨.r z90 none (.ld (.s z89)), k1, [k0], []⟩,
  ⟨.p z91 none (.mv (.s z16)), k2, [], []⟩,
  ⟨.p z92 none (.fa k1 (.s z15)), k3, [], []⟩,
  ⟨.r z93 none (.ld (.s z92)), k4, [k3], []⟩,
  ⟨.p z94 none (.mv (.s z16)), k5, [], []⟩,
  ⟨.p z95 none (.mv (.s z17)), k6, [], []⟩,
  ⟨.p z96 none (.mv (.s z18)), k7, [], []⟩,
  ⟨.p z97 none (.ix k1 (.s z90) (.s z91)), k8, [k0, k1, k2, k6], []⟩,
  ⟨.c none none (.st k1 (.s z97) (.s z95)), k9, [k0, k1, k2, k6, k8], [true, false]⟩,
  ⟨.p z98 none (.ix k1 (.s z93) (.s z94)), k10, [k0, k1, k2, k3, k4, k5, k6, k7, k8, k9], []⟩,
  ⟨.c none none (.st k1 (.s z98) (.s z96)), k11, [k0, k1, k2, k3, k4, k5, k6, k7, k8, k9, k10], []⟩])))))
 (.reg [.p z99 none (.ar .add (.s z66) (.c (.a (.i .i64 (.n k1))))),
  .p z66 none (.mv (.s z99))])))))))
 (.reg [.p z100 none (.fa k2 (.s z10)),
  .r z101 none (.ld (.s z100)),
  .r z102 none (.lg k3 (.s z15)),
  .a z103 none (.bs k116 k1 [(.i .i64 (.n k0)), .s0, .s0] [(k0, k3, (.s z102))]),
  .c (some z104) none (.ap k116 k3 k56 (.s z101) (.s z103)),
  .p z105 none (.fa k2 (.s z10)),
  .c none none (.st k1 (.s z105) (.s z104))])))))))
 (.reg [.p z106 none (.ar .add (.s z39) (.c (.a (.i .i64 (.n k1))))),
  .p z39 none (.mv (.s z106))])))))))
 (.seq (.reg [.r z107 none (.lg k3 (.s z10)),
  .c none none (.st k3 (.s z9) (.s z107))])
 .rt))))⟩
noncomputable def rf184 : RF := ⟨[.h], [.s z3], (.seq (.reg [.p z3 none (.mv (.c (.a (.i .i64 (.n k0)))))])
 (.seq (.seq (.reg [.p z4 none (.mv (.s .h))])
 (.cond (.s z4) (.seq (.reg [.p z3 none (.mv (.c (.a (.i .i64 (.n k1)))))])
 .rt) .skip))
 (.seq (.reg [.p z3 none (.mv (.c (.a (.i .i64 (.n k0)))))])
 .rt)))⟩
noncomputable def rf191 : RF := ⟨[.h, z2, z3], [.s z7], (.seq (.reg [.a z4 none (.bx k46 k4 (.s .h)),
  .p z7 none (.mv (.c (.a .s0)))])
 (.seq (.seq (.reg [.p z11 none (.mv (.s z2)),
  .p z12 none (.cp .lss (.s z11) (.c (.a (.i .i64 (.n k0))))),
  .p z13 none (.mv (.s z12)),
  .p z14 (some (z13, false)) (.mv (.s z2)),
  .p z15 (some (z13, false)) (.fa k2 (.s z4)),
  .r z16 (some (z13, false)) (.ld (.s z15)),
  .p z17 (some (z13, false)) (.ln (.s z16)),
  .p z18 (some (z13, false)) (.cp .geq (.s z14) (.s z17)),
  .p z19 none (.pk (.s z13) (.c (.a (.b true))) (.s z18))])
 (.cond (.s z19) (.seq (.reg [.p z7 none (.mv (.c (.a .s0)))])
 .rt) .skip))
 (.seq (.reg [.p z8 none (.mv (.c (.a .s0)))])
 (.seq (.seq (.reg [.p z20 none (.fa k2 (.s z4)),
  .r z21 none (.ld (.s z20)),
  .p z22 none (.mv (.s z2)),
  .p z23 none (.ix k1 (.s z21) (.s z22)),
  .r z24 none (.ld (.s z23)),
  .p z25 none (.ln (.s z24)),
  .p z26 none (.mv (.c (.a (.i .i64 (.n k0)))))])
 (.blk k0 (.loop (.seq (.reg [.p z27 none (.cp .lss (.s z26) (.s z25))])
 (.seq (.cond (.s z27) .skip (.ex k0))
 (.seq (.blk k1 (.seq (.reg [.p z28 none (.mv (.s z26)),
  .p z29 none (.ix k7 (.s z24) (.s z26)),
  .r z30 none (.lg k7 (.s z29)),
  .a z10 none (.al k124 k7 (.n (.n (.n .e (.i .i64 (.n k0)) .e) (.i .i64 (.n k0)) (.n .e (.i .i64 (.n k0)) .e)) (.t []) (.n (.n .e (.b false) .e) (.i .i64 (.n k0)) (.n .e (.i .i64 (.n k0)) .e)))),
  .p z9 none (.mv (.s z28)),
  .c none none (.st k7 (.s z10) (.s z30))])
 (.seq (.reg [.p z31 none (.fa k5 (.s z10)),
  .r z32 none (.ld (.s z31)),
  .p z33 none (.mv (.s z3)),
  .p z34 none (.cp .leq (.s z32) (.s z33)),
  .p z35 none (.mv (.s z34)),
  .p z36 (some (z35, true)) (.mv (.s z3)),
  .p z37 (some (z35, true)) (.fa k6 (.s z10)),
  .r z38 (some (z35, true)) (.ld (.s z37)),
  .p z39 (some (z35, true)) (.cp .leq (.s z36) (.s z38)),
  .p z40 none (.pk (.s z35) (.s z39) (.c (.a (.b false))))])
 (.cond (.s z40) (.reg [.p z41 none (.mv (.s z8)),
  .p z42 none (.mv (.s z9)),
  .a z43 none (.bs k3 k1 [(.i .i64 (.n k0))] [(k0, k1, (.s z42))]),
  .c (some z44) none (.ap k3 k1 k8 (.s z41) (.s z43)),
  .p z8 none (.mv (.s z44))]) .skip))))
 (.reg [.p z45 none (.ar .add (.s z26) (.c (.a (.i .i64 (.n k1))))),
  .p z26 none (.mv (.s z45))])))))))
 (.seq (.reg [.p z46 none (.mv (.s z8)),
  .p z7 none (.mv (.s z46))])
 .rt)))))⟩
noncomputable def rf192 : RF := ⟨[.h, z2, z3, z4], [.s z9, .s z10], (.seq (.reg [.p z9 none (.mv (.c (.a (.i .i64 (.n k0))))),
  .p z10 none (.mv (.c (.a (.b false))))])
 (.seq (.seq (.reg [.p z13 none (.mv (.s .h)),
  .p z14 none (.nc (.s z13)),
  .p z15 none (.fa k4 (.s z14)),
  .p z16 none (.fa k3 (.s z15)),
  .r z17 none (.ld (.s z16)),
  .p z18 none (.ln (.s z17)),
  .p z19 none (.mv (.c (.a (.i .i64 (.n k0)))))])
 (.blk k0 (.loop (.seq (.reg [.p z20 none (.cp .lss (.s z19) (.s z18))])
 (.seq (.cond (.s z20) .skip (.ex k0))
 (.seq (.blk k1 (.seq (.reg [.p z21 none (.mv (.s z19)),
  .p z22 none (.ix k3 (.s z17) (.s z19)),
  .r z23 none (.lg k3 (.s z22)),
  .a z12 none (.al k72 k3 (.n (.n .e (.i .i64 (.n k0)) .e) (.i .i64 (.n k0)) (.n .e (.i .i64 (.n k0)) .e))),
  .p z11 none (.mv (.s z21)),
  .c none none (.st k3 (.s z12) (.s z23))])
 (.seq (.reg [.p z24 none (.fa k0 (.s z12)),
  .r z25 none (.ld (.s z24)),
  .p z26 none (.mv (.s z2)),
  .p z27 none (.cp .eql (.s z25) (.s z26)),
  .p z28 none (.mv (.s z27)),
  .p z29 (some (z28, true)) (.fa k1 (.s z12)),
  .r z30 (some (z28, true)) (.ld (.s z29)),
  .p z31 (some (z28, true)) (.mv (.s z3)),
  .p z32 (some (z28, true)) (.cp .eql (.s z30) (.s z31)),
  .p z33 none (.pk (.s z28) (.s z32) (.c (.a (.b false)))),
  .p z34 none (.mv (.s z33)),
  .p z35 (some (z34, true)) (.mv (.s z4)),
  .p z36 (some (z34, true)) (.fa k2 (.s z12)),
  .r z37 (some (z34, true)) (.ld (.s z36)),
  .p z38 (some (z34, true)) (.cp .lss (.s z35) (.s z37)),
  .p z39 none (.pk (.s z34) (.s z38) (.c (.a (.b false))))])
 (.cond (.s z39) (.seq (.reg [.p z40 none (.mv (.s .h)),
  .p z41 none (.nc (.s z40)),
  .p z42 none (.fa k12 (.s z41)),
  .r z43 none (.ld (.s z42)),
  .p z44 none (.mv (.s z11)),
  .p z45 none (.ix k1 (.s z43) (.s z44)),
  .r z46 none (.ld (.s z45)),
  .p z47 none (.mv (.s z4)),
  .p z48 none (.ix k1 (.s z46) (.s z47)),
  .r z49 none (.ld (.s z48)),
  .p z9 none (.mv (.s z49)),
  .p z10 none (.mv (.c (.a (.b true))))])
 .rt) .skip))))
 (.reg [.p z50 none (.ar .add (.s z19) (.c (.a (.i .i64 (.n k1))))),
  .p z19 none (.mv (.s z50))])))))))
 (.seq (.reg [.p z9 none (.mv (.c (.a (.i .i64 (.n k0))))),
  .p z10 none (.mv (.c (.a (.b false))))])
 .rt)))⟩
noncomputable def rf193 : RF := ⟨[.h, z2], [.s z5, .s z6], (.seq (.reg [.a z4 none (.bx k197 k3 (.s z2)),
  .p z5 none (.mv (.c (.a (.i .i64 (.n k0))))),
  .p z6 none (.mv (.c (.a (.b false))))])
 (.seq (.drw [⟨.p z8 none (.mv (.s .h)), k0, [], []⟩,
  ⟨.p z9 none (.nc (.s z8)), k1, [k0], []⟩,
  ⟨.p z10 none (.fa k0 (.s z9)), k2, [k0, k1], []⟩,
  ⟨.p z11 none (.fa k3 (.s z10)), k3, [k0, k1, k2], []⟩,
  ⟨.r z12 none (.ld (.s z11)), k4, [k0, k1, k2, k3], []⟩,
  ⟨.r z13 none (.lg k3 (.s z4)), k5, [], []⟩,
  ⟨.r z14 none (.lk false true [k0, k0, k0] (.g [(.i .i64 (.n k0)), (.i .i64 (.n k0)), (.i .i64 (.n k0))]) (.s z12) (.s z13)), k6, [k0, k1, k2, k3, k4, k5], []⟩,
  ⟨.a z7 none (.al k64 k3 (.n (.n .e (.i .i64 (.n k0)) .e) (.i .i64 (.n k0)) (.n .e (.i .i64 (.n k0)) .e))), k7, [], []⟩,
  ⟨.c none none (.st k3 (.s z7) (.s z14)), k8, [k0, k1, k2, k3, k4, k5, k6, k7], []⟩])
 (.seq (.seq (.reg [.p z15 none (.fa k0 (.s z7)),
  .r z16 none (.ld (.s z15))])
 (.blk k0 (.seq (.reg [.p z18 none (.cp .eql (.s z16) (.c (.a (.i .i64 (.n k1))))),
  .p z17 none (.mv (.s z18))])
 (.cond (.s z17) (.seq (.reg [.p z19 none (.fa k2 (.s z7)),
  .r z20 none (.ld (.s z19)),
  .p z5 none (.mv (.s z20)),
  .p z6 none (.mv (.c (.a (.b true))))])
 .rt) (.seq (.reg [.p z22 none (.cp .eql (.s z16) (.c (.a (.i .i64 (.n k2))))),
  .p z21 none (.mv (.s z22))])
 (.cond (.s z21) (.seq (.drw [⟨.p z23 none (.mv (.s .h)), k0, [], []⟩,
  ⟨.p z24 none (.nc (.s z23)), k1, [k0], []⟩,
  ⟨.p z25 none (.fa k11 (.s z24)), k2, [k0, k1], []⟩,
  ⟨.r z26 none (.ld (.s z25)), k3, [k0, k1, k2], []⟩,
  ⟨.p z27 none (.fa k1 (.s z7)), k4, [], []⟩,
  ⟨.r z28 none (.ld (.s z27)), k5, [k4], []⟩,
  ⟨.p z29 none (.ix k1 (.s z26) (.s z28)), k6, [k0, k1, k2, k3, k4, k5], []⟩,
  ⟨.r z30 none (.ld (.s z29)), k7, [k0, k1, k2, k3, k4, k5, k6], []⟩])
 (.cond (.s z30) (.seq (.drw [⟨.p z31 none (.mv (.s .h)), k0, [], []⟩,
  ⟨.p z32 none (.nc (.s z31)), k1, [k0], []⟩,
  ⟨.p z33 none (.fa k10 (.s z32)), k2, [k0, k1], []⟩,
  ⟨.r z34 none (.ld (.s z33)), k3, [k0, k1, k2], []⟩,
  ⟨.p z35 none (.fa k1 (.s z7)), k4, [], []⟩,
  ⟨.r z36 none (.ld (.s z35)), k5, [k4], []⟩,
  ⟨.p z37 none (.ix k1 (.s z34) (.s z36)), k6, [k0, k1, k2, k3, k4, k5], []⟩,
  ⟨.r z38 none (.ld (.s z37)), k7, [k0, k1, k2, k3, k4, k5, k6], []⟩,
  ⟨.p z39 none (.fa k2 (.s z7)), k8, [], []⟩,
  ⟨.r z40 none (.ld (.s z39)), k9, [k8], []⟩,
  ⟨.p z41 none (.ar .add (.s z38) (.s z40)), k10, [k0, k1, k2, k3, k4, k5, k6, k7, k8, k9], []⟩,
  ⟨.p z5 none (.mv (.s z41)), k11, [k0, k1, k2, k3, k4, k5, k6, k7, k8, k9, k10], []⟩,
  ⟨.p z6 none (.mv (.c (.a (.b true)))), k12, [k0, k1, k2, k3, k4, k5, k6, k7, k8, k9, k10, k11], []⟩])
 .rt) .skip)) (.seq (.reg [.p z43 none (.cp .eql (.s z16) (.c (.a (.i .i64 (.n k3))))),
  .p z42 none (.mv (.s z43))])
 (.cond (.s z42) (.seq (.drw [⟨.p z44 none (.mv (.s .h)), k0, [], []⟩,
  ⟨.p z45 none (.nc (.s z44)), k1, [k0], []⟩,
  ⟨.p z46 none (.fa k8 (.s z45)), k2, [k0, k1], []⟩,
  ⟨.r z47 none (.ld (.s z46)), k3, [k0, k1, k2], []⟩,
  ⟨.p z48 none (.fa k1 (.s z7)), k4, [], []⟩,
  ⟨.r z49 none (.ld (.s z48)), k5, [k4], []⟩,
  ⟨.p z50 none (.ix k1 (.s z47) (.s z49)), k6, [k0, k1, k2, k3, k4, k5], []⟩,
  ⟨.r z51 none (.ld (.s z50)), k7, [k0, k1, k2, k3, k4, k5, k6], []⟩,
  ⟨.p z52 none (.fa k2 (.s z7)), k8, [], []⟩,
  ⟨.r z53 none (.ld (.s z52)), k9, [k8], []⟩,
  ⟨.p z54 none (.ar .add (.s z51) (.s z53)), k10, [k0, k1, k2, k3, k4, k5, k6, k7, k8, k9], []⟩,
  ⟨.p z5 none (.mv (.s z54)), k11, [k0, k1, k2, k3, k4, k5, k6, k7, k8, k9, k10], []⟩,
  ⟨.p z6 none (.mv (.c (.a (.b true)))), k12, [k0, k1, k2, k3, k4, k5, k6, k7, k8, k9, k10, k11], []⟩])
 .rt) .skip))))))))
 (.seq (.reg [.p z5 none (.mv (.c (.a (.i .i64 (.n k0))))),
  .p z6 none (.mv (.c (.a (.b false))))])
 .rt))))⟩
noncomputable def site0 : Site := ⟨62, rfA (nav [1, 1, 1, 1, 1, 1, 0, 1, 0] (bodyOf Try.f137)), rfB (nav [1, 1, 1, 1, 1, 1, 0, 1, 0] (bodyOf Try.f137)), (.reg [.p z6 none (.mv (.s z45))]), (.blk k1 (.drw [⟨.p z46 none (.fa k0 (.s z4)), k0, [], []⟩,
 ⟨.r z47 none (.ld (.s z46)), k1, [k0], []⟩,
 ⟨.r z48 none (.ld (.s z2)), k2, [], []⟩,
 ⟨.p z49 none (.mv (.s z6)), k3, [], []⟩,
 ⟨.k (some z50) none k166 z167 [(.s z48), (.s z49)], k4, [k2, k3], [false, true]⟩,
 ⟨.c (some z51) none (.ap k113 k3 k40 (.s z47) (.s z50)), k5, [k0, k1, k2, k3, k4], []⟩,
 ⟨.p z52 none (.fa k0 (.s z4)), k6, [k0, k1, k2, k3, k4, k5], []⟩,
 ⟨.c none none (.st k1 (.s z52) (.s z51)), k7, [k0, k1, k2, k3, k4, k5, k6], []⟩]))⟩
end
end Go.Proofs.Ytbpccmnalhdpmaa
namespace Go.Proofs.Ytbpccmnalhdpmaa
open Go.Ev
noncomputable section
noncomputable def tab : T (Option RF) := (.n (.n (.n (.n (.n (.n (.n .e none (.n .e (some rf191) .e)) none .e) none .e) none (.n (.n (.n (.n .e (some rf135) .e) (some rf71) .e) none (.n (.n .e (some rf167) .e) none .e)) none (.n .e none (.n (.n .e (some rf183) .e) none .e)))) none (.n (.n .e (some rf19) .e) none (.n (.n (.n (.n .e (some rf139) .e) none .e) none (.n .e (some rf107) .e)) none (.n (.n (.n .e (some rf155) .e) none .e) none (.n .e (some rf123) .e))))) none (.n (.n (.n (.n (.n (.n .e (some rf129) .e) none (.n .e (some rf193) .e)) none .e) none .e) none (.n (.n (.n (.n .e (some rf137) .e) (some rf73) .e) none (.n (.n .e (some rf169) .e) none .e)) none (.n (.n (.n .e (some rf153) .e) none .e) none (.n .e (some rf121) .e)))) none (.n (.n (.n (.n (.n .e (some rf133) .e) none .e) none (.n (.n .e (some rf165) .e) none .e)) (some rf21) .e) none (.n .e none (.n (.n (.n .e (some rf157) .e) none .e) (some rf61) .e))))) none (.n (.n (.n (.n (.n (.n .e none (.n .e (some rf192) .e)) none .e) none .e) none (.n (.n (.n (.n .e (some rf136) .e) (some rf72) .e) none (.n (.n .e (some rf168) .e) none .e)) none (.n .e none (.n (.n .e (some rf184) .e) (some rf120) .e)))) none (.n (.n (.n .e none (.n (.n .e (some rf164) .e) none .e)) none .e) none (.n (.n .e none (.n .e (some rf108) .e)) none (.n (.n (.n .e (some rf156) .e) none .e) (some rf60) (.n .e (some rf124) .e))))) none (.n (.n .e none (.n (.n (.n (.n .e (some rf138) .e) (some rf74) .e) none (.n .e (some rf106) .e)) none (.n (.n (.n .e (some rf154) .e) none .e) none (.n .e (some rf122) .e)))) none (.n (.n (.n (.n (.n .e (some rf134) .e) (some rf70) .e) none (.n (.n .e (some rf166) .e) none .e)) none (.n .e none (.n (.n .e (some rf182) .e) none .e))) none (.n .e (some rf30) (.n .e (some rf62) .e))))))
noncomputable def sites : T (Option Site) := (.n .e (some site0) .e)
end
end Go.Proofs.Ytbpccmnalhdpmaa
