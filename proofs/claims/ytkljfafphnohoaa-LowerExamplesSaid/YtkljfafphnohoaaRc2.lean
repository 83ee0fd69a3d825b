/- The program's functions in the evaluator's form, part 2. -/
import Derived.Test.YtkljfafphnohoaaRows
import Derived.Test.YtkljfafphnohoaaE27
set_option linter.unusedVariables false
set_option maxRecDepth 100000
namespace Go.Proofs.Ytkljfafphnohoaa
open Go.Ev
noncomputable section
noncomputable def rf116 : RF := ⟨[.h, (.l .h)], [.g (.r (.l .h)) (nat_lit 13)], (.seq (.reg [.a (.l (.l .h)) none (.bx (nat_lit 139) (nat_lit 13) (.s (.l .h))),
  .a (.r (.l .h)) none (.al (nat_lit 139) (nat_lit 13) (.n (.n (.n (.n .e .s0 .e) (.t (nat_lit 1)) (.n .e .s0 .e)) (.i .i64 (.n (nat_lit 0))) (.n (.n .e (.i .i64 (.n (nat_lit 0))) .e) (.i .i64 (.n (nat_lit 0))) .e)) (.i .i64 (.n (nat_lit 0))) (.n (.n (.n .e (.t (nat_lit 1)) .e) (.t (nat_lit 1)) (.n .e .s0 .e)) (.i .i64 (.n (nat_lit 0))) (.n (.n .e .s0 .e) (.i .i64 (.n (nat_lit 0))) .e))))])
 (.seq (.reg [.p (.l (.r (.l .h))) none (.mv (.s .h)),
  .p (.r (.r (.l .h))) none (.nc (.s (.l (.r (.l .h))))),
  .p (.l (.l (.r .h))) none (.fa (nat_lit 0) (.s (.r (.r (.l .h))))),
  .p (.r (.l (.r .h))) none (.fa (nat_lit 3) (.s (.l (.l (.r .h))))),
  .r (.l (.r (.r .h))) none (.ld (.s (.r (.l (.r .h))))),
  .p (.r (.r (.r .h))) none (.ln (.s (.l (.r (.r .h))))),
  .p (.l (.l (.l (.l .h)))) none (.fa (nat_lit 2) (.s (.l (.l .h)))),
  .c none none (.st (nat_lit 1) (.s (.l (.l (.l (.l .h))))) (.s (.r (.r (.r .h)))))])
 (.seq (.seq (.reg [.p (.r (.l (.l (.l .h)))) none (.fa (nat_lit 2) (.s (.l (.l .h)))),
  .r (.l (.r (.l (.l .h)))) none (.ld (.s (.r (.l (.l (.l .h)))))),
  .p (.r (.r (.l (.l .h)))) none (.cp .geq (.s (.l (.r (.l (.l .h))))) (.c (.a (.i .i64 (.n (nat_lit 200))))))])
 (.cond (.s (.r (.r (.l (.l .h))))) (.seq (.reg [.p (.l (.l (.r (.l .h)))) none (.mv (.s .h)),
  .p (.r (.l (.r (.l .h)))) none (.fa (nat_lit 1) (.s (.l (.l .h)))),
  .r (.l (.r (.r (.l .h)))) none (.ld (.s (.r (.l (.r (.l .h)))))),
  .k (some (.r (.r (.r (.l .h))))) none (nat_lit 72) (.r (.l (.l (.r (.l (.l .h)))))) [(.s (.l (.l (.r (.l .h))))), (.s (.l (.r (.r (.l .h))))), (.c (.a (.i .i64 (.n (nat_lit 5)))))]])
 (.seq (.reg [.r (.l (.l (.l (.r .h)))) none (.lg (nat_lit 13) (.s (.l (.l .h)))),
  .c none none (.st (nat_lit 13) (.s (.r (.l .h))) (.s (.l (.l (.l (.r .h))))))])
 .rt)) .skip))
 (.seq (.drw [⟨.p (.r (.l (.l (.r .h)))) none (.mv (.s .h)), (nat_lit 0), [], []⟩,
  ⟨.p (.l (.r (.l (.r .h)))) none (.mv (.s .h)), (nat_lit 1), [], []⟩,
  ⟨.p (.r (.r (.l (.r .h)))) none (.nc (.s (.l (.r (.l (.r .h)))))), (nat_lit 2), [(nat_lit 1)], []⟩,
  ⟨.p (.l (.l (.r (.r .h)))) none (.fa (nat_lit 0) (.s (.r (.r (.l (.r .h)))))), (nat_lit 3), [(nat_lit 1), (nat_lit 2)], []⟩,
  ⟨.p (.r (.l (.r (.r .h)))) none (.fa (nat_lit 3) (.s (.l (.l (.r (.r .h)))))), (nat_lit 4), [(nat_lit 1), (nat_lit 2), (nat_lit 3)], []⟩,
  ⟨.r (.l (.r (.r (.r .h)))) none (.ld (.s (.r (.l (.r (.r .h)))))), (nat_lit 5), [(nat_lit 1), (nat_lit 2), (nat_lit 3), (nat_lit 4)], []⟩,
  ⟨.p (.r (.r (.r (.r .h)))) none (.mv (.s .h)), (nat_lit 6), [], []⟩,
  ⟨.p (.l (.l (.l (.l (.l .h))))) none (.nc (.s (.r (.r (.r (.r .h)))))), (nat_lit 7), [(nat_lit 6)], []⟩,
  ⟨.p (.r (.l (.l (.l (.l .h))))) none (.fa (nat_lit 4) (.s (.l (.l (.l (.l (.l .h))))))), (nat_lit 8), [(nat_lit 6), (nat_lit 7)], []⟩,
  ⟨.r (.l (.r (.l (.l (.l .h))))) none (.ld (.s (.r (.l (.l (.l (.l .h))))))), (nat_lit 9), [(nat_lit 6), (nat_lit 7), (nat_lit 8)], []⟩,
  ⟨.p (.r (.r (.l (.l (.l .h))))) none (.fa (nat_lit 0) (.s (.l (.l .h)))), (nat_lit 10), [], []⟩,
  ⟨.r (.l (.l (.r (.l (.l .h))))) none (.ld (.s (.r (.r (.l (.l (.l .h))))))), (nat_lit 11), [(nat_lit 10)], []⟩,
  ⟨.p (.r (.l (.r (.l (.l .h))))) none (.fa (nat_lit 1) (.s (.l (.l .h)))), (nat_lit 12), [], []⟩,
  ⟨.r (.l (.r (.r (.l (.l .h))))) none (.ld (.s (.r (.l (.r (.l (.l .h))))))), (nat_lit 13), [(nat_lit 12)], []⟩,
  ⟨.p (.r (.r (.r (.l (.l .h))))) none (.bd [(.i .i64 (.n (nat_lit 0))), (.i .i64 (.n (nat_lit 0))), (.i .i64 (.n (nat_lit 0)))] [((nat_lit 0), (nat_lit 1), (.s (.l (.r (.l (.l (.l .h))))))), ((nat_lit 1), (nat_lit 1), (.s (.l (.l (.r (.l (.l .h))))))), ((nat_lit 2), (nat_lit 1), (.s (.l (.r (.r (.l (.l .h)))))))]), (nat_lit 14), [(nat_lit 6), (nat_lit 7), (nat_lit 8), (nat_lit 9), (nat_lit 10), (nat_lit 11), (nat_lit 12), (nat_lit 13)], []⟩,
  ⟨.a (.l (.l (.l (.r (.l .h))))) none (.bs (nat_lit 253) (nat_lit 1) [(.i .i64 (.n (nat_lit 0))), (.i .i64 (.n (nat_lit 0))), (.i .i64 (.n (nat_lit 0)))] [((nat_lit 0), (nat_lit 3), (.s (.r (.r (.r (.l (.l .h)))))))]), (nat_lit 15), [(nat_lit 6), (nat_lit 7), (nat_lit 8), (nat_lit 9), (nat_lit 10), (nat_lit 11), (nat_lit 12), (nat_lit 13), (nat_lit 14)], []⟩,
  ⟨.c (some (.r (.l (.l (.r (.l .h)))))) none (.ap (nat_lit 253) (nat_lit 3) (nat_lit 24) (.s (.l (.r (.r (.r .h))))) (.s (.l (.l (.l (.r (.l .h))))))), (nat_lit 16), [(nat_lit 1), (nat_lit 2), (nat_lit 3), (nat_lit 4), (nat_lit 5), (nat_lit 6), (nat_lit 7), (nat_lit 8), (nat_lit 9), (nat_lit 10), (nat_lit 11), (nat_lit 12), (nat_lit 13), (nat_lit 14), (nat_lit 15)], []⟩,
  ⟨.p (.l (.r (.l (.r (.l .h))))) none (.nc (.s (.r (.l (.l (.r .h)))))), (nat_lit 17), [(nat_lit 0), (nat_lit 1), (nat_lit 2), (nat_lit 3), (nat_lit 4), (nat_lit 5), (nat_lit 6), (nat_lit 7), (nat_lit 8), (nat_lit 9), (nat_lit 10), (nat_lit 11), (nat_lit 12), (nat_lit 13), (nat_lit 14), (nat_lit 15), (nat_lit 16)], []⟩,
  ⟨.p (.r (.r (.l (.r (.l .h))))) none (.fa (nat_lit 0) (.s (.l (.r (.l (.r (.l .h))))))), (nat_lit 18), [(nat_lit 0), (nat_lit 1), (nat_lit 2), (nat_lit 3), (nat_lit 4), (nat_lit 5), (nat_lit 6), (nat_lit 7), (nat_lit 8), (nat_lit 9), (nat_lit 10), (nat_lit 11), (nat_lit 12), (nat_lit 13), (nat_lit 14), (nat_lit 15), (nat_lit 16), (nat_lit 17)], []⟩,
  ⟨.p (.l (.l (.r (.r (.l .h))))) none (.fa (nat_lit 3) (.s (.r (.r (.l (.r (.l .h))))))), (nat_lit 19), [(nat_lit 0), (nat_lit 1), (nat_lit 2), (nat_lit 3), (nat_lit 4), (nat_lit 5), (nat_lit 6), (nat_lit 7), (nat_lit 8), (nat_lit 9), (nat_lit 10), (nat_lit 11), (nat_lit 12), (nat_lit 13), (nat_lit 14), (nat_lit 15), (nat_lit 16), (nat_lit 17), (nat_lit 18)], []⟩,
  ⟨.c none none (.st (nat_lit 1) (.s (.l (.l (.r (.r (.l .h)))))) (.s (.r (.l (.l (.r (.l .h))))))), (nat_lit 20), [(nat_lit 0), (nat_lit 1), (nat_lit 2), (nat_lit 3), (nat_lit 4), (nat_lit 5), (nat_lit 6), (nat_lit 7), (nat_lit 8), (nat_lit 9), (nat_lit 10), (nat_lit 11), (nat_lit 12), (nat_lit 13), (nat_lit 14), (nat_lit 15), (nat_lit 16), (nat_lit 17), (nat_lit 18), (nat_lit 19)], []⟩])
 (.seq (.seq (.reg [.p (.r (.l (.r (.r (.l .h))))) none (.fa (nat_lit 0) (.s (.l (.l .h)))),
  .r (.l (.r (.r (.r (.l .h))))) none (.ld (.s (.r (.l (.r (.r (.l .h)))))))])
 (.blk (nat_lit 0) (.seq (.reg [.p (.l (.l (.l (.l (.r .h))))) none (.cp .eql (.s (.l (.r (.r (.r (.l .h)))))) (.c (.a (.i .i64 (.n (nat_lit 1)))))),
  .p (.r (.r (.r (.r (.l .h))))) none (.mv (.s (.l (.l (.l (.l (.r .h)))))))])
 (.cond (.s (.r (.r (.r (.r (.l .h)))))) (.seq (.reg [.p (.r (.l (.l (.l (.r .h))))) none (.fa (nat_lit 3) (.s (.l (.l .h)))),
  .r (.l (.r (.l (.l (.r .h))))) none (.ld (.s (.r (.l (.l (.l (.r .h))))))),
  .p (.r (.r (.l (.l (.r .h))))) none (.fa (nat_lit 2) (.s (.l (.l .h)))),
  .r (.l (.l (.r (.l (.r .h))))) none (.ld (.s (.r (.r (.l (.l (.r .h))))))),
  .p (.r (.l (.r (.l (.r .h))))) none (.ar .add (.s (.l (.l (.r (.l (.r .h)))))) (.c (.a (.i .i64 (.n (nat_lit 1)))))),
  .p (.l (.r (.r (.l (.r .h))))) none (.bd [(.t (nat_lit 1)), (.i .i64 (.n (nat_lit 0))), (.i .i64 (.n (nat_lit 0))), (.i .i64 (.n (nat_lit 0))), (.b false), (.i .i64 (.n (nat_lit 0))), (.i .i64 (.n (nat_lit 0)))] [((nat_lit 0), (nat_lit 1), (.s (.l (.r (.l (.l (.r .h))))))), ((nat_lit 1), (nat_lit 1), (.c (.a (.i .i64 (.n (nat_lit 1)))))), ((nat_lit 2), (nat_lit 1), (.c (.a (.i .i64 (.g (nat_lit 0)))))), ((nat_lit 3), (nat_lit 1), (.c (.a (.i .i64 (.n (nat_lit 1)))))), ((nat_lit 5), (nat_lit 1), (.s (.r (.l (.r (.l (.r .h)))))))]),
  .a (.l (.r .h)) none (.al (nat_lit 62) (nat_lit 7) (.n (.n (.n .e (.i .i64 (.n (nat_lit 0))) .e) (.i .i64 (.n (nat_lit 0))) (.n .e (.i .i64 (.n (nat_lit 0))) .e)) (.t (nat_lit 1)) (.n (.n .e (.b false) .e) (.i .i64 (.n (nat_lit 0))) (.n .e (.i .i64 (.n (nat_lit 0))) .e)))),
  .c none none (.st (nat_lit 7) (.s (.l (.r .h))) (.s (.l (.r (.r (.l (.r .h)))))))])
 (.seq (.seq (.reg [.p (.r (.r (.r (.l (.r .h))))) none (.fa (nat_lit 5) (.s (.l (.l .h)))),
  .r (.l (.l (.l (.r (.r .h))))) none (.ld (.s (.r (.r (.r (.l (.r .h))))))),
  .p (.r (.l (.l (.r (.r .h))))) none (.cp .gtr (.s (.l (.l (.l (.r (.r .h)))))) (.c (.a (.i .i64 (.n (nat_lit 0))))))])
 (.cond (.s (.r (.l (.l (.r (.r .h)))))) (.drw [⟨.p (.l (.r (.l (.r (.r .h))))) none (.fa (nat_lit 5) (.s (.l (.l .h)))), (nat_lit 0), [], []⟩,
  ⟨.r (.r (.r (.l (.r (.r .h))))) none (.ld (.s (.l (.r (.l (.r (.r .h))))))), (nat_lit 1), [(nat_lit 0)], []⟩,
  ⟨.p (.l (.l (.r (.r (.r .h))))) none (.fa (nat_lit 1) (.s (.l (.r .h)))), (nat_lit 2), [], []⟩,
  ⟨.c none none (.st (nat_lit 1) (.s (.l (.l (.r (.r (.r .h)))))) (.c (.a (.i .i64 (.n (nat_lit 3)))))), (nat_lit 3), [(nat_lit 2)], [true]⟩,
  ⟨.p (.r (.l (.r (.r (.r .h))))) none (.fa (nat_lit 3) (.s (.l (.r .h)))), (nat_lit 4), [(nat_lit 0), (nat_lit 1), (nat_lit 2), (nat_lit 3)], []⟩,
  ⟨.c none none (.st (nat_lit 1) (.s (.r (.l (.r (.r (.r .h)))))) (.s (.r (.r (.l (.r (.r .h))))))), (nat_lit 5), [(nat_lit 0), (nat_lit 1), (nat_lit 2), (nat_lit 3), (nat_lit 4)], []⟩]) (.seq (.reg [.p (.l (.r (.r (.r (.r .h))))) none (.fa (nat_lit 4) (.s (.l (.l .h)))),
  .r (.r (.r (.r (.r (.r .h))))) none (.ld (.s (.l (.r (.r (.r (.r .h))))))),
  .p (.l (.l (.l (.l (.l (.l .h)))))) none (.eq true false [(nat_lit 2)] (.s (.r (.r (.r (.r (.r .h)))))) (.c (.a (.t (nat_lit 1)))))])
 (.cond (.s (.l (.l (.l (.l (.l (.l .h))))))) (.seq (.reg [.p (.l (.r (.l (.l (.l (.l .h)))))) none (.mv (.s .h)),
  .p (.r (.r (.l (.l (.l (.l .h)))))) none (.fa (nat_lit 4) (.s (.l (.l .h)))),
  .r (.l (.l (.r (.l (.l (.l .h)))))) none (.ld (.s (.r (.r (.l (.l (.l (.l .h)))))))),
  .k (some (.r (.l (.r (.l (.l (.l .h))))))) none (nat_lit 161) (.l (.r (.l (.l (.l (.r (.l .h))))))) [(.s (.l (.r (.l (.l (.l (.l .h))))))), (.s (.l (.l (.r (.l (.l (.l .h)))))))],
  .p (.r (.l (.l (.l (.l (.l .h)))))) none (.mv (.s (.r (.l (.r (.l (.l (.l .h)))))))),
  .p (.l (.r (.r (.l (.l (.l .h)))))) none (.ex (nat_lit 0) (.s (.r (.l (.l (.l (.l (.l .h)))))))),
  .p (.r (.r (.r (.l (.l (.l .h)))))) none (.ex (nat_lit 1) (.s (.r (.l (.l (.l (.l (.l .h)))))))),
  .p (.r (.r .h)) none (.mv (.s (.l (.r (.r (.l (.l (.l .h)))))))),
  .p (.l (.l (.l .h))) none (.mv (.s (.r (.r (.r (.l (.l (.l .h))))))))])
 (.seq (.seq (.reg [.p (.l (.l (.l (.r (.l (.l .h)))))) none (.mv (.s (.l (.l (.l .h))))),
  .p (.r (.l (.l (.r (.l (.l .h)))))) none (.nt (.s (.l (.l (.l (.r (.l (.l .h))))))))])
 (.cond (.s (.r (.l (.l (.r (.l (.l .h))))))) (.seq (.reg [.p (.l (.r (.l (.r (.l (.l .h)))))) none (.mv (.s .h)),
  .p (.r (.r (.l (.r (.l (.l .h)))))) none (.fa (nat_lit 1) (.s (.l (.l .h)))),
  .r (.l (.l (.r (.r (.l (.l .h)))))) none (.ld (.s (.r (.r (.l (.r (.l (.l .h)))))))),
  .k (some (.r (.l (.r (.r (.l (.l .h))))))) none (nat_lit 72) (.r (.l (.l (.r (.l (.l .h)))))) [(.s (.l (.r (.l (.r (.l (.l .h))))))), (.s (.l (.l (.r (.r (.l (.l .h))))))), (.c (.a (.i .i64 (.n (nat_lit 8)))))]])
 (.seq (.reg [.r (.l (.r (.r (.r (.l (.l .h)))))) none (.lg (nat_lit 13) (.s (.l (.l .h)))),
  .c none none (.st (nat_lit 13) (.s (.r (.l .h))) (.s (.l (.r (.r (.r (.l (.l .h))))))))])
 .rt)) .skip))
 (.drw [⟨.p (.r (.r (.r (.r (.l (.l .h)))))) none (.mv (.s (.r (.r .h)))), (nat_lit 0), [], []⟩,
  ⟨.p (.l (.l (.l (.l (.r (.l .h)))))) none (.mv (.s .h)), (nat_lit 1), [], []⟩,
  ⟨.p (.r (.l (.l (.l (.r (.l .h)))))) none (.nc (.s (.l (.l (.l (.l (.r (.l .h)))))))), (nat_lit 2), [(nat_lit 1)], []⟩,
  ⟨.p (.l (.r (.l (.l (.r (.l .h)))))) none (.fa (nat_lit 0) (.s (.r (.l (.l (.l (.r (.l .h)))))))), (nat_lit 3), [(nat_lit 1), (nat_lit 2)], []⟩,
  ⟨.p (.r (.r (.l (.l (.r (.l .h)))))) none (.fa (nat_lit 0) (.s (.l (.r (.l (.l (.r (.l .h)))))))), (nat_lit 4), [(nat_lit 1), (nat_lit 2), (nat_lit 3)], []⟩,
  ⟨.p (.l (.l (.r (.l (.r (.l .h)))))) none (.fa (nat_lit 0) (.s (.r (.r (.l (.l (.r (.l .h)))))))), (nat_lit 5), [(nat_lit 1), (nat_lit 2), (nat_lit 3), (nat_lit 4)], []⟩,
  ⟨.r (.r (.l (.r (.l (.r (.l .h)))))) none (.ld (.s (.l (.l (.r (.l (.r (.l .h)))))))), (nat_lit 6), [(nat_lit 1), (nat_lit 2), (nat_lit 3), (nat_lit 4), (nat_lit 5)], []⟩,
  ⟨.p (.l (.r (.r (.l (.r (.l .h)))))) none (.mv (.s (.r (.r .h)))), (nat_lit 7), [], []⟩,
  ⟨.p (.r (.r (.r (.l (.r (.l .h)))))) none (.ix (nat_lit 2) (.s (.r (.l (.r (.l (.r (.l .h))))))) (.s (.l (.r (.r (.l (.r (.l .h)))))))), (nat_lit 8), [(nat_lit 1), (nat_lit 2), (nat_lit 3), (nat_lit 4), (nat_lit 5), (nat_lit 6), (nat_lit 7)], []⟩,
  ⟨.p (.l (.l (.l (.r (.r (.l .h)))))) none (.fa (nat_lit 1) (.s (.r (.r (.r (.l (.r (.l .h)))))))), (nat_lit 9), [(nat_lit 1), (nat_lit 2), (nat_lit 3), (nat_lit 4), (nat_lit 5), (nat_lit 6), (nat_lit 7), (nat_lit 8)], []⟩,
  ⟨.r (.r (.l (.l (.r (.r (.l .h)))))) none (.ld (.s (.l (.l (.l (.r (.r (.l .h)))))))), (nat_lit 10), [(nat_lit 1), (nat_lit 2), (nat_lit 3), (nat_lit 4), (nat_lit 5), (nat_lit 6), (nat_lit 7), (nat_lit 8), (nat_lit 9)], []⟩,
  ⟨.p (.l (.r (.l (.r (.r (.l .h)))))) none (.ln (.s (.r (.l (.l (.r (.r (.l .h)))))))), (nat_lit 11), [(nat_lit 1), (nat_lit 2), (nat_lit 3), (nat_lit 4), (nat_lit 5), (nat_lit 6), (nat_lit 7), (nat_lit 8), (nat_lit 9), (nat_lit 10)], []⟩,
  ⟨.p (.r (.r (.l (.r (.r (.l .h)))))) none (.fa (nat_lit 1) (.s (.l (.r .h)))), (nat_lit 12), [], []⟩,
  ⟨.c none none (.st (nat_lit 1) (.s (.r (.r (.l (.r (.r (.l .h))))))) (.c (.a (.i .i64 (.n (nat_lit 2)))))), (nat_lit 13), [(nat_lit 12)], [true, true]⟩,
  ⟨.p (.l (.l (.r (.r (.r (.l .h)))))) none (.fa (nat_lit 2) (.s (.l (.r .h)))), (nat_lit 14), [(nat_lit 0), (nat_lit 12), (nat_lit 13)], []⟩,
  ⟨.c none none (.st (nat_lit 1) (.s (.l (.l (.r (.r (.r (.l .h))))))) (.s (.r (.r (.r (.r (.l (.l .h)))))))), (nat_lit 15), [(nat_lit 0), (nat_lit 12), (nat_lit 13), (nat_lit 14)], [true, true]⟩,
  ⟨.p (.r (.l (.r (.r (.r (.l .h)))))) none (.fa (nat_lit 3) (.s (.l (.r .h)))), (nat_lit 16), [(nat_lit 0), (nat_lit 1), (nat_lit 2), (nat_lit 3), (nat_lit 4), (nat_lit 5), (nat_lit 6), (nat_lit 7), (nat_lit 8), (nat_lit 9), (nat_lit 10), (nat_lit 11), (nat_lit 12), (nat_lit 13), (nat_lit 14), (nat_lit 15)], []⟩,
  ⟨.c none none (.st (nat_lit 1) (.s (.r (.l (.r (.r (.r (.l .h))))))) (.s (.l (.r (.l (.r (.r (.l .h)))))))), (nat_lit 17), [(nat_lit 0), (nat_lit 1), (nat_lit 2), (nat_lit 3), (nat_lit 4), (nat_lit 5), (nat_lit 6), (nat_lit 7), (nat_lit 8), (nat_lit 9), (nat_lit 10), (nat_lit 11), (nat_lit 12), (nat_lit 13), (nat_lit 14), (nat_lit 15), (nat_lit 16)], []⟩]))) .skip))))
 (.seq (.reg [.p (.l (.r (.r (.r (.r (.l .h)))))) none (.mv (.s .h)),
  .p (.r (.r (.r (.r (.r (.l .h)))))) none (.fa (nat_lit 1) (.s (.l (.l .h)))),
  .r (.l (.l (.l (.l (.l (.r .h)))))) none (.ld (.s (.r (.r (.r (.r (.r (.l .h)))))))),
  .r (.r (.l (.l (.l (.l (.r .h)))))) none (.lg (nat_lit 7) (.s (.l (.r .h)))),
  .k (some (.l (.r (.l (.l (.l (.r .h))))))) none (nat_lit 73) (.l (.r (.l (.r (.l (.l .h)))))) [(.s (.l (.r (.r (.r (.r (.l .h))))))), (.s (.l (.l (.l (.l (.l (.r .h))))))), (.s (.r (.l (.l (.l (.l (.r .h)))))))],
  .p (.r (.r (.l (.l (.l (.r .h)))))) none (.fa (nat_lit 6) (.s (.l (.l .h)))),
  .c none none (.st (nat_lit 1) (.s (.r (.r (.l (.l (.l (.r .h))))))) (.s (.l (.r (.l (.l (.l (.r .h))))))))])
 (.seq (.reg [.r (.l (.l (.r (.l (.l (.r .h)))))) none (.lg (nat_lit 13) (.s (.l (.l .h)))),
  .c none none (.st (nat_lit 13) (.s (.r (.l .h))) (.s (.l (.l (.r (.l (.l (.r .h))))))))])
 .rt)))) (.seq (.reg [.p (.l (.r (.r (.l (.l (.r .h)))))) none (.cp .eql (.s (.l (.r (.r (.r (.l .h)))))) (.c (.a (.i .i64 (.n (nat_lit 3)))))),
  .p (.r (.l (.r (.l (.l (.r .h)))))) none (.mv (.s (.l (.r (.r (.l (.l (.r .h))))))))])
 (.cond (.s (.r (.l (.r (.l (.l (.r .h))))))) (.seq (.reg [.p (.r (.r (.r (.l (.l (.r .h)))))) none (.fa (nat_lit 7) (.s (.l (.l .h)))),
  .r (.l (.l (.l (.r (.l (.r .h)))))) none (.ld (.s (.r (.r (.r (.l (.l (.r .h)))))))),
  .p (.r (.l (.l (.r (.l (.r .h)))))) none (.ln (.s (.l (.l (.l (.r (.l (.r .h)))))))),
  .p (.l (.r (.l (.r (.l (.r .h)))))) none (.cp .gtr (.s (.r (.l (.l (.r (.l (.r .h))))))) (.c (.a (.i .i64 (.n (nat_lit 0)))))),
  .p (.r (.r (.l (.r (.l (.r .h)))))) none (.mv (.s (.l (.r (.l (.r (.l (.r .h)))))))),
  .p (.l (.l (.r (.r (.l (.r .h)))))) (some ((.r (.r (.l (.r (.l (.r .h)))))), true)) (.fa (nat_lit 7) (.s (.l (.l .h)))),
  .r (.r (.l (.r (.r (.l (.r .h)))))) (some ((.r (.r (.l (.r (.l (.r .h)))))), true)) (.ld (.s (.l (.l (.r (.r (.l (.r .h)))))))),
  .p (.l (.r (.r (.r (.l (.r .h)))))) (some ((.r (.r (.l (.r (.l (.r .h)))))), true)) (.ix (nat_lit 6) (.s (.r (.l (.r (.r (.l (.r .h))))))) (.c (.a (.i .i64 (.n (nat_lit 0)))))),
  .p (.r (.r (.r (.r (.l (.r .h)))))) (some ((.r (.r (.l (.r (.l (.r .h)))))), true)) (.fa (nat_lit 0) (.s (.l (.r (.r (.r (.l (.r .h)))))))),
  .r (.l (.l (.l (.l (.r (.r .h)))))) (some ((.r (.r (.l (.r (.l (.r .h)))))), true)) (.ld (.s (.r (.r (.r (.r (.l (.r .h)))))))),
  .p (.r (.l (.l (.l (.r (.r .h)))))) (some ((.r (.r (.l (.r (.l (.r .h)))))), true)) (.cp .neq (.s (.l (.l (.l (.l (.r (.r .h))))))) (.c (.a (.i .i64 (.n (nat_lit 1)))))),
  .p (.l (.r (.l (.l (.r (.r .h)))))) none (.pk (.s (.r (.r (.l (.r (.l (.r .h))))))) (.s (.r (.l (.l (.l (.r (.r .h))))))) (.c (.a (.b false))))])
 (.cond (.s (.l (.r (.l (.l (.r (.r .h))))))) (.reg [.p (.r (.r (.l (.l (.r (.r .h)))))) none (.mv (.s .h)),
  .p (.l (.l (.r (.l (.r (.r .h)))))) none (.fa (nat_lit 1) (.s (.l (.l .h)))),
  .r (.r (.l (.r (.l (.r (.r .h)))))) none (.ld (.s (.l (.l (.r (.l (.r (.r .h)))))))),
  .k (some (.l (.r (.r (.l (.r (.r .h))))))) none (nat_lit 72) (.r (.l (.l (.r (.l (.l .h)))))) [(.s (.r (.r (.l (.l (.r (.r .h))))))), (.s (.r (.l (.r (.l (.r (.r .h))))))), (.c (.a (.i .i64 (.n (nat_lit 10)))))]]) .skip)) .skip))))))
 (.seq (.reg [.p (.r (.r (.r (.l (.r (.r .h)))))) none (.mv (.s .h)),
  .p (.l (.l (.l (.r (.r (.r .h)))))) none (.fa (nat_lit 7) (.s (.l (.l .h)))),
  .r (.r (.l (.l (.r (.r (.r .h)))))) none (.ld (.s (.l (.l (.l (.r (.r (.r .h)))))))),
  .p (.l (.r (.l (.r (.r (.r .h)))))) none (.fa (nat_lit 1) (.s (.l (.l .h)))),
  .r (.r (.r (.l (.r (.r (.r .h)))))) none (.ld (.s (.l (.r (.l (.r (.r (.r .h)))))))),
  .k (some (.l (.l (.r (.r (.r (.r .h))))))) none (nat_lit 162) (.r (.r (.l (.l (.l (.r (.l .h))))))) [(.s (.r (.r (.r (.l (.r (.r .h))))))), (.s (.r (.l (.l (.r (.r (.r .h))))))), (.s (.r (.r (.l (.r (.r (.r .h)))))))],
  .p (.r (.l (.r (.r (.r (.r .h)))))) none (.fa (nat_lit 7) (.s (.l (.l .h)))),
  .c none none (.st (nat_lit 1) (.s (.r (.l (.r (.r (.r (.r .h))))))) (.s (.l (.l (.r (.r (.r (.r .h))))))))])
 (.seq (.seq (.reg [.p (.l (.r (.r (.r (.r (.r .h)))))) none (.fa (nat_lit 8) (.s (.l (.l .h)))),
  .r (.r (.r (.r (.r (.r (.r .h)))))) none (.ld (.s (.l (.r (.r (.r (.r (.r .h)))))))),
  .p (.l (.l (.l (.l (.l (.l (.l .h))))))) none (.eq true false [(nat_lit 2)] (.s (.r (.r (.r (.r (.r (.r .h))))))) (.c (.a (.t (nat_lit 1)))))])
 (.cond (.s (.l (.l (.l (.l (.l (.l (.l .h)))))))) (.reg [.p (.r (.l (.l (.l (.l (.l (.l .h))))))) none (.mv (.s .h)),
  .k (some (.l (.r (.l (.l (.l (.l (.l .h)))))))) none (nat_lit 163) (.l (.l (.r (.l (.l (.r (.l .h))))))) [(.s (.r (.l (.l (.l (.l (.l (.l .h)))))))), (.s (.l (.l .h)))]]) .skip))
 (.seq (.reg [.p (.r (.r (.l (.l (.l (.l (.l .h))))))) none (.mv (.s .h)),
  .p (.l (.l (.r (.l (.l (.l (.l .h))))))) none (.fa (nat_lit 10) (.s (.l (.l .h)))),
  .r (.r (.l (.r (.l (.l (.l (.l .h))))))) none (.ld (.s (.l (.l (.r (.l (.l (.l (.l .h))))))))),
  .p (.l (.r (.r (.l (.l (.l (.l .h))))))) none (.fa (nat_lit 1) (.s (.l (.l .h)))),
  .r (.r (.r (.r (.l (.l (.l (.l .h))))))) none (.ld (.s (.l (.r (.r (.l (.l (.l (.l .h))))))))),
  .k (some (.l (.l (.l (.r (.l (.l (.l .h)))))))) none (nat_lit 162) (.r (.r (.l (.l (.l (.r (.l .h))))))) [(.s (.r (.r (.l (.l (.l (.l (.l .h)))))))), (.s (.r (.l (.r (.l (.l (.l (.l .h)))))))), (.s (.r (.r (.r (.l (.l (.l (.l .h))))))))],
  .p (.r (.l (.l (.r (.l (.l (.l .h))))))) none (.fa (nat_lit 10) (.s (.l (.l .h)))),
  .c none none (.st (nat_lit 1) (.s (.r (.l (.l (.r (.l (.l (.l .h)))))))) (.s (.l (.l (.l (.r (.l (.l (.l .h)))))))))])
 (.seq (.reg [.p (.l (.r (.l (.r (.l (.l (.l .h))))))) none (.mv (.s .h)),
  .p (.r (.r (.l (.r (.l (.l (.l .h))))))) none (.fa (nat_lit 11) (.s (.l (.l .h)))),
  .r (.l (.l (.r (.r (.l (.l (.l .h))))))) none (.ld (.s (.r (.r (.l (.r (.l (.l (.l .h))))))))),
  .k (some (.r (.l (.r (.r (.l (.l (.l .h)))))))) none (nat_lit 74) (.r (.r (.l (.r (.l (.l .h)))))) [(.s (.l (.r (.l (.r (.l (.l (.l .h)))))))), (.s (.l (.l (.r (.r (.l (.l (.l .h))))))))],
  .p (.l (.r (.r (.r (.l (.l (.l .h))))))) none (.fa (nat_lit 11) (.s (.l (.l .h)))),
  .c none none (.st (nat_lit 1) (.s (.l (.r (.r (.r (.l (.l (.l .h)))))))) (.s (.r (.l (.r (.r (.l (.l (.l .h)))))))))])
 (.seq (.seq (.reg [.p (.r (.r (.r (.r (.l (.l (.l .h))))))) none (.fa (nat_lit 0) (.s (.l (.l .h)))),
  .r (.l (.l (.l (.l (.r (.l (.l .h))))))) none (.ld (.s (.r (.r (.r (.r (.l (.l (.l .h))))))))),
  .p (.r (.l (.l (.l (.r (.l (.l .h))))))) none (.cp .eql (.s (.l (.l (.l (.l (.r (.l (.l .h)))))))) (.c (.a (.i .i64 (.n (nat_lit 8)))))),
  .p (.l (.r (.l (.l (.r (.l (.l .h))))))) none (.mv (.s (.r (.l (.l (.l (.r (.l (.l .h))))))))),
  .p (.r (.r (.l (.l (.r (.l (.l .h))))))) (some ((.l (.r (.l (.l (.r (.l (.l .h))))))), true)) (.mv (.s .h)),
  .p (.l (.l (.r (.l (.r (.l (.l .h))))))) (some ((.l (.r (.l (.l (.r (.l (.l .h))))))), true)) (.nc (.s (.r (.r (.l (.l (.r (.l (.l .h))))))))),
  .p (.r (.l (.r (.l (.r (.l (.l .h))))))) (some ((.l (.r (.l (.l (.r (.l (.l .h))))))), true)) (.fa (nat_lit 7) (.s (.l (.l (.r (.l (.r (.l (.l .h))))))))),
  .r (.l (.r (.r (.l (.r (.l (.l .h))))))) (some ((.l (.r (.l (.l (.r (.l (.l .h))))))), true)) (.ld (.s (.r (.l (.r (.l (.r (.l (.l .h))))))))),
  .p (.r (.r (.r (.l (.r (.l (.l .h))))))) (some ((.l (.r (.l (.l (.r (.l (.l .h))))))), true)) (.cp .eql (.s (.l (.r (.r (.l (.r (.l (.l .h)))))))) (.c (.a (.i .i64 (.n (nat_lit 0)))))),
  .p (.l (.l (.l (.r (.r (.l (.l .h))))))) none (.pk (.s (.l (.r (.l (.l (.r (.l (.l .h)))))))) (.s (.r (.r (.r (.l (.r (.l (.l .h)))))))) (.c (.a (.b false))))])
 (.cond (.s (.l (.l (.l (.r (.r (.l (.l .h)))))))) (.seq (.reg [.a (.r (.l (.l (.r (.r (.l (.l .h))))))) none (.bs (nat_lit 3) (nat_lit 0) [] []),
  .p (.l (.r (.l (.r (.r (.l (.l .h))))))) none (.mv (.s .h)),
  .p (.r (.r (.l (.r (.r (.l (.l .h))))))) none (.nc (.s (.l (.r (.l (.r (.r (.l (.l .h))))))))),
  .p (.l (.l (.r (.r (.r (.l (.l .h))))))) none (.fa (nat_lit 5) (.s (.r (.r (.l (.r (.r (.l (.l .h))))))))),
  .r (.r (.l (.r (.r (.r (.l (.l .h))))))) none (.ld (.s (.l (.l (.r (.r (.r (.l (.l .h))))))))),
  .c (some (.l (.r (.r (.r (.r (.l (.l .h)))))))) none (.ap (nat_lit 3) (nat_lit 1) (nat_lit 8) (.s (.r (.l (.l (.r (.r (.l (.l .h)))))))) (.s (.r (.l (.r (.r (.r (.l (.l .h))))))))),
  .p (.r (.l (.l .h))) none (.mv (.s (.l (.r (.r (.r (.r (.l (.l .h)))))))))])
 (.seq (.drw [⟨.p (.r (.r (.r (.r (.r (.l (.l .h))))))) none (.mv (.s .h)), (nat_lit 0), [], []⟩,
  ⟨.p (.l (.l (.l (.l (.l (.r (.l .h))))))) none (.fa (nat_lit 1) (.s (.l (.l .h)))), (nat_lit 1), [], []⟩,
  ⟨.r (.r (.l (.l (.l (.l (.r (.l .h))))))) none (.ld (.s (.l (.l (.l (.l (.l (.r (.l .h))))))))), (nat_lit 2), [(nat_lit 1)], []⟩,
  ⟨.p (.l (.r (.l (.l (.l (.r (.l .h))))))) none (.fa (nat_lit 3) (.s (.l (.l .h)))), (nat_lit 3), [], []⟩,
  ⟨.r (.r (.r (.l (.l (.l (.r (.l .h))))))) none (.ld (.s (.l (.r (.l (.l (.l (.r (.l .h))))))))), (nat_lit 4), [(nat_lit 3)], []⟩,
  ⟨.p (.l (.l (.r (.l (.l (.r (.l .h))))))) none (.mv (.s .h)), (nat_lit 5), [], []⟩,
  ⟨.p (.r (.l (.r (.l (.l (.r (.l .h))))))) none (.nc (.s (.l (.l (.r (.l (.l (.r (.l .h))))))))), (nat_lit 6), [(nat_lit 5)], []⟩,
  ⟨.p (.l (.r (.r (.l (.l (.r (.l .h))))))) none (.fa (nat_lit 0) (.s (.r (.l (.r (.l (.l (.r (.l .h))))))))), (nat_lit 7), [(nat_lit 5), (nat_lit 6)], []⟩,
  ⟨.p (.r (.r (.r (.l (.l (.r (.l .h))))))) none (.fa (nat_lit 3) (.s (.l (.r (.r (.l (.l (.r (.l .h))))))))), (nat_lit 8), [(nat_lit 5), (nat_lit 6), (nat_lit 7)], []⟩,
  ⟨.r (.l (.l (.l (.r (.l (.r (.l .h))))))) none (.ld (.s (.r (.r (.r (.l (.l (.r (.l .h))))))))), (nat_lit 9), [(nat_lit 5), (nat_lit 6), (nat_lit 7), (nat_lit 8)], []⟩,
  ⟨.p (.r (.l (.l (.r (.l (.r (.l .h))))))) none (.ln (.s (.l (.l (.l (.r (.l (.r (.l .h))))))))), (nat_lit 10), [(nat_lit 5), (nat_lit 6), (nat_lit 7), (nat_lit 8), (nat_lit 9)], []⟩,
  ⟨.p (.l (.r (.l (.r (.l (.r (.l .h))))))) none (.bd [(.t (nat_lit 1)), (.i .i64 (.n (nat_lit 0))), (.i .i64 (.n (nat_lit 0))), (.i .i64 (.n (nat_lit 0))), (.b false), (.i .i64 (.n (nat_lit 0))), (.i .i64 (.n (nat_lit 0)))] [((nat_lit 0), (nat_lit 1), (.s (.r (.r (.l (.l (.l (.r (.l .h))))))))), ((nat_lit 1), (nat_lit 1), (.c (.a (.i .i64 (.n (nat_lit 1)))))), ((nat_lit 2), (nat_lit 1), (.c (.a (.i .i64 (.g (nat_lit 0)))))), ((nat_lit 3), (nat_lit 1), (.c (.a (.i .i64 (.n (nat_lit 1)))))), ((nat_lit 5), (nat_lit 1), (.s (.r (.l (.l (.r (.l (.r (.l .h)))))))))]), (nat_lit 11), [(nat_lit 3), (nat_lit 4), (nat_lit 5), (nat_lit 6), (nat_lit 7), (nat_lit 8), (nat_lit 9), (nat_lit 10)], []⟩,
  ⟨.k (some (.r (.r (.l (.r (.l (.r (.l .h)))))))) none (nat_lit 73) (.l (.r (.l (.r (.l (.l .h)))))) [(.s (.r (.r (.r (.r (.r (.l (.l .h)))))))), (.s (.r (.l (.l (.l (.l (.r (.l .h)))))))), (.s (.l (.r (.l (.r (.l (.r (.l .h))))))))], (nat_lit 12), [(nat_lit 0), (nat_lit 1), (nat_lit 2), (nat_lit 3), (nat_lit 4), (nat_lit 5), (nat_lit 6), (nat_lit 7), (nat_lit 8), (nat_lit 9), (nat_lit 10), (nat_lit 11)], []⟩,
  ⟨.p (.l (.l (.r (.r (.l (.r (.l .h))))))) none (.fa (nat_lit 6) (.s (.l (.l .h)))), (nat_lit 13), [(nat_lit 0), (nat_lit 1), (nat_lit 2), (nat_lit 3), (nat_lit 4), (nat_lit 5), (nat_lit 6), (nat_lit 7), (nat_lit 8), (nat_lit 9), (nat_lit 10), (nat_lit 11), (nat_lit 12)], []⟩,
  ⟨.c none none (.st (nat_lit 1) (.s (.l (.l (.r (.r (.l (.r (.l .h)))))))) (.s (.r (.r (.l (.r (.l (.r (.l .h))))))))), (nat_lit 14), [(nat_lit 0), (nat_lit 1), (nat_lit 2), (nat_lit 3), (nat_lit 4), (nat_lit 5), (nat_lit 6), (nat_lit 7), (nat_lit 8), (nat_lit 9), (nat_lit 10), (nat_lit 11), (nat_lit 12), (nat_lit 13)], []⟩])
 (.seq (.reg [.p (.r (.l (.r (.r (.l (.r (.l .h))))))) none (.mv (.s .h)),
  .p (.l (.r (.r (.r (.l (.r (.l .h))))))) none (.fa (nat_lit 12) (.s (.l (.l .h)))),
  .r (.r (.r (.r (.r (.l (.r (.l .h))))))) none (.ld (.s (.l (.r (.r (.r (.l (.r (.l .h))))))))),
  .k (some (.l (.l (.l (.l (.r (.r (.l .h)))))))) none (nat_lit 74) (.r (.r (.l (.r (.l (.l .h)))))) [(.s (.r (.l (.r (.r (.l (.r (.l .h)))))))), (.s (.r (.r (.r (.r (.l (.r (.l .h))))))))],
  .p (.r (.l (.l (.l (.r (.r (.l .h))))))) none (.fa (nat_lit 12) (.s (.l (.l .h)))),
  .c none none (.st (nat_lit 1) (.s (.r (.l (.l (.l (.r (.r (.l .h)))))))) (.s (.l (.l (.l (.l (.r (.r (.l .h)))))))))])
 (.seq (.seq (.reg [.p (.l (.r (.l (.l (.r (.r (.l .h))))))) none (.mv (.s .h)),
  .p (.r (.r (.l (.l (.r (.r (.l .h))))))) none (.nc (.s (.l (.r (.l (.l (.r (.r (.l .h))))))))),
  .p (.l (.l (.r (.l (.r (.r (.l .h))))))) none (.fa (nat_lit 7) (.s (.r (.r (.l (.l (.r (.r (.l .h))))))))),
  .r (.r (.l (.r (.l (.r (.r (.l .h))))))) none (.ld (.s (.l (.l (.r (.l (.r (.r (.l .h))))))))),
  .p (.l (.r (.r (.l (.r (.r (.l .h))))))) none (.cp .eql (.s (.r (.l (.r (.l (.r (.r (.l .h)))))))) (.c (.a (.i .i64 (.n (nat_lit 0))))))])
 (.cond (.s (.l (.r (.r (.l (.r (.r (.l .h)))))))) (.drw [⟨.p (.r (.r (.r (.l (.r (.r (.l .h))))))) none (.mv (.s .h)), (nat_lit 0), [], []⟩,
  ⟨.p (.l (.l (.l (.r (.r (.r (.l .h))))))) none (.nc (.s (.r (.r (.r (.l (.r (.r (.l .h))))))))), (nat_lit 1), [(nat_lit 0)], []⟩,
  ⟨.p (.r (.l (.l (.r (.r (.r (.l .h))))))) none (.fa (nat_lit 0) (.s (.l (.l (.l (.r (.r (.r (.l .h))))))))), (nat_lit 2), [(nat_lit 0), (nat_lit 1)], []⟩,
  ⟨.p (.l (.r (.l (.r (.r (.r (.l .h))))))) none (.fa (nat_lit 2) (.s (.r (.l (.l (.r (.r (.r (.l .h))))))))), (nat_lit 3), [(nat_lit 0), (nat_lit 1), (nat_lit 2)], []⟩,
  ⟨.r (.r (.r (.l (.r (.r (.r (.l .h))))))) none (.ld (.s (.l (.r (.l (.r (.r (.r (.l .h))))))))), (nat_lit 4), [(nat_lit 0), (nat_lit 1), (nat_lit 2), (nat_lit 3)], []⟩,
  ⟨.p (.l (.l (.r (.r (.r (.r (.l .h))))))) none (.mv (.s .h)), (nat_lit 5), [], []⟩,
  ⟨.p (.r (.l (.r (.r (.r (.r (.l .h))))))) none (.nc (.s (.l (.l (.r (.r (.r (.r (.l .h))))))))), (nat_lit 6), [(nat_lit 5)], []⟩,
  ⟨.p (.l (.r (.r (.r (.r (.r (.l .h))))))) none (.fa (nat_lit 4) (.s (.r (.l (.r (.r (.r (.r (.l .h))))))))), (nat_lit 7), [(nat_lit 5), (nat_lit 6)], []⟩,
  ⟨.r (.r (.r (.r (.r (.r (.r (.l .h))))))) none (.ld (.s (.l (.r (.r (.r (.r (.r (.l .h))))))))), (nat_lit 8), [(nat_lit 5), (nat_lit 6), (nat_lit 7)], []⟩,
  ⟨.p (.l (.l (.l (.l (.l (.l (.r .h))))))) none (.ix (nat_lit 1) (.s (.r (.r (.l (.r (.r (.r (.l .h)))))))) (.s (.r (.r (.r (.r (.r (.r (.l .h))))))))), (nat_lit 9), [(nat_lit 0), (nat_lit 1), (nat_lit 2), (nat_lit 3), (nat_lit 4), (nat_lit 5), (nat_lit 6), (nat_lit 7), (nat_lit 8)], []⟩,
  ⟨.r (.r (.l (.l (.l (.l (.l (.r .h))))))) none (.ld (.s (.l (.l (.l (.l (.l (.l (.r .h))))))))), (nat_lit 10), [(nat_lit 0), (nat_lit 1), (nat_lit 2), (nat_lit 3), (nat_lit 4), (nat_lit 5), (nat_lit 6), (nat_lit 7), (nat_lit 8), (nat_lit 9)], []⟩,
  ⟨.p (.l (.r (.l (.l (.l (.l (.r .h))))))) none (.fa (nat_lit 6) (.s (.l (.l .h)))), (nat_lit 11), [], []⟩,
  ⟨.r (.r (.r (.l (.l (.l (.l (.r .h))))))) none (.ld (.s (.l (.r (.l (.l (.l (.l (.r .h))))))))), (nat_lit 12), [(nat_lit 11)], []⟩,
  ⟨.p (.l (.l (.r (.l (.l (.l (.r .h))))))) none (.mv (.s .h)), (nat_lit 13), [], []⟩,
  ⟨.p (.r (.l (.r (.l (.l (.l (.r .h))))))) none (.nc (.s (.l (.l (.r (.l (.l (.l (.r .h))))))))), (nat_lit 14), [(nat_lit 13)], []⟩,
  ⟨.p (.l (.r (.r (.l (.l (.l (.r .h))))))) none (.fa (nat_lit 0) (.s (.r (.l (.r (.l (.l (.l (.r .h))))))))), (nat_lit 15), [(nat_lit 13), (nat_lit 14)], []⟩,
  ⟨.p (.r (.r (.r (.l (.l (.l (.r .h))))))) none (.fa (nat_lit 3) (.s (.l (.r (.r (.l (.l (.l (.r .h))))))))), (nat_lit 16), [(nat_lit 13), (nat_lit 14), (nat_lit 15)], []⟩,
  ⟨.r (.l (.l (.l (.r (.l (.l (.r .h))))))) none (.ld (.s (.r (.r (.r (.l (.l (.l (.r .h))))))))), (nat_lit 17), [(nat_lit 13), (nat_lit 14), (nat_lit 15), (nat_lit 16)], []⟩,
  ⟨.p (.r (.l (.l (.r (.l (.l (.r .h))))))) none (.ln (.s (.l (.l (.l (.r (.l (.l (.r .h))))))))), (nat_lit 18), [(nat_lit 13), (nat_lit 14), (nat_lit 15), (nat_lit 16), (nat_lit 17)], []⟩,
  ⟨.p (.l (.r (.l (.r (.l (.l (.r .h))))))) none (.ar .sub (.s (.r (.l (.l (.r (.l (.l (.r .h)))))))) (.c (.a (.i .i64 (.n (nat_lit 1)))))), (nat_lit 19), [(nat_lit 13), (nat_lit 14), (nat_lit 15), (nat_lit 16), (nat_lit 17), (nat_lit 18)], []⟩,
  ⟨.p (.r (.r (.l (.r (.l (.l (.r .h))))))) none (.ix (nat_lit 7) (.s (.r (.l (.l (.l (.l (.l (.r .h)))))))) (.s (.r (.r (.l (.l (.l (.l (.r .h))))))))), (nat_lit 20), [(nat_lit 0), (nat_lit 1), (nat_lit 2), (nat_lit 3), (nat_lit 4), (nat_lit 5), (nat_lit 6), (nat_lit 7), (nat_lit 8), (nat_lit 9), (nat_lit 10), (nat_lit 11), (nat_lit 12), (nat_lit 13), (nat_lit 14), (nat_lit 15), (nat_lit 16), (nat_lit 17), (nat_lit 18), (nat_lit 19)], []⟩,
  ⟨.p (.l (.l (.r (.r (.l (.l (.r .h))))))) none (.fa (nat_lit 6) (.s (.r (.r (.l (.r (.l (.l (.r .h))))))))), (nat_lit 21), [(nat_lit 0), (nat_lit 1), (nat_lit 2), (nat_lit 3), (nat_lit 4), (nat_lit 5), (nat_lit 6), (nat_lit 7), (nat_lit 8), (nat_lit 9), (nat_lit 10), (nat_lit 11), (nat_lit 12), (nat_lit 13), (nat_lit 14), (nat_lit 15), (nat_lit 16), (nat_lit 17), (nat_lit 18), (nat_lit 19), (nat_lit 20)], []⟩,
  ⟨.c none none (.st (nat_lit 1) (.s (.l (.l (.r (.r (.l (.l (.r .h)))))))) (.s (.l (.r (.l (.r (.l (.l (.r .h))))))))), (nat_lit 22), [(nat_lit 0), (nat_lit 1), (nat_lit 2), (nat_lit 3), (nat_lit 4), (nat_lit 5), (nat_lit 6), (nat_lit 7), (nat_lit 8), (nat_lit 9), (nat_lit 10), (nat_lit 11), (nat_lit 12), (nat_lit 13), (nat_lit 14), (nat_lit 15), (nat_lit 16), (nat_lit 17), (nat_lit 18), (nat_lit 19), (nat_lit 20), (nat_lit 21)], []⟩]) .skip))
 (.seq (.reg [.p (.r (.l (.r (.r (.l (.l (.r .h))))))) none (.mv (.s .h)),
  .p (.l (.r (.r (.r (.l (.l (.r .h))))))) none (.mv (.s (.r (.l (.l .h))))),
  .p (.r (.r (.r (.r (.l (.l (.r .h))))))) none (.nc (.s (.r (.l (.r (.r (.l (.l (.r .h))))))))),
  .p (.l (.l (.l (.l (.r (.l (.r .h))))))) none (.fa (nat_lit 5) (.s (.r (.r (.r (.r (.l (.l (.r .h))))))))),
  .c none none (.st (nat_lit 1) (.s (.l (.l (.l (.l (.r (.l (.r .h)))))))) (.s (.l (.r (.r (.r (.l (.l (.r .h)))))))))])
 (.seq (.reg [.r (.r (.l (.l (.l (.r (.l (.r .h))))))) none (.lg (nat_lit 13) (.s (.l (.l .h)))),
  .c none none (.st (nat_lit 13) (.s (.r (.l .h))) (.s (.r (.l (.l (.l (.r (.l (.r .h)))))))))])
 .rt)))))) .skip))
 (.seq (.reg [.p (.l (.r (.l (.l (.r (.l (.r .h))))))) none (.mv (.s .h)),
  .p (.r (.r (.l (.l (.r (.l (.r .h))))))) none (.fa (nat_lit 12) (.s (.l (.l .h)))),
  .r (.l (.l (.r (.l (.r (.l (.r .h))))))) none (.ld (.s (.r (.r (.l (.l (.r (.l (.r .h))))))))),
  .k (some (.r (.l (.r (.l (.r (.l (.r .h)))))))) none (nat_lit 74) (.r (.r (.l (.r (.l (.l .h)))))) [(.s (.l (.r (.l (.l (.r (.l (.r .h)))))))), (.s (.l (.l (.r (.l (.r (.l (.r .h))))))))],
  .p (.l (.r (.r (.l (.r (.l (.r .h))))))) none (.fa (nat_lit 12) (.s (.l (.l .h)))),
  .c none none (.st (nat_lit 1) (.s (.l (.r (.r (.l (.r (.l (.r .h)))))))) (.s (.r (.l (.r (.l (.r (.l (.r .h)))))))))])
 (.seq (.reg [.r (.r (.r (.r (.l (.r (.l (.r .h))))))) none (.lg (nat_lit 13) (.s (.l (.l .h)))),
  .c none none (.st (nat_lit 13) (.s (.r (.l .h))) (.s (.r (.r (.r (.l (.r (.l (.r .h)))))))))])
 .rt)))))))))))), false, false⟩
noncomputable def rf142 : RF := ⟨[.h, (.l .h)], [.g (.r (.l .h)) (nat_lit 6)], (.seq (.reg [.a (.r (.l .h)) none (.al (nat_lit 214) (nat_lit 6) (.n (.n (.n .e (.t (nat_lit 1)) .e) (.i .i64 (.n (nat_lit 0))) (.n .e .s0 .e)) (.i .i64 (.n (nat_lit 0))) (.n (.n .e (.t (nat_lit 1)) .e) (.i .i64 (.n (nat_lit 0))) .e)))])
 (.seq (.seq (.reg [.p (.r (.l (.l .h))) none (.mv (.s .h)),
  .p (.l (.r (.l .h))) none (.nc (.s (.r (.l (.l .h))))),
  .p (.r (.r (.l .h))) none (.fa (nat_lit 3) (.s (.l (.r (.l .h))))),
  .r (.l (.l (.r .h))) none (.ld (.s (.r (.r (.l .h))))),
  .p (.r (.l (.r .h))) none (.cp .neq (.s (.l (.l (.r .h)))) (.c (.a (.i .i64 (.n (nat_lit 0))))))])
 (.cond (.s (.r (.l (.r .h)))) (.seq (.reg [.p (.l (.r (.r .h))) none (.bd [(.i .i64 (.n (nat_lit 0))), (.i .i64 (.n (nat_lit 0))), (.i .i64 (.n (nat_lit 0))), (.t (nat_lit 1)), (.t (nat_lit 1)), .s0] []),
  .c none none (.st (nat_lit 6) (.s (.r (.l .h))) (.s (.l (.r (.r .h)))))])
 .rt) .skip))
 (.seq (.seq (.reg [.p (.r (.r (.r .h))) none (.mv (.s .h)),
  .k (some (.l (.l (.l (.l .h))))) none (nat_lit 176) (.r (.l (.l (.l (.r (.r (.l .h))))))) [(.s (.r (.r (.r .h))))],
  .p (.r (.l (.l (.l .h)))) none (.nt (.s (.l (.l (.l (.l .h))))))])
 (.cond (.s (.r (.l (.l (.l .h))))) (.seq (.reg [.p (.l (.r (.l (.l .h)))) none (.mv (.s .h)),
  .k (some (.r (.r (.l (.l .h))))) none (nat_lit 39) (.l (.l (.l (.r (.l .h))))) [(.s (.l (.r (.l (.l .h))))), (.c (.a (.i .i64 (.n (nat_lit 7)))))]])
 (.seq (.reg [.p (.l (.l (.r (.l .h)))) none (.bd [(.i .i64 (.n (nat_lit 0))), (.i .i64 (.n (nat_lit 0))), (.i .i64 (.n (nat_lit 0))), (.t (nat_lit 1)), (.t (nat_lit 1)), .s0] []),
  .c none none (.st (nat_lit 6) (.s (.r (.l .h))) (.s (.l (.l (.r (.l .h))))))])
 .rt)) .skip))
 (.seq (.seq (.reg [.p (.r (.l (.r (.l .h)))) none (.mv (.s (.l .h))),
  .p (.l (.r (.r (.l .h)))) none (.cp .gtr (.s (.r (.l (.r (.l .h))))) (.c (.a (.i .i64 (.n (nat_lit 8))))))])
 (.cond (.s (.l (.r (.r (.l .h))))) (.seq (.reg [.p (.r (.r (.r (.l .h)))) none (.mv (.s .h)),
  .k (some (.l (.l (.l (.r .h))))) none (nat_lit 39) (.l (.l (.l (.r (.l .h))))) [(.s (.r (.r (.r (.l .h))))), (.c (.a (.i .i64 (.n (nat_lit 5)))))]])
 (.seq (.reg [.p (.r (.l (.l (.r .h)))) none (.bd [(.i .i64 (.n (nat_lit 0))), (.i .i64 (.n (nat_lit 0))), (.i .i64 (.n (nat_lit 0))), (.t (nat_lit 1)), (.t (nat_lit 1)), .s0] []),
  .c none none (.st (nat_lit 6) (.s (.r (.l .h))) (.s (.r (.l (.l (.r .h))))))])
 .rt)) .skip))
 (.seq (.seq (.reg [.a (.l (.r (.l (.r .h)))) none (.bs (nat_lit 9) (nat_lit 2) [(.t (nat_lit 1)), (.t (nat_lit 1))] [((nat_lit 0), (nat_lit 1), (.c (.a (.t (nat_lit 301))))), ((nat_lit 1), (nat_lit 1), (.c (.a (.t (nat_lit 289)))))]),
  .p (.r (.r (.l (.r .h)))) none (.ln (.s (.l (.r (.l (.r .h)))))),
  .p (.l (.l (.r (.r .h)))) none (.mv (.c (.a (.i .i64 (.n (nat_lit 0))))))])
 (.blk (nat_lit 0) (.loop (.seq (.reg [.p (.r (.l (.r (.r .h)))) none (.cp .lss (.s (.l (.l (.r (.r .h))))) (.s (.r (.r (.l (.r .h))))))])
 (.seq (.cond (.s (.r (.l (.r (.r .h))))) .skip (.ex (nat_lit 0)))
 (.seq (.blk (nat_lit 1) (.seq (.reg [.p (.l (.r (.r (.r .h)))) none (.mv (.s (.l (.l (.r (.r .h)))))),
  .p (.r (.r (.r (.r .h)))) none (.ix (nat_lit 1) (.s (.l (.r (.l (.r .h))))) (.s (.l (.l (.r (.r .h)))))),
  .r (.l (.l (.l (.l (.l .h))))) none (.ld (.s (.r (.r (.r (.r .h)))))),
  .p (.l (.r .h)) none (.mv (.s (.l (.r (.r (.r .h)))))),
  .p (.r (.r .h)) none (.mv (.s (.l (.l (.l (.l (.l .h)))))))])
 (.seq (.reg [.p (.r (.l (.l (.l (.l .h))))) none (.mv (.s .h)),
  .p (.l (.r (.l (.l (.l .h))))) none (.mv (.s (.r (.r .h)))),
  .k (some (.r (.r (.l (.l (.l .h)))))) none (nat_lit 33) (.l (.r (.l (.l (.l .h))))) [(.s (.r (.l (.l (.l (.l .h)))))), (.c (.a (.i .i64 (.n (nat_lit 0))))), (.s (.l (.r (.l (.l (.l .h))))))]])
 (.cond (.s (.r (.r (.l (.l (.l .h)))))) (.seq (.reg [.p (.l (.l (.r (.l (.l .h))))) none (.mv (.s .h)),
  .p (.r (.l (.r (.l (.l .h))))) none (.nc (.s (.l (.l (.r (.l (.l .h))))))),
  .p (.l (.r (.r (.l (.l .h))))) none (.fa (nat_lit 1) (.s (.r (.l (.r (.l (.l .h))))))),
  .r (.r (.r (.r (.l (.l .h))))) none (.ld (.s (.l (.r (.r (.l (.l .h))))))),
  .p (.l (.l (.l (.r (.l .h))))) none (.ar .add (.s (.r (.r (.r (.l (.l .h)))))) (.c (.a (.i .i64 (.n (nat_lit 1)))))),
  .p (.r (.l (.l (.r (.l .h))))) none (.nc (.s (.l (.l (.r (.l (.l .h))))))),
  .p (.l (.r (.l (.r (.l .h))))) none (.fa (nat_lit 1) (.s (.r (.l (.l (.r (.l .h))))))),
  .c none none (.st (nat_lit 1) (.s (.l (.r (.l (.r (.l .h)))))) (.s (.l (.l (.l (.r (.l .h)))))))])
 (.seq (.reg [.p (.r (.r (.l (.r (.l .h))))) none (.mv (.s (.l (.r .h)))),
  .p (.l (.l (.r (.r (.l .h))))) none (.ar .add (.c (.a (.i .i64 (.n (nat_lit 4))))) (.s (.r (.r (.l (.r (.l .h))))))),
  .p (.r (.l (.r (.r (.l .h))))) none (.mv (.s .h)),
  .p (.l (.r (.r (.r (.l .h))))) none (.mv (.s (.l .h))),
  .p (.r (.r (.r (.r (.l .h))))) none (.ar .add (.s (.l (.r (.r (.r (.l .h)))))) (.c (.a (.i .i64 (.n (nat_lit 1)))))),
  .k (some (.l (.l (.l (.l (.r .h)))))) none (nat_lit 142) (.r (.r (.r (.r (.l (.l (.l .h))))))) [(.s (.r (.l (.r (.r (.l .h)))))), (.s (.r (.r (.r (.r (.l .h))))))],
  .a (.r (.l (.l (.l (.r .h))))) none (.bs (nat_lit 214) (nat_lit 1) [(.i .i64 (.n (nat_lit 0))), (.i .i64 (.n (nat_lit 0))), (.i .i64 (.n (nat_lit 0))), (.t (nat_lit 1)), (.t (nat_lit 1)), .s0] [((nat_lit 0), (nat_lit 6), (.s (.l (.l (.l (.l (.r .h)))))))]),
  .p (.l (.r (.l (.l (.r .h))))) none (.bd [(.i .i64 (.n (nat_lit 0))), (.i .i64 (.n (nat_lit 0))), (.i .i64 (.n (nat_lit 0))), (.t (nat_lit 1)), (.t (nat_lit 1)), .s0] [((nat_lit 0), (nat_lit 1), (.s (.l (.l (.r (.r (.l .h))))))), ((nat_lit 5), (nat_lit 1), (.s (.r (.l (.l (.l (.r .h)))))))]),
  .c none none (.st (nat_lit 6) (.s (.r (.l .h))) (.s (.l (.r (.l (.l (.r .h)))))))])
 .rt)) .skip))))
 (.reg [.p (.r (.r (.l (.l (.r .h))))) none (.ar .add (.s (.l (.l (.r (.r .h))))) (.c (.a (.i .i64 (.n (nat_lit 1)))))),
  .p (.l (.l (.r (.r .h)))) none (.mv (.s (.r (.r (.l (.l (.r .h)))))))])))))))
 (.seq (.seq (.reg [.p (.l (.l (.r (.l (.r .h))))) none (.mv (.s .h)),
  .k (some (.r (.l (.r (.l (.r .h)))))) none (nat_lit 38) (.r (.r (.r (.l (.l .h))))) [(.s (.l (.l (.r (.l (.r .h)))))), (.c (.a (.i .i64 (.n (nat_lit 0))))), (.c (.a (.i .i64 (.n (nat_lit 2)))))]])
 (.cond (.s (.r (.l (.r (.l (.r .h)))))) (.seq (.reg [.p (.l (.r (.r (.l (.r .h))))) none (.mv (.s .h)),
  .p (.r (.r (.r (.l (.r .h))))) none (.nc (.s (.l (.r (.r (.l (.r .h))))))),
  .p (.l (.l (.l (.r (.r .h))))) none (.fa (nat_lit 1) (.s (.r (.r (.r (.l (.r .h))))))),
  .r (.r (.l (.l (.r (.r .h))))) none (.ld (.s (.l (.l (.l (.r (.r .h))))))),
  .p (.l (.r (.l (.r (.r .h))))) none (.ar .add (.s (.r (.l (.l (.r (.r .h)))))) (.c (.a (.i .i64 (.n (nat_lit 1)))))),
  .p (.r (.r (.l (.r (.r .h))))) none (.nc (.s (.l (.r (.r (.l (.r .h))))))),
  .p (.l (.l (.r (.r (.r .h))))) none (.fa (nat_lit 1) (.s (.r (.r (.l (.r (.r .h))))))),
  .c none none (.st (nat_lit 1) (.s (.l (.l (.r (.r (.r .h)))))) (.s (.l (.r (.l (.r (.r .h)))))))])
 (.seq (.drw [⟨.p (.r (.l (.r (.r (.r .h))))) none (.mv (.s .h)), (nat_lit 0), [], []⟩,
  ⟨.p (.l (.r (.r (.r (.r .h))))) none (.nc (.s (.r (.l (.r (.r (.r .h))))))), (nat_lit 1), [(nat_lit 0)], []⟩,
  ⟨.p (.r (.r (.r (.r (.r .h))))) none (.fa (nat_lit 0) (.s (.l (.r (.r (.r (.r .h))))))), (nat_lit 2), [(nat_lit 0), (nat_lit 1)], []⟩,
  ⟨.r (.l (.l (.l (.l (.l (.l .h)))))) none (.ld (.s (.r (.r (.r (.r (.r .h))))))), (nat_lit 3), [(nat_lit 0), (nat_lit 1), (nat_lit 2)], []⟩,
  ⟨.p (.r (.l (.l (.l (.l (.l .h)))))) none (.mv (.s .h)), (nat_lit 4), [], []⟩,
  ⟨.p (.l (.r (.l (.l (.l (.l .h)))))) none (.nc (.s (.r (.l (.l (.l (.l (.l .h)))))))), (nat_lit 5), [(nat_lit 4)], []⟩,
  ⟨.p (.r (.r (.l (.l (.l (.l .h)))))) none (.fa (nat_lit 1) (.s (.l (.r (.l (.l (.l (.l .h)))))))), (nat_lit 6), [(nat_lit 4), (nat_lit 5)], []⟩,
  ⟨.r (.l (.l (.r (.l (.l (.l .h)))))) none (.ld (.s (.r (.r (.l (.l (.l (.l .h)))))))), (nat_lit 7), [(nat_lit 4), (nat_lit 5), (nat_lit 6)], []⟩,
  ⟨.p (.r (.l (.r (.l (.l (.l .h)))))) none (.ar .sub (.s (.l (.l (.r (.l (.l (.l .h))))))) (.c (.a (.i .i64 (.n (nat_lit 1)))))), (nat_lit 8), [(nat_lit 4), (nat_lit 5), (nat_lit 6), (nat_lit 7)], []⟩,
  ⟨.p (.l (.r (.r (.l (.l (.l .h)))))) none (.ix (nat_lit 4) (.s (.l (.l (.l (.l (.l (.l .h))))))) (.s (.r (.l (.r (.l (.l (.l .h)))))))), (nat_lit 9), [(nat_lit 0), (nat_lit 1), (nat_lit 2), (nat_lit 3), (nat_lit 4), (nat_lit 5), (nat_lit 6), (nat_lit 7), (nat_lit 8)], []⟩,
  ⟨.p (.r (.r (.r (.l (.l (.l .h)))))) none (.fa (nat_lit 3) (.s (.l (.r (.r (.l (.l (.l .h)))))))), (nat_lit 10), [(nat_lit 0), (nat_lit 1), (nat_lit 2), (nat_lit 3), (nat_lit 4), (nat_lit 5), (nat_lit 6), (nat_lit 7), (nat_lit 8), (nat_lit 9)], []⟩,
  ⟨.r (.l (.l (.l (.r (.l (.l .h)))))) none (.ld (.s (.r (.r (.r (.l (.l (.l .h)))))))), (nat_lit 11), [(nat_lit 0), (nat_lit 1), (nat_lit 2), (nat_lit 3), (nat_lit 4), (nat_lit 5), (nat_lit 6), (nat_lit 7), (nat_lit 8), (nat_lit 9), (nat_lit 10)], []⟩,
  ⟨.p (.r (.l (.l (.r (.l (.l .h)))))) none (.bd [(.i .i64 (.n (nat_lit 0))), (.i .i64 (.n (nat_lit 0))), (.i .i64 (.n (nat_lit 0))), (.t (nat_lit 1)), (.t (nat_lit 1)), .s0] [((nat_lit 0), (nat_lit 1), (.c (.a (.i .i64 (.n (nat_lit 0)))))), ((nat_lit 1), (nat_lit 1), (.s (.l (.l (.l (.r (.l (.l .h))))))))]), (nat_lit 12), [(nat_lit 0), (nat_lit 1), (nat_lit 2), (nat_lit 3), (nat_lit 4), (nat_lit 5), (nat_lit 6), (nat_lit 7), (nat_lit 8), (nat_lit 9), (nat_lit 10), (nat_lit 11)], []⟩,
  ⟨.c none none (.st (nat_lit 6) (.s (.r (.l .h))) (.s (.r (.l (.l (.r (.l (.l .h)))))))), (nat_lit 13), [(nat_lit 0), (nat_lit 1), (nat_lit 2), (nat_lit 3), (nat_lit 4), (nat_lit 5), (nat_lit 6), (nat_lit 7), (nat_lit 8), (nat_lit 9), (nat_lit 10), (nat_lit 11), (nat_lit 12)], []⟩])
 .rt)) .skip))
 (.seq (.seq (.reg [.p (.l (.r (.l (.r (.l (.l .h)))))) none (.mv (.s .h)),
  .k (some (.r (.r (.l (.r (.l (.l .h))))))) none (nat_lit 33) (.l (.r (.l (.l (.l .h))))) [(.s (.l (.r (.l (.r (.l (.l .h))))))), (.c (.a (.i .i64 (.n (nat_lit 0))))), (.c (.a (.t (nat_lit 296))))]])
 (.cond (.s (.r (.r (.l (.r (.l (.l .h))))))) (.seq (.reg [.p (.l (.l (.r (.r (.l (.l .h)))))) none (.mv (.s .h)),
  .p (.r (.l (.r (.r (.l (.l .h)))))) none (.nc (.s (.l (.l (.r (.r (.l (.l .h)))))))),
  .p (.l (.r (.r (.r (.l (.l .h)))))) none (.fa (nat_lit 1) (.s (.r (.l (.r (.r (.l (.l .h)))))))),
  .r (.r (.r (.r (.r (.l (.l .h)))))) none (.ld (.s (.l (.r (.r (.r (.l (.l .h)))))))),
  .p (.l (.l (.l (.l (.r (.l .h)))))) none (.ar .add (.s (.r (.r (.r (.r (.l (.l .h))))))) (.c (.a (.i .i64 (.n (nat_lit 1)))))),
  .p (.r (.l (.l (.l (.r (.l .h)))))) none (.nc (.s (.l (.l (.r (.r (.l (.l .h)))))))),
  .p (.l (.r (.l (.l (.r (.l .h)))))) none (.fa (nat_lit 1) (.s (.r (.l (.l (.l (.r (.l .h)))))))),
  .c none none (.st (nat_lit 1) (.s (.l (.r (.l (.l (.r (.l .h))))))) (.s (.l (.l (.l (.l (.r (.l .h))))))))])
 (.seq (.reg [.p (.r (.r (.l (.l (.r (.l .h)))))) none (.mv (.s .h)),
  .p (.l (.l (.r (.l (.r (.l .h)))))) none (.mv (.s (.l .h))),
  .p (.r (.l (.r (.l (.r (.l .h)))))) none (.ar .add (.s (.l (.l (.r (.l (.r (.l .h))))))) (.c (.a (.i .i64 (.n (nat_lit 1)))))),
  .k (some (.l (.r (.r (.l (.r (.l .h))))))) none (nat_lit 98) (.r (.r (.l (.l (.l (.r .h)))))) [(.s (.r (.r (.l (.l (.r (.l .h))))))), (.c (.a (.i .i64 (.n (nat_lit 1))))), (.s (.r (.l (.r (.l (.r (.l .h)))))))],
  .a (.l (.l (.l .h))) none (.al (nat_lit 214) (nat_lit 6) (.n (.n (.n .e (.t (nat_lit 1)) .e) (.i .i64 (.n (nat_lit 0))) (.n .e .s0 .e)) (.i .i64 (.n (nat_lit 0))) (.n (.n .e (.t (nat_lit 1)) .e) (.i .i64 (.n (nat_lit 0))) .e))),
  .c none none (.st (nat_lit 6) (.s (.l (.l (.l .h)))) (.s (.l (.r (.r (.l (.r (.l .h))))))))])
 (.seq (.reg [.p (.r (.r (.r (.l (.r (.l .h)))))) none (.mv (.s .h)),
  .k (some (.l (.l (.l (.r (.r (.l .h))))))) none (nat_lit 35) (.l (.l (.r (.l (.l .h))))) [(.s (.r (.r (.r (.l (.r (.l .h))))))), (.c (.a (.t (nat_lit 297))))]])
 (.seq (.reg [.r (.r (.l (.l (.r (.r (.l .h)))))) none (.lg (nat_lit 6) (.s (.l (.l (.l .h))))),
  .c none none (.st (nat_lit 6) (.s (.r (.l .h))) (.s (.r (.l (.l (.r (.r (.l .h))))))))])
 .rt)))) .skip))
 (.seq (.reg [.p (.l (.r (.l (.r (.r (.l .h)))))) none (.mv (.s .h)),
  .p (.r (.r (.l (.r (.r (.l .h)))))) none (.mv (.s (.l .h))),
  .k (some (.l (.l (.r (.r (.r (.l .h))))))) none (nat_lit 146) (.r (.r (.l (.l (.r (.l (.l .h))))))) [(.s (.l (.r (.l (.r (.r (.l .h))))))), (.s (.r (.r (.l (.r (.r (.l .h)))))))],
  .c none none (.st (nat_lit 6) (.s (.r (.l .h))) (.s (.l (.l (.r (.r (.r (.l .h))))))))])
 .rt)))))))), false, false⟩
noncomputable def rf143 : RF := ⟨[.h], [.s (.r .h), .s (.l (.l .h))], (.seq (.reg [.p (.r .h) none (.mv (.c (.a (.i .i64 (.n (nat_lit 0)))))),
  .p (.l (.l .h)) none (.mv (.c (.a (.i .i64 (.n (nat_lit 0))))))])
 (.seq (.reg [.a (.r (.l (.l .h))) none (.bs (nat_lit 9) (nat_lit 12) [(.t (nat_lit 1)), (.t (nat_lit 1)), (.t (nat_lit 1)), (.t (nat_lit 1)), (.t (nat_lit 1)), (.t (nat_lit 1)), (.t (nat_lit 1)), (.t (nat_lit 1)), (.t (nat_lit 1)), (.t (nat_lit 1)), (.t (nat_lit 1)), (.t (nat_lit 1))] [((nat_lit 0), (nat_lit 1), (.c (.a (.t (nat_lit 299))))), ((nat_lit 1), (nat_lit 1), (.c (.a (.t (nat_lit 301))))), ((nat_lit 2), (nat_lit 1), (.c (.a (.t (nat_lit 298))))), ((nat_lit 3), (nat_lit 1), (.c (.a (.t (nat_lit 303))))), ((nat_lit 4), (nat_lit 1), (.c (.a (.t (nat_lit 293))))), ((nat_lit 5), (nat_lit 1), (.c (.a (.t (nat_lit 294))))), ((nat_lit 6), (nat_lit 1), (.c (.a (.t (nat_lit 380))))), ((nat_lit 7), (nat_lit 1), (.c (.a (.t (nat_lit 350))))), ((nat_lit 8), (nat_lit 1), (.c (.a (.t (nat_lit 316))))), ((nat_lit 9), (nat_lit 1), (.c (.a (.t (nat_lit 81212))))), ((nat_lit 10), (nat_lit 1), (.c (.a (.t (nat_lit 81213))))), ((nat_lit 11), (nat_lit 1), (.c (.a (.t (nat_lit 81185)))))]),
  .p (.r (.l .h)) none (.mv (.s (.r (.l (.l .h)))))])
 (.seq (.reg [.a (.l (.r (.l .h))) none (.bs (nat_lit 3) (nat_lit 12) [(.i .i64 (.n (nat_lit 0))), (.i .i64 (.n (nat_lit 0))), (.i .i64 (.n (nat_lit 0))), (.i .i64 (.n (nat_lit 0))), (.i .i64 (.n (nat_lit 0))), (.i .i64 (.n (nat_lit 0))), (.i .i64 (.n (nat_lit 0))), (.i .i64 (.n (nat_lit 0))), (.i .i64 (.n (nat_lit 0))), (.i .i64 (.n (nat_lit 0))), (.i .i64 (.n (nat_lit 0))), (.i .i64 (.n (nat_lit 0)))] [((nat_lit 0), (nat_lit 1), (.c (.a (.i .i64 (.n (nat_lit 3)))))), ((nat_lit 1), (nat_lit 1), (.c (.a (.i .i64 (.n (nat_lit 3)))))), ((nat_lit 2), (nat_lit 1), (.c (.a (.i .i64 (.n (nat_lit 4)))))), ((nat_lit 3), (nat_lit 1), (.c (.a (.i .i64 (.n (nat_lit 4)))))), ((nat_lit 4), (nat_lit 1), (.c (.a (.i .i64 (.n (nat_lit 4)))))), ((nat_lit 5), (nat_lit 1), (.c (.a (.i .i64 (.n (nat_lit 2)))))), ((nat_lit 6), (nat_lit 1), (.c (.a (.i .i64 (.n (nat_lit 2)))))), ((nat_lit 7), (nat_lit 1), (.c (.a (.i .i64 (.n (nat_lit 2)))))), ((nat_lit 8), (nat_lit 1), (.c (.a (.i .i64 (.n (nat_lit 1)))))), ((nat_lit 9), (nat_lit 1), (.c (.a (.i .i64 (.n (nat_lit 1)))))), ((nat_lit 10), (nat_lit 1), (.c (.a (.i .i64 (.n (nat_lit 1)))))), ((nat_lit 11), (nat_lit 1), (.c (.a (.i .i64 (.n (nat_lit 1))))))]),
  .p (.l (.r .h)) none (.mv (.s (.l (.r (.l .h)))))])
 (.seq (.seq (.reg [.p (.r (.r (.l .h))) none (.mv (.s (.r (.l .h)))),
  .p (.l (.l (.r .h))) none (.ln (.s (.r (.r (.l .h))))),
  .p (.r (.l (.r .h))) none (.mv (.c (.a (.i .i64 (.n (nat_lit 0))))))])
 (.blk (nat_lit 0) (.loop (.seq (.reg [.p (.l (.r (.r .h))) none (.cp .lss (.s (.r (.l (.r .h)))) (.s (.l (.l (.r .h)))))])
 (.seq (.cond (.s (.l (.r (.r .h)))) .skip (.ex (nat_lit 0)))
 (.seq (.blk (nat_lit 1) (.seq (.reg [.p (.r (.r (.r .h))) none (.mv (.s (.r (.l (.r .h))))),
  .p (.l (.l (.l (.l .h)))) none (.ix (nat_lit 1) (.s (.r (.r (.l .h)))) (.s (.r (.l (.r .h))))),
  .r (.r (.l (.l (.l .h)))) none (.ld (.s (.l (.l (.l (.l .h)))))),
  .p (.r (.r .h)) none (.mv (.s (.r (.r (.r .h))))),
  .p (.l (.l (.l .h))) none (.mv (.s (.r (.l (.l (.l .h))))))])
 (.seq (.reg [.p (.l (.r (.l (.l .h)))) none (.mv (.s .h)),
  .p (.r (.r (.l (.l .h)))) none (.mv (.s (.l (.l (.l .h))))),
  .k (some (.l (.l (.r (.l .h))))) none (nat_lit 33) (.l (.r (.l (.l (.l .h))))) [(.s (.l (.r (.l (.l .h))))), (.c (.a (.i .i64 (.n (nat_lit 0))))), (.s (.r (.r (.l (.l .h)))))]])
 (.cond (.s (.l (.l (.r (.l .h))))) (.seq (.reg [.p (.r (.l (.r (.l .h)))) none (.mv (.s (.l (.r .h)))),
  .p (.l (.r (.r (.l .h)))) none (.mv (.s (.r (.r .h)))),
  .p (.r (.r (.r (.l .h)))) none (.ix (nat_lit 1) (.s (.r (.l (.r (.l .h))))) (.s (.l (.r (.r (.l .h)))))),
  .r (.l (.l (.l (.r .h)))) none (.ld (.s (.r (.r (.r (.l .h)))))),
  .p (.r (.l (.l (.r .h)))) none (.mv (.s (.r (.r .h)))),
  .p (.l (.r (.l (.r .h)))) none (.ar .add (.c (.a (.i .i64 (.n (nat_lit 6))))) (.s (.r (.l (.l (.r .h)))))),
  .p (.r .h) none (.mv (.s (.l (.l (.l (.r .h)))))),
  .p (.l (.l .h)) none (.mv (.s (.l (.r (.l (.r .h))))))])
 .rt) .skip))))
 (.reg [.p (.r (.r (.l (.r .h)))) none (.ar .add (.s (.r (.l (.r .h)))) (.c (.a (.i .i64 (.n (nat_lit 1)))))),
  .p (.r (.l (.r .h))) none (.mv (.s (.r (.r (.l (.r .h))))))])))))))
 (.seq (.reg [.p (.r .h) none (.mv (.c (.a (.i .i64 (.n (nat_lit 0)))))),
  .p (.l (.l .h)) none (.mv (.c (.a (.i .i64 (.n (nat_lit 0))))))])
 .rt))))), false, false⟩
noncomputable def rf144 : RF := ⟨[.h], [.s (.r .h)], (.seq (.reg [.p (.r .h) none (.mv (.c (.a (.b false))))])
 (.seq (.reg [.p (.l (.l .h)) none (.mv (.s .h)),
  .k (some (.r (.l .h))) none (nat_lit 38) (.r (.r (.r (.l (.l .h))))) [(.s (.l (.l .h))), (.c (.a (.i .i64 (.n (nat_lit 0))))), (.c (.a (.i .i64 (.n (nat_lit 1)))))],
  .p (.l (.r .h)) none (.mv (.s (.r (.l .h)))),
  .p (.r (.r .h)) (some ((.l (.r .h)), true)) (.mv (.s .h)),
  .k (some (.l (.l (.l .h)))) (some ((.l (.r .h)), true)) (nat_lit 33) (.l (.r (.l (.l (.l .h))))) [(.s (.r (.r .h))), (.c (.a (.i .i64 (.n (nat_lit 1))))), (.c (.a (.t (nat_lit 296))))],
  .p (.r (.l (.l .h))) none (.pk (.s (.l (.r .h))) (.s (.l (.l (.l .h)))) (.c (.a (.b false)))),
  .p (.r .h) none (.mv (.s (.r (.l (.l .h)))))])
 .rt)), false, false⟩
noncomputable def rf145 : RF := ⟨[.h], [.s (.r .h)], (.seq (.reg [.p (.r .h) none (.mv (.c (.a .s0)))])
 (.seq (.reg [.p (.l (.l .h)) none (.mv (.c (.a .s0)))])
 (.seq (.reg [.p (.r (.l .h)) none (.mv (.s .h)),
  .k (some (.l (.r .h))) none (nat_lit 35) (.l (.l (.r (.l (.l .h))))) [(.s (.r (.l .h))), (.c (.a (.t (nat_lit 296))))]])
 (.seq (.seq (.reg [.p (.r (.r .h)) none (.mv (.s .h)),
  .p (.l (.l (.l .h))) none (.nc (.s (.r (.r .h)))),
  .p (.r (.l (.l .h))) none (.fa (nat_lit 3) (.s (.l (.l (.l .h))))),
  .r (.l (.r (.l .h))) none (.ld (.s (.r (.l (.l .h))))),
  .p (.r (.r (.l .h))) none (.cp .eql (.s (.l (.r (.l .h)))) (.c (.a (.i .i64 (.n (nat_lit 0)))))),
  .p (.l (.l (.r .h))) none (.mv (.s (.r (.r (.l .h))))),
  .p (.r (.l (.r .h))) (some ((.l (.l (.r .h))), true)) (.mv (.s .h)),
  .k (some (.l (.r (.r .h)))) (some ((.l (.l (.r .h))), true)) (nat_lit 33) (.l (.r (.l (.l (.l .h))))) [(.s (.r (.l (.r .h)))), (.c (.a (.i .i64 (.n (nat_lit 0))))), (.c (.a (.t (nat_lit 297))))],
  .p (.r (.r (.r .h))) (some ((.l (.l (.r .h))), true)) (.nt (.s (.l (.r (.r .h))))),
  .p (.l (.l (.l (.l .h)))) none (.pk (.s (.l (.l (.r .h)))) (.s (.r (.r (.r .h)))) (.c (.a (.b false))))])
 (.cond (.s (.l (.l (.l (.l .h))))) (.seq (.reg [.p (.r (.l (.l (.l .h)))) none (.mv (.s (.l (.l .h)))),
  .p (.l (.r (.l (.l .h)))) none (.mv (.s .h)),
  .k (some (.r (.r (.l (.l .h))))) none (nat_lit 98) (.r (.r (.l (.l (.l (.r .h)))))) [(.s (.l (.r (.l (.l .h))))), (.c (.a (.i .i64 (.n (nat_lit 1))))), (.c (.a (.i .i64 (.n (nat_lit 0)))))],
  .a (.l (.l (.r (.l .h)))) none (.bs (nat_lit 214) (nat_lit 1) [(.i .i64 (.n (nat_lit 0))), (.i .i64 (.n (nat_lit 0))), (.i .i64 (.n (nat_lit 0))), (.t (nat_lit 1)), (.t (nat_lit 1)), .s0] [((nat_lit 0), (nat_lit 6), (.s (.r (.r (.l (.l .h))))))]),
  .c (some (.r (.l (.r (.l .h))))) none (.ap (nat_lit 214) (nat_lit 6) (nat_lit 80) (.s (.r (.l (.l (.l .h))))) (.s (.l (.l (.r (.l .h)))))),
  .p (.l (.l .h)) none (.mv (.s (.r (.l (.r (.l .h))))))])
 (.blk (nat_lit 0) (.loop (.seq (.seq (.reg [.p (.l (.r (.r (.l .h)))) none (.mv (.s .h)),
  .p (.r (.r (.r (.l .h)))) none (.nc (.s (.l (.r (.r (.l .h)))))),
  .p (.l (.l (.l (.r .h)))) none (.fa (nat_lit 3) (.s (.r (.r (.r (.l .h)))))),
  .r (.r (.l (.l (.r .h)))) none (.ld (.s (.l (.l (.l (.r .h)))))),
  .p (.l (.r (.l (.r .h)))) none (.cp .eql (.s (.r (.l (.l (.r .h))))) (.c (.a (.i .i64 (.n (nat_lit 0)))))),
  .p (.r (.r (.l (.r .h)))) none (.mv (.s (.l (.r (.l (.r .h)))))),
  .p (.l (.l (.r (.r .h)))) (some ((.r (.r (.l (.r .h)))), true)) (.mv (.s .h)),
  .k (some (.r (.l (.r (.r .h))))) (some ((.r (.r (.l (.r .h)))), true)) (nat_lit 33) (.l (.r (.l (.l (.l .h))))) [(.s (.l (.l (.r (.r .h))))), (.c (.a (.i .i64 (.n (nat_lit 0))))), (.c (.a (.t (nat_lit 300))))],
  .p (.l (.r (.r (.r .h)))) none (.pk (.s (.r (.r (.l (.r .h))))) (.s (.r (.l (.r (.r .h))))) (.c (.a (.b false))))])
 (.cond (.s (.l (.r (.r (.r .h))))) .skip (.ex (nat_lit 0))))
 (.blk (nat_lit 1) (.seq (.reg [.p (.r (.r (.r (.r .h)))) none (.mv (.s .h)),
  .p (.l (.l (.l (.l (.l .h))))) none (.nc (.s (.r (.r (.r (.r .h)))))),
  .p (.r (.l (.l (.l (.l .h))))) none (.fa (nat_lit 1) (.s (.l (.l (.l (.l (.l .h))))))),
  .r (.l (.r (.l (.l (.l .h))))) none (.ld (.s (.r (.l (.l (.l (.l .h))))))),
  .p (.r (.r (.l (.l (.l .h))))) none (.ar .add (.s (.l (.r (.l (.l (.l .h)))))) (.c (.a (.i .i64 (.n (nat_lit 1)))))),
  .p (.l (.l (.r (.l (.l .h))))) none (.nc (.s (.r (.r (.r (.r .h)))))),
  .p (.r (.l (.r (.l (.l .h))))) none (.fa (nat_lit 1) (.s (.l (.l (.r (.l (.l .h))))))),
  .c none none (.st (nat_lit 1) (.s (.r (.l (.r (.l (.l .h)))))) (.s (.r (.r (.l (.l (.l .h)))))))])
 (.reg [.p (.l (.r (.r (.l (.l .h))))) none (.mv (.s (.l (.l .h)))),
  .p (.r (.r (.r (.l (.l .h))))) none (.mv (.s .h)),
  .k (some (.l (.l (.l (.r (.l .h)))))) none (nat_lit 98) (.r (.r (.l (.l (.l (.r .h)))))) [(.s (.r (.r (.r (.l (.l .h)))))), (.c (.a (.i .i64 (.n (nat_lit 1))))), (.c (.a (.i .i64 (.n (nat_lit 0)))))],
  .a (.r (.l (.l (.r (.l .h))))) none (.bs (nat_lit 214) (nat_lit 1) [(.i .i64 (.n (nat_lit 0))), (.i .i64 (.n (nat_lit 0))), (.i .i64 (.n (nat_lit 0))), (.t (nat_lit 1)), (.t (nat_lit 1)), .s0] [((nat_lit 0), (nat_lit 6), (.s (.l (.l (.l (.r (.l .h)))))))]),
  .c (some (.l (.r (.l (.r (.l .h)))))) none (.ap (nat_lit 214) (nat_lit 6) (nat_lit 80) (.s (.l (.r (.r (.l (.l .h)))))) (.s (.r (.l (.l (.r (.l .h))))))),
  .p (.l (.l .h)) none (.mv (.s (.l (.r (.l (.r (.l .h)))))))]))))))) .skip))
 (.seq (.reg [.p (.r (.r (.l (.r (.l .h))))) none (.mv (.s .h)),
  .k (some (.l (.l (.r (.r (.l .h)))))) none (nat_lit 35) (.l (.l (.r (.l (.l .h))))) [(.s (.r (.r (.l (.r (.l .h)))))), (.c (.a (.t (nat_lit 297))))]])
 (.seq (.reg [.p (.r (.l (.r (.r (.l .h))))) none (.mv (.s (.l (.l .h)))),
  .p (.r .h) none (.mv (.s (.r (.l (.r (.r (.l .h)))))))])
 .rt)))))), false, false⟩
noncomputable def rf146 : RF := ⟨[.h, (.l .h)], [.g (.r (.l .h)) (nat_lit 6)], (.seq (.reg [.a (.r (.l .h)) none (.al (nat_lit 214) (nat_lit 6) (.n (.n (.n .e (.t (nat_lit 1)) .e) (.i .i64 (.n (nat_lit 0))) (.n .e .s0 .e)) (.i .i64 (.n (nat_lit 0))) (.n (.n .e (.t (nat_lit 1)) .e) (.i .i64 (.n (nat_lit 0))) .e)))])
 (.seq (.reg [.p (.l (.l (.l .h))) none (.mv (.s .h)),
  .k (some (.r (.l (.l .h)))) none (nat_lit 34) (.r (.r (.l (.l (.l .h))))) [(.s (.l (.l (.l .h))))],
  .p (.l (.r .h)) none (.mv (.s (.r (.l (.l .h)))))])
 (.seq (.seq (.reg [.p (.l (.r (.l .h))) none (.mv (.s .h)),
  .p (.r (.r (.l .h))) none (.nc (.s (.l (.r (.l .h))))),
  .p (.l (.l (.r .h))) none (.fa (nat_lit 3) (.s (.r (.r (.l .h))))),
  .r (.r (.l (.r .h))) none (.ld (.s (.l (.l (.r .h))))),
  .p (.l (.r (.r .h))) none (.cp .eql (.s (.r (.l (.r .h)))) (.c (.a (.i .i64 (.n (nat_lit 0)))))),
  .p (.r (.r (.r .h))) none (.mv (.s (.l (.r (.r .h))))),
  .p (.l (.l (.l (.l .h)))) (some ((.r (.r (.r .h))), true)) (.mv (.s .h)),
  .k (some (.r (.l (.l (.l .h))))) (some ((.r (.r (.r .h))), true)) (nat_lit 33) (.l (.r (.l (.l (.l .h))))) [(.s (.l (.l (.l (.l .h))))), (.c (.a (.i .i64 (.n (nat_lit 0))))), (.c (.a (.t (nat_lit 302))))],
  .p (.l (.r (.l (.l .h)))) none (.pk (.s (.r (.r (.r .h)))) (.s (.r (.l (.l (.l .h))))) (.c (.a (.b false))))])
 (.cond (.s (.l (.r (.l (.l .h))))) (.seq (.reg [.p (.r (.r (.l (.l .h)))) none (.mv (.s .h)),
  .p (.l (.l (.r (.l .h)))) none (.nc (.s (.r (.r (.l (.l .h)))))),
  .p (.r (.l (.r (.l .h)))) none (.fa (nat_lit 1) (.s (.l (.l (.r (.l .h)))))),
  .r (.l (.r (.r (.l .h)))) none (.ld (.s (.r (.l (.r (.l .h)))))),
  .p (.r (.r (.r (.l .h)))) none (.ar .add (.s (.l (.r (.r (.l .h))))) (.c (.a (.i .i64 (.n (nat_lit 1)))))),
  .p (.l (.l (.l (.r .h)))) none (.nc (.s (.r (.r (.l (.l .h)))))),
  .p (.r (.l (.l (.r .h)))) none (.fa (nat_lit 1) (.s (.l (.l (.l (.r .h)))))),
  .c none none (.st (nat_lit 1) (.s (.r (.l (.l (.r .h))))) (.s (.r (.r (.r (.l .h))))))])
 (.seq (.reg [.p (.l (.r (.l (.r .h)))) none (.mv (.s (.l (.r .h)))),
  .p (.r (.r (.l (.r .h)))) none (.mv (.s .h)),
  .k (some (.l (.l (.r (.r .h))))) none (nat_lit 34) (.r (.r (.l (.l (.l .h))))) [(.s (.r (.r (.l (.r .h)))))],
  .p (.r (.l (.r (.r .h)))) none (.bd [(.i .i64 (.n (nat_lit 0))), (.i .i64 (.n (nat_lit 0))), (.i .i64 (.n (nat_lit 0))), (.t (nat_lit 1)), (.t (nat_lit 1)), .s0] [((nat_lit 0), (nat_lit 1), (.c (.a (.i .i64 (.n (nat_lit 2)))))), ((nat_lit 3), (nat_lit 1), (.s (.l (.r (.l (.r .h)))))), ((nat_lit 4), (nat_lit 1), (.s (.l (.l (.r (.r .h))))))]),
  .c none none (.st (nat_lit 6) (.s (.r (.l .h))) (.s (.r (.l (.r (.r .h))))))])
 .rt)) .skip))
 (.seq (.seq (.reg [.p (.l (.r (.r (.r .h)))) none (.mv (.s .h)),
  .p (.r (.r (.r (.r .h)))) none (.nc (.s (.l (.r (.r (.r .h)))))),
  .p (.l (.l (.l (.l (.l .h))))) none (.fa (nat_lit 3) (.s (.r (.r (.r (.r .h)))))),
  .r (.r (.l (.l (.l (.l .h))))) none (.ld (.s (.l (.l (.l (.l (.l .h))))))),
  .p (.l (.r (.l (.l (.l .h))))) none (.cp .eql (.s (.r (.l (.l (.l (.l .h)))))) (.c (.a (.i .i64 (.n (nat_lit 0)))))),
  .p (.r (.r (.l (.l (.l .h))))) none (.mv (.s (.l (.r (.l (.l (.l .h))))))),
  .p (.l (.l (.r (.l (.l .h))))) (some ((.r (.r (.l (.l (.l .h))))), true)) (.mv (.s .h)),
  .k (some (.r (.l (.r (.l (.l .h)))))) (some ((.r (.r (.l (.l (.l .h))))), true)) (nat_lit 33) (.l (.r (.l (.l (.l .h))))) [(.s (.l (.l (.r (.l (.l .h)))))), (.c (.a (.i .i64 (.n (nat_lit 0))))), (.c (.a (.t (nat_lit 347))))],
  .p (.l (.r (.r (.l (.l .h))))) none (.pk (.s (.r (.r (.l (.l (.l .h)))))) (.s (.r (.l (.r (.l (.l .h)))))) (.c (.a (.b false))))])
 (.cond (.s (.l (.r (.r (.l (.l .h)))))) (.seq (.reg [.p (.r (.r (.r (.l (.l .h))))) none (.mv (.s .h)),
  .p (.l (.l (.l (.r (.l .h))))) none (.nc (.s (.r (.r (.r (.l (.l .h))))))),
  .p (.r (.l (.l (.r (.l .h))))) none (.fa (nat_lit 1) (.s (.l (.l (.l (.r (.l .h))))))),
  .r (.l (.r (.l (.r (.l .h))))) none (.ld (.s (.r (.l (.l (.r (.l .h))))))),
  .p (.r (.r (.l (.r (.l .h))))) none (.ar .add (.s (.l (.r (.l (.r (.l .h)))))) (.c (.a (.i .i64 (.n (nat_lit 1)))))),
  .p (.l (.l (.r (.r (.l .h))))) none (.nc (.s (.r (.r (.r (.l (.l .h))))))),
  .p (.r (.l (.r (.r (.l .h))))) none (.fa (nat_lit 1) (.s (.l (.l (.r (.r (.l .h))))))),
  .c none none (.st (nat_lit 1) (.s (.r (.l (.r (.r (.l .h)))))) (.s (.r (.r (.l (.r (.l .h)))))))])
 (.seq (.reg [.p (.l (.r (.r (.r (.l .h))))) none (.mv (.s .h)),
  .p (.r (.r (.r (.r (.l .h))))) none (.mv (.s (.l .h))),
  .p (.l (.l (.l (.l (.r .h))))) none (.ar .add (.s (.r (.r (.r (.r (.l .h)))))) (.c (.a (.i .i64 (.n (nat_lit 1)))))),
  .k (some (.r (.l (.l (.l (.r .h)))))) none (nat_lit 98) (.r (.r (.l (.l (.l (.r .h)))))) [(.s (.l (.r (.r (.r (.l .h)))))), (.c (.a (.i .i64 (.n (nat_lit 1))))), (.s (.l (.l (.l (.l (.r .h))))))],
  .a (.r (.r .h)) none (.al (nat_lit 214) (nat_lit 6) (.n (.n (.n .e (.t (nat_lit 1)) .e) (.i .i64 (.n (nat_lit 0))) (.n .e .s0 .e)) (.i .i64 (.n (nat_lit 0))) (.n (.n .e (.t (nat_lit 1)) .e) (.i .i64 (.n (nat_lit 0))) .e))),
  .c none none (.st (nat_lit 6) (.s (.r (.r .h))) (.s (.r (.l (.l (.l (.r .h)))))))])
 (.seq (.reg [.p (.l (.r (.l (.l (.r .h))))) none (.mv (.s .h)),
  .k (some (.r (.r (.l (.l (.r .h)))))) none (nat_lit 35) (.l (.l (.r (.l (.l .h))))) [(.s (.l (.r (.l (.l (.r .h)))))), (.c (.a (.t (nat_lit 349))))]])
 (.seq (.reg [.p (.l (.l (.r (.l (.r .h))))) none (.mv (.s (.l (.r .h)))),
  .r (.r (.l (.r (.l (.r .h))))) none (.lg (nat_lit 6) (.s (.r (.r .h)))),
  .a (.l (.r (.r (.l (.r .h))))) none (.bs (nat_lit 214) (nat_lit 1) [(.i .i64 (.n (nat_lit 0))), (.i .i64 (.n (nat_lit 0))), (.i .i64 (.n (nat_lit 0))), (.t (nat_lit 1)), (.t (nat_lit 1)), .s0] [((nat_lit 0), (nat_lit 6), (.s (.r (.l (.r (.l (.r .h)))))))]),
  .p (.r (.r (.r (.l (.r .h))))) none (.bd [(.i .i64 (.n (nat_lit 0))), (.i .i64 (.n (nat_lit 0))), (.i .i64 (.n (nat_lit 0))), (.t (nat_lit 1)), (.t (nat_lit 1)), .s0] [((nat_lit 0), (nat_lit 1), (.c (.a (.i .i64 (.n (nat_lit 3)))))), ((nat_lit 3), (nat_lit 1), (.s (.l (.l (.r (.l (.r .h))))))), ((nat_lit 5), (nat_lit 1), (.s (.l (.r (.r (.l (.r .h)))))))]),
  .c none none (.st (nat_lit 6) (.s (.r (.l .h))) (.s (.r (.r (.r (.l (.r .h)))))))])
 .rt)))) .skip))
 (.seq (.reg [.p (.l (.l (.l (.r (.r .h))))) none (.mv (.s (.l (.r .h)))),
  .p (.r (.l (.l (.r (.r .h))))) none (.bd [(.i .i64 (.n (nat_lit 0))), (.i .i64 (.n (nat_lit 0))), (.i .i64 (.n (nat_lit 0))), (.t (nat_lit 1)), (.t (nat_lit 1)), .s0] [((nat_lit 0), (nat_lit 1), (.c (.a (.i .i64 (.n (nat_lit 1)))))), ((nat_lit 3), (nat_lit 1), (.s (.l (.l (.l (.r (.r .h)))))))]),
  .c none none (.st (nat_lit 6) (.s (.r (.l .h))) (.s (.r (.l (.l (.r (.r .h)))))))])
 .rt))))), false, false⟩
noncomputable def rf150 : RF := ⟨[.h, (.l .h)], [], (.seq (.reg [.p (.r (.l .h)) none (.mv (.s .h)),
  .p (.l (.r .h)) none (.nc (.s (.r (.l .h)))),
  .p (.r (.r .h)) none (.fa (nat_lit 12) (.s (.l (.r .h)))),
  .r (.l (.l (.l .h))) none (.ld (.s (.r (.r .h))))])
 (.cond (.s (.l (.l (.l .h)))) (.reg [.p (.r (.l (.l .h))) none (.mv (.s .h)),
  .p (.l (.r (.l .h))) none (.mv (.s .h)),
  .p (.r (.r (.l .h))) none (.mv (.s (.l .h))),
  .k (some (.l (.l (.r .h)))) none (nat_lit 151) (.l (.l (.l (.r (.r (.l (.l .h))))))) [(.s (.l (.r (.l .h)))), (.s (.r (.r (.l .h)))), (.c (.a .s0))],
  .k (some (.r (.l (.r .h)))) none (nat_lit 157) (.l (.r (.r (.r (.r (.l (.l .h))))))) [],
  .p (.l (.r (.r .h))) none (.bd [(.i .i64 (.n (nat_lit 0))), .s0, (.i .i64 (.n (nat_lit 0))), .s0] [((nat_lit 0), (nat_lit 2), (.s (.l (.l (.r .h))))), ((nat_lit 2), (nat_lit 2), (.s (.r (.l (.r .h)))))]),
  .p (.r (.r (.r .h))) none (.bd [(.i .i64 (.n (nat_lit 0))), (.i .i64 (.n (nat_lit 0))), (.i .i64 (.n (nat_lit 0))), .s0, (.i .i64 (.n (nat_lit 0))), .s0, (.i .i64 (.n (nat_lit 0))), .s0] [((nat_lit 0), (nat_lit 1), (.c (.a (.i .i64 (.n (nat_lit 1)))))), ((nat_lit 4), (nat_lit 4), (.s (.l (.r (.r .h)))))]),
  .k (some (.l (.l (.l (.l .h))))) none (nat_lit 158) (.r (.r (.r (.r (.r (.l (.l .h))))))) [(.s (.r (.l (.l .h)))), (.s (.r (.r (.r .h))))]]) .skip)), false, false⟩
noncomputable def rf151 : RF := ⟨[.h, (.l .h), (.r .h)], [.g (.r (.r .h)) (nat_lit 2)], (.seq (.reg [.a (.r (.r .h)) none (.al (nat_lit 54) (nat_lit 2) (.n (.n .e .s0 .e) (.i .i64 (.n (nat_lit 0))) .e))])
 (.seq (.reg [.p (.r (.r (.l .h))) none (.mv (.s .h)),
  .p (.l (.l (.r .h))) none (.mv (.s (.l .h))),
  .k (some (.r (.l (.r .h)))) none (nat_lit 44) (.r (.l (.r (.r (.l .h))))) [(.s (.r (.r (.l .h)))), (.s (.l (.l (.r .h))))]])
 (.seq (.drw [⟨.p (.l (.r (.r .h))) none (.mv (.s (.l .h))), (nat_lit 0), [], []⟩,
  ⟨.p (.r (.r (.r .h))) none (.nc (.s (.l (.r (.r .h))))), (nat_lit 1), [(nat_lit 0)], []⟩,
  ⟨.p (.l (.l (.l (.l .h)))) none (.fa (nat_lit 0) (.s (.r (.r (.r .h))))), (nat_lit 2), [(nat_lit 0), (nat_lit 1)], []⟩,
  ⟨.r (.r (.l (.l (.l .h)))) none (.ld (.s (.l (.l (.l (.l .h)))))), (nat_lit 3), [(nat_lit 0), (nat_lit 1), (nat_lit 2)], []⟩,
  ⟨.p (.l (.r (.l (.l .h)))) none (.mv (.s (.r .h))), (nat_lit 4), [], []⟩,
  ⟨.c (some (.r (.r (.l (.l .h))))) none (.ap (nat_lit 3) (nat_lit 1) (nat_lit 8) (.c (.a .s0)) (.s (.l (.r (.l (.l .h)))))), (nat_lit 5), [(nat_lit 4)], [true]⟩,
  ⟨.p (.l (.l (.r (.l .h)))) none (.bd [(.i .i64 (.n (nat_lit 0))), .s0] [((nat_lit 0), (nat_lit 1), (.s (.r (.l (.l (.l .h)))))), ((nat_lit 1), (nat_lit 1), (.s (.r (.r (.l (.l .h))))))]), (nat_lit 6), [(nat_lit 0), (nat_lit 1), (nat_lit 2), (nat_lit 3), (nat_lit 4), (nat_lit 5)], []⟩,
  ⟨.a (.l (.l (.l .h))) none (.al (nat_lit 54) (nat_lit 2) (.n (.n .e .s0 .e) (.i .i64 (.n (nat_lit 0))) .e)), (nat_lit 7), [], []⟩,
  ⟨.c none none (.st (nat_lit 2) (.s (.l (.l (.l .h)))) (.s (.l (.l (.r (.l .h)))))), (nat_lit 8), [(nat_lit 0), (nat_lit 1), (nat_lit 2), (nat_lit 3), (nat_lit 4), (nat_lit 5), (nat_lit 6), (nat_lit 7)], []⟩])
 (.seq (.seq (.reg [.p (.r (.l (.r (.l .h)))) none (.mv (.s (.l .h))),
  .p (.l (.r (.r (.l .h)))) none (.nc (.s (.r (.l (.r (.l .h)))))),
  .p (.r (.r (.r (.l .h)))) none (.fa (nat_lit 1) (.s (.l (.r (.r (.l .h)))))),
  .r (.l (.l (.l (.r .h)))) none (.ld (.s (.r (.r (.r (.l .h)))))),
  .p (.r (.l (.l (.r .h)))) none (.ln (.s (.l (.l (.l (.r .h)))))),
  .p (.l (.r (.l (.r .h)))) none (.mv (.c (.a (.i .i64 (.n (nat_lit 0))))))])
 (.blk (nat_lit 0) (.loop (.seq (.reg [.p (.r (.r (.l (.r .h)))) none (.cp .lss (.s (.l (.r (.l (.r .h))))) (.s (.r (.l (.l (.r .h))))))])
 (.seq (.cond (.s (.r (.r (.l (.r .h))))) .skip (.ex (nat_lit 0)))
 (.seq (.blk (nat_lit 1) (.seq (.reg [.p (.l (.l (.r (.r .h)))) none (.ix (nat_lit 2) (.s (.l (.l (.l (.r .h))))) (.s (.l (.r (.l (.r .h)))))),
  .r (.r (.l (.r (.r .h)))) none (.lg (nat_lit 2) (.s (.l (.l (.r (.r .h)))))),
  .a (.l (.r (.l .h))) none (.al (nat_lit 188) (nat_lit 2) (.n (.n .e (.i .i64 (.n (nat_lit 0))) .e) (.i .i64 (.n (nat_lit 0))) .e)),
  .c none none (.st (nat_lit 2) (.s (.l (.r (.l .h)))) (.s (.r (.l (.r (.r .h))))))])
 (.drw [⟨.p (.l (.r (.r (.r .h)))) none (.fa (nat_lit 1) (.s (.l (.l (.l .h))))), (nat_lit 0), [], []⟩,
  ⟨.r (.r (.r (.r (.r .h)))) none (.ld (.s (.l (.r (.r (.r .h)))))), (nat_lit 1), [(nat_lit 0)], []⟩,
  ⟨.p (.l (.l (.l (.l (.l .h))))) none (.mv (.s .h)), (nat_lit 2), [], []⟩,
  ⟨.p (.r (.l (.l (.l (.l .h))))) none (.nc (.s (.l (.l (.l (.l (.l .h))))))), (nat_lit 3), [(nat_lit 2)], []⟩,
  ⟨.p (.l (.r (.l (.l (.l .h))))) none (.fa (nat_lit 14) (.s (.r (.l (.l (.l (.l .h))))))), (nat_lit 4), [(nat_lit 2), (nat_lit 3)], []⟩,
  ⟨.r (.r (.r (.l (.l (.l .h))))) none (.ld (.s (.l (.r (.l (.l (.l .h))))))), (nat_lit 5), [(nat_lit 2), (nat_lit 3), (nat_lit 4)], []⟩,
  ⟨.r (.l (.l (.r (.l (.l .h))))) none (.lg (nat_lit 2) (.s (.l (.r (.l .h))))), (nat_lit 6), [], []⟩,
  ⟨.r (.r (.l (.r (.l (.l .h))))) none (.lk false true [(nat_lit 0), (nat_lit 0)] (.a (.i .i64 (.n (nat_lit 0)))) (.s (.r (.r (.l (.l (.l .h)))))) (.s (.l (.l (.r (.l (.l .h))))))), (nat_lit 7), [(nat_lit 2), (nat_lit 3), (nat_lit 4), (nat_lit 5), (nat_lit 6)], []⟩,
  ⟨.a (.l (.r (.r (.l (.l .h))))) none (.bs (nat_lit 3) (nat_lit 1) [(.i .i64 (.n (nat_lit 0)))] [((nat_lit 0), (nat_lit 1), (.s (.r (.l (.r (.l (.l .h)))))))]), (nat_lit 8), [(nat_lit 2), (nat_lit 3), (nat_lit 4), (nat_lit 5), (nat_lit 6), (nat_lit 7)], []⟩,
  ⟨.c (some (.r (.r (.r (.l (.l .h)))))) none (.ap (nat_lit 3) (nat_lit 1) (nat_lit 8) (.s (.r (.r (.r (.r .h))))) (.s (.l (.r (.r (.l (.l .h))))))), (nat_lit 9), [(nat_lit 0), (nat_lit 1), (nat_lit 2), (nat_lit 3), (nat_lit 4), (nat_lit 5), (nat_lit 6), (nat_lit 7), (nat_lit 8)], []⟩,
  ⟨.p (.l (.l (.l (.r (.l .h))))) none (.fa (nat_lit 1) (.s (.l (.l (.l .h))))), (nat_lit 10), [(nat_lit 0), (nat_lit 1), (nat_lit 2), (nat_lit 3), (nat_lit 4), (nat_lit 5), (nat_lit 6), (nat_lit 7), (nat_lit 8), (nat_lit 9)], []⟩,
  ⟨.c none none (.st (nat_lit 1) (.s (.l (.l (.l (.r (.l .h)))))) (.s (.r (.r (.r (.l (.l .h))))))), (nat_lit 11), [(nat_lit 0), (nat_lit 1), (nat_lit 2), (nat_lit 3), (nat_lit 4), (nat_lit 5), (nat_lit 6), (nat_lit 7), (nat_lit 8), (nat_lit 9), (nat_lit 10)], []⟩])))
 (.reg [.p (.r (.l (.l (.r (.l .h))))) none (.ar .add (.s (.l (.r (.l (.r .h))))) (.c (.a (.i .i64 (.n (nat_lit 1)))))),
  .p (.l (.r (.l (.r .h)))) none (.mv (.s (.r (.l (.l (.r (.l .h)))))))])))))))
 (.seq (.reg [.r (.l (.r (.l (.r (.l .h))))) none (.lg (nat_lit 2) (.s (.l (.l (.l .h))))),
  .c none none (.st (nat_lit 2) (.s (.r (.r .h))) (.s (.l (.r (.l (.r (.l .h)))))))])
 .rt))))), false, false⟩
noncomputable def rf152 : RF := ⟨[.h, (.l .h), (.r .h), (.l (.l .h))], [], (.seq (.reg [.a (.r (.r .h)) none (.bx (nat_lit 54) (nat_lit 2) (.s (.r .h))),
  .a (.l (.l (.l .h))) none (.bx (nat_lit 54) (nat_lit 2) (.s (.l (.l .h))))])
 (.reg [.p (.r (.l (.l .h))) none (.mv (.s .h)),
  .p (.l (.r (.l .h))) none (.mv (.s (.l .h))),
  .r (.r (.r (.l .h))) none (.lg (nat_lit 2) (.s (.r (.r .h)))),
  .r (.l (.l (.r .h))) none (.lg (nat_lit 2) (.s (.l (.l (.l .h))))),
  .p (.r (.l (.r .h))) none (.bd [(.i .i64 (.n (nat_lit 0))), .s0, (.i .i64 (.n (nat_lit 0))), .s0] [((nat_lit 0), (nat_lit 2), (.s (.r (.r (.l .h))))), ((nat_lit 2), (nat_lit 2), (.s (.l (.l (.r .h)))))]),
  .p (.l (.r (.r .h))) none (.bd [(.i .i64 (.n (nat_lit 0))), (.i .i64 (.n (nat_lit 0))), (.i .i64 (.n (nat_lit 0))), .s0, (.i .i64 (.n (nat_lit 0))), .s0, (.i .i64 (.n (nat_lit 0))), .s0] [((nat_lit 0), (nat_lit 1), (.c (.a (.i .i64 (.n (nat_lit 2)))))), ((nat_lit 1), (nat_lit 1), (.s (.l (.r (.l .h))))), ((nat_lit 4), (nat_lit 4), (.s (.r (.l (.r .h)))))]),
  .k (some (.r (.r (.r .h)))) none (nat_lit 158) (.r (.r (.r (.r (.r (.l (.l .h))))))) [(.s (.r (.l (.l .h)))), (.s (.l (.r (.r .h))))]])), false, false⟩
noncomputable def rf153 : RF := ⟨[.h, (.l .h)], [], (.seq (.reg [.a (.l (.l .h)) none (.bx (nat_lit 214) (nat_lit 6) (.s (.l .h)))])
 (.seq (.reg [.p (.r (.r (.r .h))) none (.mv (.s .h)),
  .p (.l (.l (.l (.l .h)))) none (.fa (nat_lit 5) (.s (.l (.l .h)))),
  .r (.r (.l (.l (.l .h)))) none (.ld (.s (.l (.l (.l (.l .h)))))),
  .p (.l (.r (.l (.l .h)))) none (.ix (nat_lit 6) (.s (.r (.l (.l (.l .h))))) (.c (.a (.i .i64 (.n (nat_lit 0)))))),
  .r (.r (.r (.l (.l .h)))) none (.lg (nat_lit 6) (.s (.l (.r (.l (.l .h)))))),
  .k (some (.l (.l (.r (.l .h))))) none (nat_lit 154) (.r (.r (.l (.r (.r (.l (.l .h))))))) [(.s (.r (.r (.r .h)))), (.s (.r (.r (.l (.l .h)))))]])
 (.seq (.drw [⟨.p (.r (.l (.r (.l .h)))) none (.mv (.s .h)), (nat_lit 0), [], []⟩,
  ⟨.p (.l (.r (.r (.l .h)))) none (.nc (.s (.r (.l (.r (.l .h)))))), (nat_lit 1), [(nat_lit 0)], []⟩,
  ⟨.p (.r (.r (.r (.l .h)))) none (.fa (nat_lit 15) (.s (.l (.r (.r (.l .h)))))), (nat_lit 2), [(nat_lit 0), (nat_lit 1)], []⟩,
  ⟨.r (.l (.l (.l (.r .h)))) none (.ld (.s (.r (.r (.r (.l .h)))))), (nat_lit 3), [(nat_lit 0), (nat_lit 1), (nat_lit 2)], []⟩,
  ⟨.p (.r (.l (.l (.r .h)))) none (.mv (.s .h)), (nat_lit 4), [], []⟩,
  ⟨.p (.l (.r (.l (.r .h)))) none (.nc (.s (.r (.l (.l (.r .h)))))), (nat_lit 5), [(nat_lit 4)], []⟩,
  ⟨.p (.r (.r (.l (.r .h)))) none (.fa (nat_lit 15) (.s (.l (.r (.l (.r .h)))))), (nat_lit 6), [(nat_lit 4), (nat_lit 5)], []⟩,
  ⟨.r (.l (.l (.r (.r .h)))) none (.ld (.s (.r (.r (.l (.r .h)))))), (nat_lit 7), [(nat_lit 4), (nat_lit 5), (nat_lit 6)], []⟩,
  ⟨.p (.r (.l (.r (.r .h)))) none (.ln (.s (.l (.l (.r (.r .h)))))), (nat_lit 8), [(nat_lit 4), (nat_lit 5), (nat_lit 6), (nat_lit 7)], []⟩,
  ⟨.p (.l (.r (.r (.r .h)))) none (.ar .sub (.s (.r (.l (.r (.r .h))))) (.c (.a (.i .i64 (.n (nat_lit 1)))))), (nat_lit 9), [(nat_lit 4), (nat_lit 5), (nat_lit 6), (nat_lit 7), (nat_lit 8)], []⟩,
  ⟨.p (.r (.r (.r (.r .h)))) none (.ix (nat_lit 1) (.s (.l (.l (.l (.r .h))))) (.s (.l (.r (.r (.r .h)))))), (nat_lit 10), [(nat_lit 0), (nat_lit 1), (nat_lit 2), (nat_lit 3), (nat_lit 4), (nat_lit 5), (nat_lit 6), (nat_lit 7), (nat_lit 8), (nat_lit 9)], []⟩,
  ⟨.r (.l (.l (.l (.l (.l .h))))) none (.ld (.s (.r (.r (.r (.r .h)))))), (nat_lit 11), [(nat_lit 0), (nat_lit 1), (nat_lit 2), (nat_lit 3), (nat_lit 4), (nat_lit 5), (nat_lit 6), (nat_lit 7), (nat_lit 8), (nat_lit 9), (nat_lit 10)], []⟩,
  ⟨.p (.r (.l .h)) none (.mv (.s (.l (.l (.l (.l (.l .h))))))), (nat_lit 12), [(nat_lit 0), (nat_lit 1), (nat_lit 2), (nat_lit 3), (nat_lit 4), (nat_lit 5), (nat_lit 6), (nat_lit 7), (nat_lit 8), (nat_lit 9), (nat_lit 10), (nat_lit 11)], []⟩])
 (.seq (.reg [.p (.r (.l (.l (.l (.l .h))))) none (.mv (.s .h)),
  .k (some (.l (.r (.l (.l (.l .h)))))) none (nat_lit 114) (.r (.r (.l (.l (.r (.r .h)))))) [(.s (.r (.l (.l (.l (.l .h)))))), (.c (.a (.i .i64 (.n (nat_lit 0)))))],
  .p (.l (.r .h)) none (.mv (.s (.l (.r (.l (.l (.l .h)))))))])
 (.seq (.reg [.p (.r (.r (.l (.l (.l .h))))) none (.mv (.s .h)),
  .p (.l (.l (.r (.l (.l .h))))) none (.mv (.s (.r (.l .h)))),
  .p (.r (.l (.r (.l (.l .h))))) none (.mv (.s (.l (.r .h)))),
  .p (.l (.r (.r (.l (.l .h))))) none (.bd [(.i .i64 (.n (nat_lit 0))), (.i .i64 (.n (nat_lit 0))), (.i .i64 (.n (nat_lit 0))), (.i .i64 (.n (nat_lit 0))), (.i .i64 (.n (nat_lit 0))), (.i .i64 (.n (nat_lit 0))), (.i .i64 (.n (nat_lit 0))), (.i .i64 (.n (nat_lit 0))), (.i .i64 (.n (nat_lit 0))), (.i .i64 (.n (nat_lit 0))), (.i .i64 (.n (nat_lit 0)))] [((nat_lit 0), (nat_lit 1), (.c (.a (.i .i64 (.n (nat_lit 11)))))), ((nat_lit 2), (nat_lit 1), (.s (.l (.l (.r (.l (.l .h))))))), ((nat_lit 3), (nat_lit 1), (.s (.r (.l (.r (.l (.l .h)))))))]),
  .k (some (.r (.r (.r (.l (.l .h)))))) none (nat_lit 156) (.r (.l (.r (.r (.r (.l (.l .h))))))) [(.s (.r (.r (.l (.l (.l .h)))))), (.s (.l (.r (.r (.l (.l .h))))))],
  .p (.r (.r .h)) none (.mv (.s (.r (.r (.r (.l (.l .h)))))))])
 (.seq (.drw [⟨.p (.l (.l (.l (.r (.l .h))))) none (.mv (.s .h)), (nat_lit 0), [], []⟩,
  ⟨.p (.r (.l (.l (.r (.l .h))))) none (.mv (.s .h)), (nat_lit 1), [], []⟩,
  ⟨.p (.l (.r (.l (.r (.l .h))))) none (.nc (.s (.r (.l (.l (.r (.l .h))))))), (nat_lit 2), [(nat_lit 1)], []⟩,
  ⟨.p (.r (.r (.l (.r (.l .h))))) none (.fa (nat_lit 0) (.s (.l (.r (.l (.r (.l .h))))))), (nat_lit 3), [(nat_lit 1), (nat_lit 2)], []⟩,
  ⟨.p (.l (.l (.r (.r (.l .h))))) none (.fa (nat_lit 2) (.s (.r (.r (.l (.r (.l .h))))))), (nat_lit 4), [(nat_lit 1), (nat_lit 2), (nat_lit 3)], []⟩,
  ⟨.r (.r (.l (.r (.r (.l .h))))) none (.ld (.s (.l (.l (.r (.r (.l .h))))))), (nat_lit 5), [(nat_lit 1), (nat_lit 2), (nat_lit 3), (nat_lit 4)], []⟩,
  ⟨.p (.l (.r (.r (.r (.l .h))))) none (.mv (.s .h)), (nat_lit 6), [], []⟩,
  ⟨.p (.r (.r (.r (.r (.l .h))))) none (.nc (.s (.l (.r (.r (.r (.l .h))))))), (nat_lit 7), [(nat_lit 6)], []⟩,
  ⟨.p (.l (.l (.l (.l (.r .h))))) none (.fa (nat_lit 4) (.s (.r (.r (.r (.r (.l .h))))))), (nat_lit 8), [(nat_lit 6), (nat_lit 7)], []⟩,
  ⟨.r (.r (.l (.l (.l (.r .h))))) none (.ld (.s (.l (.l (.l (.l (.r .h))))))), (nat_lit 9), [(nat_lit 6), (nat_lit 7), (nat_lit 8)], []⟩,
  ⟨.p (.l (.r (.l (.l (.r .h))))) none (.ix (nat_lit 1) (.s (.r (.l (.r (.r (.l .h)))))) (.s (.r (.l (.l (.l (.r .h))))))), (nat_lit 10), [(nat_lit 1), (nat_lit 2), (nat_lit 3), (nat_lit 4), (nat_lit 5), (nat_lit 6), (nat_lit 7), (nat_lit 8), (nat_lit 9)], []⟩,
  ⟨.r (.r (.r (.l (.l (.r .h))))) none (.ld (.s (.l (.r (.l (.l (.r .h))))))), (nat_lit 11), [(nat_lit 1), (nat_lit 2), (nat_lit 3), (nat_lit 4), (nat_lit 5), (nat_lit 6), (nat_lit 7), (nat_lit 8), (nat_lit 9), (nat_lit 10)], []⟩,
  ⟨.p (.l (.l (.r (.l (.r .h))))) none (.fa (nat_lit 2) (.s (.l (.l .h)))), (nat_lit 12), [], []⟩,
  ⟨.r (.r (.l (.r (.l (.r .h))))) none (.ld (.s (.l (.l (.r (.l (.r .h))))))), (nat_lit 13), [(nat_lit 12)], []⟩,
  ⟨.p (.l (.r (.r (.l (.r .h))))) none (.ix (nat_lit 7) (.s (.r (.r (.l (.l (.r .h)))))) (.s (.r (.l (.r (.l (.r .h))))))), (nat_lit 14), [(nat_lit 1), (nat_lit 2), (nat_lit 3), (nat_lit 4), (nat_lit 5), (nat_lit 6), (nat_lit 7), (nat_lit 8), (nat_lit 9), (nat_lit 10), (nat_lit 11), (nat_lit 12), (nat_lit 13)], []⟩,
  ⟨.p (.r (.r (.r (.l (.r .h))))) none (.fa (nat_lit 3) (.s (.l (.r (.r (.l (.r .h))))))), (nat_lit 15), [(nat_lit 1), (nat_lit 2), (nat_lit 3), (nat_lit 4), (nat_lit 5), (nat_lit 6), (nat_lit 7), (nat_lit 8), (nat_lit 9), (nat_lit 10), (nat_lit 11), (nat_lit 12), (nat_lit 13), (nat_lit 14)], []⟩,
  ⟨.r (.l (.l (.l (.r (.r .h))))) none (.ld (.s (.r (.r (.r (.l (.r .h))))))), (nat_lit 16), [(nat_lit 1), (nat_lit 2), (nat_lit 3), (nat_lit 4), (nat_lit 5), (nat_lit 6), (nat_lit 7), (nat_lit 8), (nat_lit 9), (nat_lit 10), (nat_lit 11), (nat_lit 12), (nat_lit 13), (nat_lit 14), (nat_lit 15)], []⟩,
  ⟨.k (some (.r (.l (.l (.r (.r .h)))))) none (nat_lit 114) (.r (.r (.l (.l (.r (.r .h)))))) [(.s (.l (.l (.l (.r (.l .h)))))), (.s (.l (.l (.l (.r (.r .h))))))], (nat_lit 17), [(nat_lit 0), (nat_lit 1), (nat_lit 2), (nat_lit 3), (nat_lit 4), (nat_lit 5), (nat_lit 6), (nat_lit 7), (nat_lit 8), (nat_lit 9), (nat_lit 10), (nat_lit 11), (nat_lit 12), (nat_lit 13), (nat_lit 14), (nat_lit 15), (nat_lit 16)], []⟩,
  ⟨.p (.l (.l (.l .h))) none (.mv (.s (.r (.l (.l (.r (.r .h))))))), (nat_lit 18), [(nat_lit 0), (nat_lit 1), (nat_lit 2), (nat_lit 3), (nat_lit 4), (nat_lit 5), (nat_lit 6), (nat_lit 7), (nat_lit 8), (nat_lit 9), (nat_lit 10), (nat_lit 11), (nat_lit 12), (nat_lit 13), (nat_lit 14), (nat_lit 15), (nat_lit 16), (nat_lit 17)], []⟩])
 (.seq (.reg [.p (.l (.r (.l (.r (.r .h))))) none (.mv (.s .h)),
  .p (.r (.r (.l (.r (.r .h))))) none (.mv (.s (.l (.l (.l .h))))),
  .p (.l (.l (.r (.r (.r .h))))) none (.mv (.s (.r (.l .h)))),
  .p (.r (.l (.r (.r (.r .h))))) none (.bd [(.i .i64 (.n (nat_lit 0))), (.i .i64 (.n (nat_lit 0))), (.i .i64 (.n (nat_lit 0))), (.i .i64 (.n (nat_lit 0))), (.i .i64 (.n (nat_lit 0))), (.i .i64 (.n (nat_lit 0))), (.i .i64 (.n (nat_lit 0))), (.i .i64 (.n (nat_lit 0))), (.i .i64 (.n (nat_lit 0))), (.i .i64 (.n (nat_lit 0))), (.i .i64 (.n (nat_lit 0)))] [((nat_lit 0), (nat_lit 1), (.c (.a (.i .i64 (.n (nat_lit 12)))))), ((nat_lit 2), (nat_lit 1), (.s (.r (.r (.l (.r (.r .h))))))), ((nat_lit 3), (nat_lit 1), (.s (.l (.l (.r (.r (.r .h)))))))]),
  .k (some (.l (.r (.r (.r (.r .h)))))) none (nat_lit 156) (.r (.l (.r (.r (.r (.l (.l .h))))))) [(.s (.l (.r (.l (.r (.r .h)))))), (.s (.r (.l (.r (.r (.r .h))))))],
  .p (.r (.l (.l .h))) none (.mv (.s (.l (.r (.r (.r (.r .h)))))))])
 (.seq (.reg [.p (.r (.r (.r (.r (.r .h))))) none (.mv (.s .h)),
  .p (.l (.l (.l (.l (.l (.l .h)))))) none (.mv (.s (.r (.r .h)))),
  .p (.r (.l (.l (.l (.l (.l .h)))))) none (.mv (.s (.r (.l (.l .h))))),
  .p (.l (.r (.l (.l (.l (.l .h)))))) none (.bd [(.i .i64 (.n (nat_lit 0))), (.i .i64 (.n (nat_lit 0))), (.i .i64 (.n (nat_lit 0))), (.i .i64 (.n (nat_lit 0))), (.i .i64 (.n (nat_lit 0))), (.i .i64 (.n (nat_lit 0))), (.i .i64 (.n (nat_lit 0))), (.i .i64 (.n (nat_lit 0))), (.i .i64 (.n (nat_lit 0))), (.i .i64 (.n (nat_lit 0))), (.i .i64 (.n (nat_lit 0)))] [((nat_lit 0), (nat_lit 1), (.c (.a (.i .i64 (.n (nat_lit 9)))))), ((nat_lit 2), (nat_lit 1), (.s (.l (.l (.l (.l (.l (.l .h)))))))), ((nat_lit 3), (nat_lit 1), (.s (.r (.l (.l (.l (.l (.l .h))))))))]),
  .k (some (.r (.r (.l (.l (.l (.l .h))))))) none (nat_lit 156) (.r (.l (.r (.r (.r (.l (.l .h))))))) [(.s (.r (.r (.r (.r (.r .h)))))), (.s (.l (.r (.l (.l (.l (.l .h)))))))],
  .p (.l (.r (.l .h))) none (.mv (.s (.r (.r (.l (.l (.l (.l .h))))))))])
 (.seq (.drw [⟨.p (.l (.l (.r (.l (.l (.l .h)))))) none (.mv (.s .h)), (nat_lit 0), [], []⟩,
  ⟨.p (.r (.l (.r (.l (.l (.l .h)))))) none (.mv (.s .h)), (nat_lit 1), [], []⟩,
  ⟨.p (.l (.r (.r (.l (.l (.l .h)))))) none (.nc (.s (.r (.l (.r (.l (.l (.l .h)))))))), (nat_lit 2), [(nat_lit 1)], []⟩,
  ⟨.p (.r (.r (.r (.l (.l (.l .h)))))) none (.fa (nat_lit 17) (.s (.l (.r (.r (.l (.l (.l .h)))))))), (nat_lit 3), [(nat_lit 1), (nat_lit 2)], []⟩,
  ⟨.r (.l (.l (.l (.r (.l (.l .h)))))) none (.ld (.s (.r (.r (.r (.l (.l (.l .h)))))))), (nat_lit 4), [(nat_lit 1), (nat_lit 2), (nat_lit 3)], []⟩,
  ⟨.p (.l (.r (.l (.r (.l (.l .h)))))) none (.mv (.s .h)), (nat_lit 6), [], []⟩,
  ⟨.p (.r (.r (.l (.r (.l (.l .h)))))) none (.mv (.s .h)), (nat_lit 7), [], []⟩,
  ⟨.p (.l (.l (.r (.r (.l (.l .h)))))) none (.nc (.s (.r (.r (.l (.r (.l (.l .h)))))))), (nat_lit 8), [(nat_lit 7)], []⟩,
  ⟨.p (.r (.l (.r (.r (.l (.l .h)))))) none (.fa (nat_lit 17) (.s (.l (.l (.r (.r (.l (.l .h)))))))), (nat_lit 9), [(nat_lit 7), (nat_lit 8)], []⟩,
  ⟨.r (.l (.r (.r (.r (.l (.l .h)))))) none (.ld (.s (.r (.l (.r (.r (.l (.l .h)))))))), (nat_lit 10), [(nat_lit 7), (nat_lit 8), (nat_lit 9)], []⟩,
  ⟨.k (some (.r (.l (.l (.r (.l (.l .h))))))) none (nat_lit 43) (.l (.l (.r (.r (.l .h))))) [(.s (.l (.l (.r (.l (.l (.l .h))))))), (.s (.l (.l (.l (.r (.l (.l .h)))))))], (nat_lit 5), [(nat_lit 0), (nat_lit 1), (nat_lit 2), (nat_lit 3), (nat_lit 4)], [true, false]⟩,
  ⟨.k (some (.r (.r (.r (.r (.l (.l .h))))))) none (nat_lit 43) (.l (.l (.r (.r (.l .h))))) [(.s (.l (.r (.l (.r (.l (.l .h))))))), (.s (.l (.r (.r (.r (.l (.l .h)))))))], (nat_lit 11), [(nat_lit 0), (nat_lit 1), (nat_lit 2), (nat_lit 3), (nat_lit 4), (nat_lit 5), (nat_lit 6), (nat_lit 7), (nat_lit 8), (nat_lit 9), (nat_lit 10)], []⟩,
  ⟨.p (.r (.r (.l .h))) none (.mv (.s (.r (.l (.l (.r (.l (.l .h)))))))), (nat_lit 12), [(nat_lit 0), (nat_lit 1), (nat_lit 2), (nat_lit 3), (nat_lit 4), (nat_lit 5), (nat_lit 6), (nat_lit 7), (nat_lit 8), (nat_lit 9), (nat_lit 10), (nat_lit 11)], []⟩,
  ⟨.p (.l (.l (.r .h))) none (.mv (.s (.r (.r (.r (.r (.l (.l .h)))))))), (nat_lit 13), [(nat_lit 0), (nat_lit 1), (nat_lit 2), (nat_lit 3), (nat_lit 4), (nat_lit 5), (nat_lit 6), (nat_lit 7), (nat_lit 8), (nat_lit 9), (nat_lit 10), (nat_lit 11), (nat_lit 12)], []⟩])
 (.seq (.reg [.p (.l (.l (.l (.l (.r (.l .h)))))) none (.mv (.s .h)),
  .p (.r (.l (.l (.l (.r (.l .h)))))) none (.mv (.s (.l (.l (.r .h))))),
  .k (some (.l (.r (.l (.l (.r (.l .h))))))) none (nat_lit 151) (.l (.l (.l (.r (.r (.l (.l .h))))))) [(.s (.l (.l (.l (.l (.r (.l .h))))))), (.s (.r (.l (.l (.l (.r (.l .h))))))), (.c (.a .s0))],
  .a (.r (.l (.r .h))) none (.al (nat_lit 54) (nat_lit 2) (.n (.n .e .s0 .e) (.i .i64 (.n (nat_lit 0))) .e)),
  .c none none (.st (nat_lit 2) (.s (.r (.l (.r .h)))) (.s (.l (.r (.l (.l (.r (.l .h))))))))])
 (.seq (.reg [.p (.r (.r (.l (.l (.r (.l .h)))))) none (.mv (.s .h)),
  .p (.l (.l (.r (.l (.r (.l .h)))))) none (.mv (.s (.r (.r (.l .h))))),
  .k (some (.r (.l (.r (.l (.r (.l .h))))))) none (nat_lit 180) (.r (.l (.r (.l (.r (.r (.l .h))))))) [(.s (.r (.r (.l (.l (.r (.l .h))))))), (.s (.l (.l (.r (.l (.r (.l .h)))))))],
  .a (.l (.r (.r .h))) none (.al (nat_lit 54) (nat_lit 2) (.n (.n .e .s0 .e) (.i .i64 (.n (nat_lit 0))) .e)),
  .c none none (.st (nat_lit 2) (.s (.l (.r (.r .h)))) (.s (.r (.l (.r (.l (.r (.l .h))))))))])
 (.seq (.reg [.p (.l (.r (.r (.l (.r (.l .h)))))) none (.mv (.s .h)),
  .p (.r (.r (.r (.l (.r (.l .h)))))) none (.mv (.s (.l (.r (.l .h))))),
  .r (.l (.l (.l (.r (.r (.l .h)))))) none (.lg (nat_lit 2) (.s (.r (.l (.r .h))))),
  .r (.r (.l (.l (.r (.r (.l .h)))))) none (.lg (nat_lit 2) (.s (.l (.r (.r .h))))),
  .k (some (.l (.r (.l (.r (.r (.l .h))))))) none (nat_lit 152) (.r (.l (.l (.r (.r (.l (.l .h))))))) [(.s (.l (.r (.r (.l (.r (.l .h))))))), (.s (.r (.r (.r (.l (.r (.l .h))))))), (.s (.l (.l (.l (.r (.r (.l .h))))))), (.s (.r (.l (.l (.r (.r (.l .h)))))))]])
 (.seq (.reg [.p (.r (.r (.l (.r (.r (.l .h)))))) none (.mv (.s .h)),
  .p (.l (.l (.r (.r (.r (.l .h)))))) none (.mv (.s (.l (.l (.r .h))))),
  .k (some (.r (.l (.r (.r (.r (.l .h))))))) none (nat_lit 181) (.l (.r (.r (.l (.r (.r (.l .h))))))) [(.s (.r (.r (.l (.r (.r (.l .h))))))), (.s (.l (.l (.r (.r (.r (.l .h))))))), (.c (.a (.i .i64 (.n (nat_lit 2)))))]])
 (.reg [.p (.l (.r (.r (.r (.r (.l .h)))))) none (.mv (.s .h)),
  .p (.r (.r (.r (.r (.r (.l .h)))))) none (.mv (.s (.r (.r (.l .h))))),
  .k (some (.l (.l (.l (.l (.l (.r .h))))))) none (nat_lit 182) (.r (.r (.r (.l (.r (.r (.l .h))))))) [(.s (.l (.r (.r (.r (.r (.l .h))))))), (.s (.r (.r (.r (.r (.r (.l .h)))))))]])))))))))))))), false, false⟩
noncomputable def rf154 : RF := ⟨[.h, (.l .h)], [], (.seq (.reg [.a (.l (.l .h)) none (.bx (nat_lit 214) (nat_lit 6) (.s (.l .h)))])
 (.seq (.reg [.p (.r (.l .h)) none (.fa (nat_lit 0) (.s (.l (.l .h)))),
  .r (.l (.r .h)) none (.ld (.s (.r (.l .h))))])
 (.blk (nat_lit 0) (.seq (.reg [.p (.l (.l (.r (.l (.l .h))))) none (.cp .eql (.s (.l (.r .h))) (.c (.a (.i .i64 (.n (nat_lit 0)))))),
  .p (.r (.r (.l (.l (.l .h))))) none (.mv (.s (.l (.l (.r (.l (.l .h)))))))])
 (.cond (.s (.r (.r (.l (.l (.l .h)))))) (.reg [.p (.r (.l (.r (.l (.l .h))))) none (.mv (.s .h)),
  .p (.l (.r (.r (.l (.l .h))))) none (.mv (.s .h)),
  .p (.r (.r (.r (.l (.l .h))))) none (.fa (nat_lit 1) (.s (.l (.l .h)))),
  .r (.l (.l (.l (.r (.l .h))))) none (.ld (.s (.r (.r (.r (.l (.l .h))))))),
  .k (some (.r (.l (.l (.r (.l .h)))))) none (nat_lit 114) (.r (.r (.l (.l (.r (.r .h)))))) [(.s (.l (.r (.r (.l (.l .h)))))), (.s (.l (.l (.l (.r (.l .h))))))],
  .k (some (.l (.r (.l (.r (.l .h)))))) none (nat_lit 183) (.l (.l (.l (.r (.r (.r (.l .h))))))) [(.s (.r (.l (.r (.l (.l .h)))))), (.s (.r (.l (.l (.r (.l .h))))))]]) (.seq (.seq (.reg [.p (.l (.l (.r (.r (.l .h))))) none (.cp .eql (.s (.l (.r .h))) (.c (.a (.i .i64 (.n (nat_lit 1)))))),
  .p (.r (.r (.l (.r (.l .h))))) none (.mv (.s (.l (.l (.r (.r (.l .h)))))))])
 (.cond (.s (.r (.r (.l (.r (.l .h)))))) .skip (.reg [.p (.r (.l (.r (.r (.l .h))))) none (.cp .eql (.s (.l (.r .h))) (.c (.a (.i .i64 (.n (nat_lit 2)))))),
  .p (.r (.r (.l (.r (.l .h))))) none (.mv (.s (.r (.l (.r (.r (.l .h)))))))])))
 (.cond (.s (.r (.r (.l (.r (.l .h)))))) (.drw [⟨.p (.l (.r (.r (.r (.l .h))))) none (.mv (.s .h)), (nat_lit 0), [], []⟩,
  ⟨.p (.r (.r (.r (.r (.l .h))))) none (.mv (.s .h)), (nat_lit 1), [], []⟩,
  ⟨.p (.l (.l (.l (.l (.r .h))))) none (.nc (.s (.r (.r (.r (.r (.l .h))))))), (nat_lit 2), [(nat_lit 1)], []⟩,
  ⟨.p (.r (.l (.l (.l (.r .h))))) none (.fa (nat_lit 14) (.s (.l (.l (.l (.l (.r .h))))))), (nat_lit 3), [(nat_lit 1), (nat_lit 2)], []⟩,
  ⟨.r (.l (.r (.l (.l (.r .h))))) none (.ld (.s (.r (.l (.l (.l (.r .h))))))), (nat_lit 4), [(nat_lit 1), (nat_lit 2), (nat_lit 3)], []⟩,
  ⟨.r (.r (.r (.l (.l (.r .h))))) none (.lg (nat_lit 6) (.s (.l (.l .h)))), (nat_lit 5), [], []⟩,
  ⟨.k (some (.l (.l (.r (.l (.r .h)))))) none (nat_lit 108) (.r (.l (.r (.r (.l (.r .h)))))) [(.s (.r (.r (.l (.l (.r .h))))))], (nat_lit 6), [(nat_lit 5)], [false, true]⟩,
  ⟨.r (.r (.l (.r (.l (.r .h))))) none (.lk false true [(nat_lit 0), (nat_lit 0)] (.a (.i .i64 (.n (nat_lit 0)))) (.s (.l (.r (.l (.l (.r .h)))))) (.s (.l (.l (.r (.l (.r .h))))))), (nat_lit 7), [(nat_lit 1), (nat_lit 2), (nat_lit 3), (nat_lit 4), (nat_lit 5), (nat_lit 6)], []⟩,
  ⟨.k (some (.l (.r (.r (.l (.r .h)))))) none (nat_lit 183) (.l (.l (.l (.r (.r (.r (.l .h))))))) [(.s (.l (.r (.r (.r (.l .h)))))), (.s (.r (.l (.r (.l (.r .h))))))], (nat_lit 8), [(nat_lit 0), (nat_lit 1), (nat_lit 2), (nat_lit 3), (nat_lit 4), (nat_lit 5), (nat_lit 6), (nat_lit 7)], []⟩]) (.seq (.reg [.p (.l (.l (.l (.r (.r .h))))) none (.cp .eql (.s (.l (.r .h))) (.c (.a (.i .i64 (.n (nat_lit 3)))))),
  .p (.r (.r (.r (.l (.r .h))))) none (.mv (.s (.l (.l (.l (.r (.r .h)))))))])
 (.cond (.s (.r (.r (.r (.l (.r .h)))))) (.seq (.reg [.p (.r (.l (.l (.r (.r .h))))) none (.mv (.s .h)),
  .r (.l (.r (.l (.r (.r .h))))) none (.lg (nat_lit 6) (.s (.l (.l .h)))),
  .k (some (.r (.r (.l (.r (.r .h)))))) none (nat_lit 153) (.l (.r (.l (.r (.r (.l (.l .h))))))) [(.s (.r (.l (.l (.r (.r .h)))))), (.s (.l (.r (.l (.r (.r .h))))))]])
 (.drw [⟨.p (.l (.l (.r (.r (.r .h))))) none (.mv (.s .h)), (nat_lit 0), [], []⟩,
  ⟨.p (.r (.l (.r (.r (.r .h))))) none (.mv (.s .h)), (nat_lit 1), [], []⟩,
  ⟨.p (.l (.r (.r (.r (.r .h))))) none (.mv (.s .h)), (nat_lit 2), [], []⟩,
  ⟨.p (.l (.l (.l (.l (.l (.l .h)))))) none (.mv (.s .h)), (nat_lit 4), [], []⟩,
  ⟨.p (.r (.l (.l (.l (.l (.l .h)))))) none (.nc (.s (.l (.l (.l (.l (.l (.l .h)))))))), (nat_lit 5), [(nat_lit 4)], []⟩,
  ⟨.p (.l (.r (.l (.l (.l (.l .h)))))) none (.fa (nat_lit 9) (.s (.r (.l (.l (.l (.l (.l .h)))))))), (nat_lit 6), [(nat_lit 4), (nat_lit 5)], []⟩,
  ⟨.r (.r (.r (.l (.l (.l (.l .h)))))) none (.ld (.s (.l (.r (.l (.l (.l (.l .h)))))))), (nat_lit 7), [(nat_lit 4), (nat_lit 5), (nat_lit 6)], []⟩,
  ⟨.p (.l (.l (.r (.l (.l (.l .h)))))) none (.fa (nat_lit 2) (.s (.l (.l .h)))), (nat_lit 8), [], []⟩,
  ⟨.r (.r (.l (.r (.l (.l (.l .h)))))) none (.ld (.s (.l (.l (.r (.l (.l (.l .h)))))))), (nat_lit 9), [(nat_lit 8)], []⟩,
  ⟨.r (.l (.r (.r (.l (.l (.l .h)))))) none (.lk false false [(nat_lit 0)] (.a (.i .i64 (.n (nat_lit 0)))) (.s (.r (.r (.l (.l (.l (.l .h))))))) (.s (.r (.l (.r (.l (.l (.l .h)))))))), (nat_lit 10), [(nat_lit 4), (nat_lit 5), (nat_lit 6), (nat_lit 7), (nat_lit 8), (nat_lit 9)], []⟩,
  ⟨.k (some (.r (.r (.r (.r (.r .h)))))) none (nat_lit 155) (.l (.l (.r (.r (.r (.l (.l .h))))))) [(.s (.l (.r (.r (.r (.r .h))))))], (nat_lit 3), [(nat_lit 2)], [true, true, true]⟩,
  ⟨.p (.r (.r (.r (.l (.l (.l .h)))))) none (.bd [(.i .i64 (.n (nat_lit 0))), (.i .i64 (.n (nat_lit 0))), (.i .i64 (.n (nat_lit 0))), (.i .i64 (.n (nat_lit 0))), (.i .i64 (.n (nat_lit 0))), (.i .i64 (.n (nat_lit 0))), (.i .i64 (.n (nat_lit 0))), (.i .i64 (.n (nat_lit 0))), (.i .i64 (.n (nat_lit 0))), (.i .i64 (.n (nat_lit 0))), (.i .i64 (.n (nat_lit 0)))] [((nat_lit 0), (nat_lit 1), (.c (.a (.i .i64 (.n (nat_lit 15)))))), ((nat_lit 2), (nat_lit 1), (.s (.r (.r (.r (.r (.r .h))))))), ((nat_lit 4), (nat_lit 1), (.s (.l (.r (.r (.l (.l (.l .h))))))))]), (nat_lit 11), [(nat_lit 2), (nat_lit 3), (nat_lit 4), (nat_lit 5), (nat_lit 6), (nat_lit 7), (nat_lit 8), (nat_lit 9), (nat_lit 10)], []⟩,
  ⟨.k (some (.l (.l (.l (.r (.l (.l .h))))))) none (nat_lit 156) (.r (.l (.r (.r (.r (.l (.l .h))))))) [(.s (.r (.l (.r (.r (.r .h)))))), (.s (.r (.r (.r (.l (.l (.l .h)))))))], (nat_lit 12), [(nat_lit 1), (nat_lit 2), (nat_lit 3), (nat_lit 4), (nat_lit 5), (nat_lit 6), (nat_lit 7), (nat_lit 8), (nat_lit 9), (nat_lit 10), (nat_lit 11)], []⟩,
  ⟨.k (some (.r (.l (.l (.r (.l (.l .h))))))) none (nat_lit 183) (.l (.l (.l (.r (.r (.r (.l .h))))))) [(.s (.l (.l (.r (.r (.r .h)))))), (.s (.l (.l (.l (.r (.l (.l .h)))))))], (nat_lit 13), [(nat_lit 0), (nat_lit 1), (nat_lit 2), (nat_lit 3), (nat_lit 4), (nat_lit 5), (nat_lit 6), (nat_lit 7), (nat_lit 8), (nat_lit 9), (nat_lit 10), (nat_lit 11), (nat_lit 12)], []⟩])) (.seq (.reg [.p (.r (.r (.l (.r (.l (.l .h)))))) none (.cp .eql (.s (.l (.r .h))) (.c (.a (.i .i64 (.n (nat_lit 4)))))),
  .p (.l (.r (.l (.r (.l (.l .h)))))) none (.mv (.s (.r (.r (.l (.r (.l (.l .h))))))))])
 (.cond (.s (.l (.r (.l (.r (.l (.l .h))))))) (.seq (.reg [.p (.l (.l (.r (.r (.l (.l .h)))))) none (.mv (.s .h)),
  .p (.r (.l (.r (.r (.l (.l .h)))))) none (.mv (.s .h)),
  .k (some (.l (.r (.r (.r (.l (.l .h))))))) none (nat_lit 114) (.r (.r (.l (.l (.r (.r .h)))))) [(.s (.r (.l (.r (.r (.l (.l .h))))))), (.c (.a (.i .i64 (.n (nat_lit 0)))))],
  .k (some (.r (.r (.r (.r (.l (.l .h))))))) none (nat_lit 183) (.l (.l (.l (.r (.r (.r (.l .h))))))) [(.s (.l (.l (.r (.r (.l (.l .h))))))), (.s (.l (.r (.r (.r (.l (.l .h)))))))]])
 (.seq (.reg [.p (.l (.l (.l (.l (.r (.l .h)))))) none (.mv (.s .h)),
  .p (.r (.l (.l (.l (.r (.l .h)))))) none (.fa (nat_lit 5) (.s (.l (.l .h)))),
  .r (.l (.r (.l (.l (.r (.l .h)))))) none (.ld (.s (.r (.l (.l (.l (.r (.l .h)))))))),
  .p (.r (.r (.l (.l (.r (.l .h)))))) none (.ix (nat_lit 6) (.s (.l (.r (.l (.l (.r (.l .h))))))) (.c (.a (.i .i64 (.n (nat_lit 0)))))),
  .r (.l (.l (.r (.l (.r (.l .h)))))) none (.lg (nat_lit 6) (.s (.r (.r (.l (.l (.r (.l .h)))))))),
  .k (some (.r (.l (.r (.l (.r (.l .h))))))) none (nat_lit 154) (.r (.r (.l (.r (.r (.l (.l .h))))))) [(.s (.l (.l (.l (.l (.r (.l .h))))))), (.s (.l (.l (.r (.l (.r (.l .h)))))))]])
 (.reg [.p (.l (.r (.r (.l (.r (.l .h)))))) none (.mv (.s .h)),
  .k (some (.r (.r (.r (.l (.r (.l .h))))))) none (nat_lit 184) (.r (.l (.l (.r (.r (.r (.l .h))))))) [(.s (.l (.r (.r (.l (.r (.l .h))))))), (.c (.a (.i .i64 (.n (nat_lit 4)))))]]))) (.seq (.reg [.p (.r (.l (.l (.r (.r (.l .h)))))) none (.cp .eql (.s (.l (.r .h))) (.c (.a (.i .i64 (.n (nat_lit 5)))))),
  .p (.l (.l (.l (.r (.r (.l .h)))))) none (.mv (.s (.r (.l (.l (.r (.r (.l .h))))))))])
 (.cond (.s (.l (.l (.l (.r (.r (.l .h))))))) (.seq (.reg [.p (.l (.r (.l (.r (.r (.l .h)))))) none (.mv (.s .h)),
  .p (.r (.r (.l (.r (.r (.l .h)))))) none (.fa (nat_lit 5) (.s (.l (.l .h)))),
  .r (.l (.l (.r (.r (.r (.l .h)))))) none (.ld (.s (.r (.r (.l (.r (.r (.l .h)))))))),
  .p (.r (.l (.r (.r (.r (.l .h)))))) none (.ix (nat_lit 6) (.s (.l (.l (.r (.r (.r (.l .h))))))) (.c (.a (.i .i64 (.n (nat_lit 0)))))),
  .r (.l (.r (.r (.r (.r (.l .h)))))) none (.lg (nat_lit 6) (.s (.r (.l (.r (.r (.r (.l .h)))))))),
  .k (some (.r (.r (.r (.r (.r (.l .h))))))) none (nat_lit 154) (.r (.r (.l (.r (.r (.l (.l .h))))))) [(.s (.l (.r (.l (.r (.r (.l .h))))))), (.s (.l (.r (.r (.r (.r (.l .h)))))))]])
 (.seq (.reg [.p (.l (.l (.l (.l (.l (.r .h)))))) none (.mv (.s .h)),
  .p (.r (.l (.l (.l (.l (.r .h)))))) none (.mv (.s .h)),
  .k (some (.l (.r (.l (.l (.l (.r .h))))))) none (nat_lit 114) (.r (.r (.l (.l (.r (.r .h)))))) [(.s (.r (.l (.l (.l (.l (.r .h))))))), (.c (.a (.i .i64 (.n (nat_lit 0)))))],
  .k (some (.r (.r (.l (.l (.l (.r .h))))))) none (nat_lit 183) (.l (.l (.l (.r (.r (.r (.l .h))))))) [(.s (.l (.l (.l (.l (.l (.r .h))))))), (.s (.l (.r (.l (.l (.l (.r .h)))))))]])
 (.reg [.p (.l (.l (.r (.l (.l (.r .h)))))) none (.mv (.s .h)),
  .k (some (.r (.l (.r (.l (.l (.r .h))))))) none (nat_lit 184) (.r (.l (.l (.r (.r (.r (.l .h))))))) [(.s (.l (.l (.r (.l (.l (.r .h))))))), (.c (.a (.i .i64 (.n (nat_lit 13)))))]]))) (.seq (.reg [.p (.r (.r .h)) none (.mv (.s .h)),
  .p (.l (.l (.l .h))) none (.fa (nat_lit 5) (.s (.l (.l .h)))),
  .r (.r (.l (.l .h))) none (.ld (.s (.l (.l (.l .h))))),
  .p (.l (.r (.l .h))) none (.ix (nat_lit 6) (.s (.r (.l (.l .h)))) (.c (.a (.i .i64 (.n (nat_lit 0)))))),
  .r (.r (.r (.l .h))) none (.lg (nat_lit 6) (.s (.l (.r (.l .h))))),
  .k (some (.l (.l (.r .h)))) none (nat_lit 154) (.r (.r (.l (.r (.r (.l (.l .h))))))) [(.s (.r (.r .h))), (.s (.r (.r (.l .h))))]])
 (.seq (.reg [.p (.r (.l (.r .h))) none (.mv (.s .h)),
  .p (.l (.r (.r .h))) none (.fa (nat_lit 5) (.s (.l (.l .h)))),
  .r (.r (.r (.r .h))) none (.ld (.s (.l (.r (.r .h))))),
  .p (.l (.l (.l (.l .h)))) none (.ix (nat_lit 6) (.s (.r (.r (.r .h)))) (.c (.a (.i .i64 (.n (nat_lit 1)))))),
  .r (.r (.l (.l (.l .h)))) none (.lg (nat_lit 6) (.s (.l (.l (.l (.l .h)))))),
  .k (some (.l (.r (.l (.l .h))))) none (nat_lit 154) (.r (.r (.l (.r (.r (.l (.l .h))))))) [(.s (.r (.l (.r .h)))), (.s (.r (.l (.l (.l .h)))))]])
 (.seq (.seq (.reg [.p (.r (.r (.l (.l .h)))) none (.fa (nat_lit 0) (.s (.l (.l .h)))),
  .r (.l (.l (.r (.l .h)))) none (.ld (.s (.r (.r (.l (.l .h)))))),
  .p (.r (.l (.r (.l .h)))) none (.cp .eql (.s (.l (.l (.r (.l .h))))) (.c (.a (.i .i64 (.n (nat_lit 9)))))),
  .p (.l (.r (.r (.l .h)))) none (.mv (.s (.r (.l (.r (.l .h)))))),
  .p (.r (.r (.r (.l .h)))) (some ((.l (.r (.r (.l .h)))), false)) (.fa (nat_lit 0) (.s (.l (.l .h)))),
  .r (.l (.l (.l (.r .h)))) (some ((.l (.r (.r (.l .h)))), false)) (.ld (.s (.r (.r (.r (.l .h)))))),
  .p (.r (.l (.l (.r .h)))) (some ((.l (.r (.r (.l .h)))), false)) (.cp .eql (.s (.l (.l (.l (.r .h))))) (.c (.a (.i .i64 (.n (nat_lit 10)))))),
  .p (.l (.r (.l (.r .h)))) none (.pk (.s (.l (.r (.r (.l .h))))) (.c (.a (.b true))) (.s (.r (.l (.l (.r .h))))))])
 (.cond (.s (.l (.r (.l (.r .h))))) (.reg [.p (.r (.r (.l (.r .h)))) none (.mv (.s .h)),
  .k (some (.l (.l (.r (.r .h))))) none (nat_lit 185) (.l (.r (.l (.r (.r (.r (.l .h))))))) [(.s (.r (.r (.l (.r .h)))))]]) .skip))
 (.reg [.p (.r (.l (.r (.r .h)))) none (.mv (.s .h)),
  .p (.l (.r (.r (.r .h)))) none (.fa (nat_lit 0) (.s (.l (.l .h)))),
  .r (.r (.r (.r (.r .h)))) none (.ld (.s (.l (.r (.r (.r .h)))))),
  .p (.l (.l (.l (.l (.l .h))))) none (.ar .sub (.s (.r (.r (.r (.r .h))))) (.c (.a (.i .i64 (.n (nat_lit 6)))))),
  .p (.r (.l (.l (.l (.l .h))))) none (.ar .add (.s (.l (.l (.l (.l (.l .h)))))) (.c (.a (.i .i64 (.n (nat_lit 3)))))),
  .k (some (.l (.r (.l (.l (.l .h)))))) none (nat_lit 184) (.r (.l (.l (.r (.r (.r (.l .h))))))) [(.s (.r (.l (.r (.r .h))))), (.s (.r (.l (.l (.l (.l .h))))))]]))))))))))))))))), false, false⟩
noncomputable def rf155 : RF := ⟨[.h], [.s (.r .h)], (.seq (.reg [.p (.r .h) none (.mv (.c (.a (.i .i64 (.n (nat_lit 0))))))])
 (.seq (.reg [.p (.l (.r .h)) none (.mv (.s .h)),
  .p (.r (.r .h)) none (.nc (.s (.l (.r .h)))),
  .p (.l (.l (.l .h))) none (.fa (nat_lit 15) (.s (.r (.r .h)))),
  .r (.r (.l (.l .h))) none (.ld (.s (.l (.l (.l .h))))),
  .p (.l (.r (.l .h))) none (.ln (.s (.r (.l (.l .h))))),
  .p (.r (.r (.l .h))) none (.ar .sub (.s (.l (.r (.l .h)))) (.c (.a (.i .i64 (.n (nat_lit 1)))))),
  .p (.l (.l .h)) none (.mv (.s (.r (.r (.l .h)))))])
 (.seq (.reg [.p (.l (.l (.r .h))) none (.mv (.s .h)),
  .p (.r (.l (.r .h))) none (.nc (.s (.l (.l (.r .h))))),
  .p (.l (.r (.r .h))) none (.fa (nat_lit 15) (.s (.r (.l (.r .h))))),
  .r (.r (.r (.r .h))) none (.ld (.s (.l (.r (.r .h))))),
  .p (.l (.l (.l (.l .h)))) none (.mv (.s (.l (.l .h)))),
  .p (.r (.l (.l (.l .h)))) none (.ix (nat_lit 1) (.s (.r (.r (.r .h)))) (.s (.l (.l (.l (.l .h)))))),
  .r (.l (.r (.l (.l .h)))) none (.ld (.s (.r (.l (.l (.l .h)))))),
  .p (.r (.l .h)) none (.mv (.s (.l (.r (.l (.l .h))))))])
 (.seq (.reg [.p (.r (.r (.l (.l .h)))) none (.mv (.s .h)),
  .p (.l (.l (.r (.l .h)))) none (.mv (.s .h)),
  .p (.r (.l (.r (.l .h)))) none (.nc (.s (.l (.l (.r (.l .h)))))),
  .p (.l (.r (.r (.l .h)))) none (.fa (nat_lit 15) (.s (.r (.l (.r (.l .h)))))),
  .r (.r (.r (.r (.l .h)))) none (.ld (.s (.l (.r (.r (.l .h)))))),
  .p (.l (.l (.l (.r .h)))) none (.mv (.s (.l (.l .h)))),
  .p (.r (.l (.l (.r .h)))) none (.sl (.s (.r (.r (.r (.l .h))))) (.s (.l (.l (.l (.r .h)))))),
  .p (.l (.r (.l (.r .h)))) none (.nc (.s (.r (.r (.l (.l .h)))))),
  .p (.r (.r (.l (.r .h)))) none (.fa (nat_lit 15) (.s (.l (.r (.l (.r .h)))))),
  .c none none (.st (nat_lit 1) (.s (.r (.r (.l (.r .h))))) (.s (.r (.l (.l (.r .h))))))])
 (.seq (.reg [.p (.l (.l (.r (.r .h)))) none (.mv (.s (.r (.l .h)))),
  .p (.r .h) none (.mv (.s (.l (.l (.r (.r .h))))))])
 .rt))))), false, false⟩
noncomputable def rf156 : RF := ⟨[.h, (.l .h)], [.s (.r (.l .h))], (.seq (.reg [.a (.l (.l .h)) none (.bx (nat_lit 109) (nat_lit 11) (.s (.l .h))),
  .p (.r (.l .h)) none (.mv (.c (.a (.i .i64 (.n (nat_lit 0))))))])
 (.seq (.reg [.p (.l (.r .h)) none (.mv (.s .h)),
  .p (.r (.r .h)) none (.nc (.s (.l (.r .h)))),
  .p (.l (.l (.l .h))) none (.fa (nat_lit 13) (.s (.r (.r .h)))),
  .r (.r (.l (.l .h))) none (.ld (.s (.l (.l (.l .h))))),
  .p (.l (.r (.l .h))) none (.fa (nat_lit 1) (.s (.l (.l .h)))),
  .c none none (.st (nat_lit 1) (.s (.l (.r (.l .h)))) (.s (.r (.l (.l .h)))))])
 (.seq (.reg [.p (.r (.r (.l .h))) none (.mv (.s .h)),
  .p (.l (.l (.r .h))) none (.nc (.s (.r (.r (.l .h))))),
  .p (.r (.l (.r .h))) none (.fa (nat_lit 13) (.s (.l (.l (.r .h))))),
  .r (.l (.r (.r .h))) none (.ld (.s (.r (.l (.r .h))))),
  .p (.r (.r (.r .h))) none (.ar .add (.s (.l (.r (.r .h)))) (.c (.a (.i .i64 (.n (nat_lit 1)))))),
  .p (.l (.l (.l (.l .h)))) none (.nc (.s (.r (.r (.l .h))))),
  .p (.r (.l (.l (.l .h)))) none (.fa (nat_lit 13) (.s (.l (.l (.l (.l .h)))))),
  .c none none (.st (nat_lit 1) (.s (.r (.l (.l (.l .h))))) (.s (.r (.r (.r .h)))))])
 (.seq (.reg [.p (.l (.r (.l (.l .h)))) none (.mv (.s .h)),
  .r (.r (.r (.l (.l .h)))) none (.lg (nat_lit 11) (.s (.l (.l .h)))),
  .a (.l (.l (.r (.l .h)))) none (.bs (nat_lit 109) (nat_lit 1) [(.i .i64 (.n (nat_lit 0))), (.i .i64 (.n (nat_lit 0))), (.i .i64 (.n (nat_lit 0))), (.i .i64 (.n (nat_lit 0))), (.i .i64 (.n (nat_lit 0))), (.i .i64 (.n (nat_lit 0))), (.i .i64 (.n (nat_lit 0))), (.i .i64 (.n (nat_lit 0))), (.i .i64 (.n (nat_lit 0))), (.i .i64 (.n (nat_lit 0))), (.i .i64 (.n (nat_lit 0)))] [((nat_lit 0), (nat_lit 11), (.s (.r (.r (.l (.l .h))))))]),
  .k (some (.r (.l (.r (.l .h))))) none (nat_lit 102) (.r (.r (.r (.l (.l (.r .h)))))) [(.s (.l (.r (.l (.l .h))))), (.s (.l (.l (.r (.l .h)))))]])
 (.seq (.reg [.p (.l (.r (.r (.l .h)))) none (.fa (nat_lit 1) (.s (.l (.l .h)))),
  .r (.r (.r (.r (.l .h)))) none (.ld (.s (.l (.r (.r (.l .h)))))),
  .p (.r (.l .h)) none (.mv (.s (.r (.r (.r (.l .h))))))])
 .rt))))), false, false⟩
noncomputable def rf157 : RF := ⟨[], [.g .h (nat_lit 2)], (.seq (.reg [.a .h none (.al (nat_lit 54) (nat_lit 2) (.n (.n .e .s0 .e) (.i .i64 (.n (nat_lit 0))) .e))])
 (.seq (.reg [.p (.l .h) none (.bd [(.i .i64 (.n (nat_lit 0))), .s0] [((nat_lit 0), (nat_lit 1), (.c (.a (.i .i64 (.g (nat_lit 0))))))]),
  .c none none (.st (nat_lit 2) (.s .h) (.s (.l .h)))])
 .rt)), false, false⟩
noncomputable def rf158 : RF := ⟨[.h, (.l .h)], [], (.seq (.reg [.a (.l (.l .h)) none (.bx (nat_lit 57) (nat_lit 8) (.s (.l .h)))])
 (.seq (.drw [⟨.p (.r (.l .h)) none (.mv (.s .h)), (nat_lit 0), [], []⟩,
  ⟨.p (.l (.r .h)) none (.nc (.s (.r (.l .h)))), (nat_lit 1), [(nat_lit 0)], []⟩,
  ⟨.p (.r (.r .h)) none (.fa (nat_lit 5) (.s (.l (.r .h)))), (nat_lit 2), [(nat_lit 0), (nat_lit 1)], []⟩,
  ⟨.p (.l (.l (.l .h))) none (.fa (nat_lit 1) (.s (.r (.r .h)))), (nat_lit 3), [(nat_lit 0), (nat_lit 1), (nat_lit 2)], []⟩,
  ⟨.r (.r (.l (.l .h))) none (.ld (.s (.l (.l (.l .h))))), (nat_lit 4), [(nat_lit 0), (nat_lit 1), (nat_lit 2), (nat_lit 3)], []⟩,
  ⟨.p (.l (.r (.l .h))) none (.mv (.s .h)), (nat_lit 5), [], []⟩,
  ⟨.p (.r (.r (.l .h))) none (.nc (.s (.l (.r (.l .h))))), (nat_lit 6), [(nat_lit 5)], []⟩,
  ⟨.p (.l (.l (.r .h))) none (.fa (nat_lit 11) (.s (.r (.r (.l .h))))), (nat_lit 7), [(nat_lit 5), (nat_lit 6)], []⟩,
  ⟨.r (.r (.l (.r .h))) none (.ld (.s (.l (.l (.r .h))))), (nat_lit 8), [(nat_lit 5), (nat_lit 6), (nat_lit 7)], []⟩,
  ⟨.r (.l (.r (.r .h))) none (.lg (nat_lit 8) (.s (.l (.l .h)))), (nat_lit 9), [], []⟩,
  ⟨.p (.r (.r (.r .h))) none (.ix (nat_lit 10) (.s (.r (.l (.l .h)))) (.s (.r (.l (.r .h))))), (nat_lit 10), [(nat_lit 0), (nat_lit 1), (nat_lit 2), (nat_lit 3), (nat_lit 4), (nat_lit 5), (nat_lit 6), (nat_lit 7), (nat_lit 8), (nat_lit 9)], []⟩,
  ⟨.p (.l (.l (.l (.l .h)))) none (.fa (nat_lit 2) (.s (.r (.r (.r .h))))), (nat_lit 11), [(nat_lit 0), (nat_lit 1), (nat_lit 2), (nat_lit 3), (nat_lit 4), (nat_lit 5), (nat_lit 6), (nat_lit 7), (nat_lit 8), (nat_lit 9), (nat_lit 10)], []⟩,
  ⟨.c none none (.st (nat_lit 8) (.s (.l (.l (.l (.l .h))))) (.s (.l (.r (.r .h))))), (nat_lit 12), [(nat_lit 0), (nat_lit 1), (nat_lit 2), (nat_lit 3), (nat_lit 4), (nat_lit 5), (nat_lit 6), (nat_lit 7), (nat_lit 8), (nat_lit 9), (nat_lit 10), (nat_lit 11)], []⟩])
 (.reg [.p (.r (.l (.l (.l .h)))) none (.mv (.s .h)),
  .p (.l (.r (.l (.l .h)))) none (.nc (.s (.r (.l (.l (.l .h)))))),
  .p (.r (.r (.l (.l .h)))) none (.fa (nat_lit 12) (.s (.l (.r (.l (.l .h)))))),
  .c none none (.st (nat_lit 1) (.s (.r (.r (.l (.l .h))))) (.c (.a (.b false))))]))), false, false⟩
noncomputable def rf159 : RF := ⟨[.h], [], (.reg [.p (.r .h) none (.mv (.s .h)),
  .p (.l (.l .h)) none (.mv (.s .h)),
  .p (.r (.l .h)) none (.nc (.s (.l (.l .h)))),
  .p (.l (.r .h)) none (.fa (nat_lit 17) (.s (.r (.l .h)))),
  .r (.r (.r .h)) none (.ld (.s (.l (.r .h)))),
  .p (.l (.l (.l .h))) none (.bd [(.i .i64 (.n (nat_lit 0))), (.i .i64 (.n (nat_lit 0))), (.i .i64 (.n (nat_lit 0))), (.i .i64 (.n (nat_lit 0))), (.i .i64 (.n (nat_lit 0))), (.i .i64 (.n (nat_lit 0))), (.i .i64 (.n (nat_lit 0))), (.i .i64 (.n (nat_lit 0))), (.i .i64 (.n (nat_lit 0))), (.i .i64 (.n (nat_lit 0))), (.i .i64 (.n (nat_lit 0)))] [((nat_lit 0), (nat_lit 1), (.c (.a (.i .i64 (.n (nat_lit 20)))))), ((nat_lit 4), (nat_lit 1), (.s (.r (.r .h))))]),
  .a (.r (.l (.l .h))) none (.bs (nat_lit 109) (nat_lit 1) [(.i .i64 (.n (nat_lit 0))), (.i .i64 (.n (nat_lit 0))), (.i .i64 (.n (nat_lit 0))), (.i .i64 (.n (nat_lit 0))), (.i .i64 (.n (nat_lit 0))), (.i .i64 (.n (nat_lit 0))), (.i .i64 (.n (nat_lit 0))), (.i .i64 (.n (nat_lit 0))), (.i .i64 (.n (nat_lit 0))), (.i .i64 (.n (nat_lit 0))), (.i .i64 (.n (nat_lit 0)))] [((nat_lit 0), (nat_lit 11), (.s (.l (.l (.l .h)))))]),
  .k (some (.l (.r (.l .h)))) none (nat_lit 102) (.r (.r (.r (.l (.l (.r .h)))))) [(.s (.r .h)), (.s (.r (.l (.l .h))))]]), false, false⟩
noncomputable def rf160 : RF := ⟨[.h, (.l .h)], [], (.seq (.reg [.p (.r (.l .h)) none (.mv (.s (.l .h))),
  .p (.l (.r .h)) none (.nc (.s (.r (.l .h)))),
  .p (.r (.r .h)) none (.fa (nat_lit 0) (.s (.l (.r .h)))),
  .r (.l (.l (.l .h))) none (.ld (.s (.r (.r .h)))),
  .p (.r (.l (.l .h))) none (.cp .geq (.s (.l (.l (.l .h)))) (.c (.a (.i .i64 (.n (nat_lit 0))))))])
 (.cond (.s (.r (.l (.l .h)))) (.reg [.p (.l (.r (.l .h))) none (.mv (.s .h)),
  .p (.r (.r (.l .h))) none (.mv (.s (.l .h))),
  .k (some (.l (.l (.r .h)))) none (nat_lit 45) (.l (.r (.r (.r (.l .h))))) [(.s (.l (.r (.l .h)))), (.s (.r (.r (.l .h)))), (.c (.a (.i .i64 (.n (nat_lit 0)))))]]) .skip)), false, false⟩
noncomputable def rf161 : RF := ⟨[.h, (.l .h)], [.s (.r (.l .h)), .s (.l (.r .h))], (.seq (.reg [.p (.r (.l .h)) none (.mv (.c (.a (.i .i64 (.n (nat_lit 0)))))),
  .p (.l (.r .h)) none (.mv (.c (.a (.b false))))])
 (.seq (.seq (.reg [.p (.r (.l (.l .h))) none (.mv (.s .h)),
  .p (.l (.r (.l .h))) none (.nc (.s (.r (.l (.l .h))))),
  .p (.r (.r (.l .h))) none (.fa (nat_lit 0) (.s (.l (.r (.l .h))))),
  .p (.l (.l (.r .h))) none (.fa (nat_lit 0) (.s (.r (.r (.l .h))))),
  .p (.r (.l (.r .h))) none (.fa (nat_lit 0) (.s (.l (.l (.r .h))))),
  .r (.l (.r (.r .h))) none (.ld (.s (.r (.l (.r .h))))),
  .p (.r (.r (.r .h))) none (.ln (.s (.l (.r (.r .h))))),
  .p (.l (.l (.l (.l .h)))) none (.mv (.c (.a (.i .i64 (.n (nat_lit 0))))))])
 (.blk (nat_lit 0) (.loop (.seq (.reg [.p (.r (.l (.l (.l .h)))) none (.cp .lss (.s (.l (.l (.l (.l .h))))) (.s (.r (.r (.r .h)))))])
 (.seq (.cond (.s (.r (.l (.l (.l .h))))) .skip (.ex (nat_lit 0)))
 (.seq (.blk (nat_lit 1) (.seq (.reg [.p (.l (.r (.l (.l .h)))) none (.mv (.s (.l (.l (.l (.l .h)))))),
  .p (.r (.r (.l (.l .h)))) none (.ix (nat_lit 2) (.s (.l (.r (.r .h)))) (.s (.l (.l (.l (.l .h)))))),
  .r (.l (.l (.r (.l .h)))) none (.lg (nat_lit 2) (.s (.r (.r (.l (.l .h)))))),
  .a (.l (.l (.l .h))) none (.al (nat_lit 129) (nat_lit 2) (.n (.n .e .s0 .e) (.t (nat_lit 1)) .e)),
  .p (.r (.r .h)) none (.mv (.s (.l (.r (.l (.l .h)))))),
  .c none none (.st (nat_lit 2) (.s (.l (.l (.l .h)))) (.s (.l (.l (.r (.l .h))))))])
 (.seq (.reg [.p (.r (.l (.r (.l .h)))) none (.fa (nat_lit 0) (.s (.l (.l (.l .h))))),
  .r (.l (.r (.r (.l .h)))) none (.ld (.s (.r (.l (.r (.l .h)))))),
  .p (.r (.r (.r (.l .h)))) none (.mv (.s (.l .h))),
  .p (.l (.l (.l (.r .h)))) none (.eq false false [(nat_lit 2)] (.s (.l (.r (.r (.l .h))))) (.s (.r (.r (.r (.l .h))))))])
 (.cond (.s (.l (.l (.l (.r .h))))) (.seq (.reg [.p (.r (.l (.l (.r .h)))) none (.mv (.s (.r (.r .h)))),
  .p (.r (.l .h)) none (.mv (.s (.r (.l (.l (.r .h)))))),
  .p (.l (.r .h)) none (.mv (.c (.a (.b true))))])
 .rt) .skip))))
 (.reg [.p (.l (.r (.l (.r .h)))) none (.ar .add (.s (.l (.l (.l (.l .h))))) (.c (.a (.i .i64 (.n (nat_lit 1)))))),
  .p (.l (.l (.l (.l .h)))) none (.mv (.s (.l (.r (.l (.r .h))))))])))))))
 (.seq (.reg [.p (.r (.l .h)) none (.mv (.c (.a (.i .i64 (.n (nat_lit 0)))))),
  .p (.l (.r .h)) none (.mv (.c (.a (.b false))))])
 .rt))), false, false⟩
noncomputable def rf162 : RF := ⟨[.h, (.l .h), (.r .h)], [.s (.r (.r .h))], (.seq (.reg [.p (.r (.r .h)) none (.mv (.c (.a .s0)))])
 (.seq (.reg [.p (.l (.l (.l .h))) none (.mv (.c (.a .s0)))])
 (.seq (.seq (.reg [.p (.r (.r (.l .h))) none (.mv (.s (.l .h))),
  .p (.l (.l (.r .h))) none (.ln (.s (.r (.r (.l .h))))),
  .p (.r (.l (.r .h))) none (.mv (.c (.a (.i .i64 (.n (nat_lit 0))))))])
 (.blk (nat_lit 0) (.loop (.seq (.reg [.p (.l (.r (.r .h))) none (.cp .lss (.s (.r (.l (.r .h)))) (.s (.l (.l (.r .h)))))])
 (.seq (.cond (.s (.l (.r (.r .h)))) .skip (.ex (nat_lit 0)))
 (.seq (.blk (nat_lit 1) (.seq (.reg [.p (.r (.r (.r .h))) none (.ix (nat_lit 6) (.s (.r (.r (.l .h)))) (.s (.r (.l (.r .h))))),
  .r (.l (.l (.l (.l .h)))) none (.lg (nat_lit 6) (.s (.r (.r (.r .h))))),
  .a (.l (.r (.l .h))) none (.al (nat_lit 214) (nat_lit 6) (.n (.n (.n .e (.t (nat_lit 1)) .e) (.i .i64 (.n (nat_lit 0))) (.n .e .s0 .e)) (.i .i64 (.n (nat_lit 0))) (.n (.n .e (.t (nat_lit 1)) .e) (.i .i64 (.n (nat_lit 0))) .e))),
  .c none none (.st (nat_lit 6) (.s (.l (.r (.l .h)))) (.s (.l (.l (.l (.l .h))))))])
 (.reg [.p (.r (.l (.l (.l .h)))) none (.mv (.s (.l (.l (.l .h))))),
  .p (.l (.r (.l (.l .h)))) none (.mv (.s .h)),
  .r (.r (.r (.l (.l .h)))) none (.lg (nat_lit 6) (.s (.l (.r (.l .h))))),
  .p (.l (.l (.r (.l .h)))) none (.mv (.s (.r .h))),
  .k (some (.r (.l (.r (.l .h))))) none (nat_lit 186) (.r (.r (.l (.r (.r (.r (.l .h))))))) [(.s (.l (.r (.l (.l .h))))), (.s (.r (.r (.l (.l .h))))), (.s (.l (.l (.r (.l .h)))))],
  .a (.l (.r (.r (.l .h)))) none (.bs (nat_lit 214) (nat_lit 1) [(.i .i64 (.n (nat_lit 0))), (.i .i64 (.n (nat_lit 0))), (.i .i64 (.n (nat_lit 0))), (.t (nat_lit 1)), (.t (nat_lit 1)), .s0] [((nat_lit 0), (nat_lit 6), (.s (.r (.l (.r (.l .h))))))]),
  .c (some (.r (.r (.r (.l .h))))) none (.ap (nat_lit 214) (nat_lit 6) (nat_lit 80) (.s (.r (.l (.l (.l .h))))) (.s (.l (.r (.r (.l .h)))))),
  .p (.l (.l (.l .h))) none (.mv (.s (.r (.r (.r (.l .h))))))])))
 (.reg [.p (.l (.l (.l (.r .h)))) none (.ar .add (.s (.r (.l (.r .h)))) (.c (.a (.i .i64 (.n (nat_lit 1)))))),
  .p (.r (.l (.r .h))) none (.mv (.s (.l (.l (.l (.r .h))))))])))))))
 (.seq (.reg [.p (.r (.l (.l (.r .h)))) none (.mv (.s (.l (.l (.l .h))))),
  .p (.r (.r .h)) none (.mv (.s (.r (.l (.l (.r .h))))))])
 .rt)))), false, false⟩
noncomputable def rf163 : RF := ⟨[.h, (.l .h)], [], (.seq (.seq (.reg [.p (.r (.r .h)) none (.mv (.s .h)),
  .p (.l (.l (.l .h))) none (.nc (.s (.r (.r .h)))),
  .p (.r (.l (.l .h))) none (.fa (nat_lit 7) (.s (.l (.l (.l .h))))),
  .r (.l (.r (.l .h))) none (.ld (.s (.r (.l (.l .h))))),
  .p (.r (.r (.l .h))) none (.cp .neq (.s (.l (.r (.l .h)))) (.c (.a (.i .i64 (.n (nat_lit 0))))))])
 (.cond (.s (.r (.r (.l .h)))) .rt .skip))
 (.seq (.drw [⟨.p (.r (.l (.r .h))) none (.mv (.s .h)), (nat_lit 0), [], []⟩,
  ⟨.p (.l (.r (.r .h))) none (.nc (.s (.r (.l (.r .h))))), (nat_lit 1), [(nat_lit 0)], []⟩,
  ⟨.p (.r (.r (.r .h))) none (.fa (nat_lit 0) (.s (.l (.r (.r .h))))), (nat_lit 2), [(nat_lit 0), (nat_lit 1)], []⟩,
  ⟨.r (.l (.l (.l (.l .h)))) none (.lg (nat_lit 4) (.s (.r (.r (.r .h))))), (nat_lit 3), [(nat_lit 0), (nat_lit 1), (nat_lit 2)], []⟩,
  ⟨.p (.r (.l (.l (.l .h)))) none (.mv (.s (.l .h))), (nat_lit 4), [], []⟩,
  ⟨.p (.l (.r (.l (.l .h)))) none (.nc (.s (.r (.l (.l (.l .h)))))), (nat_lit 5), [(nat_lit 4)], []⟩,
  ⟨.p (.r (.r (.l (.l .h)))) none (.fa (nat_lit 8) (.s (.l (.r (.l (.l .h)))))), (nat_lit 6), [(nat_lit 4), (nat_lit 5)], []⟩,
  ⟨.r (.l (.l (.r (.l .h)))) none (.ld (.s (.r (.r (.l (.l .h)))))), (nat_lit 7), [(nat_lit 4), (nat_lit 5), (nat_lit 6)], []⟩,
  ⟨.k (some (.r (.l (.r (.l .h))))) none (nat_lit 187) (.l (.l (.r (.r (.r (.r (.l .h))))))) [(.s (.l (.l (.l (.l .h))))), (.s (.l (.l (.r (.l .h)))))], (nat_lit 8), [(nat_lit 0), (nat_lit 1), (nat_lit 2), (nat_lit 3), (nat_lit 4), (nat_lit 5), (nat_lit 6), (nat_lit 7)], []⟩,
  ⟨.p (.l (.l (.r .h))) none (.mv (.s (.r (.l (.r (.l .h)))))), (nat_lit 9), [(nat_lit 0), (nat_lit 1), (nat_lit 2), (nat_lit 3), (nat_lit 4), (nat_lit 5), (nat_lit 6), (nat_lit 7), (nat_lit 8)], []⟩,
  ⟨.p (.l (.r (.r (.l .h)))) none (.ex (nat_lit 0) (.s (.l (.l (.r .h))))), (nat_lit 10), [(nat_lit 0), (nat_lit 1), (nat_lit 2), (nat_lit 3), (nat_lit 4), (nat_lit 5), (nat_lit 6), (nat_lit 7), (nat_lit 8), (nat_lit 9)], []⟩,
  ⟨.p (.r (.r (.r (.l .h)))) none (.ex (nat_lit 1) (.s (.l (.l (.r .h))))), (nat_lit 11), [(nat_lit 0), (nat_lit 1), (nat_lit 2), (nat_lit 3), (nat_lit 4), (nat_lit 5), (nat_lit 6), (nat_lit 7), (nat_lit 8), (nat_lit 9)], []⟩,
  ⟨.p (.r (.l .h)) none (.mv (.s (.l (.r (.r (.l .h)))))), (nat_lit 12), [(nat_lit 0), (nat_lit 1), (nat_lit 2), (nat_lit 3), (nat_lit 4), (nat_lit 5), (nat_lit 6), (nat_lit 7), (nat_lit 8), (nat_lit 9), (nat_lit 10)], []⟩,
  ⟨.p (.l (.r .h)) none (.mv (.s (.r (.r (.r (.l .h)))))), (nat_lit 13), [(nat_lit 0), (nat_lit 1), (nat_lit 2), (nat_lit 3), (nat_lit 4), (nat_lit 5), (nat_lit 6), (nat_lit 7), (nat_lit 8), (nat_lit 9), (nat_lit 10), (nat_lit 11), (nat_lit 12)], []⟩])
 (.seq (.blk (nat_lit 0) (.seq (.reg [.p (.r (.l (.l (.r .h)))) none (.mv (.s (.l (.r .h)))),
  .p (.l (.r (.l (.r .h)))) none (.nt (.s (.r (.l (.l (.r .h)))))),
  .p (.l (.l (.l (.r .h)))) none (.mv (.s (.l (.r (.l (.r .h))))))])
 (.cond (.s (.l (.l (.l (.r .h))))) (.reg [.p (.r (.r (.l (.r .h)))) none (.mv (.s .h)),
  .p (.l (.l (.r (.r .h)))) none (.mv (.s (.l .h))),
  .p (.r (.l (.r (.r .h)))) none (.nc (.s (.l (.l (.r (.r .h)))))),
  .p (.l (.r (.r (.r .h)))) none (.fa (nat_lit 1) (.s (.r (.l (.r (.r .h)))))),
  .r (.r (.r (.r (.r .h)))) none (.ld (.s (.l (.r (.r (.r .h)))))),
  .k (some (.l (.l (.l (.l (.l .h)))))) none (nat_lit 72) (.r (.l (.l (.r (.l (.l .h)))))) [(.s (.r (.r (.l (.r .h))))), (.s (.r (.r (.r (.r .h))))), (.c (.a (.i .i64 (.n (nat_lit 8)))))]]) (.seq (.drw [⟨.p (.l (.r (.l (.l (.l .h))))) none (.mv (.s (.l .h))), (nat_lit 0), [], []⟩,
  ⟨.p (.r (.r (.l (.l (.l .h))))) none (.nc (.s (.l (.r (.l (.l (.l .h))))))), (nat_lit 1), [(nat_lit 0)], []⟩,
  ⟨.p (.l (.l (.r (.l (.l .h))))) none (.fa (nat_lit 10) (.s (.r (.r (.l (.l (.l .h))))))), (nat_lit 2), [(nat_lit 0), (nat_lit 1)], []⟩,
  ⟨.r (.r (.l (.r (.l (.l .h))))) none (.ld (.s (.l (.l (.r (.l (.l .h))))))), (nat_lit 3), [(nat_lit 0), (nat_lit 1), (nat_lit 2)], []⟩,
  ⟨.p (.l (.r (.r (.l (.l .h))))) none (.ln (.s (.r (.l (.r (.l (.l .h))))))), (nat_lit 4), [(nat_lit 0), (nat_lit 1), (nat_lit 2), (nat_lit 3)], []⟩,
  ⟨.p (.r (.r (.r (.l (.l .h))))) none (.mv (.s .h)), (nat_lit 5), [], []⟩,
  ⟨.p (.l (.l (.l (.r (.l .h))))) none (.nc (.s (.r (.r (.r (.l (.l .h))))))), (nat_lit 6), [(nat_lit 5)], []⟩,
  ⟨.p (.r (.l (.l (.r (.l .h))))) none (.fa (nat_lit 0) (.s (.l (.l (.l (.r (.l .h))))))), (nat_lit 7), [(nat_lit 5), (nat_lit 6)], []⟩,
  ⟨.p (.l (.r (.l (.r (.l .h))))) none (.fa (nat_lit 0) (.s (.r (.l (.l (.r (.l .h))))))), (nat_lit 8), [(nat_lit 5), (nat_lit 6), (nat_lit 7)], []⟩,
  ⟨.p (.r (.r (.l (.r (.l .h))))) none (.fa (nat_lit 1) (.s (.l (.r (.l (.r (.l .h))))))), (nat_lit 9), [(nat_lit 5), (nat_lit 6), (nat_lit 7), (nat_lit 8)], []⟩,
  ⟨.r (.l (.l (.r (.r (.l .h))))) none (.ld (.s (.r (.r (.l (.r (.l .h))))))), (nat_lit 10), [(nat_lit 5), (nat_lit 6), (nat_lit 7), (nat_lit 8), (nat_lit 9)], []⟩,
  ⟨.p (.r (.l (.r (.r (.l .h))))) none (.mv (.s (.r (.l .h)))), (nat_lit 11), [], []⟩,
  ⟨.p (.l (.r (.r (.r (.l .h))))) none (.ix (nat_lit 4) (.s (.l (.l (.r (.r (.l .h)))))) (.s (.r (.l (.r (.r (.l .h))))))), (nat_lit 12), [(nat_lit 5), (nat_lit 6), (nat_lit 7), (nat_lit 8), (nat_lit 9), (nat_lit 10), (nat_lit 11)], []⟩,
  ⟨.p (.r (.r (.r (.r (.l .h))))) none (.fa (nat_lit 2) (.s (.l (.r (.r (.r (.l .h))))))), (nat_lit 13), [(nat_lit 5), (nat_lit 6), (nat_lit 7), (nat_lit 8), (nat_lit 9), (nat_lit 10), (nat_lit 11), (nat_lit 12)], []⟩,
  ⟨.r (.l (.l (.l (.l (.r .h))))) none (.ld (.s (.r (.r (.r (.r (.l .h))))))), (nat_lit 14), [(nat_lit 5), (nat_lit 6), (nat_lit 7), (nat_lit 8), (nat_lit 9), (nat_lit 10), (nat_lit 11), (nat_lit 12), (nat_lit 13)], []⟩,
  ⟨.p (.r (.l (.l (.l (.r .h))))) none (.ln (.s (.l (.l (.l (.l (.r .h))))))), (nat_lit 15), [(nat_lit 5), (nat_lit 6), (nat_lit 7), (nat_lit 8), (nat_lit 9), (nat_lit 10), (nat_lit 11), (nat_lit 12), (nat_lit 13), (nat_lit 14)], []⟩,
  ⟨.p (.l (.r (.l (.l (.r .h))))) none (.cp .neq (.s (.l (.r (.r (.l (.l .h)))))) (.s (.r (.l (.l (.l (.r .h))))))), (nat_lit 16), [(nat_lit 0), (nat_lit 1), (nat_lit 2), (nat_lit 3), (nat_lit 4), (nat_lit 5), (nat_lit 6), (nat_lit 7), (nat_lit 8), (nat_lit 9), (nat_lit 10), (nat_lit 11), (nat_lit 12), (nat_lit 13), (nat_lit 14), (nat_lit 15)], []⟩,
  ⟨.p (.r (.l (.l (.l (.l .h))))) none (.mv (.s (.l (.r (.l (.l (.r .h))))))), (nat_lit 17), [(nat_lit 0), (nat_lit 1), (nat_lit 2), (nat_lit 3), (nat_lit 4), (nat_lit 5), (nat_lit 6), (nat_lit 7), (nat_lit 8), (nat_lit 9), (nat_lit 10), (nat_lit 11), (nat_lit 12), (nat_lit 13), (nat_lit 14), (nat_lit 15), (nat_lit 16)], []⟩])
 (.cond (.s (.r (.l (.l (.l (.l .h)))))) (.reg [.p (.r (.r (.l (.l (.r .h))))) none (.mv (.s .h)),
  .p (.l (.l (.r (.l (.r .h))))) none (.mv (.s (.l .h))),
  .p (.r (.l (.r (.l (.r .h))))) none (.nc (.s (.l (.l (.r (.l (.r .h))))))),
  .p (.l (.r (.r (.l (.r .h))))) none (.fa (nat_lit 1) (.s (.r (.l (.r (.l (.r .h))))))),
  .r (.r (.r (.r (.l (.r .h))))) none (.ld (.s (.l (.r (.r (.l (.r .h))))))),
  .k (some (.l (.l (.l (.r (.r .h)))))) none (nat_lit 72) (.r (.l (.l (.r (.l (.l .h)))))) [(.s (.r (.r (.l (.l (.r .h)))))), (.s (.r (.r (.r (.l (.r .h)))))), (.c (.a (.i .i64 (.n (nat_lit 11)))))]]) .skip)))))
 (.reg [.p (.r (.l (.l (.r (.r .h))))) none (.mv (.s (.l .h))),
  .p (.l (.r (.l (.r (.r .h))))) none (.mv (.s (.r (.l .h)))),
  .p (.r (.r (.l (.r (.r .h))))) none (.nc (.s (.r (.l (.l (.r (.r .h))))))),
  .p (.l (.l (.r (.r (.r .h))))) none (.fa (nat_lit 9) (.s (.r (.r (.l (.r (.r .h))))))),
  .c none none (.st (nat_lit 1) (.s (.l (.l (.r (.r (.r .h)))))) (.s (.l (.r (.l (.r (.r .h)))))))])))), false, false⟩
noncomputable def rf176 : RF := ⟨[.h], [.s (.r .h)], (.seq (.reg [.p (.r .h) none (.mv (.c (.a (.b false))))])
 (.seq (.reg [.p (.l (.l .h)) none (.mv (.s .h)),
  .k (some (.r (.l .h))) none (nat_lit 38) (.r (.r (.r (.l (.l .h))))) [(.s (.l (.l .h))), (.c (.a (.i .i64 (.n (nat_lit 0))))), (.c (.a (.i .i64 (.n (nat_lit 1)))))],
  .p (.l (.r .h)) none (.mv (.s (.r (.l .h)))),
  .p (.r (.r .h)) (some ((.l (.r .h)), false)) (.mv (.s .h)),
  .k (some (.l (.l (.l .h)))) (some ((.l (.r .h)), false)) (nat_lit 38) (.r (.r (.r (.l (.l .h))))) [(.s (.r (.r .h))), (.c (.a (.i .i64 (.n (nat_lit 0))))), (.c (.a (.i .i64 (.n (nat_lit 2)))))],
  .p (.r (.l (.l .h))) none (.pk (.s (.l (.r .h))) (.c (.a (.b true))) (.s (.l (.l (.l .h))))),
  .p (.l (.r (.l .h))) none (.mv (.s (.r (.l (.l .h))))),
  .p (.r (.r (.l .h))) (some ((.l (.r (.l .h))), false)) (.mv (.s .h)),
  .k (some (.l (.l (.r .h)))) (some ((.l (.r (.l .h))), false)) (nat_lit 33) (.l (.r (.l (.l (.l .h))))) [(.s (.r (.r (.l .h)))), (.c (.a (.i .i64 (.n (nat_lit 0))))), (.c (.a (.t (nat_lit 296))))],
  .p (.r (.l (.r .h))) none (.pk (.s (.l (.r (.l .h)))) (.c (.a (.b true))) (.s (.l (.l (.r .h))))),
  .p (.l (.r (.r .h))) none (.mv (.s (.r (.l (.r .h))))),
  .p (.r (.r (.r .h))) (some ((.l (.r (.r .h))), false)) (.mv (.s .h)),
  .k (some (.l (.l (.l (.l .h))))) (some ((.l (.r (.r .h))), false)) (nat_lit 33) (.l (.r (.l (.l (.l .h))))) [(.s (.r (.r (.r .h)))), (.c (.a (.i .i64 (.n (nat_lit 0))))), (.c (.a (.t (nat_lit 301))))],
  .p (.r (.l (.l (.l .h)))) none (.pk (.s (.l (.r (.r .h)))) (.c (.a (.b true))) (.s (.l (.l (.l (.l .h)))))),
  .p (.l (.r (.l (.l .h)))) none (.mv (.s (.r (.l (.l (.l .h)))))),
  .p (.r (.r (.l (.l .h)))) (some ((.l (.r (.l (.l .h)))), false)) (.mv (.s .h)),
  .k (some (.l (.l (.r (.l .h))))) (some ((.l (.r (.l (.l .h)))), false)) (nat_lit 33) (.l (.r (.l (.l (.l .h))))) [(.s (.r (.r (.l (.l .h))))), (.c (.a (.i .i64 (.n (nat_lit 0))))), (.c (.a (.t (nat_lit 289))))],
  .p (.r (.l (.r (.l .h)))) none (.pk (.s (.l (.r (.l (.l .h))))) (.c (.a (.b true))) (.s (.l (.l (.r (.l .h)))))),
  .p (.r .h) none (.mv (.s (.r (.l (.r (.l .h))))))])
 .rt)), false, false⟩
noncomputable def rf180 : RF := ⟨[.h, (.l .h)], [.g (.r (.l .h)) (nat_lit 2)], (.seq (.reg [.a (.r (.l .h)) none (.al (nat_lit 54) (nat_lit 2) (.n (.n .e .s0 .e) (.i .i64 (.n (nat_lit 0))) .e))])
 (.seq (.reg [.p (.r (.r .h)) none (.mv (.s .h)),
  .p (.l (.l (.l .h))) none (.mv (.s (.l .h))),
  .k (some (.r (.l (.l .h)))) none (nat_lit 151) (.l (.l (.l (.r (.r (.l (.l .h))))))) [(.s (.r (.r .h))), (.s (.l (.l (.l .h)))), (.c (.a .s0))],
  .a (.l (.r .h)) none (.al (nat_lit 54) (nat_lit 2) (.n (.n .e .s0 .e) (.i .i64 (.n (nat_lit 0))) .e)),
  .c none none (.st (nat_lit 2) (.s (.l (.r .h))) (.s (.r (.l (.l .h)))))])
 (.seq (.drw [⟨.p (.l (.r (.l .h))) none (.fa (nat_lit 1) (.s (.l (.r .h)))), (nat_lit 0), [], []⟩,
  ⟨.r (.r (.r (.l .h))) none (.ld (.s (.l (.r (.l .h))))), (nat_lit 1), [(nat_lit 0)], []⟩,
  ⟨.p (.l (.l (.r .h))) none (.mv (.s .h)), (nat_lit 2), [], []⟩,
  ⟨.p (.r (.l (.r .h))) none (.nc (.s (.l (.l (.r .h))))), (nat_lit 3), [(nat_lit 2)], []⟩,
  ⟨.p (.l (.r (.r .h))) none (.fa (nat_lit 15) (.s (.r (.l (.r .h))))), (nat_lit 4), [(nat_lit 2), (nat_lit 3)], []⟩,
  ⟨.r (.r (.r (.r .h))) none (.ld (.s (.l (.r (.r .h))))), (nat_lit 5), [(nat_lit 2), (nat_lit 3), (nat_lit 4)], []⟩,
  ⟨.c (some (.l (.l (.l (.l .h))))) none (.ap (nat_lit 3) (nat_lit 1) (nat_lit 8) (.s (.r (.r (.l .h)))) (.s (.r (.r (.r .h))))), (nat_lit 6), [(nat_lit 0), (nat_lit 1), (nat_lit 2), (nat_lit 3), (nat_lit 4), (nat_lit 5)], []⟩,
  ⟨.p (.r (.l (.l (.l .h)))) none (.fa (nat_lit 1) (.s (.l (.r .h)))), (nat_lit 7), [(nat_lit 0), (nat_lit 1), (nat_lit 2), (nat_lit 3), (nat_lit 4), (nat_lit 5), (nat_lit 6)], []⟩,
  ⟨.c none none (.st (nat_lit 1) (.s (.r (.l (.l (.l .h))))) (.s (.l (.l (.l (.l .h)))))), (nat_lit 8), [(nat_lit 0), (nat_lit 1), (nat_lit 2), (nat_lit 3), (nat_lit 4), (nat_lit 5), (nat_lit 6), (nat_lit 7)], []⟩])
 (.seq (.reg [.r (.l (.r (.l (.l .h)))) none (.lg (nat_lit 2) (.s (.l (.r .h)))),
  .c none none (.st (nat_lit 2) (.s (.r (.l .h))) (.s (.l (.r (.l (.l .h))))))])
 .rt)))), false, false⟩
noncomputable def rf181 : RF := ⟨[.h, (.l .h), (.r .h)], [], (.seq (.reg [.p (.l (.l (.l .h))) none (.mv (.s .h)),
  .p (.r (.l (.l .h))) none (.nc (.s (.l (.l (.l .h))))),
  .p (.l (.r (.l .h))) none (.fa (nat_lit 15) (.s (.r (.l (.l .h))))),
  .r (.r (.r (.l .h))) none (.ld (.s (.l (.r (.l .h))))),
  .p (.r (.r .h)) none (.mv (.s (.r (.r (.l .h)))))])
 (.seq (.reg [.p (.l (.l (.r .h))) none (.mv (.s .h)),
  .p (.r (.l (.r .h))) none (.nc (.s (.l (.l (.r .h))))),
  .p (.l (.r (.r .h))) none (.fa (nat_lit 15) (.s (.r (.l (.r .h))))),
  .c none none (.st (nat_lit 1) (.s (.l (.r (.r .h)))) (.c (.a .s0)))])
 (.seq (.reg [.p (.r (.r (.r .h))) none (.mv (.s .h)),
  .p (.l (.l (.l (.l .h)))) none (.mv (.s (.l .h))),
  .k (some (.r (.l (.l (.l .h))))) none (nat_lit 45) (.l (.r (.r (.r (.l .h))))) [(.s (.r (.r (.r .h)))), (.s (.l (.l (.l (.l .h))))), (.c (.a (.i .i64 (.n (nat_lit 0)))))]])
 (.seq (.reg [.p (.l (.r (.l (.l .h)))) none (.mv (.s .h)),
  .k (some (.r (.r (.l (.l .h))))) none (nat_lit 159) (.l (.l (.l (.l (.l (.r (.l .h))))))) [(.s (.l (.r (.l (.l .h)))))]])
 (.seq (.reg [.p (.l (.l (.r (.l .h)))) none (.mv (.s .h)),
  .p (.r (.l (.r (.l .h)))) none (.mv (.s .h)),
  .p (.l (.r (.r (.l .h)))) none (.mv (.s (.r .h))),
  .k (some (.r (.r (.r (.l .h))))) none (nat_lit 114) (.r (.r (.l (.l (.r (.r .h)))))) [(.s (.r (.l (.r (.l .h))))), (.s (.l (.r (.r (.l .h)))))],
  .k (some (.l (.l (.l (.r .h))))) none (nat_lit 112) (.r (.l (.l (.l (.r (.r .h)))))) [(.s (.l (.l (.r (.l .h))))), (.s (.r (.r (.r (.l .h)))))]])
 (.reg [.p (.r (.l (.l (.r .h)))) none (.mv (.s .h)),
  .p (.l (.r (.l (.r .h)))) none (.mv (.s (.r (.r .h)))),
  .p (.r (.r (.l (.r .h)))) none (.nc (.s (.r (.l (.l (.r .h)))))),
  .p (.l (.l (.r (.r .h)))) none (.fa (nat_lit 15) (.s (.r (.r (.l (.r .h)))))),
  .c none none (.st (nat_lit 1) (.s (.l (.l (.r (.r .h))))) (.s (.l (.r (.l (.r .h))))))])))))), false, false⟩
noncomputable def rf182 : RF := ⟨[.h, (.l .h)], [], (.seq (.reg [.p (.r (.l .h)) none (.mv (.s .h)),
  .p (.l (.r .h)) none (.mv (.s (.l .h))),
  .k (some (.r (.r .h))) none (nat_lit 45) (.l (.r (.r (.r (.l .h))))) [(.s (.r (.l .h))), (.s (.l (.r .h))), (.c (.a (.i .i64 (.n (nat_lit 0)))))]])
 (.reg [.p (.l (.l (.l .h))) none (.mv (.s .h)),
  .k (some (.r (.l (.l .h)))) none (nat_lit 159) (.l (.l (.l (.l (.l (.r (.l .h))))))) [(.s (.l (.l (.l .h))))]])), false, false⟩
noncomputable def rf183 : RF := ⟨[.h, (.l .h)], [], (.reg [.p (.r (.l .h)) none (.mv (.s .h)),
  .p (.l (.r .h)) none (.mv (.s .h)),
  .p (.r (.r .h)) none (.nc (.s (.l (.r .h)))),
  .p (.l (.l (.l .h))) none (.fa (nat_lit 15) (.s (.r (.r .h)))),
  .r (.r (.l (.l .h))) none (.ld (.s (.l (.l (.l .h))))),
  .p (.l (.r (.l .h))) none (.mv (.s (.l .h))),
  .a (.r (.r (.l .h))) none (.bs (nat_lit 3) (nat_lit 1) [(.i .i64 (.n (nat_lit 0)))] [((nat_lit 0), (nat_lit 1), (.s (.l (.r (.l .h)))))]),
  .c (some (.l (.l (.r .h)))) none (.ap (nat_lit 3) (nat_lit 1) (nat_lit 8) (.s (.r (.l (.l .h)))) (.s (.r (.r (.l .h))))),
  .p (.r (.l (.r .h))) none (.nc (.s (.r (.l .h)))),
  .p (.l (.r (.r .h))) none (.fa (nat_lit 15) (.s (.r (.l (.r .h))))),
  .c none none (.st (nat_lit 1) (.s (.l (.r (.r .h)))) (.s (.l (.l (.r .h)))))]), false, false⟩
noncomputable def rf184 : RF := ⟨[.h, (.l .h)], [], (.seq (.reg [.p (.r (.r .h)) none (.mv (.s .h)),
  .k (some (.l (.l (.l .h)))) none (nat_lit 155) (.l (.l (.r (.r (.r (.l (.l .h))))))) [(.s (.r (.r .h)))],
  .p (.r (.l .h)) none (.mv (.s (.l (.l (.l .h)))))])
 (.seq (.reg [.p (.r (.l (.l .h))) none (.mv (.s .h)),
  .k (some (.l (.r (.l .h)))) none (nat_lit 155) (.l (.l (.r (.r (.r (.l (.l .h))))))) [(.s (.r (.l (.l .h))))],
  .p (.l (.r .h)) none (.mv (.s (.l (.r (.l .h)))))])
 (.reg [.p (.r (.r (.l .h))) none (.mv (.s .h)),
  .p (.l (.l (.r .h))) none (.mv (.s .h)),
  .p (.r (.l (.r .h))) none (.mv (.s (.l .h))),
  .p (.l (.r (.r .h))) none (.mv (.s (.l (.r .h)))),
  .p (.r (.r (.r .h))) none (.mv (.s (.r (.l .h)))),
  .p (.l (.l (.l (.l .h)))) none (.bd [(.i .i64 (.n (nat_lit 0))), (.i .i64 (.n (nat_lit 0))), (.i .i64 (.n (nat_lit 0))), (.i .i64 (.n (nat_lit 0))), (.i .i64 (.n (nat_lit 0))), (.i .i64 (.n (nat_lit 0))), (.i .i64 (.n (nat_lit 0))), (.i .i64 (.n (nat_lit 0))), (.i .i64 (.n (nat_lit 0))), (.i .i64 (.n (nat_lit 0))), (.i .i64 (.n (nat_lit 0)))] [((nat_lit 0), (nat_lit 1), (.s (.r (.l (.r .h))))), ((nat_lit 2), (nat_lit 1), (.s (.l (.r (.r .h))))), ((nat_lit 3), (nat_lit 1), (.s (.r (.r (.r .h)))))]),
  .k (some (.r (.l (.l (.l .h))))) none (nat_lit 156) (.r (.l (.r (.r (.r (.l (.l .h))))))) [(.s (.l (.l (.r .h)))), (.s (.l (.l (.l (.l .h)))))],
  .k (some (.l (.r (.l (.l .h))))) none (nat_lit 183) (.l (.l (.l (.r (.r (.r (.l .h))))))) [(.s (.r (.r (.l .h)))), (.s (.r (.l (.l (.l .h)))))]]))), false, false⟩
noncomputable def rf185 : RF := ⟨[.h], [], (.seq (.drw [⟨.p (.l (.l (.l .h))) none (.mv (.s .h)), (nat_lit 0), [], []⟩,
  ⟨.p (.r (.l (.l .h))) none (.nc (.s (.l (.l (.l .h))))), (nat_lit 1), [(nat_lit 0)], []⟩,
  ⟨.p (.l (.r (.l .h))) none (.fa (nat_lit 15) (.s (.r (.l (.l .h))))), (nat_lit 2), [(nat_lit 0), (nat_lit 1)], []⟩,
  ⟨.r (.r (.r (.l .h))) none (.ld (.s (.l (.r (.l .h))))), (nat_lit 3), [(nat_lit 0), (nat_lit 1), (nat_lit 2)], []⟩,
  ⟨.p (.l (.l (.r .h))) none (.mv (.s .h)), (nat_lit 4), [], []⟩,
  ⟨.p (.r (.l (.r .h))) none (.nc (.s (.l (.l (.r .h))))), (nat_lit 5), [(nat_lit 4)], []⟩,
  ⟨.p (.l (.r (.r .h))) none (.fa (nat_lit 15) (.s (.r (.l (.r .h))))), (nat_lit 6), [(nat_lit 4), (nat_lit 5)], []⟩,
  ⟨.r (.r (.r (.r .h))) none (.ld (.s (.l (.r (.r .h))))), (nat_lit 7), [(nat_lit 4), (nat_lit 5), (nat_lit 6)], []⟩,
  ⟨.p (.l (.l (.l (.l .h)))) none (.ln (.s (.r (.r (.r .h))))), (nat_lit 8), [(nat_lit 4), (nat_lit 5), (nat_lit 6), (nat_lit 7)], []⟩,
  ⟨.p (.r (.l (.l (.l .h)))) none (.ar .sub (.s (.l (.l (.l (.l .h))))) (.c (.a (.i .i64 (.n (nat_lit 1)))))), (nat_lit 9), [(nat_lit 4), (nat_lit 5), (nat_lit 6), (nat_lit 7), (nat_lit 8)], []⟩,
  ⟨.p (.l (.r (.l (.l .h)))) none (.ix (nat_lit 1) (.s (.r (.r (.l .h)))) (.s (.r (.l (.l (.l .h)))))), (nat_lit 10), [(nat_lit 0), (nat_lit 1), (nat_lit 2), (nat_lit 3), (nat_lit 4), (nat_lit 5), (nat_lit 6), (nat_lit 7), (nat_lit 8), (nat_lit 9)], []⟩,
  ⟨.r (.r (.r (.l (.l .h)))) none (.ld (.s (.l (.r (.l (.l .h)))))), (nat_lit 11), [(nat_lit 0), (nat_lit 1), (nat_lit 2), (nat_lit 3), (nat_lit 4), (nat_lit 5), (nat_lit 6), (nat_lit 7), (nat_lit 8), (nat_lit 9), (nat_lit 10)], []⟩,
  ⟨.p (.r .h) none (.mv (.s (.r (.r (.l (.l .h)))))), (nat_lit 12), [(nat_lit 0), (nat_lit 1), (nat_lit 2), (nat_lit 3), (nat_lit 4), (nat_lit 5), (nat_lit 6), (nat_lit 7), (nat_lit 8), (nat_lit 9), (nat_lit 10), (nat_lit 11)], []⟩])
 (.seq (.drw [⟨.p (.l (.l (.r (.l .h)))) none (.mv (.s .h)), (nat_lit 0), [], []⟩,
  ⟨.p (.r (.l (.r (.l .h)))) none (.mv (.s .h)), (nat_lit 1), [], []⟩,
  ⟨.p (.l (.r (.r (.l .h)))) none (.nc (.s (.r (.l (.r (.l .h)))))), (nat_lit 2), [(nat_lit 1)], []⟩,
  ⟨.p (.r (.r (.r (.l .h)))) none (.fa (nat_lit 17) (.s (.l (.r (.r (.l .h)))))), (nat_lit 3), [(nat_lit 1), (nat_lit 2)], []⟩,
  ⟨.r (.l (.l (.l (.r .h)))) none (.ld (.s (.r (.r (.r (.l .h)))))), (nat_lit 4), [(nat_lit 1), (nat_lit 2), (nat_lit 3)], []⟩,
  ⟨.p (.l (.r (.l (.r .h)))) none (.mv (.s .h)), (nat_lit 6), [], []⟩,
  ⟨.p (.r (.r (.l (.r .h)))) none (.mv (.s .h)), (nat_lit 7), [], []⟩,
  ⟨.p (.l (.l (.r (.r .h)))) none (.nc (.s (.r (.r (.l (.r .h)))))), (nat_lit 8), [(nat_lit 7)], []⟩,
  ⟨.p (.r (.l (.r (.r .h)))) none (.fa (nat_lit 17) (.s (.l (.l (.r (.r .h)))))), (nat_lit 9), [(nat_lit 7), (nat_lit 8)], []⟩,
  ⟨.r (.l (.r (.r (.r .h)))) none (.ld (.s (.r (.l (.r (.r .h)))))), (nat_lit 10), [(nat_lit 7), (nat_lit 8), (nat_lit 9)], []⟩,
  ⟨.k (some (.r (.l (.l (.r .h))))) none (nat_lit 43) (.l (.l (.r (.r (.l .h))))) [(.s (.l (.l (.r (.l .h))))), (.s (.l (.l (.l (.r .h)))))], (nat_lit 5), [(nat_lit 0), (nat_lit 1), (nat_lit 2), (nat_lit 3), (nat_lit 4)], [true, false]⟩,
  ⟨.k (some (.r (.r (.r (.r .h))))) none (nat_lit 43) (.l (.l (.r (.r (.l .h))))) [(.s (.l (.r (.l (.r .h))))), (.s (.l (.r (.r (.r .h)))))], (nat_lit 11), [(nat_lit 0), (nat_lit 1), (nat_lit 2), (nat_lit 3), (nat_lit 4), (nat_lit 5), (nat_lit 6), (nat_lit 7), (nat_lit 8), (nat_lit 9), (nat_lit 10)], []⟩,
  ⟨.p (.l (.l .h)) none (.mv (.s (.r (.l (.l (.r .h)))))), (nat_lit 12), [(nat_lit 0), (nat_lit 1), (nat_lit 2), (nat_lit 3), (nat_lit 4), (nat_lit 5), (nat_lit 6), (nat_lit 7), (nat_lit 8), (nat_lit 9), (nat_lit 10), (nat_lit 11)], []⟩,
  ⟨.p (.r (.l .h)) none (.mv (.s (.r (.r (.r (.r .h)))))), (nat_lit 13), [(nat_lit 0), (nat_lit 1), (nat_lit 2), (nat_lit 3), (nat_lit 4), (nat_lit 5), (nat_lit 6), (nat_lit 7), (nat_lit 8), (nat_lit 9), (nat_lit 10), (nat_lit 11), (nat_lit 12)], []⟩])
 (.seq (.reg [.p (.l (.l (.l (.l (.l .h))))) none (.mv (.s .h)),
  .p (.r (.l (.l (.l (.l .h))))) none (.mv (.s (.l (.l .h)))),
  .k (some (.l (.r (.l (.l (.l .h)))))) none (nat_lit 180) (.r (.l (.r (.l (.r (.r (.l .h))))))) [(.s (.l (.l (.l (.l (.l .h)))))), (.s (.r (.l (.l (.l (.l .h))))))],
  .a (.l (.r .h)) none (.al (nat_lit 54) (nat_lit 2) (.n (.n .e .s0 .e) (.i .i64 (.n (nat_lit 0))) .e)),
  .c none none (.st (nat_lit 2) (.s (.l (.r .h))) (.s (.l (.r (.l (.l (.l .h)))))))])
 (.seq (.reg [.p (.r (.r (.l (.l (.l .h))))) none (.mv (.s .h)),
  .p (.l (.l (.r (.l (.l .h))))) none (.mv (.s (.r (.l .h)))),
  .k (some (.r (.l (.r (.l (.l .h)))))) none (nat_lit 151) (.l (.l (.l (.r (.r (.l (.l .h))))))) [(.s (.r (.r (.l (.l (.l .h)))))), (.s (.l (.l (.r (.l (.l .h)))))), (.c (.a .s0))],
  .a (.r (.r .h)) none (.al (nat_lit 54) (nat_lit 2) (.n (.n .e .s0 .e) (.i .i64 (.n (nat_lit 0))) .e)),
  .c none none (.st (nat_lit 2) (.s (.r (.r .h))) (.s (.r (.l (.r (.l (.l .h)))))))])
 (.seq (.reg [.p (.l (.r (.r (.l (.l .h))))) none (.mv (.s .h)),
  .p (.r (.r (.r (.l (.l .h))))) none (.mv (.s (.r .h))),
  .r (.l (.l (.l (.r (.l .h))))) none (.lg (nat_lit 2) (.s (.l (.r .h)))),
  .r (.r (.l (.l (.r (.l .h))))) none (.lg (nat_lit 2) (.s (.r (.r .h)))),
  .k (some (.l (.r (.l (.r (.l .h)))))) none (nat_lit 152) (.r (.l (.l (.r (.r (.l (.l .h))))))) [(.s (.l (.r (.r (.l (.l .h)))))), (.s (.r (.r (.r (.l (.l .h)))))), (.s (.l (.l (.l (.r (.l .h)))))), (.s (.r (.l (.l (.r (.l .h))))))]])
 (.seq (.reg [.p (.r (.r (.l (.r (.l .h))))) none (.mv (.s .h)),
  .p (.l (.l (.r (.r (.l .h))))) none (.mv (.s (.r (.l .h)))),
  .k (some (.r (.l (.r (.r (.l .h)))))) none (nat_lit 181) (.l (.r (.r (.l (.r (.r (.l .h))))))) [(.s (.r (.r (.l (.r (.l .h)))))), (.s (.l (.l (.r (.r (.l .h)))))), (.c (.a (.i .i64 (.n (nat_lit 1)))))]])
 (.reg [.p (.l (.r (.r (.r (.l .h))))) none (.mv (.s .h)),
  .p (.r (.r (.r (.r (.l .h))))) none (.mv (.s (.l (.l .h)))),
  .k (some (.l (.l (.l (.l (.r .h)))))) none (nat_lit 182) (.r (.r (.r (.l (.r (.r (.l .h))))))) [(.s (.l (.r (.r (.r (.l .h)))))), (.s (.r (.r (.r (.r (.l .h))))))]]))))))), false, false⟩
noncomputable def rf186 : RF := ⟨[.h, (.l .h), (.r .h)], [.g (.r (.r .h)) (nat_lit 6)], (.seq (.reg [.a (.r (.l .h)) none (.bx (nat_lit 214) (nat_lit 6) (.s (.l .h))),
  .a (.r (.r .h)) none (.al (nat_lit 214) (nat_lit 6) (.n (.n (.n .e (.t (nat_lit 1)) .e) (.i .i64 (.n (nat_lit 0))) (.n .e .s0 .e)) (.i .i64 (.n (nat_lit 0))) (.n (.n .e (.t (nat_lit 1)) .e) (.i .i64 (.n (nat_lit 0))) .e)))])
 (.seq (.seq (.reg [.p (.r (.l (.r .h))) none (.mv (.s .h)),
  .p (.l (.r (.r .h))) none (.nc (.s (.r (.l (.r .h))))),
  .p (.r (.r (.r .h))) none (.fa (nat_lit 7) (.s (.l (.r (.r .h))))),
  .r (.l (.l (.l (.l .h)))) none (.ld (.s (.r (.r (.r .h))))),
  .p (.r (.l (.l (.l .h)))) none (.cp .neq (.s (.l (.l (.l (.l .h))))) (.c (.a (.i .i64 (.n (nat_lit 0))))))])
 (.cond (.s (.r (.l (.l (.l .h))))) (.seq (.reg [.r (.l (.r (.l (.l .h)))) none (.lg (nat_lit 6) (.s (.r (.l .h)))),
  .c none none (.st (nat_lit 6) (.s (.r (.r .h))) (.s (.l (.r (.l (.l .h))))))])
 .rt) .skip))
 (.seq (.seq (.reg [.p (.r (.r (.l (.l .h)))) none (.fa (nat_lit 0) (.s (.r (.l .h)))),
  .r (.l (.l (.r (.l .h)))) none (.ld (.s (.r (.r (.l (.l .h))))))])
 (.blk (nat_lit 0) (.seq (.seq (.reg [.p (.l (.r (.r (.l .h)))) none (.cp .eql (.s (.l (.l (.r (.l .h))))) (.c (.a (.i .i64 (.n (nat_lit 1)))))),
  .p (.r (.l (.r (.l .h)))) none (.mv (.s (.l (.r (.r (.l .h))))))])
 (.cond (.s (.r (.l (.r (.l .h))))) .skip (.seq (.reg [.p (.r (.r (.r (.l .h)))) none (.cp .eql (.s (.l (.l (.r (.l .h))))) (.c (.a (.i .i64 (.n (nat_lit 2)))))),
  .p (.r (.l (.r (.l .h)))) none (.mv (.s (.r (.r (.r (.l .h))))))])
 (.cond (.s (.r (.l (.r (.l .h))))) .skip (.reg [.p (.l (.l (.l (.r .h)))) none (.cp .eql (.s (.l (.l (.r (.l .h))))) (.c (.a (.i .i64 (.n (nat_lit 3)))))),
  .p (.r (.l (.r (.l .h)))) none (.mv (.s (.l (.l (.l (.r .h))))))])))))
 (.cond (.s (.r (.l (.r (.l .h))))) (.seq (.reg [.p (.l (.r (.l (.r .h)))) none (.mv (.s .h)),
  .p (.r (.r (.l (.r .h)))) none (.fa (nat_lit 3) (.s (.r (.l .h)))),
  .r (.l (.l (.r (.r .h)))) none (.ld (.s (.r (.r (.l (.r .h)))))),
  .k (some (.r (.l (.r (.r .h))))) none (nat_lit 115) (.l (.l (.r (.l (.r (.r .h)))))) [(.s (.l (.r (.l (.r .h))))), (.s (.l (.l (.r (.r .h)))))],
  .p (.r (.l (.l (.r .h)))) none (.mv (.s (.r (.l (.r (.r .h)))))),
  .p (.l (.r (.r (.r .h)))) none (.ex (nat_lit 0) (.s (.r (.l (.l (.r .h)))))),
  .p (.r (.r (.r (.r .h)))) none (.ex (nat_lit 1) (.s (.r (.l (.l (.r .h)))))),
  .p (.l (.l (.l .h))) none (.mv (.s (.l (.r (.r (.r .h)))))),
  .p (.r (.l (.l .h))) none (.mv (.s (.r (.r (.r (.r .h))))))])
 (.seq (.seq (.reg [.p (.l (.l (.l (.l (.l .h))))) none (.mv (.s (.r (.l (.l .h))))),
  .p (.r (.l (.l (.l (.l .h))))) none (.nt (.s (.l (.l (.l (.l (.l .h)))))))])
 (.cond (.s (.r (.l (.l (.l (.l .h)))))) (.seq (.reg [.p (.l (.r (.l (.l (.l .h))))) none (.mv (.s .h)),
  .p (.r (.r (.l (.l (.l .h))))) none (.mv (.s (.r .h))),
  .k (some (.l (.l (.r (.l (.l .h)))))) none (nat_lit 72) (.r (.l (.l (.r (.l (.l .h)))))) [(.s (.l (.r (.l (.l (.l .h)))))), (.s (.r (.r (.l (.l (.l .h)))))), (.c (.a (.i .i64 (.n (nat_lit 8)))))]])
 (.seq (.reg [.r (.r (.l (.r (.l (.l .h))))) none (.lg (nat_lit 6) (.s (.r (.l .h)))),
  .c none none (.st (nat_lit 6) (.s (.r (.r .h))) (.s (.r (.l (.r (.l (.l .h)))))))])
 .rt)) .skip))
 (.seq (.drw [⟨.p (.l (.r (.r (.l (.l .h))))) none (.mv (.s .h)), (nat_lit 0), [], []⟩,
  ⟨.p (.r (.r (.r (.l (.l .h))))) none (.nc (.s (.l (.r (.r (.l (.l .h))))))), (nat_lit 1), [(nat_lit 0)], []⟩,
  ⟨.p (.l (.l (.l (.r (.l .h))))) none (.fa (nat_lit 0) (.s (.r (.r (.r (.l (.l .h))))))), (nat_lit 2), [(nat_lit 0), (nat_lit 1)], []⟩,
  ⟨.p (.r (.l (.l (.r (.l .h))))) none (.fa (nat_lit 2) (.s (.l (.l (.l (.r (.l .h))))))), (nat_lit 3), [(nat_lit 0), (nat_lit 1), (nat_lit 2)], []⟩,
  ⟨.r (.l (.r (.l (.r (.l .h))))) none (.ld (.s (.r (.l (.l (.r (.l .h))))))), (nat_lit 4), [(nat_lit 0), (nat_lit 1), (nat_lit 2), (nat_lit 3)], []⟩,
  ⟨.p (.r (.r (.l (.r (.l .h))))) none (.mv (.s .h)), (nat_lit 5), [], []⟩,
  ⟨.p (.l (.l (.r (.r (.l .h))))) none (.nc (.s (.r (.r (.l (.r (.l .h))))))), (nat_lit 6), [(nat_lit 5)], []⟩,
  ⟨.p (.r (.l (.r (.r (.l .h))))) none (.fa (nat_lit 4) (.s (.l (.l (.r (.r (.l .h))))))), (nat_lit 7), [(nat_lit 5), (nat_lit 6)], []⟩,
  ⟨.r (.l (.r (.r (.r (.l .h))))) none (.ld (.s (.r (.l (.r (.r (.l .h))))))), (nat_lit 8), [(nat_lit 5), (nat_lit 6), (nat_lit 7)], []⟩,
  ⟨.p (.r (.r (.r (.r (.l .h))))) none (.ix (nat_lit 1) (.s (.l (.r (.l (.r (.l .h)))))) (.s (.l (.r (.r (.r (.l .h))))))), (nat_lit 9), [(nat_lit 0), (nat_lit 1), (nat_lit 2), (nat_lit 3), (nat_lit 4), (nat_lit 5), (nat_lit 6), (nat_lit 7), (nat_lit 8)], []⟩,
  ⟨.r (.l (.l (.l (.l (.r .h))))) none (.ld (.s (.r (.r (.r (.r (.l .h))))))), (nat_lit 10), [(nat_lit 0), (nat_lit 1), (nat_lit 2), (nat_lit 3), (nat_lit 4), (nat_lit 5), (nat_lit 6), (nat_lit 7), (nat_lit 8), (nat_lit 9)], []⟩,
  ⟨.p (.r (.l (.l (.l (.r .h))))) none (.mv (.s (.l (.l (.l .h))))), (nat_lit 11), [], []⟩,
  ⟨.p (.l (.r (.l (.l (.r .h))))) none (.ix (nat_lit 7) (.s (.l (.l (.l (.l (.r .h)))))) (.s (.r (.l (.l (.l (.r .h))))))), (nat_lit 12), [(nat_lit 0), (nat_lit 1), (nat_lit 2), (nat_lit 3), (nat_lit 4), (nat_lit 5), (nat_lit 6), (nat_lit 7), (nat_lit 8), (nat_lit 9), (nat_lit 10), (nat_lit 11)], []⟩,
  ⟨.r (.r (.r (.l (.l (.r .h))))) none (.lg (nat_lit 7) (.s (.l (.r (.l (.l (.r .h))))))), (nat_lit 13), [(nat_lit 0), (nat_lit 1), (nat_lit 2), (nat_lit 3), (nat_lit 4), (nat_lit 5), (nat_lit 6), (nat_lit 7), (nat_lit 8), (nat_lit 9), (nat_lit 10), (nat_lit 11), (nat_lit 12)], []⟩,
  ⟨.a (.l (.r (.l .h))) none (.al (nat_lit 62) (nat_lit 7) (.n (.n (.n .e (.i .i64 (.n (nat_lit 0))) .e) (.i .i64 (.n (nat_lit 0))) (.n .e (.i .i64 (.n (nat_lit 0))) .e)) (.t (nat_lit 1)) (.n (.n .e (.b false) .e) (.i .i64 (.n (nat_lit 0))) (.n .e (.i .i64 (.n (nat_lit 0))) .e)))), (nat_lit 14), [], []⟩,
  ⟨.c none none (.st (nat_lit 7) (.s (.l (.r (.l .h)))) (.s (.r (.r (.l (.l (.r .h))))))), (nat_lit 15), [(nat_lit 0), (nat_lit 1), (nat_lit 2), (nat_lit 3), (nat_lit 4), (nat_lit 5), (nat_lit 6), (nat_lit 7), (nat_lit 8), (nat_lit 9), (nat_lit 10), (nat_lit 11), (nat_lit 12), (nat_lit 13), (nat_lit 14)], []⟩])
 (.seq (.seq (.reg [.p (.l (.l (.r (.l (.r .h))))) none (.fa (nat_lit 1) (.s (.l (.r (.l .h))))),
  .r (.r (.l (.r (.l (.r .h))))) none (.ld (.s (.l (.l (.r (.l (.r .h))))))),
  .p (.l (.r (.r (.l (.r .h))))) none (.fa (nat_lit 0) (.s (.r (.l .h)))),
  .r (.r (.r (.r (.l (.r .h))))) none (.ld (.s (.l (.r (.r (.l (.r .h))))))),
  .p (.l (.l (.l (.r (.r .h))))) none (.ar .add (.c (.a (.i .i64 (.n (nat_lit 1))))) (.s (.r (.r (.r (.l (.r .h))))))),
  .p (.r (.l (.l (.r (.r .h))))) none (.ar .sub (.s (.l (.l (.l (.r (.r .h)))))) (.c (.a (.i .i64 (.n (nat_lit 1)))))),
  .p (.l (.r (.l (.r (.r .h))))) none (.cp .neq (.s (.r (.l (.r (.l (.r .h)))))) (.s (.r (.l (.l (.r (.r .h)))))))])
 (.cond (.s (.l (.r (.l (.r (.r .h)))))) (.seq (.reg [.p (.r (.r (.l (.r (.r .h))))) none (.mv (.s .h)),
  .p (.l (.l (.r (.r (.r .h))))) none (.mv (.s (.r .h))),
  .k (some (.r (.l (.r (.r (.r .h)))))) none (nat_lit 72) (.r (.l (.l (.r (.l (.l .h)))))) [(.s (.r (.r (.l (.r (.r .h)))))), (.s (.l (.l (.r (.r (.r .h)))))), (.c (.a (.i .i64 (.n (nat_lit 10)))))]])
 (.seq (.reg [.r (.l (.r (.r (.r (.r .h))))) none (.lg (nat_lit 6) (.s (.r (.l .h)))),
  .c none none (.st (nat_lit 6) (.s (.r (.r .h))) (.s (.l (.r (.r (.r (.r .h)))))))])
 .rt)) .skip))
 (.seq (.reg [.p (.r (.r (.r (.r (.r .h))))) none (.mv (.s (.l (.l (.l .h))))),
  .p (.l (.l (.l (.l (.l (.l .h)))))) none (.fa (nat_lit 2) (.s (.r (.l .h)))),
  .c none none (.st (nat_lit 1) (.s (.l (.l (.l (.l (.l (.l .h))))))) (.s (.r (.r (.r (.r (.r .h)))))))])
 (.seq (.reg [.p (.r (.l (.l (.l (.l (.l .h)))))) none (.fa (nat_lit 0) (.s (.r (.l .h)))),
  .r (.l (.r (.l (.l (.l (.l .h)))))) none (.ld (.s (.r (.l (.l (.l (.l (.l .h)))))))),
  .p (.r (.r (.l (.l (.l (.l .h)))))) none (.cp .eql (.s (.l (.r (.l (.l (.l (.l .h))))))) (.c (.a (.i .i64 (.n (nat_lit 2))))))])
 (.cond (.s (.r (.r (.l (.l (.l (.l .h))))))) (.seq (.reg [.p (.l (.l (.r (.l (.l (.l .h)))))) none (.fa (nat_lit 1) (.s (.r (.l .h)))),
  .c none none (.st (nat_lit 1) (.s (.l (.l (.r (.l (.l (.l .h))))))) (.c (.a (.i .i64 (.g (nat_lit 0))))))])
 (.seq (.seq (.drw [⟨.p (.r (.l (.r (.l (.l (.l .h)))))) none (.mv (.s .h)), (nat_lit 0), [], []⟩,
  ⟨.p (.l (.r (.r (.l (.l (.l .h)))))) none (.nc (.s (.r (.l (.r (.l (.l (.l .h)))))))), (nat_lit 1), [(nat_lit 0)], []⟩,
  ⟨.p (.r (.r (.r (.l (.l (.l .h)))))) none (.fa (nat_lit 0) (.s (.l (.r (.r (.l (.l (.l .h)))))))), (nat_lit 2), [(nat_lit 0), (nat_lit 1)], []⟩,
  ⟨.p (.l (.l (.l (.r (.l (.l .h)))))) none (.fa (nat_lit 0) (.s (.r (.r (.r (.l (.l (.l .h)))))))), (nat_lit 3), [(nat_lit 0), (nat_lit 1), (nat_lit 2)], []⟩,
  ⟨.p (.r (.l (.l (.r (.l (.l .h)))))) none (.fa (nat_lit 0) (.s (.l (.l (.l (.r (.l (.l .h)))))))), (nat_lit 4), [(nat_lit 0), (nat_lit 1), (nat_lit 2), (nat_lit 3)], []⟩,
  ⟨.r (.l (.r (.l (.r (.l (.l .h)))))) none (.ld (.s (.r (.l (.l (.r (.l (.l .h)))))))), (nat_lit 5), [(nat_lit 0), (nat_lit 1), (nat_lit 2), (nat_lit 3), (nat_lit 4)], []⟩,
  ⟨.p (.r (.r (.l (.r (.l (.l .h)))))) none (.fa (nat_lit 2) (.s (.l (.r (.l .h))))), (nat_lit 6), [], []⟩,
  ⟨.r (.l (.l (.r (.r (.l (.l .h)))))) none (.ld (.s (.r (.r (.l (.r (.l (.l .h)))))))), (nat_lit 7), [(nat_lit 6)], []⟩,
  ⟨.p (.r (.l (.r (.r (.l (.l .h)))))) none (.ix (nat_lit 2) (.s (.l (.r (.l (.r (.l (.l .h))))))) (.s (.l (.l (.r (.r (.l (.l .h)))))))), (nat_lit 8), [(nat_lit 0), (nat_lit 1), (nat_lit 2), (nat_lit 3), (nat_lit 4), (nat_lit 5), (nat_lit 6), (nat_lit 7)], []⟩,
  ⟨.p (.l (.r (.r (.r (.l (.l .h)))))) none (.fa (nat_lit 1) (.s (.r (.l (.r (.r (.l (.l .h)))))))), (nat_lit 9), [(nat_lit 0), (nat_lit 1), (nat_lit 2), (nat_lit 3), (nat_lit 4), (nat_lit 5), (nat_lit 6), (nat_lit 7), (nat_lit 8)], []⟩,
  ⟨.r (.r (.r (.r (.r (.l (.l .h)))))) none (.ld (.s (.l (.r (.r (.r (.l (.l .h)))))))), (nat_lit 10), [(nat_lit 0), (nat_lit 1), (nat_lit 2), (nat_lit 3), (nat_lit 4), (nat_lit 5), (nat_lit 6), (nat_lit 7), (nat_lit 8), (nat_lit 9)], []⟩,
  ⟨.p (.l (.l (.l (.l (.r (.l .h)))))) none (.ln (.s (.r (.r (.r (.r (.l (.l .h)))))))), (nat_lit 11), [(nat_lit 0), (nat_lit 1), (nat_lit 2), (nat_lit 3), (nat_lit 4), (nat_lit 5), (nat_lit 6), (nat_lit 7), (nat_lit 8), (nat_lit 9), (nat_lit 10)], []⟩,
  ⟨.p (.r (.l (.l (.l (.r (.l .h)))))) none (.mv (.c (.a (.i .i64 (.n (nat_lit 0)))))), (nat_lit 12), [], []⟩])
 (.blk (nat_lit 1) (.loop (.seq (.reg [.p (.l (.r (.l (.l (.r (.l .h)))))) none (.cp .lss (.s (.r (.l (.l (.l (.r (.l .h))))))) (.s (.l (.l (.l (.l (.r (.l .h))))))))])
 (.seq (.cond (.s (.l (.r (.l (.l (.r (.l .h))))))) .skip (.ex (nat_lit 1)))
 (.seq (.blk (nat_lit 2) (.seq (.reg [.p (.r (.r (.l (.l (.r (.l .h)))))) none (.mv (.s (.r (.l (.l (.l (.r (.l .h)))))))),
  .p (.l (.l (.r (.l (.r (.l .h)))))) none (.ix (nat_lit 1) (.s (.r (.r (.r (.r (.l (.l .h))))))) (.s (.r (.l (.l (.l (.r (.l .h)))))))),
  .r (.r (.l (.r (.l (.r (.l .h)))))) none (.ld (.s (.l (.l (.r (.l (.r (.l .h)))))))),
  .p (.r (.r (.l .h))) none (.mv (.s (.r (.r (.l (.l (.r (.l .h)))))))),
  .p (.l (.l (.r .h))) none (.mv (.s (.r (.l (.r (.l (.r (.l .h))))))))])
 (.seq (.reg [.p (.l (.r (.r (.l (.r (.l .h)))))) none (.mv (.s (.l (.l (.r .h))))),
  .p (.r (.r (.r (.l (.r (.l .h)))))) none (.fa (nat_lit 4) (.s (.r (.l .h)))),
  .r (.l (.l (.l (.r (.r (.l .h)))))) none (.ld (.s (.r (.r (.r (.l (.r (.l .h)))))))),
  .p (.r (.l (.l (.r (.r (.l .h)))))) none (.eq false false [(nat_lit 2)] (.s (.l (.r (.r (.l (.r (.l .h))))))) (.s (.l (.l (.l (.r (.r (.l .h))))))))])
 (.cond (.s (.r (.l (.l (.r (.r (.l .h))))))) (.reg [.p (.l (.r (.l (.r (.r (.l .h)))))) none (.mv (.s (.r (.r (.l .h))))),
  .p (.r (.r (.l (.r (.r (.l .h)))))) none (.fa (nat_lit 1) (.s (.r (.l .h)))),
  .c none none (.st (nat_lit 1) (.s (.r (.r (.l (.r (.r (.l .h))))))) (.s (.l (.r (.l (.r (.r (.l .h))))))))]) .skip))))
 (.reg [.p (.l (.l (.r (.r (.r (.l .h)))))) none (.ar .add (.s (.r (.l (.l (.l (.r (.l .h))))))) (.c (.a (.i .i64 (.n (nat_lit 1)))))),
  .p (.r (.l (.l (.l (.r (.l .h)))))) none (.mv (.s (.l (.l (.r (.r (.r (.l .h))))))))])))))))
 (.seq (.reg [.p (.r (.l (.r (.r (.r (.l .h)))))) none (.fa (nat_lit 1) (.s (.r (.l .h)))),
  .r (.l (.r (.r (.r (.r (.l .h)))))) none (.ld (.s (.r (.l (.r (.r (.r (.l .h)))))))),
  .p (.r (.r (.r (.r (.r (.l .h)))))) none (.cp .lss (.s (.l (.r (.r (.r (.r (.l .h))))))) (.c (.a (.i .i64 (.n (nat_lit 0))))))])
 (.cond (.s (.r (.r (.r (.r (.r (.l .h))))))) (.reg [.p (.l (.l (.l (.l (.l (.r .h)))))) none (.mv (.s .h)),
  .p (.r (.l (.l (.l (.l (.r .h)))))) none (.mv (.s (.r .h))),
  .k (some (.l (.r (.l (.l (.l (.r .h))))))) none (nat_lit 72) (.r (.l (.l (.r (.l (.l .h)))))) [(.s (.l (.l (.l (.l (.l (.r .h))))))), (.s (.r (.l (.l (.l (.l (.r .h))))))), (.c (.a (.i .i64 (.n (nat_lit 8)))))]]) .skip)))) .skip))))))) .skip))))
 (.seq (.reg [.p (.r (.r (.l (.l (.l (.r .h)))))) none (.mv (.s .h)),
  .p (.l (.l (.r (.l (.l (.r .h)))))) none (.fa (nat_lit 5) (.s (.r (.l .h)))),
  .r (.r (.l (.r (.l (.l (.r .h)))))) none (.ld (.s (.l (.l (.r (.l (.l (.r .h)))))))),
  .p (.l (.r (.r (.l (.l (.r .h)))))) none (.mv (.s (.r .h))),
  .k (some (.r (.r (.r (.l (.l (.r .h))))))) none (nat_lit 162) (.r (.r (.l (.l (.l (.r (.l .h))))))) [(.s (.r (.r (.l (.l (.l (.r .h))))))), (.s (.r (.l (.r (.l (.l (.r .h))))))), (.s (.l (.r (.r (.l (.l (.r .h)))))))],
  .p (.l (.l (.l (.r (.l (.r .h)))))) none (.fa (nat_lit 5) (.s (.r (.l .h)))),
  .c none none (.st (nat_lit 1) (.s (.l (.l (.l (.r (.l (.r .h))))))) (.s (.r (.r (.r (.l (.l (.r .h))))))))])
 (.seq (.reg [.r (.r (.l (.l (.r (.l (.r .h)))))) none (.lg (nat_lit 6) (.s (.r (.l .h)))),
  .c none none (.st (nat_lit 6) (.s (.r (.r .h))) (.s (.r (.l (.l (.r (.l (.r .h))))))))])
 .rt))))), false, false⟩
noncomputable def rf187 : RF := ⟨[.h, (.l .h)], [.s (.r (.l .h)), .s (.l (.r .h))], (.seq (.reg [.a (.r .h) none (.bx (nat_lit 35) (nat_lit 4) (.s .h)),
  .p (.r (.l .h)) none (.mv (.c (.a (.i .i64 (.n (nat_lit 0)))))),
  .p (.l (.r .h)) none (.mv (.c (.a (.b false))))])
 (.seq (.seq (.reg [.p (.r (.l (.l .h))) none (.fa (nat_lit 0) (.s (.r .h))),
  .p (.l (.r (.l .h))) none (.fa (nat_lit 1) (.s (.r (.l (.l .h))))),
  .r (.r (.r (.l .h))) none (.ld (.s (.l (.r (.l .h))))),
  .p (.l (.l (.r .h))) none (.ln (.s (.r (.r (.l .h))))),
  .p (.r (.l (.r .h))) none (.mv (.c (.a (.i .i64 (.n (nat_lit 0))))))])
 (.blk (nat_lit 0) (.loop (.seq (.reg [.p (.l (.r (.r .h))) none (.cp .lss (.s (.r (.l (.r .h)))) (.s (.l (.l (.r .h)))))])
 (.seq (.cond (.s (.l (.r (.r .h)))) .skip (.ex (nat_lit 0)))
 (.seq (.blk (nat_lit 1) (.seq (.reg [.p (.r (.r (.r .h))) none (.mv (.s (.r (.l (.r .h))))),
  .p (.l (.l (.l (.l .h)))) none (.ix (nat_lit 4) (.s (.r (.r (.l .h)))) (.s (.r (.l (.r .h))))),
  .r (.r (.l (.l (.l .h)))) none (.lg (nat_lit 4) (.s (.l (.l (.l (.l .h)))))),
  .a (.l (.l (.l .h))) none (.al (nat_lit 134) (nat_lit 4) (.n (.n (.n .e .s0 .e) (.i .i64 (.n (nat_lit 0))) .e) (.t (nat_lit 1)) (.n .e .s0 .e))),
  .p (.r (.r .h)) none (.mv (.s (.r (.r (.r .h))))),
  .c none none (.st (nat_lit 4) (.s (.l (.l (.l .h)))) (.s (.r (.l (.l (.l .h))))))])
 (.seq (.reg [.p (.l (.r (.l (.l .h)))) none (.fa (nat_lit 0) (.s (.l (.l (.l .h))))),
  .r (.r (.r (.l (.l .h)))) none (.ld (.s (.l (.r (.l (.l .h)))))),
  .p (.l (.l (.r (.l .h)))) none (.mv (.s (.l .h))),
  .p (.r (.l (.r (.l .h)))) none (.eq false false [(nat_lit 2)] (.s (.r (.r (.l (.l .h))))) (.s (.l (.l (.r (.l .h))))))])
 (.cond (.s (.r (.l (.r (.l .h))))) (.seq (.reg [.p (.l (.r (.r (.l .h)))) none (.mv (.s (.r (.r .h)))),
  .p (.r (.l .h)) none (.mv (.s (.l (.r (.r (.l .h)))))),
  .p (.l (.r .h)) none (.mv (.c (.a (.b true))))])
 .rt) .skip))))
 (.reg [.p (.r (.r (.r (.l .h)))) none (.ar .add (.s (.r (.l (.r .h)))) (.c (.a (.i .i64 (.n (nat_lit 1)))))),
  .p (.r (.l (.r .h))) none (.mv (.s (.r (.r (.r (.l .h))))))])))))))
 (.seq (.reg [.p (.r (.l .h)) none (.mv (.c (.a (.i .i64 (.n (nat_lit 0)))))),
  .p (.l (.r .h)) none (.mv (.c (.a (.b false))))])
 .rt))), false, false⟩
end
end Go.Proofs.Ytkljfafphnohoaa
